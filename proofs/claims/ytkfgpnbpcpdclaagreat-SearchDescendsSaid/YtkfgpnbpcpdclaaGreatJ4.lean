/-
  A part of the proof: lemmas and contracts that the parts behind it use. Each one's conditions are its own premises.
-/
import Derived.WalkSpells
import Derived.Laws.AppendOwnNone
import Derived.Laws.IdiomStrings
import Derived.Test.YtkfgpnbpcpdclaaGreatJ3
set_option maxRecDepth 100000
set_option maxHeartbeats 8000000
set_option linter.unusedVariables false
namespace Go.Proofs.YtkfgpnbpcpdclaaGreat
open Go.RowKit Go Go.Shelf
attribute [local go_sem] Oper.semAt_some
def EN(L:List (List Int)) (n n0:Nat) (i:Nat) (args:Array Value) (T:Nat->Prop) (W:World):Prop:=
 ∃ b,args=#[.slice (some ⟨b,0,none⟩) n n]/\T b/\n0<=b/\W.heap[b]?=some (.cells (dA (L.getD i [])) 3)
structure RI (m:Mac) (n n0:Nat) (wd:World) (S:Nat->Prop) (Bm:Nat) (mc:Array Value) (L:List (List Int)) (J:Nat->(Nat->Prop)->World->Prop) (k:Nat) (now:List Int) (Bn Bs:Nat) (T:Nat->Prop) (W:World):Prop where
 sub:∀ x,S x->T x
 keep:gx wd.heap.size wd W
 mb:W.heap[Bm]?=some (.cells mc 35)
 tn:T Bn
 nb:n0<=Bn
 nw:W.heap[Bn]?=some (.cells (dA now) 3)
 ts:T Bs
 map:df Pl.v W Bs (kP m.steps)
 lat:L[k]?=some now
 fits:At m n k now
 j:J (k+1) T W
theorem Kg{m:Mac} {n k:Nat} {now:List Int} (h:At m n k now) (hl:∀ p,p<n->((m.out.getD k []).getD p []).length<=17592186044416):∀ i,i<now.length->bK (now.getD i 0):=fun i hi=>by
 have h1:=h.1;have h2:=h.2 i (by omega);have h3:=hl i (by omega);unfold bK;omega
theorem GU{w:World} {v:Value} {l:List (List (List Int))} (h:fj w v l) (k p:Nat) (hk:k<l.length) (hp:p<(l.getD k []).length):((l.getD k []).getD p []).length<=17592186044416:=by
 obtain⟨a,c,_,_,_,e⟩:=h.at;obtain⟨b,o,_,x,_,hx⟩:=e k hk;rw[aA [] hk]at hp ⊢;obtain⟨a2,c2,_,_,_,e2⟩:=hx.at;obtain⟨b2,o2,_,y,_,hy⟩:=e2 p hp;rw[aA [] hp];obtain⟨_,_,_,_,h5,_⟩:=hy.at;exact h5
theorem Qn(m:Mac) (n r:Nat) (g:Good m n r) (vf vy vt vo vi vw:Value) (inputs:List Int) (word:List Rd) (wd:World) (hf:bF wd vf m.first) (hy:eZ wd vy m.syms) (ht:dh wd vt m.steps) (ho:fj wd vo m.out) (hi:aU wd vi inputs) (hw:bN wd vw word)
  (dI:inputs.length=n) (zG:∀ p,p<n->0<=inputs.getD p 0/\inputs.getD p 0<m.ins) (rC:wordE n word=0) (qO:word.length=r) (w:World) (hb:Below wd.heap.size wd w) (Bm Bi Bw:Nat)
  (hm:w.heap[Bm]?=some (.cells (bX m vf vy vt vo) 35)) (uq:w.heap[Bi]?=some (.cells #[vi] 36)) (b7:w.heap[Bw]?=some (.cells #[vw] 37)) :
  pB Tryz.prog 147 #[.pointer (some ⟨Bm,0,none⟩),.pointer (some ⟨Bi,0,none⟩),.pointer (some ⟨Bw,0,none⟩)] (EN (eC m inputs word) n w.heap.size) (eC m inputs word).length (fun k=>k<wd.heap.size\/k=Bm\/k=Bi\/k=Bw) w:=by
 generalize hL:eC m inputs word=L;have rG:=aa hL;clear hL;intro yl J Jx W hW Uw hJ kT hY h0;have Jc:=hW.size;have oC:=ak hW hm;have MR:=ak hW uq;have dD:=ak hW b7;have bS:=aj hb hW;clear hm uq b7 hW hb;have HF:=aa hf;have HY':=aa hy;have HT:=aa ht;have HO:=aa ho;have HI:=aa hi;have HW:=aa hw;obtain⟨pf,cf,rfl,lf1,lf2,ef⟩:=hf.at;obtain⟨py,cy,rfl,_⟩:=hy.at;obtain⟨pt,ct,rfl,_⟩:=ht.at;obtain⟨po,co,rfl,_⟩:=ho.at;obtain⟨pi,ci,rfl,li1,li2,ei⟩:=hi.at;obtain⟨pw,cw,rfl,lw1,lw2,ew⟩:=hw.at;have EF:=aa ef;have EI:=aa ei;have EW:=aa ew;have zZ:=aa dI;have VV:=aa zG;have SE:=aa rC;have Wg:=aa qO;have HG:=aa g;have HJ:=aa hJ;clear hJ;have CA:=aa kT;clear kT;have HY:=aa hY;clear hY;have H0:=aa h0;have jz:=aa oC;have kr:=g.n5;have t1:=ae oC;have ci1:=ae MR 0;simp at ci1;have CI1:=aa ci1;have HBI:=aa MR;have hlbi:=aB MR;have hlbm:=aB oC;have hlbw:=aB dD;have fB:=aa dD;obtain⟨f,UH⟩:∃ f:Nat->Int,f=fun p=>(m.first.getD p []).getD (inputs.getD p 0).toNat 0:=⟨_,rfl⟩
 have Jn:=aa UH;have FD:Hid (cM m inputs=(List.range n).map f):=by(have h:cM m inputs=(List.range n).map f:=by(unfold cM;rw[UH,g.hn,Int.toNat_natCast]));exact h
 have me:∀ w,(Instr.makeSlice 36 (.int .i64 m.n) (.int .i64 m.n)).run Tryz.prog w=.ok (.slice (some ⟨w.heap.size,0,none⟩) n n) (w.alloc (.cells (fC n f 0) 3)):=fun w=>by rw[g.hn];exact nz f n (by omega) w
 clear hf hy ht ho hi hw ef ei ew dI zG rC qO g h0 oC UH MR dD;refine(callsIn_wide (n:=0)).1 ?_;refine callsIn_of_wp Tryz.func147 rfl trivial ?_ rfl;simp only[Tryz.ntmps147,List.size_toArray,List.length_cons,List.length_nil,Nat.reduceAdd,Nat.reduceSub,Array.replicate_succ,Array.replicate_zero,List.push_toArray,List.append_toArray,List.nil_append,List.cons_append]
 gi_wp2
 clear me
 gi_loopw [20] (fun i wr=>∃ p:Nat,p<=inputs.length/\i=.int .i64 p/\Below W.heap.size W wr/\wr.heap[W.heap.size]?=some (.cells (fC n f p) 3)) (fun i _=>inputs.length - (intOf i).toNat)
 case atStart=>exact⟨0,by omega,rfl,by go_grown,ar _ _⟩
 case round=>
  clear t1 ci1;obtain⟨p,hp,rfl,aJ,CR⟩:=hrel;have hs:=aB CR;have t1:=ae (ak aJ jz.out);by_cases aF:p<inputs.length
  ·have jM:p<n:=by have:=zZ.out;omega
   have Uq:p<m.first.length:=by rw[HG.out.fl];exact jM
   have hv:=VV.out p jM;have I9:=HG.out.fp p jM;obtain⟨b1,o1,rfl,c1,r1⟩:=EI.out p aF;obtain⟨b2,o2,rfl,x,c2,hx⟩:=EF.out p Uq;rw[Nat.mul_one]at c1 c2;obtain⟨p2,q2,rfl,l1,l2,e2⟩:=hx.at;rw[aA [] Uq]at I9;rw[aA 0 aF]at hv;obtain⟨v,Uu⟩:∃ v:Nat,inputs[p]=v:=⟨inputs[p].toNat,by omega⟩;have Ab:v<m.first[p].length:=by omega
   obtain⟨b3,o3,rfl,c3,r3⟩:=e2 v Ab;clear r1 r3;rw[Nat.mul_one]at c3;rw[Uu]at c1;have d1:=ay (aj bS aJ) c1;have d2:=ay (aj bS aJ) c2;have d3:=ay (aj bS aJ) c3;have HV:Hid (f p=m.first[p][v]):=by(have h:f p=m.first[p][v]:=by(rw[Jn.out];dsimp only;rw[aA [] Uq,aA 0 aF,Uu,Int.toNat_natCast,aA 0 Ab]));exact h
   generalize m.first[p][v]=y at d3 HV c3;generalize m.first[p].length=lf at d2 l1 l2 I9 Ab c2;have cq:=ae CR p;rw[wS _ _ _ _ jM,if_neg (by omega)]at cq;have fq:=aD CR p;have Jz:=aa CR;have du:b1≠W.heap.size:=by have:=gc c1;have:=bS.size;dsimp only at *;omega
   have fu:=aa aJ;clear CR hx c1 c2 c3 e2 Uu hv
   gi_wp2
   go_roundw
   case rel=>exact⟨p+1,by omega,by go_num,fu.out.setCell (p:=⟨W.heap.size,p,none⟩) (by simp) _,by rw[aE Jz.out,<-HV.out,Nh n f p jM]⟩
   case measure=>simp[intOf];omega
  ·obtain rfl:p=inputs.length:=by omega
   rw[zZ.out,GP,<-FD.out]at CR;have hfsl:(cM m inputs).length=n:=by rw[FD.out];simp
   have Jz:=aa CR;have fu:=aa aJ
   have Sd:∀ i,i<(cM m inputs).length->bK ((cM m inputs).getD i 0):=fun i hi=>by
    have qG:i<n:=by omega
    have e:(cM m inputs).getD i 0=(m.first.getD i []).getD (inputs.getD i 0).toNat 0:=by rw[FD.out,Jn.out];simp[qG]
    have h1:=VV.out i qG;have h2:=HG.out.fp i qG;have h3:=HG.out.fr i (inputs.getD i 0).toNat qG (by omega);have h4:=GU HO.out 0 i (by rw[HG.out.ol];omega) (by rw[HG.out.ok 0 (by omega)];exact qG);rw[e];unfold bK;omega
   have HCON:=aa (Au _ (cM m inputs) (-1) wr (uM hfsl (by omega) CR Sd));have PC:Hid (L=if (cM m inputs).contains (-1) then [] else fG m 0 (cM m inputs) word):=by(have h:L=if (cM m inputs).contains (-1) then [] else fG m 0 (cM m inputs) word:=by(rw[<-rG.out];rfl));exact h
   have RC:Hid ((cM m inputs).contains (-1)=false->At m n 0 (cM m inputs)):=by(have h:(cM m inputs).contains (-1)=false->At m n 0 (cM m inputs):=fun h=>yR HG.out zZ.out VV.out h);exact h
   clear CR Sd t1
   gi_wp2
   refine⟨trivial,rfl,callsIn_wide.2 (HCON.out.mono ?_)⟩;rintro e w1 ⟨rfl,aG⟩;have tf:=aj fu.out aG;have Ms:=ak aG Jz.out;generalize K0:(cM m inputs).contains (-1)=cb at PC RC;clear K0 HCON;cases cb with
   | true=>
    have FP:Hid (L.length=0):=by(have h:L.length=0:=by(rw[PC.out];rfl));exact h
    clear HY PC
    gi_wp2
    refine⟨fun _ h=>(by cases h),?_⟩
    gi_wp2
    refine bodyPost_ret (results_none rfl _ _ _) rfl ?_;exact⟨⟨_,rfl⟩,_,.inl (by rw[FP.out];exact HJ.out _ _ _ _ _ H0.out tf (mA.refl _ _ _))⟩
   | false=>
    have HL:Hid (L=fG m 0 (cM m inputs) word):=by(have h:L=fG m 0 (cM m inputs) word:=by(rw[PC.out];rfl));exact h
    have km:=RC.out rfl;have FP:Hid (L[0]?=some (cM m inputs)):=by(have h:L[0]?=some (cM m inputs):=by(rw[HL.out];exact lm _ _ _ _));exact h
    clear PC RC;have hl0:0<L.length:=(List.getElem?_eq_some_iff.1 FP.out).1
    obtain⟨fn,tmps,assign,body,hy,hR⟩:=HY.out 0 (fun x=>(x<wd.heap.size\/x=Bm\/x=Bi\/x=Bw)\/x=W.heap.size) w1 #[.slice (some ⟨W.heap.size,0,none⟩) n n] hl0 ⟨_,rfl,.inr rfl,Jc,by rw[List.getD_eq_getElem?_getD,FP.out];exact Ms⟩ (HJ.out _ _ _ _ _ H0.out tf ⟨fun x hx=>.inl hx,fun x hx=>by
     rcases hx with hx|hx
     ·exact .inl hx
     ·have:=aB Ms;exact .inr (by omega)⟩)
    have HR:=aa hR;have HFC1:=aa Ms;have HFITS:=aa km;clear hR Ms km
    gi_wp2
    refine⟨rfl,HR.out.mono ?_⟩;rintro e W3 ⟨ks,ke,(⟨rfl,oB⟩|⟨rfl,np⟩)⟩
    case inr=>
     clear HY
     gi_wp2
     refine bodyPost_ret (results_none rfl _ _ _) rfl ?_;exact⟨⟨_,rfl⟩,_,.inr ⟨_,by omega,np⟩⟩
    have lI:=(ke Bm (.inl (.inr (.inl rfl)))).trans (ak tf jz.out);have Dc:=(ke Bw (.inl (.inr (.inr (.inr rfl))))).trans (ak tf fB.out);have S5:=(ke W.heap.size (.inr rfl)).trans HFC1.out
    have hkd3:gx wd.heap.size wd W3:=fun k hk=>by
     rw[ke k (.inl (.inl hk))];exact(aj bS tf).block k hk
    have t3:=ae lI;have SC:=aa oB;have rX:=aa lI;have HN3:=aa S5;have MX:=aa hkd3;have HW3:=aa Dc;clear lI Dc S5 hkd3 oB ke ks HR HFC1 aG FP H0;have eN:=HT.out.ck up_step MX.out.ck;have kX:=aa (Nj m pf m.first.length cf py m.syms.length cy (.slice pt m.steps.length ct) po m.out.length co W3 eN HG.out.diff HG.out.len)
    gi_wp2
    refine⟨trivial,rfl,callsIn_wide.2 (kX.out.mono ?_)⟩;rintro e w4 ⟨bs,rfl,RA,dJ,bM⟩;have Ac:=ak bM HW3.out;have cw4:=ae Ac 0;simp at cw4
    have hRI:RI m n w.heap.size wd (fun x=>x<wd.heap.size\/x=Bm\/x=Bi\/x=Bw) Bm (bX m (.slice pf m.first.length cf) (.slice py m.syms.length cy) (.slice pt m.steps.length ct) (.slice po m.out.length co)) L J 0 (cM m inputs) W.heap.size bs (fun x=>((x<wd.heap.size\/x=Bm\/x=Bi\/x=Bw)\/x=W.heap.size)\/x=bs) w4:=
     ⟨fun x hx=>.inl (.inl hx),MX.out.trans (fun k hk=>bM.block k (by have h1:wd.heap[k]?=some wd.heap[k]:=Array.getElem?_eq_getElem hk;exact aB ((MX.out k hk).trans h1))),ak bM rX.out,.inl (.inr rfl),Jc,ak bM HN3.out,.inr rfl,RA,
      by rw[HL.out];exact lm _ _ _ _,HFITS.out,HJ.out _ _ _ _ _ SC.out bM ⟨fun x hx=>.inl hx,fun x hx=>by
       rcases hx with hx|hx
       ·exact .inl hx
       ·have:=RA.lt;exact .inr (by omega)⟩⟩
    have gr:=aa hRI;clear hRI RA dJ t3 eN Ac SC rX HN3 MX HW3 HFITS bM kX
    gi_wp2
    clear cw4;obtain⟨W5,qP⟩:∃ W5:World,W5=w4:=⟨_,rfl⟩;rw[<-qP]at gr ⊢;clear qP hy tf aJ fu Jz hs;clear w4 W3 w1 wr
    gi_loopw [5,49] (fun v i wr=>∃ (k:Nat) (now:List Int) (Bn:Nat) (T:Nat->Prop),k<=word.length/\i=.int .i64 k/\v=.slice (some ⟨Bn,0,none⟩) n n/\RI m n w.heap.size wd (fun x=>x<wd.heap.size\/x=Bm\/x=Bi\/x=Bw) Bm (bX m (.slice pf m.first.length cf) (.slice py m.syms.length cy) (.slice pt m.steps.length ct) (.slice po m.out.length co)) L J k now Bn bs T wr) (fun _ i _=>word.length - (intOf i).toNat)
    case atStart=>exact⟨0,_,_,_,by omega,rfl,rfl,gr.out⟩
    case round=>
     clear gr W5;obtain⟨k,now,Bn,T,hk,rfl,rfl,Dg⟩:=hrel;have gr:=aa Dg;clear Dg;have vB:=aa (fun (hk:k<word.length)=>wM m 0 (cM m inputs) word k now (by rw[<-HL.out];exact gr.out.lat) hk);rw[<-HL.out,Nat.zero_add]at vB;by_cases aF:k<word.length
     ·obtain⟨b1,o1,rfl,⟨c0,_⟩,⟨c1,_⟩,⟨c2,_⟩,⟨c3,_⟩,⟨c4,_⟩,⟨c5,_⟩,⟨c6,_⟩⟩:=EW.out k aF
      have d0:=gr.out.keep.cell c0;have d1:=gr.out.keep.cell c1;have d2:=gr.out.keep.cell c2;have d3:=gr.out.keep.cell c3;have d4:=gr.out.keep.cell c4;have d5:=gr.out.keep.cell c5;have d6:=gr.out.keep.cell c6;clear c0 c1 c2 c3 c4 c5 c6;have dG:=vB.out aF;generalize word[k]=rd at d0 d1 d2 d3 d4 d5 d6 dG;have gj:=aa dG;clear dG vB;obtain⟨f2,wx⟩:∃ f2:Nat->Int,f2=fun p=>(kF m k now rd p).getD 0:=⟨_,rfl⟩
      have KR:=aa wx;clear wx;have me:∀ w,(Instr.makeSlice 36 (.int .i64 m.n) (.int .i64 m.n)).run Tryz.prog w=.ok (.slice (some ⟨w.heap.size,0,none⟩) n n) (w.alloc (.cells (fC n f2 0) 3)):=fun w=>by rw[HG.out.hn];exact nz f2 n (by omega) w
      have t1:=ae gr.out.mb;have hlm:=aB gr.out.mb;have hlm':Bm<wr.heap.size+1:=by omega
      gi_wp2
      clear me t1 d0 d1 d2 d3 d4 d5 d6 hlm';obtain⟨W6,Jv⟩:∃ W6:World,W6=(wr.alloc (.cells rd.c 52)).alloc (.cells (fC n f2 0) 3):=⟨_,rfl⟩;rw[<-Jv]
      have Pp:Hid (Below wr.heap.size wr W6/\W6.heap[wr.heap.size]?=some (.cells rd.c 52)/\W6.heap[wr.heap.size+1]?=some (.cells (fC n f2 0) 3)):=by
       (have h:Below wr.heap.size wr W6/\W6.heap[wr.heap.size]?=some (.cells rd.c 52)/\W6.heap[wr.heap.size+1]?=some (.cells (fC n f2 0) 3):=by(rw[Jv];exact⟨by go_grown,aq _ (ar _ _),aX _ _ _⟩));exact h
      clear Jv;obtain⟨V0,qQ⟩:∃ V0:World,V0=wr:=⟨_,rfl⟩;rw[<-qQ]at gr Pp hlm ⊢;clear qQ;clear wr
      gi_loopw [59] (fun i wr=>∃ p:Nat,p<=n/\i=.int .i64 p/\Below V0.heap.size V0 wr/\wr.heap[V0.heap.size]?=some (.cells rd.c 52)/\wr.heap[V0.heap.size+1]?=some (.cells (fC n f2 p) 3)/\∀ j,j<p->(kF m k now rd j).isNone=false) (fun i _=>n - (intOf i).toNat)
      case atStart=>exact⟨0,by omega,rfl,Pp.out.1,Pp.out.2.1,Pp.out.2.2,by simp⟩
      case round=>
       clear Pp W6;obtain⟨p,hp,rfl,aJ,l9,mH,hsome⟩:=hrel;have fu:=aa aJ;have O2:=aa l9;have iJ:=aa mH;have HSOME:=aa hsome;clear aJ l9 mH hsome;by_cases jM:p<n
       ·have hear:=nT rd p (by omega) wr V0.heap.size _ O2.out
        have kV:k<r:=by have:=Wg.out;omega
        have xz:aU wr (.slice (some ⟨Bn,0,none⟩) n n) now:=uM gr.out.fits.1 (by omega) (ak fu.out gr.out.nw) (Kg gr.out.fits (fun q hq=>GU HO.out k q (by rw[HG.out.ol];omega) (by rw[HG.out.ok k (by omega)];exact hq)));have hsyms:eZ wr (.slice py m.syms.length cy) m.syms:=(HY'.out.ck up_v3 gr.out.keep.ck).up up_v3 fu.out
        have bE:=aa (show ∀ x:ExtW wr,Calls Tryz.prog 150 #[.agg (bX m (.slice pf m.first.length cf) (.slice py m.syms.length cy) (.slice pt m.steps.length ct) (.slice po m.out.length co)),.int .i64 k,.int .i64 p,.slice (some ⟨Bn,0,none⟩) n n,.int .i64 (rd.g.hear p)] x.val fun e w''=>e=.returned (.agg #[.int .i64 (hearsF m k p now (rd.g.hear p) 0),.int .i64 (hearsF m k p now (rd.g.hear p) 1),.int .i64 (hearsF m k p now (rd.g.hear p) 2),.int .i64 (hearsF m k p now (rd.g.hear p) 3),.int .i64 (hearsF m k p now (rd.g.hear p) 4)])/\∃ q:ExtW wr,w''=q.val from
         fun x=>Calls.ext_of (Nk m pf m.first.length cf _ pt m.steps.length ct po m.out.length co k p n _ now (rd.g.hear p) x.val HG.out.hn kr jM (by rw[HG.out.yl];exact kV) (HG.out.yk k kV) (fun q hq=>HG.out.yp k q kV hq) gr.out.fits.1
          (fun q hq bH=>by
           have h1:=gr.out.fits.2 q hq;have h2:=HG.out.yq k q p kV hq jM;rw[if_neg bH]at h2
           omega) (hsyms.up up_v3 x.ext) (xz.up up_int x.ext)))
        have ul:Hid (kF m k now rd p=tI m ⟨k,p,hearsF m k p now (rd.g.hear p) 0,hearsF m k p now (rd.g.hear p) 1,hearsF m k p now (rd.g.hear p) 2,hearsF m k p now (rd.g.hear p) 3,hearsF m k p now (rd.g.hear p) 4⟩):=by exact rfl
        have hmapr:=gr.out.map.up fu.out;generalize hearsF m k p now (rd.g.hear p) 0=h0 at bE ul;generalize hearsF m k p now (rd.g.hear p) 1=h1 at bE ul;generalize hearsF m k p now (rd.g.hear p) 2=h2 at bE ul;generalize hearsF m k p now (rd.g.hear p) 3=h3 at bE ul;generalize hearsF m k p now (rd.g.hear p) 4=h4 at bE ul
        have sH:∀ x:ExtW wr,(Instr.lookup 245 (.map (some bs)) (.agg #[.int .i64 k,.int .i64 p,.int .i64 h0,.int .i64 h1,.int .i64 h2,.int .i64 h3,.int .i64 h4]) true).run Tryz.prog x.val=.ok (.tuple #[.int .i64 ((kF m k now rd p).getD 0),.bool (kF m k now rd p).isSome]) x.val:=fun x=>by
         have:=uN kit_pl (mt:=245) (vt:=3) (z:=.int .i64 0) Tryz.underlying245 (fun w=>by kernel_rfl) (hmapr.up x.ext) ⟨k,p,h0,h1,h2,h3,h4⟩;rw[Ln,<-ul.out]at this;cases hh:kF m k now rd p with
         | none=>rw[hh]at this;exact this
         | some t=>rw[hh]at this;exact this
        have q1:∀ x:ExtW wr,∀ o,x.val.cell? ⟨Bm,o,none⟩=_:=fun x=>ae (ak (aj fu.out x.ext) gr.out.mb)
        have q2:∀ x:ExtW wr,x.val.cell? ⟨V0.heap.size,1+p,none⟩=_:=fun x=>x.cell hear
        have SP:p<5:=by omega
        generalize rd.g.hear p=hv at bE q2;clear hear xz hsyms ul hmapr
        gi_wp2
        refine wpIn_wide.2 ?_;refine aK (by kernel_rfl) (by kernel_rfl) ?_
        repeat (go_big_quiet_step ((go_at_call 150;with_reducible exact bE.out _)))
        refine wpQuiet_nil ?_;intro _ bV;obtain⟨xq,bC⟩:=bV;subst bC;clear q1 q2 sH bE;have cJ:=aj fu.out xq.ext;have HRD2:=aa (ak xq.ext O2.out);have RQ:=aa (ak xq.ext iJ.out);cases ul:kF m k now rd p with
        | none=>
         have qC:Hid (L.length=k+1):=by(have h:L.length=k+1:=gj.out.2 (by unfold pq;rw[if_pos];rw[HG.out.hn,Int.toNat_natCast];exact fc jM (by rw[ul];rfl)));exact h
         clear ul
         gi_wp2
         refine bodyPost_ret (results_none rfl _ _ _) rfl ?_;exact⟨⟨_,rfl⟩,T,.inl (by rw[qC.out];exact HJ.out _ _ _ _ _ gr.out.j cJ (mA.refl _ _ _))⟩
        | some tt=>
         have uz:Hid (f2 p=tt):=by(have h:f2 p=tt:=by(rw[KR.out];dsimp only;rw[ul];rfl));exact h
         have HSM:Hid ((kF m k now rd p).isNone=false):=by(have h:(kF m k now rd p).isNone=false:=by(rw[ul];rfl));exact h
         clear ul;have cq:=ae RQ.out p;rw[wS _ _ _ _ jM,if_neg (by omega)]at cq;have fq:=aD RQ.out p;have dM:=cJ.size
         gi_wp2
         go_roundw
         case rel=>exact⟨p+1,by omega,by go_num,cJ.setCell (p:=⟨V0.heap.size+1,p,none⟩) (by simp) _,aI HRD2.out (by omega) _ _,by rw[aE RQ.out,<-uz.out,Nh n f2 p jM],aQ HSOME.out HSM.out⟩
         case measure=>simp[intOf];omega
       ·obtain rfl:n=p:=by omega
        have MG:pq m k now rd=some ((List.range n).map f2):=by
         unfold pq;rw[HG.out.hn,Int.toNat_natCast,if_neg (by rw[gw HSOME.out];simp),KR.out]
        have II:=gj.out.1 _ MG;have km:=Bz HG.out MG;have mH:=iJ.out;rw[GP]at mH;generalize (List.range n).map f2=next at mH II km;have cZ:=(List.getElem?_eq_some_iff.1 II).1;have dM:=aB mH;have lK:w.heap.size<=V0.heap.size+1:=by have h1:=gr.out.nb;have h2:=aB gr.out.nw;omega
        obtain⟨fn,tmps,assign,body,hy,hR⟩:=HY.out (k+1) (fun x=>T x\/x=V0.heap.size+1) wr #[.slice (some ⟨V0.heap.size+1,0,none⟩) n n] cZ ⟨_,rfl,.inr rfl,lK,by rw[List.getD_eq_getElem?_getD,II];exact mH⟩ (HJ.out _ _ _ _ _ gr.out.j fu.out ⟨fun x hx=>.inl hx,fun x hx=>by
         rcases hx with hx|hx
         ·exact .inl hx
         ·exact .inr (by omega)⟩)
        have HR:=aa hR;have MJ:=aa (And.intro mH (And.intro II km));clear hR mH II km MG
        gi_wp2
        refine⟨rfl,HR.out.mono ?_⟩;rintro e W3 ⟨ks,ke,(⟨rfl,oB⟩|⟨rfl,np⟩)⟩
        ·have MI:∀ x o,T x->V0.heap[x]?=some o->W3.heap[x]?=some o:=fun x o hx ho=>(ke x (.inl hx)).trans (ak fu.out ho)
         have Dg:RI m n w.heap.size wd (fun x=>x<wd.heap.size\/x=Bm\/x=Bi\/x=Bw) Bm (bX m (.slice pf m.first.length cf) (.slice py m.syms.length cy) (.slice pt m.steps.length ct) (.slice po m.out.length co)) L J (k+1) next (V0.heap.size+1) bs (fun x=>T x\/x=V0.heap.size+1) W3:=by
          refine⟨fun x hx=>.inl (gr.out.sub x hx),fun x hx=>?_,MI _ _ (gr.out.sub _ (.inr (.inl rfl))) gr.out.mb,.inr rfl,lK,(ke _ (.inr rfl)).trans MJ.out.1,.inl gr.out.ts,gr.out.map.kept ?_,MJ.out.2.1,MJ.out.2.2,oB⟩
          ·have h1:wd.heap[x]?=some wd.heap[x]:=Array.getElem?_eq_getElem hx
           rw[h1];exact MI x _ (gr.out.sub x (.inl hx)) ((gr.out.keep x hx).trans h1)
          ·obtain⟨es,ck,h1,_⟩:=gr.out.map
           rw[h1];exact MI _ _ gr.out.ts h1
         have HRN:=aa Dg;clear Dg MI ke ks oB HR MJ
         gi_wp2
         go_roundw
         case rel=>exact⟨k+1,next,_,_,by omega,by go_num,rfl,HRN.out⟩
         case measure=>simp[intOf];omega
        ·clear HR
         gi_wp2
         refine bodyPost_ret (results_none rfl _ _ _) rfl ?_;exact⟨⟨_,rfl⟩,_,.inr ⟨_,by omega,np⟩⟩
     ·obtain rfl:k=word.length:=by omega
      have HN:Hid (L.length=word.length+1):=by(have h:L.length=word.length+1:=by(have h1:=qS m 0 (cM m inputs) word;rw[<-HL.out]at h1;have h2:=(List.getElem?_eq_some_iff.1 gr.out.lat).1;omega));exact h
      gi_wp2
      go_end0
      exact⟨⟨_,rfl⟩,T,.inl (by rw[HN.out];exact gr.out.j)⟩
end Go.Proofs.YtkfgpnbpcpdclaaGreat
namespace Go.Proofs.YtkfgpnbpcpdclaaGreat
open Go.RowKit Go Go.Shelf
def qV(w:World) (v:Value) (xs:List Value):Prop:=
 ∃ a cap,v=.slice a xs.length cap/\(a=none->xs.length=0/\cap=0)/\(∀ i x,xs[i]?=some x->∃ b off,a=some ⟨b,off,none⟩/\w.cell? ⟨b,off+i,none⟩=some x)/\∀ x∈xs,x.oneCell'=true
theorem Tryz.infoInt:(Tryz.prog.info? 3).map (fun i=>(i.zero,i.size,i.bytes))=some (some (.int .i64 0),1,8):=by kernel_rfl
theorem Tryz.infoInts:(Tryz.prog.info? 36).map (fun i=>(i.zero,i.size,i.bytes))=some (some (.slice none 0 0),1,24):=by kernel_rfl
theorem wV(v:Value) (xs:List Value) (w:World) (hv:qV w v xs) (hn:xs.length<=1099511627776) :
  Calls Tryz.prog 21 #[v] w fun e w'=>∃ u,e=.returned u/\w'.ownsRow w.heap.size 3 1 u xs.length xs/\Below w.heap.size w w':=by
 obtain⟨a,cap,rfl,ha,hc,h1⟩:=hv;obtain⟨i0,hi,dp,du,eB⟩:=info_parts Tryz.infoInt;cases a with
 | none=>
  obtain⟨hl,rfl⟩:=ha rfl;obtain rfl:xs=[]:=List.eq_nil_of_length_eq_zero hl;have mK:=fun w=>Lib.run_eql_slice_nil (P:=Tryz.prog) w 36
  go_enter Tryz.func21,Tryz.ntmps21
  go_wp2_with fail
  go_ret
  exact⟨_,rfl,World.ownsRow_nil _ _ _ _,Below.refl _ _⟩
 | some ad=>
  have mK:=fun w=>Lib.run_eql_slice_nil (P:=Tryz.prog) w 36
  have bj:∀ j u,xs[j]?=some u->(w.alloc (.cells #[] 3)).cell? (ad.add j)=some u:=fun j u hj=>by
   obtain⟨b,off,e,gM⟩:=hc j u hj;cases e;have:(Addr.add ⟨b,off,none⟩ j)=⟨b,off+j,none⟩:=by unfold Addr.add;split<;>simp_all
   rw[this];exact ay (by go_grown) gM
  have aW:(w.alloc (.cells #[] 3)).ownsRow w.heap.size 3 1 (.slice (some ⟨w.heap.size,0,none⟩) 0 0) 0 []:=⟨by simp,.inr ⟨w.heap.size,0,#[],rfl,Nat.le_refl _,ar _ _,by omega,by simp[maxLen],by simp,by simp⟩⟩;have bZ:=aa bj;have da:=aa aW;have H1:=aa h1;clear bj aW h1 hc ha
  go_enter Tryz.func21,Tryz.ntmps21
  go_wp2_with (at_builtin;refine wpList_append_own _ rfl (.tmp 5) (.tmp 6) 36 rfl w.heap.size 3 i0 (.int .i64 0) 1 8 Tryz.underlying36 hi dp du eB rfl (by decide) _ 0 [] rfl da.out ad xs.length cap xs rfl (by simp) bZ.out H1.out (by unfold maxLen;omega) (by omega) (by simp) ?_;intro v' w1 iE lM _)
  go_ret
  refine⟨_,rfl,by simpa using iE,Below.grown (w:=w.alloc (.cells #[] 3)) (by go_grown) lM (by simp) (fun k hk=>?_)⟩;cases hk;exact Nat.le_refl _
theorem GV(v:Value) (xs:List Value) (w:World) (hv:qV w v xs) (hn:xs.length<=1099511627776) :
  Calls Tryz.prog 202 #[v] w fun e w'=>∃ u,e=.returned u/\w'.ownsRow w.heap.size 36 1 u xs.length xs/\Below w.heap.size w w':=by
 obtain⟨a,cap,rfl,ha,hc,h1⟩:=hv;obtain⟨i0,hi,dp,du,eB⟩:=info_parts Tryz.infoInts;cases a with
 | none=>
  obtain⟨hl,rfl⟩:=ha rfl;obtain rfl:xs=[]:=List.eq_nil_of_length_eq_zero hl;have mK:=fun w=>Lib.run_eql_slice_nil (P:=Tryz.prog) w 30
  go_enter Tryz.func202,Tryz.ntmps202
  go_wp2_with fail
  go_ret
  exact⟨_,rfl,World.ownsRow_nil _ _ _ _,Below.refl _ _⟩
 | some ad=>
  have mK:=fun w=>Lib.run_eql_slice_nil (P:=Tryz.prog) w 30
  have bj:∀ j u,xs[j]?=some u->(w.alloc (.cells #[] 36)).cell? (ad.add j)=some u:=fun j u hj=>by
   obtain⟨b,off,e,gM⟩:=hc j u hj;cases e;have:(Addr.add ⟨b,off,none⟩ j)=⟨b,off+j,none⟩:=by unfold Addr.add;split<;>simp_all
   rw[this];exact ay (by go_grown) gM
  have aW:(w.alloc (.cells #[] 36)).ownsRow w.heap.size 36 1 (.slice (some ⟨w.heap.size,0,none⟩) 0 0) 0 []:=⟨by simp,.inr ⟨w.heap.size,0,#[],rfl,Nat.le_refl _,ar _ _,by omega,by simp[maxLen],by simp,by simp⟩⟩;have bZ:=aa bj;have da:=aa aW;have H1:=aa h1;clear bj aW h1 hc ha
  go_enter Tryz.func202,Tryz.ntmps202
  go_wp2_with (at_builtin;refine wpList_append_own _ rfl (.tmp 5) (.tmp 6) 30 rfl w.heap.size 36 i0 (.slice none 0 0) 1 24 Tryz.underlying30 hi dp du eB rfl (by decide) _ 0 [] rfl da.out ad xs.length cap xs rfl (by simp) bZ.out H1.out (by unfold maxLen;omega) (by omega) (by simp) ?_;intro v' w1 iE lM _)
  go_ret
  refine⟨_,rfl,by simpa using iE,Below.grown (w:=w.alloc (.cells #[] 36)) (by go_grown) lM (by simp) (fun k hk=>?_)⟩;cases hk;exact Nat.le_refl _
theorem F3{w:World} {v:Value} {α:Type} {k:Nat} {R:World->Nat->Nat->α->Prop} {l:List α} (h:eO k R w v l):v.oneCell'=true:=by
 obtain⟨a,cap,rfl,_⟩:=h;rfl
theorem yV{w:World} {v:Value} {l:List Int} (h:aU w v l):qV w v (l.map (Value.int .i64)):=by
 obtain⟨a,cap,rfl,h1,h2,h3⟩:=h;refine⟨a,cap,by simp,fun e=>?_,fun i x hx=>?_,fun x hx=>?_⟩
 ·have:=h1.2.2 e;exact⟨by rw[List.length_map];omega,this⟩
 ·simp only[List.getElem?_map,Option.map_eq_some_iff]at hx
  obtain⟨y,hy,rfl⟩:=hx;obtain⟨b,off,ha,hr⟩:=h3 i y hy;exact⟨b,off,ha,by have:=hr.1;rwa [Nat.mul_one]at this⟩
 ·obtain⟨y,_,rfl⟩:=List.mem_map.1 hx;rfl
theorem ig{w:World} {base:Nat} {e:TypeId} {v:Value} {n:Nat} {xs:List Value} (h:w.ownsRow base e 1 v n xs):∃ a cap,v=.slice a n cap/\n<=cap/\cap<=9223372036854775807/\(a=none->cap=0)/\xs.length=n/\∀ i x,xs[i]?=some x->∃ b,a=some ⟨b,0,none⟩/\w.cell? ⟨b,i,none⟩=some x:=by
 obtain⟨hl,h⟩:=h;rw[Nat.mul_one]at hl;rcases h with ⟨rfl,rfl⟩|⟨g,cap,cur,rfl,hg,hb,hn,hm,hs,ht⟩
 ·exact⟨none,0,rfl,by omega,by omega,fun _=>rfl,hl,fun i x hx=>by have:=(List.getElem?_eq_some_iff.1 hx).1;omega⟩
 ·refine⟨_,cap,rfl,hn,by simpa[maxLen] using hm,(fun e=>(by cases e)),hl,fun i x hx=>⟨g,rfl,?_⟩⟩
  rw[ae hb,<-hx,<-ht,Nat.mul_one];have hi:=(List.getElem?_eq_some_iff.1 hx).1;rw[List.getElem?_take_of_lt (by omega)];simp
theorem na{w:World} {v:Value} {l:List Int} (h:aU w v l):∀ x∈l,bK x:=fun x hx=>by
 obtain⟨a,cap,rfl,_,_,h3⟩:=h;obtain⟨i,hi,rfl⟩:=List.getElem_of_mem hx;obtain⟨b,off,_,hr⟩:=h3 i _ (List.getElem?_eq_getElem hi);exact hr.2
theorem JH(x most:Int) (B:Nat) (W:World) (hc:W.cell? ⟨B,0,none⟩=some (.int .i64 most)) :
  Calls Tryz.prog 77 #[.int .i64 x,.pointer (some ⟨B,0,none⟩)] W fun e W'=>e=.returned (.bool (decide (x<0) || decide (most<=x)))/\Below W.heap.size W W':=by
 by_cases hx:x<0
 ·go_enter Tryz.func77,Tryz.ntmps77
  go_wp2
  go_ret
  exact⟨aV (by simp[hx]),Below.refl _ _⟩
 ·go_enter Tryz.func77,Tryz.ntmps77
  go_wp2
  go_ret
  exact⟨aV (by simp;omega),Below.refl _ _⟩
theorem BB(v:Value) (l:List Int) (n most:Int) (w:World) (hv:aU w v l) :
  Calls Tryz.prog 49 #[v,.int .i64 n,.int .i64 most] w fun e w'=>e=.returned (.int .i64 (vectorE l n most))/\Below w.heap.size w w':=by
 have aH:Below w.heap.size w (w.alloc (.cells #[.int .i64 most] 3)):=by go_grown
 have mo:=kC 77 #[.pointer (some ⟨w.heap.size,0,none⟩)] (enters_of Tryz.func77 (by kernel_rfl) rfl) v l (fun i=>decide (l.getD i 0<0) || decide (most<=l.getD i 0))
  (w.alloc (.cells #[.int .i64 most] 3)) (hv.up up_int aH) (fun i hi W hW=>by
   rw[aA 0 hi]
   exact JH _ _ _ _ (ay hW (by simp[ae (ar _ _)])))
 have HV:Hid (vectorE l n most=if (l.length:Int)≠n then 15 else if anyLt l.length (fun i=>decide (l.getD i 0<0) || decide (most<=l.getD i 0)) then 2 else 0):=by exact rfl
 generalize anyLt l.length (fun i=>decide (l.getD i 0<0) || decide (most<=l.getD i 0))=r at mo HV;have HC:=aa mo;clear mo;obtain⟨pa,ca,rfl,la1,la2,_⟩:=hv.at;clear hv;by_cases hl:(l.length:Int)=n
 ·have kd:((l.length:Int) != n)=false:=by simp[hl]
  have HL:=aa hl;clear hl;cases r with
  | true=>
   go_enter Tryz.func49,Tryz.ntmps49
   go_wp2_with fail
   refine HC.out.mono ?_;rintro e w1 ⟨rfl,aG⟩
   go_wp2_with fail
   go_ret
   exact⟨aC (by rw[HV.out,if_neg (by simpa using HL.out)];rfl),aj aH aG⟩
  | false=>
   go_enter Tryz.func49,Tryz.ntmps49
   go_wp2_with fail
   refine HC.out.mono ?_;rintro e w1 ⟨rfl,aG⟩
   go_wp2_with fail
   go_ret
   exact⟨aC (by rw[HV.out,if_neg (by simpa using HL.out)];rfl),aj aH aG⟩
 ·have kd:((l.length:Int) != n)=true:=by simp[hl]
  go_enter Tryz.func49,Tryz.ntmps49
  go_wp2_with fail
  go_ret
  exact⟨aC (by rw[HV.out,if_pos hl]),aH⟩
theorem vI(v:Value) (l:List (List Int)) (i:Nat) (hi:i<l.length) (w:World) (hv:bF w v l) :
  Calls Tryz.prog 78 #[v,.int .i64 i] w fun e w'=>e=.returned (.bool (unordB l i))/\Below w.heap.size w w':=by
 obtain⟨pa,ca,rfl,la1,la2,ea⟩:=hv.at;clear hv;by_cases h0:0<i
 ·obtain⟨j,rfl⟩:∃ j,i=j+1:=⟨i - 1,by omega⟩
  have hj:j<l.length:=by omega
  obtain⟨b1,o1,rfl,x1,c1,h1⟩:=ea j hj;obtain⟨b2,o2,e2,x2,c2,h2⟩:=ea (j+1) hi;obtain⟨rfl,rfl⟩:b1=b2/\o1=o2:=by simpa using e2
  clear e2 ea;rw[Nat.mul_one]at c1 c2
  have HU:Hid (unordB l (j+1)=decide (0<=ordV l[j] l[j+1])):=by
   have h:unordB l (j+1)=decide (0<=ordV l[j] l[j+1]):=by
    unfold unordB;rw[Nat.add_sub_cancel,aA [] hj,aA [] hi];simp
   exact h
  generalize l[j]=y1 at h1 HU;generalize l[j+1]=y2 at h2 HU;have d1:∀ x:ExtW w,x.val.cell? ⟨b1,o1+j,none⟩=some x1:=fun x=>x.cell c1
  have d2:∀ x:ExtW w,x.val.cell? ⟨b1,o1+(j+1),none⟩=some x2:=fun x=>x.cell c2
  have b8:∀ x:ExtW w,Calls Tryz.prog 30 #[x1,x2] x.val fun e w''=>e=.returned (.int .i64 (ordV y1 y2))/\∃ p:ExtW w,w''=p.val:=
   fun x=>Calls.ext_of (jR _ _ _ _ _ (h1.up up_int x.ext) (h2.up up_int x.ext))
  have bE:=aa b8;clear b8;clear c1 c2 h1 h2;have SK:IntKind.i64.wrap (j:Int)=(j:Int):=IntWalk.i64_in _ (by omega);have mG:(0:Int)<=(j:Int)+1:=by omega
  have oF:(j:Int)+1<(l.length:Int):=by omega
  have sM:((j:Int)+1).toNat=j+1:=by omega
  go_enter Tryz.func78,Tryz.ntmps78
  go_wp2_with fail
  refine aK (by kernel_rfl) (by kernel_rfl) ?_
  repeat (quiet_step ((go_at_call 30;exact bE.out _)))
  refine wpQuiet_nil ?_;intro _ bV;obtain⟨xq,bC⟩:=bV;subst bC
  go_wp2_with fail
  go_ret
  exact⟨aV HU.out.symm,xq.ext⟩
 ·obtain rfl:i=0:=by omega
  go_enter Tryz.func78,Tryz.ntmps78
  go_wp2_with fail
  go_quiet (fail)
  go_wp2_with fail
  go_ret
  exact⟨aV (by simp[unordB]),dC (Below.refl _ _) _⟩
theorem Qo(x:Value) (v:Value) (y z:List Int) (B:Nat) (W:World) (hc:W.cell? ⟨B,0,none⟩=some v) (hx:aU W x y) (hv:aU W v z) :
  Calls Tryz.prog 123 #[x,.pointer (some ⟨B,0,none⟩)] W fun e W'=>e=.returned (.bool (eqV y z))/\Below W.heap.size W W':=by
 have HC:=aa (fP x v y z W hx hv);obtain⟨_,_,rfl,_⟩:=hv;clear hx
 go_enter Tryz.func123,Tryz.ntmps123
 go_wp2_with fail
 refine HC.out.mono ?_;rintro e w1 ⟨rfl,aG⟩
 go_wp2_with fail
 go_ret
 exact⟨rfl,aG⟩
theorem Tu(v:Value) (l:List (List Int)) (x:Value) (y:List Int) (w:World) (hv:bF w v l) (hx:aU w x y) :
  Calls Tryz.prog 79 #[v,x] w fun e w'=>e=.returned (.bool (hasV l y))/\Below w.heap.size w w':=by
 have aH:Below w.heap.size w (w.alloc (.cells #[x] 36)):=by go_grown
 have mo:=gv 123 #[.pointer (some ⟨w.heap.size,0,none⟩)] (enters_of Tryz.func123 (by kernel_rfl) rfl) v l (fun i=>eqV (l.getD i []) y)
  (w.alloc (.cells #[x] 36)) (hv.up up_ints aH) (fun i hi z hz W hW=>by
   rw[aA [] hi]
   exact Qo _ _ _ _ _ _ (ay hW (by simp[ae (ar _ _)])) (hz.up up_int hW) ((hx.up up_int aH).up up_int hW))
 have HC:=aa mo;clear mo;obtain⟨_,_,rfl,_⟩:=hx;clear hv
 go_enter Tryz.func79,Tryz.ntmps79
 go_wp2_with fail
 refine HC.out.mono ?_;rintro e w1 ⟨rfl,aG⟩
 go_wp2_with fail
 go_ret
 exact⟨rfl,aj aH aG⟩
theorem yW(t:Tk) (pc:Option Addr) (nc cc:Nat) (c:Cs) (x0 x1 x2:Value) (w:World) (h0:aU w x0 c.inp) (h1:bF w x1 c.out) (h2:bF w x2 c.calm) :
  Calls Tryz.prog 50 #[.agg #[.int .i64 t.n,.int .i64 t.ins,.int .i64 t.outs,.slice pc nc cc],.agg #[x0,x1,x2]] w fun e w'=>e=.returned (.int .i64 (vectorsE t c))/\Below w.heap.size w w':=by
 have G1:=aa h1;have G2:=aa h2;obtain⟨p0,c0,rfl,_⟩:=h0;obtain⟨p1,c1,rfl,l1,m1,e1⟩:=h1.at;obtain⟨p2,c2,rfl,l2,m2,e2⟩:=h2.at;have E1:=aa e1;have E2:=aa e2;clear h1 h2 e1 e2;by_cases hl:c.out.length<1\/1024<c.out.length
 ·have HV:Hid (vectorsE t c=5):=by(have h:vectorsE t c=5:=by(unfold vectorsE;rw[if_pos hl]));exact h
  rcases hl with hl|hl
  ·go_enter Tryz.func50,Tryz.ntmps50
   go_wp2_with fail
   go_ret
   exact⟨aC HV.out.symm,by go_grown⟩
  ·go_enter Tryz.func50,Tryz.ntmps50
   go_wp2_with fail
   go_ret
   exact⟨aC HV.out.symm,by go_grown⟩
 have kd:1<=c.out.length:=by omega
 have l8:c.out.length<=1024:=by omega
 have HV:Hid (vectorsE t c=if aP c.out.length (jE t c)≠0 then aP c.out.length (jE t c) else aP c.calm.length (iZ c)):=by
  have h:vectorsE t c=if aP c.out.length (jE t c)≠0 then aP c.out.length (jE t c) else aP c.calm.length (iZ c):=by unfold vectorsE;rw[if_neg hl]
  exact h
 clear hl
 go_enter Tryz.func50,Tryz.ntmps50
 go_wp2_with fail
 refine bw (fun W=>Below w.heap.size w W/\W.heap[w.heap.size]?=some (.cells #[.int .i64 t.n,.int .i64 t.ins,.int .i64 t.outs,.slice pc nc cc] 24)/\W.heap[w.heap.size+1]?=some (.cells #[.slice p0 c.inp.length c0,.slice p1 c.out.length c1,.slice p2 c.calm.length c2] 88))
  ⟨by go_grown,aq _ (ar _ _),by simpa using ar (w.alloc (.cells #[.int .i64 t.n,.int .i64 t.ins,.int .i64 t.outs,.slice pc nc cc] 24)) _⟩ (fun W0 bd=>?_)
 obtain⟨aH,hT,hC⟩:=bd;have HT:=aa hT;clear hT;have HC:=aa hC;clear hC
 go_loopw [23] (fun i wr=>Below W0.heap.size W0 wr/\∃ k:Nat,k<=c.out.length/\i=.int .i64 k/\∀ j,j<k->jE t c j=0) (fun i _=>c.out.length - (intOf i).toNat)
 case atStart=>exact⟨Below.refl _ _,0,by omega,rfl,by simp⟩
 case round=>
  obtain⟨aJ,k,hk,rfl,aO⟩:=hrel;have H:=aa aO;clear aO;have t1:=ae (ak aJ HT.out);have t2:=ae (ak aJ HC.out);by_cases aF:k<c.out.length
  ·obtain⟨b1,o1,rfl,x,cx,hx⟩:=E1.out k aF
   rw[Nat.mul_one]at cx;have d1:=ay (aj aH aJ) cx;have HX:=aa (hx.up up_int (aj aH aJ));obtain⟨px,qx,rfl,_⟩:=hx;clear cx
   go_wp2_with fail
   refine(BB _ _ _ _ _ HX.out).mono ?_;rintro e w1 ⟨rfl,aG⟩
   have HO:Hid (jE t c k=if vectorE c.out[k] t.n t.outs≠0 then vectorE c.out[k] t.n t.outs else if unordB c.out k then 14 else 0):=by
    have h:jE t c k=if vectorE c.out[k] t.n t.outs≠0 then vectorE c.out[k] t.n t.outs else if unordB c.out k then 14 else 0:=by unfold jE;rw[aA [] aF]
    exact h
   generalize vectorE c.out[k] t.n t.outs=ev at HO;by_cases ox:ev=0
   ·subst ox
    have s1:=ae (ak (aj aJ aG) HT.out);have s2:=ae (ak (aj aJ aG) HC.out);clear t1 t2 d1
    go_wp2_with fail
    refine(vI _ _ k aF _ (G1.out.up up_ints (aj (aj aH aJ) aG))).mono ?_;rintro e w2 ⟨rfl,aS⟩;generalize unordB c.out k=u at HO;cases u with
    | true=>
     go_wp2_with fail
     go_ret
     exact⟨aC (by rw[HV.out,<-bh k 14 aF H.out (by rw[HO.out];rfl) (by decide)];rfl),aj (aj (aj aH aJ) aG) aS⟩
    | false=>
     go_wp2_with fail
     go_roundw
     case rel=>exact⟨aj (aj aJ aG) aS,k+1,by omega,by go_num,aQ H.out (by rw[HO.out];rfl)⟩
     case measure=>simp[intOf];omega
   ·have RX:(ev != 0)=true:=by simpa using ox
    go_wp2_with fail
    go_ret
    exact⟨aC (by rw[HV.out,<-bh k ev aF H.out (by rw[HO.out,if_pos ox]) ox,if_pos ox]),aj (aj aH aJ) aG⟩
  ·have cU:Hid (vectorsE t c=aP c.calm.length (iZ c)):=by
    have h:vectorsE t c=aP c.calm.length (iZ c):=by rw[HV.out,cp _ _ (fun j hj=>H.out j (by omega))];simp
    exact h
   go_wp2_with fail
   clear t1 t2;have bS:=aj aH aJ;obtain⟨W1,fR⟩:∃ W1:World,W1=wr:=⟨_,rfl⟩;rw[<-fR]at aJ bS ⊢;clear fR wr
   go_loopw [45] (fun i wr=>Below W1.heap.size W1 wr/\∃ k:Nat,k<=c.calm.length/\i=.int .i64 k/\∀ j,j<k->iZ c j=0) (fun i _=>c.calm.length - (intOf i).toNat)
   case atStart=>exact⟨Below.refl _ _,0,by omega,rfl,by simp⟩
   case round=>
    obtain⟨fN,q,hq,rfl,pM⟩:=hrel;have H2:=aa pM;clear pM;have t2:=ae (ak (aj aJ fN) HC.out);by_cases sA:q<c.calm.length
    ·obtain⟨b1,o1,rfl,x,cx,hx⟩:=E2.out q sA
     rw[Nat.mul_one]at cx;have d1:=ay (aj bS fN) cx;have HX:=aa (hx.up up_int (aj bS fN));obtain⟨px,qx,rfl,_⟩:=hx;clear cx
     go_wp2_with fail
     refine(Tu _ _ _ _ _ (G1.out.up up_ints (aj bS fN)) HX.out).mono ?_;rintro e w1 ⟨rfl,aG⟩
     have HO:Hid (iZ c q=if hasV c.out c.calm[q] then(if unordB c.calm q then 14 else 0) else 6):=by
      have h:iZ c q=if hasV c.out c.calm[q] then(if unordB c.calm q then 14 else 0) else 6:=by unfold iZ;rw[aA [] sA]
      exact h
     generalize hasV c.out c.calm[q]=ev at HO;cases ev with
     | true=>
      have s2:=ae (ak (aj (aj aJ fN) aG) HC.out);clear t2 d1
      go_wp2_with fail
      refine(vI _ _ q sA _ (G2.out.up up_ints (aj (aj bS fN) aG))).mono ?_;rintro e w2 ⟨rfl,aS⟩;generalize unordB c.calm q=u at HO;cases u with
      | true=>
       go_wp2_with fail
       go_ret
       exact⟨aC (by rw[cU.out,<-bh q 14 sA H2.out (by rw[HO.out];rfl) (by decide)]),aj (aj (aj bS fN) aG) aS⟩
      | false=>
       go_wp2_with fail
       go_roundw
       case rel=>exact⟨aj (aj fN aG) aS,q+1,by omega,by go_num,aQ H2.out (by rw[HO.out];rfl)⟩
       case measure=>simp[intOf];omega
     | false=>
      go_wp2_with fail
      go_ret
      exact⟨aC (by rw[cU.out,<-bh q 6 sA H2.out (by rw[HO.out];rfl) (by decide)]),aj (aj bS fN) aG⟩
    ·go_wp2_with fail
     go_ret
     exact⟨aC (by rw[cU.out,cp];intro j hj;exact H2.out j (by omega)),aj bS fN⟩
theorem ql(t:Tk) (vc:Value) (w:World) (hv:bJ w vc t.cases) :
  Calls Tryz.prog 27 #[.agg #[.int .i64 t.n,.int .i64 t.ins,.int .i64 t.outs,vc]] w fun e w'=>e=.returned (.int .i64 (taskE t))/\Below w.heap.size w w':=by
 have G:=aa hv;obtain⟨pc,cc,rfl,l1,m1,e1⟩:=hv.at;clear hv;have E:=aa e1;clear e1;by_cases hr:t.n<1\/5<t.n\/t.ins<1\/8<t.ins\/t.outs<1\/8<t.outs
 ·have HV:Hid (taskE t=2):=by(have h:taskE t=2:=by(unfold taskE;rw[if_pos hr]));exact h
  by_cases r1:t.n<1
  ·go_enter Tryz.func27,Tryz.ntmps27
   go_wp2_with fail
   go_ret;exact⟨aC HV.out.symm,by go_grown⟩
  by_cases r2:5<t.n
  ·go_enter Tryz.func27,Tryz.ntmps27
   go_wp2_with fail
   go_ret;exact⟨aC HV.out.symm,by go_grown⟩
  by_cases r3:t.ins<1
  ·go_enter Tryz.func27,Tryz.ntmps27
   go_wp2_with fail
   go_ret;exact⟨aC HV.out.symm,by go_grown⟩
  by_cases r4:8<t.ins
  ·go_enter Tryz.func27,Tryz.ntmps27
   go_wp2_with fail
   go_ret;exact⟨aC HV.out.symm,by go_grown⟩
  by_cases r5:t.outs<1
  ·go_enter Tryz.func27,Tryz.ntmps27
   go_wp2_with fail
   go_ret;exact⟨aC HV.out.symm,by go_grown⟩
  ·have r6:8<t.outs:=by omega
   clear hr
   go_enter Tryz.func27,Tryz.ntmps27
   go_wp2_with fail
   go_ret;exact⟨aC HV.out.symm,by go_grown⟩
 have r1:1<=t.n:=by omega
 have r2:t.n<=5:=by omega
 have r3:1<=t.ins:=by omega
 have r4:t.ins<=8:=by omega
 have r5:1<=t.outs:=by omega
 have r6:t.outs<=8:=by omega
 by_cases hl:t.cases.length<1\/1024<t.cases.length
 ·have HV:Hid (taskE t=5):=by(have h:taskE t=5:=by(unfold taskE;rw[if_neg hr,if_pos hl]));exact h
  clear hr;rcases hl with hl|hl
  ·go_enter Tryz.func27,Tryz.ntmps27
   go_wp2_with fail
   go_ret;exact⟨aC HV.out.symm,by go_grown⟩
  ·go_enter Tryz.func27,Tryz.ntmps27
   go_wp2_with fail
   go_ret;exact⟨aC HV.out.symm,by go_grown⟩
 have kd:1<=t.cases.length:=by omega
 have l8:t.cases.length<=1024:=by omega
 have HV:Hid (taskE t=aP t.cases.length (eU t)):=by(have h:taskE t=aP t.cases.length (eU t):=by(unfold taskE;rw[if_neg hr,if_neg hl]));exact h
 clear hr hl
 go_enter Tryz.func27,Tryz.ntmps27
 go_wp2_with fail
 refine bw (fun W=>Below w.heap.size w W/\W.heap[w.heap.size]?=some (.cells #[.int .i64 t.n,.int .i64 t.ins,.int .i64 t.outs,.slice pc t.cases.length cc] 24))
  ⟨by go_grown,ar _ _⟩ (fun W0 bd=>?_)
 obtain⟨aH,hT⟩:=bd;have HT:=aa hT;clear hT
 go_loopw [46] (fun i wr=>Below W0.heap.size W0 wr/\∃ k:Nat,k<=t.cases.length/\i=.int .i64 k/\∀ j,j<k->eU t j=0) (fun i _=>t.cases.length - (intOf i).toNat)
 case atStart=>exact⟨Below.refl _ _,0,by omega,rfl,by simp⟩
 case round=>
  obtain⟨aJ,k,hk,rfl,aO⟩:=hrel;have H:=aa aO;clear aO;have t1:=ae (ak aJ HT.out);have bS:=aj aH aJ;by_cases aF:k<t.cases.length
  ·obtain⟨b1,o1,rfl,⟨x0,cx0,gi⟩,⟨x1,cx1,dV⟩,⟨x2,cx2,fF⟩⟩:=E.out k aF
   have d0:=ay bS cx0;have d1:=ay bS cx1;have d2:=ay bS cx2;have pX:=aa gi;have gk:=aa dV;have mJ:=aa fF;obtain⟨p0,q0,rfl,_⟩:=gi;obtain⟨p1,q1,rfl,_⟩:=dV;obtain⟨p2,q2,rfl,_⟩:=fF;clear cx0 cx1 cx2;have dM:=aB (ak aJ HT.out)
   go_wp2_with fail
   refine aT (fun W=>Below wr.heap.size wr W/\W.heap[wr.heap.size]?=some (.cells #[.slice p0 t.cases[k].inp.length q0,.slice p1 t.cases[k].out.length q1,.slice p2 t.cases[k].calm.length q2] 88)) ⟨by go_grown,ar _ _⟩ (fun V hV=>?_);obtain⟨fo,hC⟩:=hV;have HC:=aa hC;clear hC;have uv:=aj bS fo;refine(BB _ _ _ _ _ (pX.out.up up_int uv)).mono ?_;rintro e w1 ⟨rfl,aG⟩
   have HO:Hid (eU t k=if vectorE t.cases[k].inp t.n t.ins≠0 then vectorE t.cases[k].inp t.n t.ins else if 0<k/\0<=ordV (t.cases.getD (k - 1) default).inp t.cases[k].inp then 14 else vectorsE t t.cases[k]):=by
    have h:eU t k=if vectorE t.cases[k].inp t.n t.ins≠0 then vectorE t.cases[k].inp t.n t.ins else if 0<k/\0<=ordV (t.cases.getD (k - 1) default).inp t.cases[k].inp then 14 else vectorsE t t.cases[k]:=by unfold eU;rw[aA default aF]
    exact h
   generalize vectorE t.cases[k].inp t.n t.ins=ev at HO;have gl:=aj uv aG;by_cases ox:ev=0
   case neg=>
    have RX:(ev != 0)=true:=by simpa using ox
    go_wp2_with fail
    go_ret
    exact⟨aC (by rw[HV.out,<-bh k ev aF H.out (by rw[HO.out,if_pos ox]) ox]),gl⟩
   subst ox;have rW:=aj fo aG;have s1:=ae (ak (aj aJ rW) HT.out);have s2:=ae (ak aG HC.out);clear t1 d0 d1 d2 dM
   go_wp2_with fail
   by_cases gW:k=0
   ·have iI:Hid (eU t k=vectorsE t t.cases[k]):=by(have h:eU t k=vectorsE t t.cases[k]:=by(rw[HO.out,if_neg (by simp),if_neg (by omega)]));exact h
    have hd:decide ((0:Int)<(k:Int))=false:=by simp;omega
    have kz:decide (0<k)=false:=by simp;omega
    clear HO gW;refine aK (by kernel_rfl) (by kernel_rfl) ?_
    repeat (go_big_quiet_step (fail))
    refine wpQuiet_nil ?_;intro _ bV;obtain⟨xq,bC⟩:=bV;subst bC;have r1':=ae (ak (aj (aj aJ rW) xq.ext) HT.out);have r2':=ae (ak (aj aG xq.ext) HC.out);clear s1 s2 hd kz;have mh:=aj gl xq.ext
    go_wp2_with fail
    refine(yW t _ _ _ t.cases[k] _ _ _ _ (pX.out.up up_int mh) (gk.out.up up_ints mh) (mJ.out.up up_ints mh)).mono ?_;rintro e w2 ⟨rfl,aS⟩;generalize vectorsE t t.cases[k]=e2 at iI;by_cases FQ:e2=0
    ·subst FQ
     go_wp2_with fail
     go_roundw
     case rel=>exact⟨aj (aj (aj aJ rW) xq.ext) aS,k+1,by omega,by go_num,aQ H.out iI.out⟩
     case measure=>simp[intOf];omega
    ·have he2':(e2 != 0)=true:=by simpa using FQ
     go_wp2_with fail
     go_ret
     exact⟨aC (by rw[HV.out,<-bh k e2 aF H.out iI.out FQ]),aj mh aS⟩
   ·obtain⟨j,hj⟩:∃ j,k=j+1:=⟨k - 1,by omega⟩
    have qf:j<t.cases.length:=by omega
    have HJ:=aa hj;obtain⟨b2,o2,e2,⟨y0,cy0,ww⟩,_⟩:=E.out j qf;obtain⟨rfl,rfl⟩:b1=b2/\o1=o2:=by simpa using e2
    clear e2;have hd:decide ((0:Int)<(k:Int))=true:=by simp;omega
    have kz:0<k:=by omega
    have ju:Hid (eU t k=if 0<=ordV t.cases[j].inp t.cases[k].inp then 14 else vectorsE t t.cases[k]):=by
     have h:eU t k=if 0<=ordV t.cases[j].inp t.cases[k].inp then 14 else vectorsE t t.cases[k]:=by
      rw[HO.out,if_neg (by simp)];have e:k - 1=j:=by omega
      rw[e,aA default qf]
      grind
     exact h
    clear HO gW hj;have mf:IntKind.i64.wrap ((k:Int) - 1)=(j:Int):=by rw[HJ.out];rw[IntWalk.i64_in _ (by omega)];omega
    have q1:∀ x:ExtW w1,∀ o,x.val.cell? ⟨w.heap.size,o,none⟩=_:=fun x=>ae (ak (aj (aj aJ rW) x.ext) HT.out)
    have q2:∀ x:ExtW w1,∀ o,x.val.cell? ⟨wr.heap.size,o,none⟩=_:=fun x=>ae (ak (aj aG x.ext) HC.out)
    have q3:∀ x:ExtW w1,x.val.cell? ⟨b1,o1+j * 3,none⟩=some y0:=fun x=>x.cell (ay gl cy0)
    have b8:∀ x:ExtW w1,Calls Tryz.prog 30 #[y0,.slice p0 t.cases[k].inp.length q0] x.val fun e w''=>e=.returned (.int .i64 (ordV t.cases[j].inp t.cases[k].inp))/\∃ p:ExtW w1,w''=p.val:=
     fun x=>Calls.ext_of (jR _ _ _ _ _ (ww.up up_int (aj gl x.ext)) (pX.out.up up_int (aj gl x.ext)))
    have bE:=aa b8;clear b8;have HY0:=aa ww;clear ww cy0;generalize ordV t.cases[j].inp t.cases[k].inp=oo at bE ju;clear s1 s2;refine aK (by kernel_rfl) (by kernel_rfl) ?_
    repeat (go_big_quiet_step ((go_at_call 30;exact bE.out _)))
    refine wpQuiet_nil ?_;intro _ bV;obtain⟨xq,bC⟩:=bV;subst bC;have r1':=q1 xq;have r2':=q2 xq;clear q1 q2 q3 hd kz;have mh:=aj gl xq.ext;by_cases rE:0<=oo
    ·go_wp2_with fail
     go_ret
     exact⟨aC (by rw[HV.out,<-bh k 14 aF H.out (by rw[ju.out,if_pos rE]) (by decide)]),mh⟩
    ·have iI:Hid (eU t k=vectorsE t t.cases[k]):=by(have h:eU t k=vectorsE t t.cases[k]:=by(rw[ju.out,if_neg rE]));exact h
     clear ju
     go_wp2_with fail
     refine(yW t _ _ _ t.cases[k] _ _ _ _ (pX.out.up up_int mh) (gk.out.up up_ints mh) (mJ.out.up up_ints mh)).mono ?_;rintro e w2 ⟨rfl,aS⟩;generalize vectorsE t t.cases[k]=e2 at iI;by_cases FQ:e2=0
     ·subst FQ
      go_wp2_with fail
      go_roundw
      case rel=>exact⟨aj (aj (aj aJ rW) xq.ext) aS,k+1,by omega,by go_num,aQ H.out iI.out⟩
      case measure=>simp[intOf];omega
     ·have he2':(e2 != 0)=true:=by simpa using FQ
      go_wp2_with fail
      go_ret
      exact⟨aC (by rw[HV.out,<-bh k e2 aF H.out iI.out FQ]),aj mh aS⟩
  ·go_wp2_with fail
   go_ret
   exact⟨aC (by rw[HV.out,cp];intro j hj;exact H.out j (by omega)),bS⟩
end Go.Proofs.YtkfgpnbpcpdclaaGreat
namespace Go.Proofs.YtkfgpnbpcpdclaaGreat
def cg(n:Nat) (f:Int):List Nat:=(List.range n).filter fun p=>!cS f p
theorem pT(n:Nat) (f:Int):cg (n+1) f=if cS f n then cg n f else cg n f++[n]:=by
 unfold cg;rw[List.range_succ,List.filter_append];cases h:cS f n<;>simp[h]
theorem Av{n:Nat} {f:Int} {p:Nat}:p∈cg n f↔p<n/\cS f p=false:=by
 simp[cg]
theorem tV{n:Nat} {f:Int} {i:Nat} (hi:i<(cg n f).length):(cg n f)[i]<n/\cS f (cg n f)[i]=false:=Av.1 (List.getElem_mem hi)
theorem JI(n:Nat) (f:Int):(cg n f).Pairwise (·<·):=List.Pairwise.filter _ List.pairwise_lt_range
theorem wW(n:Nat) (f:Int) {i j:Nat} (hj:j<(cg n f).length) (h:i<j):(cg n f)[i]<(cg n f)[j]:=(List.pairwise_iff_getElem.1 (JI n f)) i j (by omega) hj h
theorem yX(f:Int) {p n:Nat} (h:p<=n):cg p f <+: cg n f:=by
 induction n with
 | zero=>obtain rfl:p=0:=by omega
         exact List.prefix_refl _
 | succ n ih=>
  by_cases e:p=n+1
  ·subst e;exact List.prefix_refl _
  ·rw[pT]
   split
   ·exact ih (by omega)
   ·exact(ih (by omega)).trans (List.prefix_append _ _)
theorem Kh(f:Int) {p n:Nat} (h:p<n) (hp:cS f p=false):(cg n f)[(cg p f).length]?=some p:=by
 have h1:=yX f (show p+1<=n by omega);rw[pT,hp]at h1;simp only[Bool.false_eq_true,if_false]at h1;obtain⟨t,ht⟩:=h1;rw[<-ht,List.append_assoc,List.getElem?_append_right (Nat.le_refl _)];simp
def uQ(n:Nat) (f:Int) (q:Nat->Bool):Int:=firstIx n fun p=>!cS f p&&q p
theorem vJ{n:Nat} {f:Int} {q:Nat->Bool} (h:∀ j,j<(cg n f).length->q ((cg n f).getD j 0)=false):uQ n f q=-1:=by
 refine fT _ _ fun p hp=>?_
 cases hb:cS f p with
 | true=>rfl
 | false=>
  obtain⟨j,hj,e⟩:=List.getElem_of_mem (Av.2 ⟨hp,hb⟩);have:=h j hj;rw[show (cg n f).getD j 0=(cg n f)[j] by simp[hj],e]at this;simp[this]
theorem yY{n:Nat} {f:Int} {q:Nat->Bool} {i:Nat} (hi:i<(cg n f).length) (h:∀ j,j<i->q ((cg n f).getD j 0)=false) (hq:q ((cg n f).getD i 0)=true):uQ n f q=(cg n f).getD i 0:=by
 have e0:(cg n f).getD i 0=(cg n f)[i]:=by simp[hi]
 rw[e0]at hq ⊢;have h1:=tV hi;refine gY _ _ _ h1.1 (fun p hp=>?_) (by simp[h1.2,hq]);cases hb:cS f p with
 | true=>rfl
 | false=>
  obtain⟨j,hj,e⟩:=List.getElem_of_mem (Av.2 ⟨show p<n by omega,hb⟩)
  have mE:j<i:=by
   rcases Nat.lt_or_ge j i with h'|h'
   ·exact h'
   ·rcases Nat.eq_or_lt_of_le h' with h2|h2
    ·subst h2;omega
    ·have:=wW n f hj h2;omega
  have:=h j mE;rw[show (cg n f).getD j 0=(cg n f)[j] by simp[hj],e]at this;simp[this]
def faultyS(word:List Rd):Int:=if word.length=0 then 0 else(word.getD (word.length - 1) default).f
def i9(c:Cs) (f:Int):List (List Int):=if f=0/\0<c.calm.length then c.calm else c.out
def jm(t:Tk) (i f:Int):Int:=
 if taskE t≠0 then taskE t else if i<0\/(t.cases.length:Int)<=i then 6 else if f<0\/2 ^ t.n.toNat<=f then 2 else 0
def bI(t:Tk) (i f:Int):List (List Int):=if jm t i f≠0 then [] else i9 (t.cases.getD i.toNat default) f
theorem Qp{α:Type} [DecidableEq α] (l m:List α) (hl:l.Pairwise (·≠·)) (h:∀ x∈l,x∈m):l.length<=m.length:=by
 induction l generalizing m with
 | nil=>simp
 | cons x r ih=>
  have hx:=h x (by simp);have h1:=ih (m.erase x) (List.pairwise_cons.1 hl).2 (fun y hy=>(List.mem_erase_of_ne (fun e=>(List.pairwise_cons.1 hl).1 y hy e.symm)).2 (h y (by simp[hy])));rw[List.length_erase_of_mem hx]at h1;have:=List.length_pos_of_mem hx;simp only[List.length_cons];omega
theorem GW(l:List (List Int)) (h:∀ i,i<l.length->unordB l i=false):∀ j i,i<j->j<l.length->ordV (l.getD i []) (l.getD j [])<0:=by
 intro j;induction j with
 | zero=>intro i hi;omega
 | succ j ih=>
  intro i hi hj;have h1:=h (j+1) hj
  have h2:ordV (l.getD j []) (l.getD (j+1) [])<0:=by
   unfold unordB at h1;rw[Nat.add_sub_cancel,decide_eq_true (by omega:0<j+1),Bool.true_and]at h1;have:=of_decide_eq_false h1;omega
  rcases Nat.lt_or_ge i j with h3|h3
  ·exact kE (ih i h3 (by omega)) h2
  ·obtain rfl:i=j:=by omega
   exact h2
theorem Nn(l:List (List Int)) (h:∀ i,i<l.length->unordB l i=false):l.Pairwise (·≠·):=by
 rw[List.pairwise_iff_getElem];intro i j hi hj SZ e;have h1:=GW l h j i SZ hj;rw[show l.getD i []=l[i] by simp[hi],show l.getD j []=l[j] by simp[hj],e,pO]at h1;omega
theorem lg{n:Nat} {f:Nat->Int} (h:aP n f=0):∀ i,i<n->f i=0:=by
 intro i hi;induction n generalizing f i with
 | zero=>omega
 | succ n ih=>
  rw[jW]at h;by_cases h0:f 0=0
  ·rw[if_neg (by simpa using h0)]at h
   cases i with
   | zero=>exact h0
   | succ i=>exact ih h i (by omega)
  ·rw[if_pos h0]at h
   exact absurd h h0
theorem yZ{v:List Int} {n m:Int} (h:vectorE v n m=0):(v.length:Int)=n:=by
 unfold vectorE at h;by_cases e:(v.length:Int)=n
 ·exact e
 ·rw[if_pos e]at h;omega
theorem Qq{l:List (List Int)} {v:List Int} (h:hasV l v=true):v∈l:=by
 unfold hasV at h;obtain⟨i,hi,e⟩:=(D9 _ _).1 h;unfold eqV at e;have:=of_decide_eq_true e;rw[<-this,show l.getD i []=l[i] by simp[hi]];exact List.getElem_mem hi
structure CaseOk (t:Tk) (c:Cs):Prop where
 inp:(c.inp.length:Int)=t.n
 out1:1<=c.out.length
 out2:c.out.length<=1024
 calm:c.calm.length<=1024
 outs:∀ v∈c.out,(v.length:Int)=t.n
 calms:∀ v∈c.calm,v∈c.out
theorem dY{t:Tk} (h:taskE t=0):(1<=t.n/\t.n<=5)/\(1<=t.ins/\t.ins<=8)/\(1<=t.outs/\t.outs<=8)/\(1<=t.cases.length/\t.cases.length<=1024)/\∀ c∈t.cases,CaseOk t c:=by
 unfold taskE at h;split at h
 ·omega
 rename_i h1;split at h
 ·omega
 rename_i h2;refine⟨by omega,by omega,by omega,by omega,fun c hc=>?_⟩;obtain⟨k,hk,rfl⟩:=List.getElem_of_mem hc;have h3:=lg h k hk;unfold eU at h3;rw[show t.cases.getD k default=t.cases[k] by simp[hk]]at h3;split at h3
 ·omega
 rename_i h4;split at h3
 ·omega
 unfold vectorsE at h3;split at h3
 ·omega
 rename_i h5;split at h3
 ·omega
 rename_i h6;have h7:=lg (show aP _ _=0 by simpa using h6);have h8:=lg h3
 have hcal:∀ i,i<(t.cases[k]).calm.length->hasV (t.cases[k]).out ((t.cases[k]).calm.getD i [])=true/\unordB (t.cases[k]).calm i=false:=by
  intro i hi;have:=h8 i hi;unfold iZ at this;split at this
  ·rename_i h9
   refine⟨h9,?_⟩;cases hu:unordB (t.cases[k]).calm i
   ·rfl
   ·rw[hu]at this;simp at this
  ·omega
 have hmem:∀ v∈(t.cases[k]).calm,v∈(t.cases[k]).out:=by
  intro v hv;obtain⟨i,hi,rfl⟩:=List.getElem_of_mem hv;have:=Qq (hcal i hi).1
  rwa [show (t.cases[k]).calm.getD i []=(t.cases[k]).calm[i] by simp[hi]]at this
 refine⟨yZ (by simpa using h4),by omega,by omega,?_,?_,hmem⟩
 ·exact Nat.le_trans (Qp _ _ (Nn _ fun i hi=>(hcal i hi).2) hmem) (by omega)
 ·intro v hv
  obtain⟨i,hi,rfl⟩:=List.getElem_of_mem hv;have:=h7 i hi;unfold jE at this;rw[show (t.cases[k]).out.getD i []=(t.cases[k]).out[i] by simp[hi]]at this;split at this
  ·omega
  ·rename_i h9
   exact yZ (by simpa using h9)
theorem Ki{t:Tk} {c:Cs} (h:CaseOk t c) (f:Int):(i9 c f).length<=1024/\∀ v∈i9 c f,(v.length:Int)=t.n:=by
 unfold i9;split
 ·exact⟨h.calm,fun v hv=>h.outs v (h.calms v hv)⟩
 ·exact⟨h.out2,h.outs⟩
end Go.Proofs.YtkfgpnbpcpdclaaGreat
namespace Go.Proofs.YtkfgpnbpcpdclaaGreat
open Go.RowKit Go Go.Shelf
theorem lW{w w':World} {base:Nat} {e:TypeId} {v:Value} {n:Nat} {xs:List Value} (h:w.ownsRow base e 1 v n xs) (hb:Below w.heap.size w w'):w'.ownsRow base e 1 v n xs:=by
 obtain⟨hl,h⟩:=h;refine⟨hl,?_⟩;rcases h with h|⟨g,cap,cur,h1,h2,h3,h4⟩
 ·exact .inl h
 ·exact .inr ⟨g,cap,cur,h1,h2,ak hb h3,h4⟩
theorem y'{w w':World} {base base':Nat} {e e':TypeId} {u v:Value} {n m:Nat} {xs ys:List Value} (h:w.ownsRow base e 1 u n xs) (hv:w.ownsRow base' e' 1 v m ys) (bH:e≠e') (hg:w.grownBy w' v.ownBlock):w'.ownsRow base e 1 u n xs:=by
 obtain⟨hl,h⟩:=h;refine⟨hl,?_⟩;rcases h with h|⟨g,cap,cur,h1,h2,h3,h4⟩
 ·exact .inl h
 ·refine .inr ⟨g,cap,cur,h1,h2,(hg.block g (aB h3) (fun e1=>?_)).trans h3,h4⟩
  rcases hv.2 with ⟨rfl,_⟩|⟨g',cap',cur',rfl,_,yc,_⟩
  ·cases e1
  ·cases e1
   rw[h3]at yc;cases yc;exact bH rfl
theorem Dy{w:World} {base:Nat} {e:TypeId} {v:Value} {n:Nat} {xs:List Value} (h:w.ownsRow base e 1 v n xs):∀ g,v.ownBlock=some g->base<=g/\g<w.heap.size:=by
 intro g hg;rcases h.2 with ⟨rfl,_⟩|⟨g',cap,cur,rfl,h2,h3,_⟩
 ·cases hg
 ·cases hg;exact⟨h2,aB h3⟩
theorem lr{w:World} {base base':Nat} {e:TypeId} {v:Value} {n:Nat} {xs:List Value} (h:w.ownsRow base e 1 v n xs) (hb:base'<=base):w.ownsRow base' e 1 v n xs:=by
 obtain⟨hl,h⟩:=h;refine⟨hl,?_⟩;rcases h with h|⟨g,cap,cur,h1,h2,h3⟩
 ·exact .inl h
 ·exact .inr ⟨g,cap,cur,h1,Nat.le_trans hb h2,h3⟩
def gJ(w:World) (base:Nat) (v:Value) (l:List (List Int)):Prop:=
 ∃ xs:List Value,w.ownsRow base 36 1 v l.length xs/\∀ i (hi:i<l.length) (hx:i<xs.length),w.ownsRow base 3 1 xs[i] l[i].length (l[i].map (Value.int .i64))
theorem Ls(v:Value) (l:List (List Int)) (w:World) (hv:bF w v l) (hn:l.length<=1099511627776) (n9:∀ x∈l,x.length<=1099511627776) :
  Calls Tryz.prog 212 #[v] w fun e w'=>∃ u,e=.returned u/\gJ w' w.heap.size u l/\Below w.heap.size w w':=by
 have HR:=aa (fun i (hi:i<l.length)=>n9 l[i] (List.getElem_mem hi));clear n9;obtain⟨pa,ca,rfl,la1,la2,ea⟩:=hv.at;clear hv;have EA:=aa ea;clear ea;obtain⟨i0,fZ,dp,du,eB⟩:=info_parts Tryz.infoInts
 go_enter Tryz.func212,Tryz.ntmps212
 go_wp2_with fail
 go_loopw [3,8] (fun o i wr=>Below w.heap.size w wr/\∃ k:Nat,k<=l.length/\i=.int .i64 k/\gJ wr w.heap.size o (l.take k)) (fun _ i _=>l.length - (intOf i).toNat)
 case atStart=>exact⟨Below.refl _ _,0,by omega,rfl,[],by simpa using World.ownsRow_nil _ _ _ _,fun i hi=>by simp at hi⟩
 case round=>
  obtain⟨aJ,k,hk,rfl,uh⟩:=hrel;by_cases aF:k<l.length
  ·obtain⟨b1,o1,rfl,x,cx,hx⟩:=EA.out k aF
   rw[Nat.mul_one]at cx;have d1:=ay aJ cx;have HX:=aa (hx.up up_int aJ);obtain⟨px,qx,rfl,_⟩:=hx;clear cx;obtain⟨xs,aW,PS⟩:=uh;have wi:(l.take k).length=k:=by simp;omega
   rw[wi]at aW;have da:=aa aW;have Us:=aa PS;have ST:=aa wi;clear aW PS wi
   go_wp2_with fail
   refine(wV _ _ _ (yV HX.out) (by rw[List.length_map];exact HR.out k aF)).mono ?_;rintro e w1 ⟨u,rfl,hu,aG⟩;obtain⟨au,cu,rfl,_⟩:=ig hu;rw[List.length_map]at hu;rw[List.length_map];generalize hN:l[k].length=nn at hu ⊢;have HN:=aa hN;clear hN;have fQ:=aj aJ aG;have hA:Below w1.heap.size w1 (w1.alloc (.cells #[(Value.slice au nn cu)] 36)):=by go_grown
   have fK:=aa (lW (lW da.out aG) hA)
   have bj:∀ j u',[(Value.slice au nn cu)][j]?=some u'->(w1.alloc (.cells #[(Value.slice au nn cu)] 36)).cell? (Addr.add ⟨w1.heap.size,0,none⟩ j)=some u':=fun j u' hj=>by
    cases j with
    | zero=>simp at hj;subst hj;simp[Addr.add,ae (ar w1 _)]
    | succ j=>simp at hj
   have bZ:=aa bj;have HU:=aa hu;clear bj hu d1;have dJ:=fQ.size
   go_wp2_with (at_builtin;(refine wpList_append_own _ rfl (.tmp 12) (.tmp 15) 30 rfl w.heap.size 36 i0 (.slice none 0 0) 1 24 Tryz.underlying30 fZ dp du eB rfl (by decide) _ k xs rfl fK.out ⟨w1.heap.size,0,none⟩ 1 1 [(Value.slice au nn cu)] rfl rfl bZ.out (by simp[Value.oneCell']) (by unfold maxLen;omega) (by omega) (by simp;omega) ?_;intro v' w2 lh iX _))
   go_roundw
   case rel=>
    refine⟨Below.grown (w:=w1.alloc (.cells #[(Value.slice au nn cu)] 36)) (fQ.alloc dJ _) iX (by simp;omega) (fun g hg=>(Dy da.out g hg).1),k+1,by omega,by go_num,xs++[(Value.slice au nn cu)],?_,?_⟩
    ·rw[show (l.take (k+1)).length=k+1 by simp;omega];exact lh
    ·intro i hi hx
     have nH:xs.length=k:=by have:=da.out.1;omega
     by_cases oO:i<k
     ·have h1:=Us.out i (by rw[ST.out];exact oO) (by omega)
      have h2:=y' (lW (lW h1 aG) hA) fK.out (by decide) iX;simp only[List.getElem_take]at h2 ⊢
      rwa [List.getElem_append_left (by omega)]
     ·obtain rfl:i=k:=by simp at hi;omega
      have h2:=y' (lr (lW HU.out hA) aJ.size) fK.out (by decide) iX;simp only[List.getElem_take];rw[List.getElem_append_right (by omega)];obtain rfl:=HN.out;simpa using h2
   case measure=>simp[intOf];omega
  ·go_wp2_with fail
   go_ret
   refine⟨_,rfl,?_,aJ⟩
   rwa [List.take_of_length_le (by omega)]at uh
theorem GX(x0 x1 x2:Value) (c:Cs) (f:Int) (w:World) (h1:bF w x1 c.out) (h2:bF w x2 c.calm) :
  Calls Tryz.prog 213 #[.agg #[x0,x1,x2],.int .i64 f] w fun e w'=>∃ u,e=.returned u/\bF w' u (i9 c f)/\Below w.heap.size w w':=by
 have H1:=aa h1;have H2:=aa h2;obtain⟨p1,q1,rfl,_⟩:=h1.at;obtain⟨p2,q2,rfl,m1,m2,_⟩:=h2.at;clear h1 h2;by_cases hf:f=0
 ·subst hf
  by_cases hl:0<c.calm.length
  ·have HV:Hid (i9 c 0=c.calm):=by(have h:i9 c 0=c.calm:=by(unfold i9;rw[if_pos ⟨rfl,hl⟩]));exact h
   have hl':decide ((0:Int)<(c.calm.length:Int))=true:=by simp;omega
   go_enter Tryz.func213,Tryz.ntmps213
   go_wp2_with fail
   go_ret
   refine⟨_,rfl,?_,by go_grown⟩;rw[HV.out];exact H2.out.up up_ints (by go_grown)
  ·have HV:Hid (i9 c 0=c.out):=by(have h:i9 c 0=c.out:=by(unfold i9;rw[if_neg (fun h=>hl h.2)]));exact h
   have hl':decide ((0:Int)<(c.calm.length:Int))=false:=decide_eq_false (by omega)
   go_enter Tryz.func213,Tryz.ntmps213
   go_wp2_with fail
   go_ret
   refine⟨_,rfl,?_,by go_grown⟩;rw[HV.out];exact H1.out.up up_ints (by go_grown)
 ·have HV:Hid (i9 c f=c.out):=by(have h:i9 c f=c.out:=by(unfold i9;rw[if_neg (fun h=>hf h.1)]));exact h
  have hf':(f == 0)=false:=by simpa using hf
  go_enter Tryz.func213,Tryz.ntmps213
  go_wp2_with fail
  go_ret
  refine⟨_,rfl,?_,by go_grown⟩;rw[HV.out];exact H1.out.up up_ints (by go_grown)
theorem El{t:Tk} {i f:Int} (h:jm t i f=0):taskE t=0/\0<=i/\i.toNat<t.cases.length:=by
 unfold jm at h;split at h
 ·omega
 ·rename_i h1
  split at h
  ·omega
  ·exact⟨by simpa using h1,by omega,by omega⟩
theorem No(t:Tk) (vc:Value) (i f:Int) (w:World) (hv:bJ w vc t.cases) :
  Calls Tryz.prog 211 #[.agg #[.int .i64 t.n,.int .i64 t.ins,.int .i64 t.outs,vc],.int .i64 i,.int .i64 f] w fun e w'=>e=.returned (.int .i64 (jm t i f))/\Below w.heap.size w w':=by
 have G:=aa hv;obtain⟨pc,cc,rfl,l1,m1,_⟩:=hv.at;clear hv
 go_enter Tryz.func211,Tryz.ntmps211
 go_wp2_with fail
 refine aT (fun W=>Below w.heap.size w W/\W.heap[w.heap.size]?=some (.cells #[.int .i64 t.n,.int .i64 t.ins,.int .i64 t.outs,.slice pc t.cases.length cc] 24)) ⟨by go_grown,ar _ _⟩ (fun W0 bd=>?_);obtain⟨aH,bD⟩:=bd;refine(ql t _ W0 (G.out.up up_case aH)).mono ?_;rintro e w1 ⟨rfl,aG⟩;have bU:=aj aH aG;have t1:=ae (ak aG bD);clear bD;by_cases iH:taskE t=0
 case neg=>
  have HV:Hid (jm t i f=taskE t):=by(have h:jm t i f=taskE t:=by(unfold jm;rw[if_pos iH]));exact h
  generalize taskE t=et at HV iH;have D7:(et != 0)=true:=by simpa using iH
  go_wp2_with fail
  go_ret
  exact⟨aC (by rw[HV.out]),bU⟩
 obtain⟨⟨n1,n2⟩,_⟩:=dY iH;have HV:Hid (jm t i f=if i<0\/(t.cases.length:Int)<=i then 6 else if f<0\/2 ^ t.n.toNat<=f then 2 else 0):=by(have h:jm t i f=if i<0\/(t.cases.length:Int)<=i then 6 else if f<0\/2 ^ t.n.toNat<=f then 2 else 0:=by(unfold jm;rw[if_neg (by simpa using iH)]));exact h
 rw[iH];clear iH;generalize t.n=n at *;have:n=1\/n=2\/n=3\/n=4\/n=5:=by omega
 rcases this with rfl|rfl|rfl|rfl|rfl
 all_goals
  go_wp2_with fail
  all_goals
   go_ret
   refine⟨aC ?_,bU⟩;rw[HV.out]
   go_light
   grind
end Go.Proofs.YtkfgpnbpcpdclaaGreat
namespace Go.Proofs.YtkfgpnbpcpdclaaGreat
open Go.RowKit Go Go.Shelf
attribute [local go_sem] Oper.semAt_some
theorem Tryz.infoMsg:(Tryz.prog.info? 165).map (fun i=>(i.zero,i.size,i.bytes))=some (some (.agg #[.int .i64 0,.int .i64 0,.int .i64 0,.string ⟨#[]⟩]),4,40):=by kernel_rfl
abbrev Msg.c(m:Msg):Array Value:=#[.int .i64 m.rd,.int .i64 m.fr,.int .i64 m.to,.string m.bs]
def kI(xs:List Msg):List Value:=xs.flatMap fun m=>m.c.toList
theorem BC(xs:List Msg) (k:Nat) (hk:k<xs.length):kI (xs.take (k+1))=kI (xs.take k)++(xs.getD k default).c.toList:=by
 unfold kI;rw[List.take_succ_eq_append_getElem hk,List.flatMap_append,aA default hk];simp
structure CI (w:World) (B2:Nat) (xs:List Msg) (i:Nat) (T:Nat->Prop) (W:World):Prop where
 old:Below w.heap.size w W
 lt:∀ k,T k->k<W.heap.size
 notB:¬ T B2
 row:∃ v,W.heap[B2]?=some (.cells #[v] 63)/\aL W w.heap.size 165 4 v i (kI (xs.take i))/\∀ g,v.ownBlock=some g->¬ T g
theorem CI.next{w:World} {B2:Nat} {xs:List Msg} {i B:Nat} {T T':Nat->Prop} {A A':World} (h:CI w B2 xs i T A) (hB:w.heap.size<=B) (hc:Chg B A A') (hw:mA A A' T T'):CI w B2 xs i T' A':=by
 obtain⟨v,h1,h2,h3⟩:=h.row
 have hn:∀ g,g<A.heap.size->¬ T g->¬ T' g:=fun g hg h ht=>by
  rcases hw.2 g ht with h4|h4
  ·exact h h4
  ·omega
 exact⟨hc.below hB h.old.size h.old,fun k hk=>by
  rcases hw.2 k hk with h4|h4
  ·exact Nat.lt_of_lt_of_le (h.lt k h4) hc.size
  ·exact h4.2,hn _ (aB h1) h.notB,v,hc.ck _ _ h1 rfl,h2.ck hc.ck,fun g hg=>hn _ (h2.lt g hg).2 (h3 g hg)⟩
theorem Dz(gf:Nat) (lb:Array Value) (eg:∀ args w,(callFunc gf args).run Tryz.prog w=.ok (.enter gf args) w) (xs:List Msg) (hn:xs.length<=1048576) (S:Nat->Prop) (w:World)
  (bP:pB Tryz.prog gf lb (fun i args _ _=>args=#[.agg (xs.getD i default).c]) xs.length S w) (hS:∀ k,S k->k<w.heap.size) :
  Calls Tryz.prog 198 #[.slice none 0 0,.func (.func gf) #[] lb] w fun e w'=>∃ v,e=.returned v/\aL w' w.heap.size 165 4 v xs.length (kI xs)/\Below w.heap.size w w':=by
 obtain⟨i0,fZ,dp,du,eB⟩:=info_parts Tryz.infoMsg;refine eI Tryz.func198 rfl ?_;simp only[Tryz.ntmps198,List.size_toArray,List.length_cons,List.length_nil,Nat.reduceAdd,Nat.reduceSub,Array.replicate_succ,Array.replicate_zero,List.push_toArray,List.append_toArray,List.nil_append,List.cons_append]
 go_wp2_with fail
 refine bw (fun W=>Below w.heap.size w W/\W.heap[w.heap.size]?=some (.cells #[.slice none 0 0] 63)) ⟨by go_grown,ar _ _⟩ (fun W0 bd=>?_);obtain⟨aH,kg⟩:=bd;have dM:=aB kg
 refine uP (gf:=gf) (lb:=lb) rfl eg bP aH (fun k hk=>Nat.lt_of_lt_of_le (hS k hk) aH.size) (fun i args _ _ h=>by rw[h];rfl)
  (CI w w.heap.size xs) (fun _ _ _ _=>False)
  (fun i T T' A A' h hc hw=>h.next (Nat.le_of_lt dM) hc hw) (fun _ _ _ _ _ _ h _ _=>h)
  ⟨aH,fun k hk=>Nat.lt_of_lt_of_le (hS k hk) aH.size,fun h=>Nat.lt_irrefl _ (hS _ h),_,kg,⟨by simp[kI],.inl ⟨rfl,rfl⟩⟩,fun g hg=>by cases hg⟩ ?round ?done ?stop
 case round=>
  rintro l i T W args hi hl hlW hTl rfl hI;have wy:=aa (BC xs i hi);generalize xs.getD i default=m at wy;have HI:=aa hI;have SO:=hI.old.size;clear hI bP
  gi_wp2
  refine⟨Bod.of_below (fun k hk=>HI.out.lt k hk) (by go_grown),fun W'=>CI w w.heap.size xs i T W'/\W'.heap[W.heap.size]?=some (.cells m.c 165),fun A A' hc h=>⟨h.1.next (Nat.le_of_lt dM) hc (mA.refl _ _ _),hc.ck _ _ h.2 rfl⟩,⟨HI.out.next (Nat.le_of_lt dM) (Chg.of_below (by go_grown)) (mA.refl _ _ _),ar _ _⟩,fun W2 h2=>?_⟩
  intros
  obtain⟨fg,kb⟩:=h2;have fA:=aa fg;obtain⟨v,hv,aW,C5⟩:=fg.row;have c1:=ae hv 0;have f1:=aD hv 0;simp at c1;have t1:=ae kb;have hA:Below W2.heap.size W2 (W2.alloc (.cells m.c 165)):=by go_grown
  have da:=aa (aW.up hA)
  have bj:∀ j u',m.c.toList[j]?=some u'->(W2.alloc (.cells m.c 165)).cell? (Addr.add ⟨W2.heap.size,0,none⟩ j)=some u':=fun j u' hj=>by
   have e1:(Addr.add ⟨W2.heap.size,0,none⟩ j)=⟨W2.heap.size,j,none⟩:=by unfold Addr.add;split<;>simp_all
   rw[e1,ae (ar W2 _)];simpa using hj
  have bZ:=aa bj;have HV:=aa hv;have FH:=aa C5;have iu:=fg.old.size;obtain⟨av,cv,rfl⟩:=aW.slice;have bH:∀ g,(Value.slice av i cv).ownBlock=some g->g≠w.heap.size:=aW.ne hv (by decide);have qJ:=aa bH;clear fg kb hv aW bj C5 HI bH
  gi_wp2_with (gi_at_builtin;(refine mm _ rfl (.tmp 8) (.tmp 10) 63 rfl w.heap.size 165 i0 _ 4 40 Tryz.underlying63 fZ dp du eB rfl (by decide) _ i _ rfl da.out ⟨W2.heap.size,0,none⟩ 1 1 m.c.toList rfl rfl bZ.out (by simp[Value.oneCell']) (by unfold maxLen;omega) (by omega) (by simp;omega) ?_;intro v' w3 dE cP lG;obtain⟨av',cv',rfl⟩:=dE.slice;have gQ:=(cP.block _ (aB (aq _ HV.out)) (fun e=>qJ.out _ e.symm rfl)).trans (aq _ HV.out);have c3:=ae gQ 0;have f3:=aD gQ 0;simp at c3))
  have bA:Below w.heap.size w w3:=Below.grown (fA.out.old.alloc iu _) cP (by simp;omega) (fun g hg=>(da.out.lt g hg).1);have ks:=cP.size;simp only[World.size_alloc]at ks
  have CH:∀ k,T k->w3.heap[k]?=W2.heap[k]?:=fun k hk=>by
   have h1:=fA.out.lt k hk;rw[cP.block k (by simp;omega) (fun e=>FH.out k e.symm hk)];exact Below.heap_alloc W2 _ k h1
  refine⟨⟨by simp;omega,fun k hk=>?_,fun k o hB hk ho=>?_⟩,⟨bA.setCell (p:=⟨w.heap.size,0,none⟩) (by simp) _,fun k hk=>?_,fA.out.notB,?_⟩⟩
  ·rw[Below.heap_setCell _ _ _ _ (fun e=>fA.out.notB (by dsimp only at e;rw[<-e];exact hk))]
   exact CH k hk
  ·have bH:some k≠(Value.slice av i cv).ownBlock:=da.out.isCells (aq _ hk) ho
   refine aI (B:=w.heap.size) ?_ (by omega) _ _;exact(cP.block k (by have:=aB hk;simp;omega) bH).trans (aq _ hk)
  ·have:=fA.out.lt k hk
   simp;omega
  ·refine⟨_,by rw[aE gQ];rfl,?_,?_⟩
   ·rw[wy.out]
    exact dE.put (dE.ne gQ (by decide)) _ _
   ·intro g hg FG
    rcases lG with h1|h1
    ·exact FH.out g (h1 ▸ hg) FG
    ·have:=fA.out.lt g FG
     rw[h1]at hg;simp at hg;omega
 case done=>
  intro D T W hD hI hK;obtain⟨v,hv,aW,_⟩:=hI.row;have c1:=ae hv 0;simp at c1;obtain⟨av,cv,rfl⟩:=aW.slice;have da:=aa aW;have DX:=aa hI.old;clear hI hv aW bP
  go_wp2_with fail
  refine dH hK (results_tmp rfl _ _ _) ?_;refine⟨_,rfl,?_,cT (by omega) DX.out⟩;rw[List.take_of_length_le (Nat.le_refl _)]at da;exact da.out.ck (fun k o hk ho=>(World.putObj_heap_other (fun e=>by subst e;rw[hK]at hk;cases hk;cases ho)).trans hk)
 case stop=>
  intro D c i T W _ _ h;exact h.elim
theorem GY(gf:Nat) (lb:Array Value) (eg:∀ args w,(callFunc gf args).run Tryz.prog w=.ok (.enter gf args) w) (xs:List Msg) (hn:xs.length<=1048576) (S:Nat->Prop) (w:World)
  (bP:pB Tryz.prog gf lb (fun i args _ _=>args=#[.agg (xs.getD i default).c]) xs.length S w) (hS:∀ k,S k->k<w.heap.size) :
  Calls Tryz.prog 175 #[.func (.func gf) #[] lb] w fun e w'=>∃ v,e=.returned v/\aL w' w.heap.size 165 4 v xs.length (kI xs)/\Below w.heap.size w w':=by
 have HC:=aa (Dz gf lb eg xs hn S w bP hS);clear bP eg
 go_enter Tryz.func175,Tryz.ntmps175
 go_wp2_with fail
 refine HC.out.mono ?_;rintro e w1 ⟨v,rfl,hv,hb⟩;have HV:=aa hv;obtain⟨av,cv,rfl⟩:=hv.slice;clear hv
 go_wp2_with fail
 go_ret
 exact⟨_,rfl,HV.out,hb⟩
abbrev BD(n b:Nat):Value:=.slice (some ⟨b,0,none⟩) n n
structure CV (w:World) (B2 n n0:Nat) (L:List (List Int)) (i:Nat) (T:Nat->Prop) (W:World):Prop where
 old:Below w.heap.size w W
 lt:∀ k,T k->k<W.heap.size
 notB:¬ T B2
 row:∃ (v:Value) (bs:List Nat),W.heap[B2]?=some (.cells #[v] 30)/\aL W w.heap.size 36 1 v i (bs.map (BD n))/\(∀ g,v.ownBlock=some g->¬ T g)/\bs.length=i/\∀ j (hj:j<bs.length),(T bs[j]/\n0<=bs[j])/\W.heap[bs[j]]?=some (.cells (dA (L.getD j [])) 3)
theorem CV.next{w:World} {B2 n n0:Nat} {L:List (List Int)} {i B:Nat} {T T':Nat->Prop} {A A':World} (h:CV w B2 n n0 L i T A) (hB:w.heap.size<=B) (hc:Chg B A A') (hw:mA A A' T T'):CV w B2 n n0 L i T' A':=by
 obtain⟨v,bs,h1,h2,h3,h4,h5⟩:=h.row
 have hn:∀ g,g<A.heap.size->¬ T g->¬ T' g:=fun g hg h ht=>by
  rcases hw.2 g ht with h4|h4
  ·exact h h4
  ·omega
 exact⟨hc.below hB h.old.size h.old,fun k hk=>by
  rcases hw.2 k hk with h4|h4
  ·exact Nat.lt_of_lt_of_le (h.lt k h4) hc.size
  ·exact h4.2,hn _ (aB h1) h.notB,v,bs,hc.ck _ _ h1 rfl,h2.ck hc.ck,fun g hg=>hn _ (h2.lt g hg).2 (h3 g hg),h4,fun j hj=>⟨⟨hw.1 _ (h5 j hj).1.1,(h5 j hj).1.2⟩,hc.ck _ _ (h5 j hj).2 rfl⟩⟩
theorem DA(gf:Nat) (lb:Array Value) (eg:∀ args w,(callFunc gf args).run Tryz.prog w=.ok (.enter gf args) w) (L:List (List Int)) (n n0:Nat) (hn:L.length<=1048576) (S:Nat->Prop) (w:World)
  (bP:pB Tryz.prog gf lb (EN L n n0) L.length S w) (hS:∀ k,S k->k<w.heap.size) :
  Calls Tryz.prog 146 #[.slice none 0 0,.func (.func gf) #[] lb] w fun e w'=>∃ (v:Value) (bs:List Nat),e=.returned v/\aL w' w.heap.size 36 1 v L.length (bs.map (BD n))/\bs.length=L.length/\(∀ j (hj:j<bs.length),n0<=bs[j]/\w'.heap[bs[j]]?=some (.cells (dA (L.getD j [])) 3))/\Below w.heap.size w w':=by
 obtain⟨i0,fZ,dp,du,eB⟩:=info_parts Tryz.infoInts;refine eI Tryz.func146 rfl ?_;simp only[Tryz.ntmps146,List.size_toArray,List.length_cons,List.length_nil,Nat.reduceAdd,Nat.reduceSub,Array.replicate_succ,Array.replicate_zero,List.push_toArray,List.append_toArray,List.nil_append,List.cons_append]
 go_wp2_with fail
 refine bw (fun W=>Below w.heap.size w W/\W.heap[w.heap.size]?=some (.cells #[.slice none 0 0] 30)) ⟨by go_grown,ar _ _⟩ (fun W0 bd=>?_);obtain⟨aH,kg⟩:=bd;have dM:=aB kg
 refine uP (gf:=gf) (lb:=lb) rfl eg bP aH (fun k hk=>Nat.lt_of_lt_of_le (hS k hk) aH.size) (fun i args _ _ h=>by obtain⟨b,h,_⟩:=h;rw[h];rfl)
  (CV w w.heap.size n n0 L) (fun _ _ _ _=>False)
  (fun i T T' A A' h hc hw=>h.next (Nat.le_of_lt dM) hc hw) (fun _ _ _ _ _ _ h _ _=>h)
  ⟨aH,fun k hk=>Nat.lt_of_lt_of_le (hS k hk) aH.size,fun h=>Nat.lt_irrefl _ (hS _ h),_,[],kg,aL.nil _ _ _ _,(fun g hg=>by cases hg),rfl,(fun j hj=>by simp at hj)⟩ ?round ?done ?stop
 case round=>
  rintro l i T W args hi hl hlW hTl ⟨b,rfl,hTb,hn0b,hb⟩ hI;have HI:=aa hI;have SO:=hI.old.size;have HB:=aa hb;clear hI bP hb
  gi_wp2
  refine⟨Bod.refl _ _ _,fun W'=>CV w w.heap.size n n0 L i T W'/\W'.heap[b]?=some (.cells (dA (L.getD i [])) 3),fun A A' hc h=>⟨h.1.next (Nat.le_of_lt dM) hc (mA.refl _ _ _),hc.ck _ _ h.2 rfl⟩,⟨HI.out,HB.out⟩,fun W2 h2=>?_⟩
  intros
  obtain⟨fg,kb⟩:=h2;have fA:=aa fg;have jO:=aa kb;obtain⟨v,bs,hv,aW,C5,fh,dJ⟩:=fg.row;have c1:=ae hv 0;have f1:=aD hv 0;simp at c1;have hA:Below W2.heap.size W2 (W2.alloc (.cells #[BD n b] 36)):=by go_grown
  have da:=aa (aW.up hA)
  have bj:∀ j u',[BD n b][j]?=some u'->(W2.alloc (.cells #[BD n b] 36)).cell? (Addr.add ⟨W2.heap.size,0,none⟩ j)=some u':=fun j u' hj=>by
   have e1:(Addr.add ⟨W2.heap.size,0,none⟩ j)=⟨W2.heap.size,j,none⟩:=by unfold Addr.add;split<;>simp_all
   rw[e1,ae (ar W2 _)];simpa using hj
  have bZ:=aa bj;have HV:=aa hv;have FH:=aa C5;have qH:=aa dJ;have kh:=aa fh;have iu:=fg.old.size;obtain⟨av,cv,rfl⟩:=aW.slice;have bH:∀ g,(Value.slice av i cv).ownBlock=some g->g≠w.heap.size:=aW.ne hv (by decide);have qJ:=aa bH;clear fg kb hv aW bj C5 HI bH fh dJ
  gi_wp2_with (gi_at_builtin;(refine mm _ rfl (.tmp 8) (.tmp 10) 30 rfl w.heap.size 36 i0 _ 1 24 Tryz.underlying30 fZ dp du eB rfl (by decide) _ i _ rfl da.out ⟨W2.heap.size,0,none⟩ 1 1 [BD n b] rfl rfl bZ.out (by simp[Value.oneCell']) (by unfold maxLen;omega) (by omega) (by simp;omega) ?_;intro v' w3 dE cP lG;obtain⟨av',cv',rfl⟩:=dE.slice;have gQ:=(cP.block _ (aB (aq _ HV.out)) (fun e=>qJ.out _ e.symm rfl)).trans (aq _ HV.out);have c3:=ae gQ 0;have f3:=aD gQ 0;simp at c3))
  have bA:Below w.heap.size w w3:=Below.grown (fA.out.old.alloc iu _) cP (by simp;omega) (fun g hg=>(da.out.lt g hg).1);have ks:=cP.size;simp only[World.size_alloc]at ks
  have CH:∀ k,T k->w3.heap[k]?=W2.heap[k]?:=fun k hk=>by
   have h1:=fA.out.lt k hk;rw[cP.block k (by simp;omega) (fun e=>FH.out k e.symm hk)];exact Below.heap_alloc W2 _ k h1
  have VS:∀ k,T k->(w3.setCell ⟨w.heap.size,0,none⟩ (.slice av' (i+1) cv')).heap[k]?=W2.heap[k]?:=fun k hk=>by
   rw[Below.heap_setCell _ _ _ _ (fun e=>fA.out.notB (by dsimp only at e;rw[<-e];exact hk))];exact CH k hk
  refine⟨⟨by simp;omega,VS,fun k o hB hk ho=>?_⟩,⟨bA.setCell (p:=⟨w.heap.size,0,none⟩) (by simp) _,fun k hk=>?_,fA.out.notB,?_⟩⟩
  ·have bH:some k≠(Value.slice av i cv).ownBlock:=da.out.isCells (aq _ hk) ho
   refine aI (B:=w.heap.size) ?_ (by omega) _ _;exact(cP.block k (by have:=aB hk;simp;omega) bH).trans (aq _ hk)
  ·have:=fA.out.lt k hk
   simp;omega
  ·refine⟨_,bs++[b],by rw[aE gQ];rfl,?_,?_,by rw[List.length_append,kh.out];rfl,?_⟩
   ·rw[List.map_append]
    exact dE.put (dE.ne gQ (by decide)) _ _
   ·intro g hg FG
    rcases lG with h1|h1
    ·exact FH.out g (h1 ▸ hg) FG
    ·have:=fA.out.lt g FG
     rw[h1]at hg;simp at hg;omega
   ·intro j hj
    by_cases mE:j<bs.length
    ·rw[List.getElem_append_left mE]
     exact⟨(qH.out j mE).1,(VS _ (qH.out j mE).1.1).trans (qH.out j mE).2⟩
    ·have qf:j=bs.length:=by simp at hj;omega
     subst qf;rw[List.getElem_append_right (Nat.le_refl _)];simp only[Nat.sub_self,List.getElem_cons_zero];exact⟨⟨hTb,hn0b⟩,(VS _ hTb).trans (by rw[kh.out];exact jO.out)⟩
 case done=>
  intro D T W hD hI hK;obtain⟨v,bs,hv,aW,_,fh,dJ⟩:=hI.row;have c1:=ae hv 0;simp at c1;obtain⟨av,cv,rfl⟩:=aW.slice;have da:=aa aW;have DX:=aa hI.old;have qH:=aa dJ;have kh:=aa fh;clear hI hv aW bP fh dJ
  go_wp2_with fail
  refine dH hK (results_tmp rfl _ _ _) ?_;have fM:CK W (W.putObj D (.deferred none)):=fun k o hk ho=>(World.putObj_heap_other (fun e=>by subst e;rw[hK]at hk;cases hk;cases ho)).trans hk
  exact⟨_,bs,rfl,da.out.ck fM,kh.out,fun j hj=>⟨(qH.out j hj).1.2,fM _ _ (qH.out j hj).2 rfl⟩,cT (by omega) DX.out⟩
 case stop=>
  intro D c i T W _ _ h;exact h.elim
theorem Qr{w:World} {base n:Nat} {v:Value} {L:List (List Int)} {bs:List Nat} (h:aL w base 36 1 v L.length (bs.map (BD n))) (hl:bs.length=L.length) (hb:∀ j (hj:j<bs.length),w.heap[bs[j]]?=some (.cells (dA (L.getD j [])) 3))
  (hx:∀ x∈L,x.length=n/\∀ i,i<x.length->bK (x.getD i 0)) (hn:L.length<=17592186044416) (n9:n<=256):bF w v L:=by
 have aM:∀ i (hi:i<L.length),∃ g c,v=.slice (some ⟨g,0,none⟩) L.length c/\w.cell? ⟨g,i,none⟩=some (BD n (bs[i]'(by omega))):=fun i hi=>h.cell i _ (by rw[List.getElem?_map,List.getElem?_eq_getElem (by omega)];rfl)
 have rL:∀ i (hi:i<L.length),aU w (BD n (bs[i]'(by omega))) L[i]:=fun i hi=>by
  have h1:=hb i (by omega);have h2:=hx L[i] (List.getElem_mem hi);rw[aA [] hi]at h1;exact uM h2.1 n9 h1 h2.2
 rcases h.2 with ⟨rfl,hz⟩|⟨g,cap,cur,fz,rfl,_,hg,_,kj,fg,_,_⟩
 ·refine⟨none,0,by rw[hz],⟨by omega,by omega,fun _=>rfl⟩,hn,fun i x hi=>?_⟩
  have:=(List.getElem?_eq_some_iff.1 hi).1;omega
 ·refine⟨some ⟨g,0,none⟩,cap,rfl,⟨kj,by simp only[maxLen]at fg;omega,fun e=>by cases e⟩,hn,fun i x hi=>⟨g,0,rfl,?_⟩⟩
  obtain⟨dI,rfl⟩:=List.getElem?_eq_some_iff.1 hi;obtain⟨g',c',e1,e2⟩:=aM i dI;have:g=g':=by simp at e1;exact e1.1
  subst this;exact⟨_,by rw[Nat.zero_add,Nat.mul_one];exact e2,rL i dI⟩
def cQ(base:Nat) (w W:World):Prop:=∀ k o,base<=k->w.heap[k]?=some o->o.isCells=true->W.heap[k]?=some o
theorem cQ.refl(base:Nat) (w:World):cQ base w w:=fun _ _ _ h _=>h
theorem cQ.mono{b b':Nat} {w W:World} (h:cQ b w W) (hb:b<=b'):cQ b' w W:=fun k o hk ho hc=>h k o (Nat.le_trans hb hk) ho hc
theorem aL.keeps{w W:World} {b base size:Nat} {e:TypeId} {v:Value} {n:Nat} {xs:List Value} (h:aL w base e size v n xs) (hk:cQ b w W) (hb:b<=base):aL W base e size v n xs:=by
 obtain⟨hl,h⟩:=h;refine⟨hl,?_⟩;rcases h with h|⟨g,cap,cur,fz,h1,h2,h3,h4⟩
 ·exact .inl h
 ·exact .inr ⟨g,cap,cur,fz,h1,h2,hk _ _ (Nat.le_trans hb h2) h3 rfl,h4⟩
theorem GZ(gf:Nat) (lb:Array Value) (eg:∀ args w,(callFunc gf args).run Tryz.prog w=.ok (.enter gf args) w) (L:List (List Int)) (n n0:Nat) (hn:L.length<=1048576) (S:Nat->Prop) (w:World)
  (bP:pB Tryz.prog gf lb (EN L n n0) L.length S w) (hS:∀ k,S k->k<w.heap.size) (hx:∀ x∈L,x.length=n/\∀ i,i<x.length->bK (x.getD i 0)) (n9:n<=256) (sP:n0<=w.heap.size) :
  Calls Tryz.prog 112 #[.func (.func gf) #[] lb] w fun e w'=>∃ v,e=.returned v/\(∀ W,cQ n0 w' W->bF W v L)/\Below w.heap.size w w':=by
 have HC:=aa (DA gf lb eg L n n0 hn S w bP hS);have HX:=aa hx;clear bP eg hx
 go_enter Tryz.func112,Tryz.ntmps112
 go_wp2_with fail
 refine HC.out.mono ?_;rintro e w1 ⟨v,bs,rfl,hv,hl,dJ,hb⟩;have HV:=aa (fun W (hk:cQ n0 w1 W)=>Qr (hv.keeps hk sP) hl (fun j hj=>hk _ _ (dJ j hj).1 (dJ j hj).2 rfl) HX.out (by omega) n9);obtain⟨av,cv,rfl⟩:=hv.slice;clear hv hl dJ
 go_wp2_with fail
 go_ret
 exact⟨_,rfl,HV.out,hb⟩
end Go.Proofs.YtkfgpnbpcpdclaaGreat
namespace Go.Proofs.YtkfgpnbpcpdclaaGreat
open Go.RowKit Go Go.Shelf
theorem nA{m:Mac} {n r:Nat} (g:Good m n r) {inputs:List Int} {word:List Rd} (hl:inputs.length=n) (hi:∀ p,p<n->0<=inputs.getD p 0/\inputs.getD p 0<m.ins):∀ (k:Nat) (x:List Int),(eC m inputs word)[k]?=some x->At m n k x:=by
 intro k;by_cases hc:(cM m inputs).contains (-1)=true
 ·intro x hx;unfold eC at hx;rw[if_pos hc]at hx;simp at hx
 ·have PT:eC m inputs word=fG m 0 (cM m inputs) word:=by unfold eC;rw[if_neg hc]
  rw[PT];induction k with
  | zero=>
   intro x hx;rw[lm]at hx;cases hx;exact yR g hl hi (eq_false_of_ne_true hc)
  | succ k ih=>
   intro x hx;have aF:=(List.getElem?_eq_some_iff.1 hx).1;have kl:=qS m 0 (cM m inputs) word;have hk:k<word.length:=by omega
   obtain⟨y,hy⟩:∃ y,(fG m 0 (cM m inputs) word)[k]?=some y:=⟨_,List.getElem?_eq_getElem (by omega)⟩;have hs:=wM m 0 (cM m inputs) word k y hy hk;rw[Nat.zero_add]at hs;cases hn:pq m k y word[k] with
   | none=>have:=hs.2 hn;omega
   | some z=>
    have:=hs.1 z hn;rw[hx]at this;cases this;exact Bz g hn
theorem oZ{v:Value} {a b:Int} (h:a=b):Ending.returned (.tuple #[v,.int .i64 a])=.returned (.tuple #[v,.int .i64 b]):=by rw[h]
theorem Em{l:List Int} {lo hi:Int} (h:allB l lo hi=true):∀ p,p<l.length->lo<=l.getD p 0/\l.getD p 0<=hi:=fun p hp=>uO h p hp
theorem Qs(m:Mac) (vf vy vt vo vi vw:Value) (inputs:List Int) (word:List Rd) (w:World) (hf:bF w vf m.first) (hy:eZ w vy m.syms) (ht:dh w vt m.steps) (ho:fj w vo m.out) (hi:aU w vi inputs) (hw:bN w vw word) :
  Calls Tryz.prog 67 #[.agg (bX m vf vy vt vo),vi,vw] w fun e w'=>∃ v,e=.returned (.tuple #[v,.int .i64 (playE m inputs word)])/\(playE m inputs word=0->∀ W,cQ w.heap.size w' W->bF W v (eC m inputs word))/\(playE m inputs word≠0->v=.slice none 0 0)/\Below w.heap.size w w':=by
 have HF:=aa hf;have HY:=aa hy;have HT:=aa ht;have HO:=aa ho;have HI:=aa hi;have HW:=aa hw;have jK:=aa (fun W (hb:Below w.heap.size w W)=>ln m vf vy vt vo W (hf.up up_ints hb) (hy.up up_v3 hb) (ht.up up_step hb) (ho.up up_vecs hb));obtain⟨pf,cf,rfl,_⟩:=hf.at;obtain⟨py,cy,rfl,_⟩:=hy.at;obtain⟨pt,ct,rfl,_⟩:=ht.at;obtain⟨po,co,rfl,_⟩:=ho.at;obtain⟨pi,ci,rfl,li1,li2,_⟩:=hi.at;obtain⟨pw,cw,rfl,lw1,lw2,_⟩:=hw.at;clear hf hy ht ho hi hw;have HV:Hid (playE m inputs word=if checkE m≠0 then checkE m else if (inputs.length:Int)≠m.n then 15 else if !allB inputs 0 (m.ins - 1) then 2 else if wordE m.n word≠0 then wordE m.n word else if (word.length:Int)≠m.rounds then 15 else if ((eC m inputs word).length:Int)≠m.rounds+1 then 20 else 0):=by exact rfl
 generalize iT:playE m inputs word=pe at HV;clear iT
 go_enter Tryz.func67,Tryz.ntmps67
 go_wp2_with fail
 refine aT (fun W=>Below w.heap.size w W/\W.heap[w.heap.size]?=some (.cells (bX m (.slice pf m.first.length cf) (.slice py m.syms.length cy) (.slice pt m.steps.length ct) (.slice po m.out.length co)) 35)) ⟨by go_grown,ar _ _⟩ (fun W0 bd=>?_);obtain⟨aH,iw⟩:=bd;have PZ:=aa iw;clear iw;refine(jK.out W0 aH).mono ?_;rintro e w1 ⟨rfl,aG⟩;have dD:=aj aH aG;have jz:=aa (ak aG PZ.out);by_cases fM:checkE m=0
 case neg=>
  have HP:Hid (pe=checkE m):=by(have h:pe=checkE m:=by(rw[HV.out,if_pos fM]));exact h
  have Ro:(checkE m != 0)=true:=by simpa using fM
  have HCK0:=aa fM;clear fM
  go_wp2_with fail
  go_ret2
  exact⟨_,oZ HP.out.symm,fun h=>absurd (HP.out ▸ h) HCK0.out,fun _=>rfl,dD⟩
 obtain⟨n,r,g⟩:=sR fM;have HG:=aa g;rw[fM];rw[fM]at HV;clear g fM;have t1:=ae jz.out;by_cases dI:(inputs.length:Int)=m.n
 case neg=>
  have HP:Hid (pe=15):=by(have h:pe=15:=by(rw[HV.out,if_neg (by simp),if_pos dI]));exact h
  have hil':((inputs.length:Int) != m.n)=true:=by simpa using dI
  clear dI
  go_wp2_with fail
  go_ret2
  exact⟨_,oZ HP.out.symm,fun h=>absurd (HP.out ▸ h) (by decide),fun _=>rfl,dD⟩
 have hil':((inputs.length:Int) != m.n)=false:=by simpa using dI
 have zZ:=aa dI;clear dI;have Sd:=HG.out.ins
 go_wp2_with fail
 refine(rh _ inputs 0 (m.ins - 1) w1 (HI.out.up up_int dD)).mono ?_;rintro e w2 ⟨rfl,aS⟩;have dU:=aj dD aS;have jO:=aa (ak aS jz.out);clear t1;cases aM:allB inputs 0 (m.ins - 1) with
 | false=>
  have HP:Hid (pe=2):=by(have h:pe=2:=by(rw[HV.out,if_neg (by simp),if_neg (by simpa using zZ.out),aM];rfl));exact h
  clear aM
  go_wp2_with fail
  go_ret2
  exact⟨_,oZ HP.out.symm,fun h=>absurd (HP.out ▸ h) (by decide),fun _=>rfl,dU⟩
 | true=>
  have cU:Hid (pe=if wordE m.n word≠0 then wordE m.n word else if (word.length:Int)≠m.rounds then 15 else if ((eC m inputs word).length:Int)≠m.rounds+1 then 20 else 0):=by
   (have h:pe=if wordE m.n word≠0 then wordE m.n word else if (word.length:Int)≠m.rounds then 15 else if ((eC m inputs word).length:Int)≠m.rounds+1 then 20 else 0:=by(rw[HV.out,if_neg (by simp),if_neg (by simpa using zZ.out),aM];rfl));exact h
  have lO:=aa aM;clear aM HV;have t1:=ae jO.out
  go_wp2_with fail
  refine(GT m.n _ word w2 (HW.out.up up_round dU)).mono ?_;rintro e w3 ⟨rfl,bA⟩;have eT:=aj dU bA;have rX:=aa (ak bA jO.out);clear t1;by_cases rC:wordE m.n word=0
  case neg=>
   have HP:Hid (pe=wordE m.n word):=by(have h:pe=wordE m.n word:=by(rw[cU.out,if_pos rC]));exact h
   have hwe':(wordE m.n word != 0)=true:=by simpa using rC
   have SE:=aa rC;clear rC
   go_wp2_with fail
   go_ret2
   exact⟨_,oZ HP.out.symm,fun h=>absurd (HP.out ▸ h) SE.out,fun _=>rfl,eT⟩
  have SE:=aa rC;rw[rC];rw[rC]at cU;clear rC;have t1:=ae rX.out;by_cases qO:(word.length:Int)=m.rounds
  case neg=>
   have HP:Hid (pe=15):=by(have h:pe=15:=by(rw[cU.out,if_neg (by simp),if_pos qO]));exact h
   have hwl':((word.length:Int) != m.rounds)=true:=by simpa using qO
   clear qO
   go_wp2_with fail
   go_ret2
   exact⟨_,oZ HP.out.symm,fun h=>absurd (HP.out ▸ h) (by decide),fun _=>rfl,eT⟩
  have fE:Hid (pe=if ((eC m inputs word).length:Int)≠m.rounds+1 then 20 else 0):=by
   (have h:pe=if ((eC m inputs word).length:Int)≠m.rounds+1 then 20 else 0:=by(rw[cU.out,if_neg (by simp),if_neg (by simpa using qO)]));exact h
  have hwl':((word.length:Int) != m.rounds)=false:=by simpa using qO
  have Wg:=aa qO;clear qO cU
  go_wp2_with fail
  refine(Tt m _ _ _ _ _ _ _ _ _ _ _ _ _ _ _ _ _ _ _).mono ?_;rintro e w4 ⟨rfl,rfl⟩;clear t1 hwl' hil'
  go_wp2_with fail
  refine aT (fun W=>Below w3.heap.size w3 W/\W.heap[w3.heap.size]?=some (.cells (bX m (.slice pf m.first.length cf) (.slice py m.syms.length cy) (.slice pt m.steps.length ct) (.slice po m.out.length co)) 35)/\W.heap[w3.heap.size+1]?=some (.cells #[.slice pi inputs.length ci] 36)/\W.heap[w3.heap.size+1+1]?=some (.cells #[.slice pw word.length cw] 37))
   ⟨by go_grown,aq _ (aq _ (ar _ _)),aq _ (aX _ _ _),cV _ _ _ _⟩ (fun W4 hW4=>?_)
  obtain⟨bM,hA,hB,hC⟩:=hW4;have vq:=aj eT bM;have Rv:inputs.length=n:=by have h1:=zZ.out;have h2:=HG.out.hn;omega
  have zG:∀ p,p<n->0<=inputs.getD p 0/\inputs.getD p 0<m.ins:=fun p hp=>by have:=Em lO.out p (by omega);omega
  have hwlr:word.length=r:=by have h1:=Wg.out;have h2:=HG.out.hr;omega
  have hweN:wordE n word=0:=by have h1:=SE.out;rw[HG.out.hn]at h1;exact h1
  have bP:=Qn m n r HG.out _ _ _ _ _ _ inputs word w HF.out HY.out HT.out HO.out HI.out HW.out Rv zG hweN hwlr W4 vq w3.heap.size (w3.heap.size+1) (w3.heap.size+1+1) hA hB hC;have hfits:=nA HG.out (word:=word) Rv zG
  have cZ:(eC m inputs word).length<=7:=by
   have h1:=HG.out.r6;unfold eC;split
   ·simp
   ·have:=qS m 0 (cM m inputs) word;omega
  have hszC:=aB hC;have dJ:=vq.size;have kr:=HG.out.n5
  have HCOL:=aa (GZ 147 _ (enters_of Tryz.func147 (by kernel_rfl) rfl) (eC m inputs word) n _ (by omega) _ W4 bP (fun k hk=>by rcases hk with hk|hk|hk|hk<;>omega) (fun x hx=>by
   obtain⟨k,hk,rfl⟩:=List.getElem_of_mem hx;have hf:=hfits k _ (List.getElem?_eq_getElem hk)
   have kV:k<r+1:=by
    have:(eC m inputs word).length<=word.length+1:=by
     unfold eC;split
     ·simp
     ·exact qS _ _ _ _
    omega
   exact⟨hf.1,Kg hf (fun q hq=>GU HO.out k q (by rw[HG.out.ol];exact kV) (by rw[HG.out.ok k kV];exact hq))⟩) (by omega) (Nat.le_refl _))
  clear bP hfits hA hB hC cZ Rv zG hwlr hweN;refine HCOL.out.mono ?_;rintro e w5 ⟨v,rfl,hv,dy⟩;have Iy:=aj vq dy;have IZ:=aa (ak (aj bM dy) rX.out);have FC:=aa (fun W (hk:cQ w.heap.size w5 W)=>hv W (hk.mono vq.size));obtain⟨pv,cv,rfl,lv1,lv2,_⟩:=(hv w5 (cQ.refl _ _)).at;clear hv HCOL;have t1:=ae IZ.out;have FU:=HG.out.r6;have Cr:=aa HG.out.hr;generalize FN:eC m inputs word=L at fE FC lv1 lv2;have FS:=aa FN;clear FN;have VE:0<=m.rounds/\m.rounds<=6:=by have:=HG.out.hr;omega
  by_cases hL:(L.length:Int)=m.rounds+1
  ·have HP:Hid (pe=0):=by(have h:pe=0:=by(rw[fE.out,if_neg (by simpa using hL)]));exact h
   have hL':((L.length:Int) != m.rounds+1)=false:=by simpa using hL
   clear hL
   go_wp2_with fail
   go_ret2
   exact⟨.slice pv L.length cv,oZ HP.out.symm,fun _=>by rw[FS.out];exact FC.out,fun h=>absurd HP.out h,Iy⟩
  ·have HP:Hid (pe=20):=by(have h:pe=20:=by(rw[fE.out,if_pos hL]));exact h
   have hL':((L.length:Int) != m.rounds+1)=true:=by simpa using hL
   clear hL
   go_wp2_with fail
   go_ret2
   exact⟨_,oZ HP.out.symm,fun h=>absurd (HP.out ▸ h) (by decide),fun _=>rfl,Iy⟩
theorem Aw(w:World) (o:Obj):Below w.heap.size w (w.drew.alloc o):=((Below.refl _ w).drew).alloc (by simp) o
theorem BE(b:ByteArray) (hb:b.size<=140737488351232) (w:World):∃ cap W',(convert 9 255 (.string b)).run Tryz.prog w=.ok (.slice (some ⟨w.heap.size,0,none⟩) b.size cap) W'/\Below w.heap.size w W'/\b.size<=cap/\cap<=maxLen ∧
  W'.heap[w.heap.size]?=some (.cells (bytesRow b cap) 5 ((bytesRow b cap).size,(bytesRow b cap).size+1)):=
 ⟨_,_,run_bytes_of_string w _ _ 5 b Tryz.underlying9 Tryz.underlying255 Tryz.underlying5,Aw _ _,grownCap_ge _ _ _ _,grownCap_le_maxLen _ _ _ _ (by simp only[maxLen];omega),heap_alloc_new w.drew _⟩
theorem Tv(m s k x:Nat):((s:Int)+((k:Int)+1) % (m:Int) * (x:Int)) % (m:Int)=(((s+(k+1) % m * x) % m:Nat):Int):=by push_cast;rfl
theorem Kj(x:UInt8):x.toNat<256:=x.toNat_lt
theorem En(b:ByteArray) (k:Nat) (hk:k<b.size):b.data[k]'hk=b.data.toList.getD k 0:=by
 have h:k<b.data.toList.length:=by simpa using hk
 rw[List.getD_eq_getElem?_getD,List.getElem?_eq_getElem h];simp
theorem wX(b:ByteArray) (hb:b.size<=140737488351232) (w:World) :
  Calls Tryz.prog 176 #[.string b] w fun e w'=>e=.returned (.int .i64 (ckS b.data.toList))/\Below w.heap.size w w':=by
 obtain⟨cap,W1,hc,aG,h1,h2,h3⟩:=BE b hb w;have CE:cap<=9223372036854775807:=by simp only[maxLen]at h2;omega
 have H3:=aa h3;clear h3 h2;have HK:Hid (ckS b.data.toList=ckAt b.data.toList b.size b.size):=by(have h:ckS b.data.toList=ckAt b.data.toList b.size b.size:=by(unfold ckS;simp));exact h
 go_enter Tryz.func176,Tryz.ntmps176
 go_wp2
 go_loop [3,12] (fun s i=>∃ k:Nat,k<=b.size/\i=.int .i64 k/\s=.int .i64 (ckAt b.data.toList b.size k)) (fun _ i=>b.size - (intOf i).toNat)
 case atStart=>exact⟨0,by omega,rfl,by simp[ckAt]⟩
 case round=>
  obtain⟨k,hk,rfl,rfl⟩:=hrel;by_cases aF:k<b.size
  ·have cx:W1.cell? ⟨w.heap.size,k,none⟩=some (.int .u8 ((b.data.toList.getD k 0).toNat:Int)):=by
    rw[ae H3.out,bytesRow_at b cap k aF,En b k aF]
   have hs:=Ke b.data.toList b.size k;have HS:Hid (ckAt b.data.toList b.size (k+1)=(ckAt b.data.toList b.size k+(k+1) % 65521 * (b.data.toList.getD k 0).toNat) % 65521):=by exact rfl
   have hx:=Kj (b.data.toList.getD k 0);generalize (b.data.toList.getD k 0).toNat=x at cx hx HS;generalize ckAt b.data.toList b.size k=s at hs HS;have hm:((k:Int)+1) % 65521 * (x:Int)<=65520 * 255:=Int.mul_le_mul (by omega) (by omega) (by omega) (by omega);have Cn:0<=((k:Int)+1) % 65521 * (x:Int):=Int.mul_nonneg (by omega) (by omega);have mf:IntKind.i64.wrap (((k:Int)+1) % 65521 * (x:Int))=((k:Int)+1) % 65521 * (x:Int):=IntWalk.i64_in _ (by omega);have oN:IntKind.i64.wrap ((s:Int)+((k:Int)+1) % 65521 * (x:Int))=(s:Int)+((k:Int)+1) % 65521 * (x:Int):=IntWalk.i64_in _ (by omega);have HM:=aa (And.intro hm Cn);clear hm Cn
   go_wp2
   go_round
   case rel=>exact⟨k+1,by omega,by go_num,by rw[HS.out,<-Tv 65521];rfl⟩
   case measure=>simp[intOf];omega
  ·obtain rfl:k=b.size:=by omega
   go_wp2
   go_ret
   exact⟨aC (by rw[HK.out]),aG⟩
abbrev gz(b:UInt8):Value:=.int .u8 (b.toNat:Int)
theorem Tryz.infoByte:(Tryz.prog.info? 5).map (fun i=>(i.zero,i.size,i.bytes))=some (some (.int .u8 0),1,1):=by kernel_rfl
theorem T8(y:Nat) (hy:y<9223372036854775808):bits .and .i64 (y:Int) 127=((y % 128:Nat):Int):=by
 have:=JB y 127 hy (by omega);rw[show ((127:Nat):Int)=127 by rfl]at this;rw[this,show (127:Nat)=2 ^ 7 - 1 by rfl,Nat.and_two_pow_sub_one_eq_mod]
theorem WF(y:Nat) (hy:y<128):bits .or .i64 (y:Int) 128=((y+128:Nat):Int):=by
 have key:∀ a:Fin 128,bits .or .i64 ((a.val:Nat):Int) 128=((a.val+128:Nat):Int):=by decide +kernel
 exact key ⟨y,hy⟩
theorem wY(y:Nat) (hy:y<256):IntKind.u8.wrap (y:Int)=(y:Int):=by
 have key:∀ a:Fin 256,IntKind.u8.wrap ((a.val:Nat):Int)=((a.val:Nat):Int):=by decide +kernel
 exact key ⟨y,hy⟩
theorem jG(y:Nat) (hy:y<256):gz (UInt8.ofNat y)=.int .u8 (y:Int):=by
 simp[Nat.mod_eq_of_lt hy]
theorem G0(y:Nat) (h:127<y):lp y=UInt8.ofNat (y % 128+128) :: lp (y / 128):=by rw[lp,if_neg (by omega)]
theorem uR(y:Nat) (h:y<=127):lp y=[UInt8.ofNat y]:=by rw[lp,if_pos h]
theorem Ay(y:Nat) (h:y<18446744073709551616):(lp y).length<=64:=by
 have key:∀ d,∀ y,y<128 ^ (d+1)->(lp y).length<=d+1:=by
  intro d;induction d with
  | zero=>intro y hy;rw[uR y (by omega)];simp
  | succ d ih=>
   intro y hy;by_cases hs:y<=127
   ·rw[uR y hs];simp
   ·rw[G0 y (by omega)]
    have:=ih (y / 128) (by rw[Nat.pow_succ]at hy;omega);simp;omega
 exact Nat.le_trans (key 9 y (by omega)) (by omega)
theorem Lt(b:ByteArray) (hb:b.size<=17592186044416) (w:World) :
  Calls Tryz.prog 151 #[.string b] w fun e w'=>∃ B u,e=.returned (.tuple #[.func (.func 184) #[] #[.pointer (some ⟨B,0,none⟩)],.func (.func 185) #[] #[.pointer (some ⟨B,0,none⟩)]])/\w'.heap[B]?=some (.cells #[u] 255)/\aL w' w.heap.size 5 1 u b.size (b.data.toList.map gz)/\w.heap.size<=B/\Below w.heap.size w w':=by
 obtain⟨cap,W1,hc,aG,h1,h2,h3⟩:=BE b (by omega) w
 have aW:aL W1 w.heap.size 5 1 (.slice (some ⟨w.heap.size,0,none⟩) b.size cap) b.size (b.data.toList.map gz):=by
  have dJ:b.data.size=b.size:=rfl;have sC:(bytesRow b cap).size=cap:=by simp[bytesRow];omega
  refine⟨by simp,.inr ⟨w.heap.size,cap,_,_,rfl,Nat.le_refl _,h3,fun i hi h=>?_,h1,h2,by rw[sC];omega,?_⟩⟩
  ·have:=h.1;omega
  ·rw[Nat.mul_one]
   unfold bytesRow;rw[Array.toList_append,List.take_append_of_le_length (by simp),List.take_of_length_le (by simp)];simp
 have da:=aa aW;have hz:=aG.size;have hzz:=aB h3;clear h1 h2 h3 aW
 go_enter Tryz.func151,Tryz.ntmps151
 go_wp2
 go_ret2
 exact⟨_,_,rfl,ar _ _,da.out.up (by go_grown),by omega,aj aG (by go_grown)⟩
theorem JJ(B:Nat) (u:Value) (w:World) (hu:∃ a n c,u=.slice a n c) (hB:w.heap[B]?=some (.cells #[u] 255)) :
  Calls Tryz.prog 185 #[.pointer (some ⟨B,0,none⟩)] w fun e w'=>e=.returned u/\w=w':=by
 obtain⟨a,n,c,rfl⟩:=hu;have c1:=ae hB 0;simp at c1;clear hB
 go_enter Tryz.func185,Tryz.ntmps185
 go_wp2
 go_ret
 exact⟨rfl,rfl⟩
theorem JK(sym:Nat) (hsym:sym<1099511627776) (Bl B base:Nat) (u:Value) (bs:List UInt8) (dJ:bs.length<=1048576) (W:World) (hL:W.heap[Bl]?=some (.cells #[.int .i64 (sym:Int)] 3)) (hB:W.heap[B]?=some (.cells #[u] 255)) (hu:aL W base 5 1 u bs.length (bs.map gz)) (hbB:base<=B) (_hbW:base<=W.heap.size) :
  Calls Tryz.prog 184 #[.int .i64 0,.slice (some ⟨Bl,0,none⟩) 1 1,.pointer (some ⟨B,0,none⟩)] W fun e W'=>(∃ x,e=.returned x)/\∃ u',W'.heap[B]?=some (.cells #[u'] 255)/\aL W' base 5 1 u' (bs++lp sym).length ((bs++lp sym).map gz)/\Below base W W':=by
 obtain⟨i0,fZ,dp,du,eB⟩:=info_parts Tryz.infoByte;have FP:=aa hL;have jC:=aa hB;have HU0:=aa hu;have Ab:(lp sym).length<=64:=Ay sym (by omega);have PW:Bl<W.heap.size:=aB hL;have t0:=ae hL 0;simp at t0;clear hL hB hu
 go_enter Tryz.func184,Tryz.ntmps184
 go_wp2_with fail
 clear t0
 go_loopw [9] (fun i wr=>Below base W wr/\wr.heap[Bl]?=some (.cells #[.int .i64 (sym:Int)] 3)/\∃ (u':Value) (l:List UInt8),((i=.int .i64 0/\l=bs)\/(i=.int .i64 1/\l=bs++lp sym))/\wr.heap[B]?=some (.cells #[u'] 255)/\aL wr base 5 1 u' l.length (l.map gz)) (fun i _=>1 - (intOf i).toNat)
 case atStart=>exact⟨Below.refl _ _,FP.out,u,bs,.inl ⟨rfl,rfl⟩,jC.out,HU0.out⟩
 case round=>
  clear jC HU0 FP;obtain⟨aJ,fh,u',l,bY,hv,aW⟩:=hrel;have t0:=ae fh 0;simp at t0;rcases bY with ⟨rfl,rfl⟩|⟨rfl,rfl⟩
  ·have uu:=aa (And.intro aJ (And.intro fh (And.intro hv aW)))
   clear aJ fh hv aW
   go_wp2_with fail
   clear t0;obtain⟨V0,qQ⟩:∃ V0:World,V0=wr:=⟨_,rfl⟩;rw[<-qQ]at uu ⊢;clear qQ wr
   go_loopw [6] (fun i wr=>Below base W wr/\wr.heap[Bl]?=some (.cells #[.int .i64 (sym:Int)] 3)/\∃ (y:Nat) (u':Value) (l':List UInt8),i=.int .i64 y/\y<=sym/\l'++lp y=l++lp sym/\wr.heap[B]?=some (.cells #[u'] 255)/\aL wr base 5 1 u' l'.length (l'.map gz)) (fun i _=>(intOf i).toNat)
   case atStart=>exact⟨uu.out.1,uu.out.2.1,sym,u',l,rfl,Nat.le_refl _,rfl,uu.out.2.2.1,uu.out.2.2.2⟩
   case round=>
    clear uu V0;obtain⟨aJ,fh,y,u',l',rfl,hy,DY,hv,aW⟩:=hrel;have Pj:l'.length<=1048640:=by have:=congrArg List.length DY;simp at this;omega
    by_cases hbig:127<y
    ·have hand:=T8 y (by omega)
     have li:=G0 y hbig;have Ru:y % 128<128:=by omega
     generalize y % 128=r0 at hand li Ru;have hor:=WF r0 Ru;obtain⟨z,hz⟩:∃ z,z=r0+128:=⟨_,rfl⟩;rw[<-hz]at hor li;have hzl:z<256:=by omega
     have CW:=wY z hzl;clear hz Ru;obtain⟨bb,fQ⟩:∃ bb:UInt8,bb=UInt8.ofNat z:=⟨_,rfl⟩;have hbv:Value.int .u8 ((z:Nat):Int)=gz bb:=by rw[fQ,jG _ (by omega)]
     have hA:Below wr.heap.size wr (wr.alloc (.cells #[gz bb] 5)):=by go_grown
     have da:=aa (aW.up hA)
     have bj:∀ j u',[gz bb][j]?=some u'->(wr.alloc (.cells #[gz bb] 5)).cell? (Addr.add ⟨wr.heap.size,0,none⟩ j)=some u':=fun j u' hj=>by
      have e1:(Addr.add ⟨wr.heap.size,0,none⟩ j)=⟨wr.heap.size,j,none⟩:=by unfold Addr.add;split<;>simp_all
      rw[e1,ae (ar wr _)];simpa using hj
     have bZ:=aa bj;have HV:=aa hv;have kh:=aa fh;have fu:=aa aJ;have jL:=aa fQ;have c1:=ae hv 0;have f1:=aD hv 0;simp at c1;have hsB:=aB hv;have hsL:=aB fh;obtain⟨av,cv,rfl⟩:=aW.slice;have bH:∀ g,(Value.slice av l'.length cv).ownBlock=some g->g≠B:=aW.ne hv (by decide);have xI:∀ g,(Value.slice av l'.length cv).ownBlock=some g->g≠Bl:=aW.ne fh (by decide);have qJ:=aa bH;have Iz:=aa xI;have dM:=aJ.size;have RH:=aa DY;clear bH xI aW bj hv fh fQ hA DY;have cU:=aa li;clear li
     go_wp2_with (at_builtin;(refine bO _ rfl (.tmp 20) (.tmp 25) 255 rfl base 5 i0 _ 1 1 Tryz.underlying255 fZ dp du eB rfl (by decide) _ l'.length _ rfl da.out ⟨wr.heap.size,0,none⟩ 1 1 [gz bb] rfl rfl bZ.out (by simp[Value.oneCell']) (by unfold maxLen;omega) (by omega) (by simp;omega) ?_;intro v' w3 dE cP lG;obtain⟨av',cv',rfl⟩:=dE.slice;have gQ:=(cP.block _ (aB (aq _ HV.out)) (fun e=>qJ.out _ e.symm rfl)).trans (aq _ HV.out);have c3:=ae gQ 0;have f3:=aD gQ 0;simp at c3))
     have bA:Below base W w3:=Below.grown (fu.out.alloc (by omega) _) cP (by simp;omega) (fun g hg=>(da.out.lt g hg).1);have Wq:=(cP.block _ (aB (aq _ kh.out)) (fun e=>Iz.out _ e.symm rfl)).trans (aq _ kh.out);have MB:=dE.put (dE.ne gQ (by decide)) 0 (.slice av' (l'.length+1) cv');have Mi:(l'++[bb]).length=l'.length+1:=by simp
     have RJ:Bl≠B:=fun e=>by have h1:=HV.out;have h2:=kh.out;rw[e,h1]at h2;cases h2
     go_roundw
     case rel=>exact⟨bA.setCell (p:=⟨B,0,none⟩) (by dsimp only;omega) _,aI Wq RJ _ _,y / 128,_,l'++[bb],by go_num,by omega,by rw[<-RH.out,cU.out,jL.out];simp,by rw[aE gQ];rfl,by rw[Mi,List.map_append];exact MB⟩
     case measure=>simp[intOf];omega
    ·have CW:=wY y (by omega)
     have li:=uR y (by omega);rw[li]at DY;obtain⟨bb,fQ⟩:∃ bb:UInt8,bb=UInt8.ofNat y:=⟨_,rfl⟩;have hbv:Value.int .u8 ((y:Nat):Int)=gz bb:=by rw[fQ,jG _ (by omega)]
     have hA:Below wr.heap.size wr (wr.alloc (.cells #[gz bb] 5)):=by go_grown
     have da:=aa (aW.up hA)
     have bj:∀ j u',[gz bb][j]?=some u'->(wr.alloc (.cells #[gz bb] 5)).cell? (Addr.add ⟨wr.heap.size,0,none⟩ j)=some u':=fun j u' hj=>by
      have e1:(Addr.add ⟨wr.heap.size,0,none⟩ j)=⟨wr.heap.size,j,none⟩:=by unfold Addr.add;split<;>simp_all
      rw[e1,ae (ar wr _)];simpa using hj
     have bZ:=aa bj;have HV:=aa hv;have kh:=aa fh;have fu:=aa aJ;have jL:=aa fQ;have c1:=ae hv 0;have f1:=aD hv 0;simp at c1;have hsB:=aB hv;have hsL:=aB fh;obtain⟨av,cv,rfl⟩:=aW.slice;have bH:∀ g,(Value.slice av l'.length cv).ownBlock=some g->g≠B:=aW.ne hv (by decide);have xI:∀ g,(Value.slice av l'.length cv).ownBlock=some g->g≠Bl:=aW.ne fh (by decide);have qJ:=aa bH;have Iz:=aa xI;have dM:=aJ.size;have RH:=aa DY;clear bH xI aW bj hv fh fQ hA DY;clear li
     go_wp2_with (at_builtin;(refine bO _ rfl (.tmp 27) (.tmp 30) 255 rfl base 5 i0 _ 1 1 Tryz.underlying255 fZ dp du eB rfl (by decide) _ l'.length _ rfl da.out ⟨wr.heap.size,0,none⟩ 1 1 [gz bb] rfl rfl bZ.out (by simp[Value.oneCell']) (by unfold maxLen;omega) (by omega) (by simp;omega) ?_;intro v' w3 dE cP lG;obtain⟨av',cv',rfl⟩:=dE.slice;have gQ:=(cP.block _ (aB (aq _ HV.out)) (fun e=>qJ.out _ e.symm rfl)).trans (aq _ HV.out);have c3:=ae gQ 0;have f3:=aD gQ 0;simp at c3))
     have bA:Below base W w3:=Below.grown (fu.out.alloc (by omega) _) cP (by simp;omega) (fun g hg=>(da.out.lt g hg).1);have Wq:=(cP.block _ (aB (aq _ kh.out)) (fun e=>Iz.out _ e.symm rfl)).trans (aq _ kh.out);have MB:=dE.put (dE.ne gQ (by decide)) 0 (.slice av' (l'.length+1) cv');have Mi:(l'++[bb]).length=l'.length+1:=by simp
     have RJ:Bl≠B:=fun e=>by have h1:=HV.out;have h2:=kh.out;rw[e,h1]at h2;cases h2
     go_roundw
     case rel=>exact⟨bA.setCell (p:=⟨B,0,none⟩) (by dsimp only;omega) _,aI Wq RJ _ _,_,l'++[bb],.inr ⟨by go_num,by rw[<-RH.out,jL.out]⟩,by rw[aE gQ];rfl,by rw[Mi,List.map_append];exact MB⟩
     case measure=>simp[intOf]
  ·have uu:=aa (And.intro aJ (And.intro hv aW))
   clear aJ fh hv aW t0
   go_wp2_with fail
   go_end0
   exact⟨⟨_,rfl⟩,_,uu.out.2.1,uu.out.2.2,uu.out.1⟩
structure Pw where
 rd:Int
 fr:Int
 to:Int
instance:DecidableEq Pw:=fun a b=>decidable_of_iff (a.rd=b.rd/\a.fr=b.fr/\a.to=b.to) (by cases a;cases b;simp)
abbrev Pw.c(x:Pw):Array Value:=#[.int .i64 x.rd,.int .i64 x.fr,.int .i64 x.to]
abbrev Pw.v(x:Pw):Value:=.agg x.c
theorem Tw(d:Nat) (a b:Pw) (w:World):(Op.equalIn (d+2) 216 a.v b.v).run Tryz.prog w=.ok (decide (a=b)) w:=by
 have hS:Tryz.prog.underlying 216=some (.struct (Tryz.prog.fieldsOf 216)):=by kernel_rfl
 have hp:Tryz.prog.stoodInHeld 216=false:=by kernel_rfl
 rw[run_equalIn_struct w (d+1) 216 _ _ hS hp];have ag:=Tryz.isAgg3;have u3:=Tryz.underlying3;simp only[Program.fieldsOf,Tryz.underlying216];simp[Op.eqFields,part,ag,run_equalIn_int w d 3 _ .i64 _ _ u3];obtain⟨n,k,h0⟩:=a;obtain⟨m,l,g0⟩:=b;by_cases hn:n=m
 case neg=>simp[hn]
 by_cases hk:k=l
 case neg=>simp[hn,hk]
 by_cases hh:h0=g0<;>simp[hn,hk,hh]
theorem kit_pw:KeyKit Tryz.prog 216 Pw.v:=
 ⟨fun a b w=>Tw 9998 a b w,fun em a w=>by kernel_rfl,⟨_,Tryz.underlying216⟩⟩
def ng(w:World) (v:Value) (i:Nat):Value:=match v with|.slice (some a) _ _=>(w.cell? ⟨a.block,a.off+i,none⟩).getD undef|_=>undef
theorem rj{w:World} {b o l c i:Nat} {x:Value} (h:w.cell? ⟨b,o+i,none⟩=some x):ng w (.slice (some ⟨b,o,none⟩) l c) i=x:=by simp[ng,h]
def rq(w:World) (vy:Value) (k p q:Nat):Value:=ng w (ng w (ng w vy k) p) q
def BG(w:World) (vy:Value) (n:Nat) (j:Nat):Option (Pw × Value):=if j / 5 % 5<n/\j % 5<n then some (⟨(j / 25:Nat),(j / 5 % 5:Nat),(j % 5:Nat)⟩,rq w vy (j / 25) (j / 5 % 5) (j % 5)) else none
def jn(w:World) (vy:Value) (n:Nat) (j:Nat):List (Pw × Value):=iA (BG w vy n) j
theorem Az(w:World) (vy:Value) (n k p q:Nat) (hp:p<5) (hq:q<5):BG w vy n (k * 25+p * 5+q)=if p<n/\q<n then some (⟨k,p,q⟩,rq w vy k p q) else none:=by
 unfold BG;rw[show (k * 25+p * 5+q) / 25=k by omega,show (k * 25+p * 5+q) / 5 % 5=p by omega,show (k * 25+p * 5+q) % 5=q by omega]
theorem WG(w:World) (vy:Value) (n k p:Nat) (hp:p<5) (hn:n<=5):jn w vy n (k * 25+p * 5+n)=jn w vy n (k * 25+(p+1) * 5):=by
 unfold jn;refine(qT (by omega) fun j h1 h2=>?_).symm;obtain⟨q,rfl⟩:∃ q,j=k * 25+p * 5+q:=⟨j - (k * 25+p * 5),by omega⟩;rw[Az w vy n k p q hp (by omega),if_neg (by omega)]
theorem WH(w:World) (vy:Value) (n k:Nat) (hn:n<=5):jn w vy n (k * 25+n * 5)=jn w vy n ((k+1) * 25):=by
 unfold jn;refine(qT (by omega) fun j h1 h2=>?_).symm;obtain⟨p,q,hq,rfl⟩:∃ p q,q<5/\j=k * 25+p * 5+q:=⟨(j - k * 25) / 5,(j - k * 25) % 5,by omega,by omega⟩;rw[Az w vy n k p q (by omega) hq,if_neg (by omega)]
theorem Kk(w:World) (vy:Value) {n k p q:Nat} (hn:n<=5) (hp:p<n) (hq:q<n):jn w vy n (k * 25+p * 5+(q+1))=jn w vy n (k * 25+p * 5+q)++[(⟨k,p,q⟩,rq w vy k p q)]:=by
 unfold jn;rw[show k * 25+p * 5+(q+1)=k * 25+p * 5+q+1 by omega];refine uI ?_;rw[Az w vy n k p q (by omega) (by omega),if_pos ⟨hp,hq⟩]
theorem G7(w:World) (vy:Value) {n k p q:Nat} (_hn:n<=5) (_hp:p<n) (_hq:q<n):eE (jn w vy n (k * 25+p * 5+q)) ⟨k,p,q⟩=none:=by
 refine Eh fun x hx e=>?_
 unfold jn iA at hx;rw[List.mem_filterMap]at hx;obtain⟨j,hj,hx⟩:=hx;rw[List.mem_range]at hj;unfold BG at hx;split at hx
 ·cases hx
  dsimp only at e;injection e with e1 e2 e3
  omega
 ·cases hx
theorem JL{K:Type} [DecidableEq K] {f g:List (K × Value)} {r:K} {x:Value} (h:eE f r=some x):eE (f++g) r=some x:=by
 unfold eE at h ⊢;rw[List.find?_append];rw[Option.map_eq_some_iff]at h;obtain⟨p,hp,rfl⟩:=h;rw[hp];rfl
theorem Np{K:Type} [DecidableEq K] {f:List (K × Value)} {r:K} {x:Value} (h:eE f r=none):eE (f++[(r,x)]) r=some x:=by
 unfold eE at h ⊢;rw[List.find?_append];rw[Option.map_eq_none_iff]at h;rw[h];simp
theorem Tx(w:World) (vy:Value) {n k p q J:Nat} (hn:n<=5) (hp:p<n) (hq:q<n) (hJ:k * 25+p * 5+q<J):eE (jn w vy n J) ⟨k,p,q⟩=some (rq w vy k p q):=by
 obtain⟨t,ht⟩:=wQ (BG w vy n) (show k * 25+p * 5+q+1<=J by omega);unfold jn;rw[<-ht];refine JL ?_;have:=Kk w vy (k:=k) hn hp hq;unfold jn at this;rw[show k * 25+p * 5+(q+1)=k * 25+p * 5+q+1 by omega]at this;rw[this];exact Np (G7 w vy hn hp hq)
theorem Nq{w:World} {vy:Value} {l:List (List (List (List Int)))} (h:eZ w vy l) (k p q:Nat) (hk:k<l.length) (hp:p<(l.getD k []).length) (hq:q<((l.getD k []).getD p []).length):aU w (rq w vy k p q) (((l.getD k []).getD p []).getD q []):=by
 obtain⟨a,c,rfl,_,_,e⟩:=h.at;obtain⟨b1,o1,rfl,x1,c1,h1⟩:=e k hk;rw[aA [] hk]at hp hq ⊢;obtain⟨a,c,rfl,_,_,e⟩:=h1.at;obtain⟨b2,o2,rfl,x2,c2,h2⟩:=e p hp;rw[aA [] hp]at hq ⊢;obtain⟨a,c,rfl,_,_,e⟩:=h2.at;obtain⟨b3,o3,rfl,x3,c3,h3⟩:=e q hq;rw[aA [] hq];rw[Nat.mul_one]at c1 c2 c3;unfold rq;rw[rj c1,rj c2,rj c3];exact h3
theorem JM(m:Mac) (n r:Nat) (g:Good m n r) (pf:Option Addr) (nf cf:Nat) (vy:Value) (pt:Option Addr) (nt ct:Nat) (po:Option Addr) (no co:Nat) (k p q:Nat) (hk:k<r) (hp:p<n) (hq:q<n) (w:World) (hy:eZ w vy m.syms) :
  Calls Tryz.prog 116 #[.agg (bX m (.slice pf nf cf) vy (.slice pt nt ct) (.slice po no co)),.agg #[.int .i64 k,.int .i64 p,.int .i64 q]] w fun e w'=>∃ v,e=.returned v/\aU w' v (((m.syms.getD k []).getD p []).getD q [])/\Below w.heap.size w w':=by
 have hIS:=Nq hy k p q (by rw[g.yl];exact hk) (by rw[g.yk k hk];exact hp) (by rw[g.yp k p hk hp];exact hq);have IG:=aa hIS;have HG:=aa g;have kr:=g.n5;have HR:=aa g.yl;clear g;generalize hE:jn w vy n=E;have HE:Hid (E=jn w vy n):=by(have h:E=jn w vy n:=hE.symm);exact h
 have D6:Hid (eE (E (m.syms.length * 25)) ⟨k,p,q⟩=some (rq w vy k p q)):=by(have h:eE (E (m.syms.length * 25)) ⟨k,p,q⟩=some (rq w vy k p q):=by(rw[<-hE];exact Tx w vy kr hp hq (by rw[HR.out];omega)));exact h
 clear hE;obtain⟨py,cy,C9,ly1,ly2,ey⟩:=hy.at;have HSV:Hid (∀ k' p' q',rq w vy k' p' q'=ng w (ng w (ng w (.slice py m.syms.length cy) k') p') q'):=by(have h:∀ k' p' q',rq w vy k' p' q'=ng w (ng w (ng w (.slice py m.syms.length cy) k') p') q':=fun _ _ _=>by(rw[C9];rfl));exact h
 have EY:=aa ey;rw[C9];have HVY:=aa C9;clear hy ey hIS C9;have Cz:=fun w=>Gt Tryz.prog 250 w
 go_enter Tryz.func116,Tryz.ntmps116
 go_wp2_with fail
 clear Cz;refine bw (fun W=>Below w.heap.size w W/\W.heap[w.heap.size+1]?=some (.cells #[.int .i64 k,.int .i64 p,.int .i64 q] 216)/\df Pw.v W (w.heap.size+1+1) []) ⟨by go_grown,aq _ (aX _ _ _),⟨#[],0,cV _ _ _ _,rfl⟩⟩ (fun W0 bd=>?_);obtain⟨aH,Cq,Pm⟩:=bd;have eN:∀ wr:World,Below w.heap.size w wr->w.heap.size+1+1<wr.heap.size->True:=fun _ _ _=>trivial
 clear eN
 go_loopw [16] (fun i wr=>∃ a:Nat,a<=m.syms.length/\i=.int .i64 a/\Below w.heap.size w wr/\wr.heap[w.heap.size+1]?=some (.cells #[.int .i64 k,.int .i64 p,.int .i64 q] 216)/\df Pw.v wr (w.heap.size+1+1) (E (a * 25))) (fun i _=>m.syms.length - (intOf i).toNat)
 case atStart=>exact⟨0,by omega,rfl,aH,Cq,by rw[HE.out];exact Pm⟩
 case round=>
  clear aH Cq Pm;obtain⟨a,ha,rfl,aJ,hP,hG⟩:=hrel;have dB:=aa (And.intro aJ (And.intro hP hG));have t2:=ae hP;clear hP hG;by_cases aF:a<m.syms.length
  ·obtain⟨b1,o1,rfl,x1,c1,h1⟩:=EY.out a aF
   have zB:(m.syms[a]).length=n:=by have:=HG.out.yk a (by rw[<-HR.out];exact aF);rwa [aA [] aF]at this
   have hap:∀ p',p'<n->(m.syms[a].getD p' []).length=n:=fun p' P1=>by have:=HG.out.yp a p' (by rw[<-HR.out];exact aF) P1;rwa [aA [] aF]at this
   rw[Nat.mul_one]at c1;have d1:=ay aJ c1;obtain⟨p1,q1,rfl,l11,l12,e1⟩:=h1.at;have rQ:Hid (ng w (.slice (some ⟨b1,o1,none⟩) m.syms.length cy) a=.slice p1 m.syms[a].length q1):=by(have h:ng w (.slice (some ⟨b1,o1,none⟩) m.syms.length cy) a=.slice p1 m.syms[a].length q1:=rj c1);exact h
   have E1:=aa e1;have HAP:=aa hap;have PM:=aa zB;clear c1 h1 e1 hap t2 zB;generalize m.syms[a]=l1 at d1 l11 l12 E1 HAP PM rQ
   go_wp2_with fail
   clear d1;obtain⟨V0,qQ⟩:∃ V0:World,V0=wr:=⟨_,rfl⟩;rw[<-qQ]at dB ⊢;clear qQ aJ wr
   go_loopw [23] (fun i wr=>∃ c:Nat,c<=l1.length/\i=.int .i64 c/\Below w.heap.size w wr/\wr.heap[w.heap.size+1]?=some (.cells #[.int .i64 k,.int .i64 p,.int .i64 q] 216)/\df Pw.v wr (w.heap.size+1+1) (E (a * 25+c * 5))) (fun i _=>l1.length - (intOf i).toNat)
   case atStart=>exact⟨0,by omega,rfl,dB.out.1,dB.out.2.1,dB.out.2.2⟩
   case round=>
    clear dB V0;obtain⟨c,hc,rfl,aJ,hP,hG⟩:=hrel;have dB:=aa (And.intro aJ (And.intro hP hG));clear hP hG;by_cases bW:c<l1.length
    ·have K8:c<n:=by have:=PM.out;omega
     obtain⟨b2,o2,rfl,x2,c2,h2⟩:=E1.out c bW;have hcq:l1[c].length=n:=by have:=HAP.out c K8;rwa [aA [] bW]at this
     rw[Nat.mul_one]at c2;have d2:=ay aJ c2;obtain⟨p2,q2,rfl,l21,l22,e2⟩:=h2.at;have gj:Hid (ng w (.slice (some ⟨b2,o2,none⟩) l1.length q1) c=.slice p2 l1[c].length q2):=by(have h:ng w (.slice (some ⟨b2,o2,none⟩) l1.length q1) c=.slice p2 l1[c].length q2:=rj c2);exact h
     have E2:=aa e2;have Va:=aa hcq;clear c2 h2 e2 hcq;generalize l1[c]=l2 at d2 l21 l22 E2 Va gj
     go_wp2_with fail
     clear d2;obtain⟨V1,PN⟩:∃ V1:World,V1=wr:=⟨_,rfl⟩;rw[<-PN]at dB ⊢;clear PN aJ wr
     go_loopw [30] (fun i wr=>∃ d:Nat,d<=l2.length/\i=.int .i64 d/\Below w.heap.size w wr/\wr.heap[w.heap.size+1]?=some (.cells #[.int .i64 k,.int .i64 p,.int .i64 q] 216)/\df Pw.v wr (w.heap.size+1+1) (E (a * 25+c * 5+d))) (fun i _=>l2.length - (intOf i).toNat)
     case atStart=>exact⟨0,by omega,rfl,dB.out.1,dB.out.2.1,dB.out.2.2⟩
     case round=>
      clear dB V1;obtain⟨d,hd,rfl,aJ,hP,hG⟩:=hrel;have lN:=hG.lt;by_cases lH:d<l2.length
      ·have OU:d<n:=by have:=Va.out;omega
       obtain⟨b3,o3,rfl,x3,c3,h3⟩:=E2.out d lH;rw[Nat.mul_one]at c3;have d3:=ay aJ c3;have SW:rq w vy a c d=x3:=by rw[HSV.out,rQ.out,gj.out,rj c3]
       obtain⟨p3,q3,rfl,l31,l32,_⟩:=h3.at;have jw:=G7 w vy (k:=a) kr K8 OU;have MK:=Kk w vy (k:=a) kr K8 OU;rw[SW]at MK;rw[<-HE.out]at jw MK;obtain⟨o,fY,CC⟩:=yo kit_pw (mt:=250) (vt:=36) Tryz.underlying250 hG ⟨a,c,d⟩ (.slice p3 l2[d].length q3) jw;rw[<-MK]at CC;have Jy:=aa CC;have Dh:=aa hP;have fu:=aa aJ;clear hG CC jw MK SW h3 c3 hP;generalize l2[d].length=l3 at d3 l31 l32 fY
       go_wp2_with fail
       go_roundw
       case rel=>exact⟨d+1,by omega,by go_num,cT (by omega) fu.out,(World.putObj_heap_other (by omega)).trans Dh.out,Jy.out⟩
       case measure=>simp[intOf];omega
      ·have OU:d=n:=by have:=Va.out;omega
       have dB:=aa (And.intro aJ (And.intro hP hG));have U0:Hid (E (a * 25+c * 5+d)=E (a * 25+(c+1) * 5)):=by(have h:E (a * 25+c * 5+d)=E (a * 25+(c+1) * 5):=by(rw[HE.out,OU];exact WG w vy n a c (by omega) kr));exact h
       clear hP hG OU
       go_wp2_with fail
       go_roundw
       case rel=>exact⟨c+1,by omega,by go_num,dB.out.1,dB.out.2.1,by rw[<-U0.out];exact dB.out.2.2⟩
       case measure=>simp[intOf];omega
    ·have K8:c=n:=by have:=PM.out;omega
     have U0:Hid (E (a * 25+c * 5)=E ((a+1) * 25)):=by(have h:E (a * 25+c * 5)=E ((a+1) * 25):=by(rw[HE.out,K8];exact WH w vy n a kr));exact h
     clear K8
     go_wp2_with fail
     go_roundw
     case rel=>exact⟨a+1,by omega,by go_num,dB.out.1,dB.out.2.1,by rw[<-U0.out];exact dB.out.2.2⟩
     case measure=>simp[intOf];omega
  ·obtain rfl:a=m.syms.length:=by omega
   have sH:=Qh kit_pw (mt:=250) (vt:=36) (z:=.slice none 0 0) Tryz.underlying250 (fun w=>by kernel_rfl) dB.out.2.2 ⟨k,p,q⟩;rw[D6.out]at sH;obtain⟨pv,cv,hv,_⟩:=(IG.out).at;have R8:=IG.out;rw[hv]at sH R8;have HIS2:=aa R8;clear R8 hv;generalize (((m.syms.getD k []).getD p []).getD q []).length=ll at sH HIS2
   go_wp2_with fail
   go_ret
   exact⟨_,rfl,HIS2.out.up up_int dB.out.1,dB.out.1⟩
theorem Eo{w:World} {base:Nat} {v:Value} {l:List UInt8} (h:aL w base 5 1 v l.length (l.map gz)) (hl:0<l.length):∃ g c,v=.slice (some ⟨g,0,none⟩) l.length c/\(convert 255 9 v).run Tryz.prog w=.ok (.string (bytesOf l)) w:=by
 rcases h.2 with ⟨_,hz⟩|⟨g,cap,cur,fz,rfl,_,hg,_,kj,_,_,_⟩
 ·omega
 ·refine⟨g,cap,rfl,?_⟩
  exact run_convert_bytes_back w _ _ 5 ⟨g,0,none⟩ cap l Tryz.underlying255 Tryz.underlying5 Tryz.underlying9 (fun j hj=>by
   obtain⟨g',c',e1,e2⟩:=h.cell j (gz l[j]) (by rw[List.getElem?_map,List.getElem?_eq_getElem hj];rfl);have:g=g':=by simp at e1;exact e1.1
   subst this;rw[<-e2];congr 1
   unfold Addr.add;split<;>simp_all)
theorem Lu(u:Value) (bs:List UInt8) (base:Nat) (w:World) (hu:aL w base 5 1 u bs.length (bs.map gz)) (h0:0<bs.length) (h1:bs.length<=1048576) (hb:base<=w.heap.size) :
  Calls Tryz.prog 152 #[u] w fun e w'=>e=.returned (.string (bytesOf (yn bs)))/\Below base w w':=by
 obtain⟨i0,fZ,dp,du,eB⟩:=info_parts Tryz.infoByte;obtain⟨g,c,rfl,Mz⟩:=Eo hu h0;have HU:=aa hu;have fM:=T6 bs;have jK:=aa (wX (bytesOf bs) (by show bs.toArray.size<=_;simp;omega) w);have lH:(bytesOf bs).data.toList=bs:=by simp[bytesOf]
 rw[lH]at jK;have KK:Hid (yn bs=bs++[UInt8.ofNat (ckS bs / 256),UInt8.ofNat (ckS bs % 256)]):=by exact rfl
 generalize ckS bs=ck at fM jK KK;obtain⟨z1,hz1'⟩:∃ z1,z1=ck / 256:=⟨_,rfl⟩;obtain⟨z2,hz2'⟩:∃ z2,z2=ck % 256:=⟨_,rfl⟩;rw[<-hz1',<-hz2']at KK;have mf:IntKind.u8.wrap ((ck:Int) / 256)=(z1:Int):=by rw[IntKind.wrap_u8];omega
 have oN:IntKind.u8.wrap (ck:Int)=(z2:Int):=by rw[IntKind.wrap_u8];omega
 have iy:=aa (jG z1 (by omega));have jy:=aa (jG z2 (by omega));clear hu lH hz1' hz2'
 go_enter Tryz.func152,Tryz.ntmps152
 go_wp2_with fail
 refine jK.out.mono ?_;rintro e w1 ⟨rfl,aG⟩;have hA:Below w1.heap.size w1 (w1.alloc (.cells #[.int .u8 (z1:Int),.int .u8 (z2:Int)] 5)):=by go_grown
 have da:=aa ((HU.out.up aG).up hA)
 have bj:∀ j u',[Value.int .u8 (z1:Int),.int .u8 (z2:Int)][j]?=some u'->(w1.alloc (.cells #[.int .u8 (z1:Int),.int .u8 (z2:Int)] 5)).cell? (Addr.add ⟨w1.heap.size,0,none⟩ j)=some u':=fun j u' hj=>by
  have e1:(Addr.add ⟨w1.heap.size,0,none⟩ j)=⟨w1.heap.size,j,none⟩:=by unfold Addr.add;split<;>simp_all
  rw[e1,ae (ar w1 _)];simpa using hj
 have bZ:=aa bj;have HB1':=aa aG;have jg:=aG.size;clear bj hA Mz
 go_wp2_with (at_builtin;(refine bO _ rfl (.tmp 7) (.tmp 13) 255 rfl base 5 i0 _ 1 1 Tryz.underlying255 fZ dp du eB rfl (by decide) _ bs.length _ rfl da.out ⟨w1.heap.size,0,none⟩ 2 2 [.int .u8 (z1:Int),.int .u8 (z2:Int)] rfl rfl bZ.out (by simp[Value.oneCell']) (by unfold maxLen;omega) (by omega) (by simp;omega) ?_;intro v' w3 dE cP lG;rw[<-iy.out,<-jy.out]at dE;obtain⟨g',c',rfl,K0⟩:=Eo (l:=yn bs) (by rw[KK.out];simpa using dE) (by rw[KK.out];simp);clear dE))
 go_ret
 refine⟨rfl,?_⟩;exact Below.grown ((HB1'.out.mono hb).alloc (by omega) _) cP (by simp;omega) (fun g hg=>(da.out.lt g hg).1)
end Go.Proofs.YtkfgpnbpcpdclaaGreat
