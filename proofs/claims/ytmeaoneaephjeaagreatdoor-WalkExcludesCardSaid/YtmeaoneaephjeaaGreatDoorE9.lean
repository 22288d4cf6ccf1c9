/-
  A part of the proof: lemmas and contracts that the parts behind it use. Each one's conditions are its own premises.
-/
import Derived.Test.YtmeaoneaephjeaaGreatDoorE8
set_option maxRecDepth 100000
set_option maxHeartbeats 8000000
set_option linter.unusedVariables false
set_option linter.unusedSimpArgs false
namespace Go.Proofs.YtmeaoneaephjeaaGreatDoor
open Go.RowKit Go Go.Shelf
attribute [local go_sem] Oper.semAt_some
theorem KS(s:Sys) (hv:verifyE s=0) (vc vs vt ve vl:Value) (l:List Lk) (w:World) (hs:IsSys w s vc vs vt ve) (hN:movesN s.prob.a.states<1099511627776) (hl:bN w vl l) :
  Calls Tryz.prog 95 #[.agg (bL s.prob vc vs s.n vt ve),vl] w fun e w'=>e=.returned (.int .i64 (walkE s l))/\Below w.heap.size w w':=by
 have HS:=aa hs;have HL:=aa hl;obtain⟨⟨pc,cc,rfl⟩,⟨ps,cs,rfl⟩,⟨pt,ct,rfl⟩,⟨pe,ce,rfl⟩⟩:=bD hs;obtain⟨pl,cl,rfl,lt1,lt2,el⟩:=hl.at;have EL:=aa el;clear hs hl el;have HC:=aa (fun W (hb:Below w.heap.size w W)=>EF s _ _ _ _ W (HS.o.up hb) hN);have dD:=aa (gE hv);have HV:=aa hv;have jf:=dD.o.n.2.1;have iR:am (l.length=0->walkE s l=16):=aa fun h=>by unfold walkE;rw[if_pos h]
 have gN:am (0<l.length->4096<l.length->walkE s l=5):=aa fun h h1=>by unfold walkE;rw[if_neg (by omega),if_pos h1]
 have cP:am (0<l.length->l.length<=4096->walkE s l=bm l.length (gD s l)):=aa fun h h1=>by unfold walkE;rw[if_neg (by omega),if_neg (by omega)]
 have Bu:am (∀ k,k<l.length->gD s l k=if (l.getD k default).x<0\/(eS s:Int)<=(l.getD k default).x then 6 else if k=0 then(if (l.getD k default).p≠-1 then 3 else 0) else if (l.getD k default).p<0\/(nS s:Int)<=(l.getD k default).p then 2 else if linkB s (l.getD k default).p.toNat (l.getD (k - 1) default).x.toNat (l.getD k default).x.toNat then 0 else 18):=aa fun k _=>rfl
 have HOKX:am (∀ k,gD s l k=0->0<=(l.getD k default).x/\(l.getD k default).x.toNat<eS s):=aa fun k h=>⟨((wK s l k).1 h).1,((wK s l k).1 h).2.1⟩
 clear hv
 go_enter Tryz.func95,Tryz.ntmps95
 go_wp2_with fail
 refine aO (fun W=>Below w.heap.size w W) (by go_grown) (fun W0 aG=>?_);refine(HC.o W0 aG).mono ?_;rintro e w1 ⟨v,rfl,aK,_,h2⟩;obtain⟨B,rfl,hF,-⟩:=h2 HV.o;rw[HV.o];have df:=ae aG aK;have dz:=aa df;have HF:=aa hF;clear aG aK h2 hF df HC;by_cases h0:l.length=0
 ·have HR:=aa (iR.o h0);have hd:(((l.length:Nat):Int) == 0)=true:=by simp[h0]
  clear h0
  go_wp2_with fail
  go_ret
  exact⟨aE (by rw[HR.o]),dz.o⟩
 have hd:(((l.length:Nat):Int) == 0)=false:=beq_eq_false_iff_ne.2 (by omega);have Tg:0<l.length:=by omega
 clear h0;by_cases h1:4096<l.length
 ·have HR:=aa (gN.o Tg h1)
  go_wp2_with fail
  go_ret
  exact⟨aE (by rw[HR.o]),dz.o⟩
 have dd:=aa (cP.o Tg (by omega))
 go_wp2_with fail
 clear hd h1 Tg iR gN cP
 go_loopw [28] (fun i wr=>∃ k:Nat,k<=l.length/\i=.int .i64 k/\Below w.heap.size w wr/\FinAt wr B s/\∀ j,j<k->gD s l j=0) (fun i _=>l.length - (intOf i).toNat)
 ·exact⟨0,by omega,rfl,dz.o,HF.o,fun j hj=>by omega⟩
 ·
  clear dz HF;obtain⟨k,hk,rfl,aA,hF,hz⟩:=hrel;have aV:=aa aA;have HF:=aa hF;have HZ:=aa hz;clear hF hz;by_cases aC:k<l.length
  ·obtain⟨b1,o1,rfl,h1⟩:=EL.o k aC;have c1:=ak aA h1.1.1;have c2:=ak aA h1.2.1;have HE:=aa (Bu.o k aC);have J5:am (∀ v:Int,gD s l k=v->v≠0->walkE s l=v):=aa fun v h1 h2=>by rw[dd.o];exact(bT k v aC HZ.o h1 h2).symm
   have hr:l.getD k default=l[k]:=az default aC;rw[hr]at HE;clear hr;generalize l[k]=y at c1 c2 HE h1;obtain⟨x,p⟩:=y;dsimp only at c1 c2 HE;clear h1 aA
   go_wp2_with fail
   clear c1 c2;refine aO (fun W=>Below w.heap.size w W/\FinAt W B s/\W.heap[wr.heap.size]?=some (.cells #[.int .i64 x,.int .i64 p] 75)) ⟨aV.o.alloc aV.o.size _,HF.o.up (by go_grown),ap _ _⟩ (fun W2 eI=>?_);obtain⟨aT,Xp,Qs⟩:=eI;refine(CI s B x W2 Xp).mono ?_;rintro e w3 ⟨rfl,bG⟩;have dE:=aa (ae aT bG);have Jp:=aa (Xp.up bG);have jb:=aa (af bG Qs);generalize wr.heap.size=g at jb;have tb:=ab jb.o;clear aT Xp Qs bG;by_cases hx:0<=x/\x<(eS s:Int)
   ·have hd:(decide (0<=x)&&decide (x<(eS s:Int)))=true:=by simp[hx]
    rw[hd];clear hd;by_cases ff:k=0
    ·subst ff;by_cases hp:p=-1
     ·subst hp;have gB:am (gD s l 0=0):=aa (by rw[HE.o,if_neg (by omega)];simp);clear hx
      go_wp2_with fail
      go_roundw
      ·exact⟨1,by omega,by go_num,dE.o,Jp.o,aY HZ.o gB.o⟩
      ·simp[intOf];omega
     ·have Q8:(p != -1)=true:=by simpa using hp
      have HR:=aa (J5.o 3 (by rw[HE.o,if_neg (by omega),if_pos rfl,if_pos hp]) (by decide));clear hx hp
      go_wp2_with fail
      go_ret
      exact⟨aE (by rw[HR.o]),dE.o⟩
    ·obtain⟨j,hj⟩:∃ j,k=j+1:=⟨k - 1,by omega⟩;have fL:j<l.length:=by omega
     have mo:((k:Int) == 0)=false:=by simp;omega
     have hX:=HOKX.o j (HZ.o j (by omega));have nu:am (gD s l k=if p<0\/(nS s:Int)<=p then 2 else if linkB s p.toNat (l.getD j default).x.toNat x.toNat then 0 else 18):=aa (by rw[HE.o,if_neg (by omega),if_neg ff,show k - 1=j by omega]);have jn:IntKind.i64.wrap ((k:Int) - 1)=(j:Int):=by rw[hj,IntWalk.i64_in _ (by omega)];omega
     obtain⟨b2,o2,e2,h2⟩:=EL.o j fL;cases e2;have d1:=ak dE.o h2.1.1;rw[<-az default fL]at d1;obtain⟨e,he⟩:∃ e:Nat,(l.getD j default).x=e:=⟨(l.getD j default).x.toNat,by omega⟩;rw[he]at d1 nu hX;obtain⟨f,hf⟩:∃ f:Nat,x=f:=⟨x.toNat,by omega⟩;subst hf;simp only[Int.toNat_natCast]at nu hX;have hfe:f<eS s:=by omega
     clear he h2 ff hj HE;by_cases vP:p<0
     ·have hpd:decide (p<0)=true:=decide_eq_true vP;have HR:=aa (J5.o 2 (by rw[nu.o,if_pos (.inl vP)]) (by decide));clear hx hX d1 jn vP;have tb1:∀ z:ExtW w3,∀ o,z.val.cell? ⟨g,o,none⟩=_:=fun z=>ab (af z.ext jb.o)
      go_wp2_with fail
      refine aB (by kernel_rfl) (by kernel_rfl) ?_
      repeat (go_big_quiet_step (fail))
      refine wpQuiet_nil ?_;rintro _ ⟨xq,rfl⟩;clear tb tb1
      go_wp2_with fail
      go_ret
      exact⟨aE (by rw[HR.o]),ae dE.o xq.ext⟩
     have hpd:decide (p<0)=false:=decide_eq_false vP;obtain⟨q,rfl⟩:∃ q:Nat,p=q:=⟨p.toNat,by omega⟩;simp only[Int.toNat_natCast]at nu;obtain⟨pl2,cl2,hB,_⟩:=Jp.o.open;have tb1:∀ z:ExtW w3,∀ o,z.val.cell? ⟨g,o,none⟩=_:=fun z=>ab (af z.ext jb.o)
     have tb2:∀ z:ExtW w3,z.val.cell? ⟨B,0,none⟩=some (.int .i64 (nS s)):=fun z=>(ab (af z.ext hB) 0).trans rfl
     clear hB;by_cases hq:nS s<=q
     ·have hqd:decide ((nS s:Int)<=(q:Int))=true:=decide_eq_true (by omega);have AZ:decide (nS s<=q)=true:=decide_eq_true hq;have HR:=aa (J5.o 2 (by rw[nu.o,if_pos (.inr (by omega))]) (by decide));clear hx hX d1 jn vP hq
      go_wp2_with fail
      refine aB (by kernel_rfl) (by kernel_rfl) ?_
      repeat (go_big_quiet_step (fail))
      refine wpQuiet_nil ?_;rintro _ ⟨xq,rfl⟩;clear tb tb1 tb2
      go_wp2_with fail
      go_ret
      exact⟨aE (by rw[HR.o]),ae dE.o xq.ext⟩
     have hqd:decide ((nS s:Int)<=(q:Int))=false:=decide_eq_false (by omega);have AZ:decide (nS s<=q)=false:=decide_eq_false hq;have Di:am (gD s l k=if linkB s q e f then 0 else 18):=aa (by rw[nu.o,if_neg (by omega)]);obtain⟨set,lG⟩:∃ set,maskN (fun p=>linkB s p e f) (nS s)=set:=⟨_,rfl⟩;have gR:hasB (set:Int) q=linkB s q e f:=by rw[<-lG,nd,decide_eq_true (by omega),Bool.true_and]
     have lZ:=sJ (set:Int) q;rw[gR]at lZ;clear gR;have hq30:q<=30:=by omega
     clear hx vP hq
     go_wp2_with fail
     refine aB (by kernel_rfl) (by kernel_rfl) ?_
     repeat (go_big_quiet_step (fail))
     refine wpQuiet_nil ?_;rintro _ ⟨xq,rfl⟩;have eU:=aa (ae dE.o xq.ext);have Gz:=aa (Jp.o.up xq.ext);have HXQ:=aa (af xq.ext jb.o);have d2:∀ z:ExtW xq.val,z.val.cell? ⟨b1,o1+j * 2,none⟩=_:=fun z=>ak (ae xq.ext z.ext) d1
     have tq1:∀ z:ExtW xq.val,∀ o,z.val.cell? ⟨g,o,none⟩=_:=fun z=>ab (af z.ext HXQ.o)
     have bV:=aa (show ∀ y:ExtW xq.val,Calls Tryz.prog 146 #[.pointer (some ⟨B,0,none⟩),.int .i64 (e:Int),.int .i64 (f:Int)] y.val fun r w''=>r=.returned (.int .i64 (set:Nat))/\∃ z:ExtW xq.val,w''=z.val from fun y=>Calls.ext_of ((AI s dD.o B e f hX.2 hfe y.val (Gz.o.up y.ext)).mono fun r w'' ⟨h1,h2⟩=>⟨by rw[h1,lG],h2 ▸ Below.refl _ _⟩));clear tb tb1 tb2 d1 lG;cases hb:linkB s q e f with
     | true=>
      have gB:am (gD s l k=0):=aa (by rw[Di.o,hb];rfl);rw[hb]at lZ;clear hb
      go_wp2_with fail
      refine aB (by kernel_rfl) (by kernel_rfl) ?_
      repeat (go_big_quiet_step ((go_at_call 146;with_reducible exact bV.o _)))
      refine wpQuiet_nil ?_;rintro _ ⟨x2,rfl⟩;clear d2 tq1 lZ jn
      go_wp2_with fail
      go_roundw
      ·exact⟨k+1,by omega,by go_num,ae eU.o x2.ext,Gz.o.up x2.ext,aY HZ.o gB.o⟩
      ·simp[intOf];omega
     | false=>
      have HR:=aa (J5.o 18 (by rw[Di.o,hb];rfl) (by decide));rw[hb]at lZ;clear hb
      go_wp2_with fail
      refine aB (by kernel_rfl) (by kernel_rfl) ?_
      repeat (go_big_quiet_step ((go_at_call 146;with_reducible exact bV.o _)))
      refine wpQuiet_nil ?_;rintro _ ⟨x2,rfl⟩;clear d2 tq1 lZ jn
      go_wp2_with fail
      go_ret
      exact⟨aE (by rw[HR.o]),ae eU.o x2.ext⟩
   ·have hd:(decide (0<=x)&&decide (x<(eS s:Int)))=false:=by
     rw[Bool.and_eq_false_iff];simp only[decide_eq_false_iff_not];omega
    rw[hd];have HR:=aa (J5.o 6 (by rw[HE.o,if_pos (by omega)]) (by decide));clear hx hd
    go_wp2_with fail
    go_ret
    exact⟨aE (by rw[HR.o]),dE.o⟩
  ·have HR:am (walkE s l=0):=aa (by rw[dd.o];exact cS _ _ fun j hj=>HZ.o j (by omega))
   go_wp2_with fail
   go_ret
   exact⟨aE (by rw[HR.o]),aA⟩
end Go.Proofs.YtmeaoneaephjeaaGreatDoor
namespace Go.Proofs.YtmeaoneaephjeaaGreatDoor
def jV(dh:Int) (st:List Int × List Nat) (f:Nat):List Int × List Nat:=if st.1.getD f 0<0 then(st.1.set f dh,st.2++[f]) else st
def eM(s:Sys) (h:Nat) (D:List Int) (l:List Nat):List Int × List Nat:=l.foldl (jV (D.getD h 0+1)) (D,[])
theorem CS(s:Sys) (h:Nat) (D:List Int) (l:List Nat) (f:Nat):eM s h D (l++[f])=jV (D.getD h 0+1) (eM s h D l) f:=by simp[eM]
theorem PT(dh:Int) (st:List Int × List Nat) (f:Nat):(jV dh st f).1.length=st.1.length:=by unfold jV;split<;>simp
theorem yV(s:Sys) (h:Nat) (D:List Int) (l:List Nat):(eM s h D l).1.length=D.length:=by
 unfold eM;generalize D.getD h 0+1=dh
 have key:∀ (l:List Nat) (st:List Int × List Nat),(l.foldl (jV dh) st).1.length=st.1.length:=by
  intro l;induction l with
  | nil=>intro st;rfl
  | cons a r ih=>intro st;rw[List.foldl_cons,ih,PT]
 exact key l _
theorem Sj{s:Sys} {h:Nat} {D:List Int} (hl:D.length=eS s) (h0:0<=D.getD h 0):∀ k,k<=eS s->(∀ e,e<eS s->(eM s h D (ge s h k)).1.getD e 0=jr (eZ s) (fun e=>D.getD e 0) h k e)/\(eM s h D (ge s h k)).2=uE (eZ s) (fun e=>D.getD e 0) h k:=by
 intro k;induction k with
 | zero=>intro _;exact⟨fun e _=>by unfold jr;rw[if_neg (by omega)];rfl,rfl⟩
 | succ k ih=>
  intro hk;obtain⟨i1,i2⟩:=ih (by omega);have cC:=yV s h D (ge s h k)
  have hq:uE (eZ s) (fun e=>D.getD e 0) h (k+1)=uE (eZ s) (fun e=>D.getD e 0) h k++if decide (D.getD k 0<0)&&eZ s h k then [k] else []:=by
   unfold uE;rw[List.range_succ,List.filter_append];cases hb:decide (D.getD k 0<0)&&eZ s h k<;>simp[hb]<;>simpa using hb
  have EZ:(eM s h D (ge s h k)).1.getD k 0=D.getD k 0:=by rw[i1 k (by omega)];unfold jr;rw[if_neg (by omega)]
  cases hn:tk s h k with
  | true=>
   have gT:eZ s h k=true:=by unfold tk at hn;simp only[Bool.and_eq_true]at hn;exact hn.1
   rw[wW hn,CS];unfold jV;rw[EZ];by_cases hd:D.getD k 0<0
   ·rw[if_pos hd];refine⟨fun e he=>?_,?_⟩
    ·dsimp only;rw[fI _ _ _ _ _ (by omega)];by_cases ee:e=k
     ·subst ee;rw[if_pos rfl];unfold jr;rw[if_pos ⟨by omega,hd,gT⟩]
     ·rw[if_neg ee,i1 e he];unfold jr;by_cases hc:e<k/\D.getD e 0<0/\eZ s h e=true
      ·rw[if_pos hc,if_pos ⟨by omega,hc.2⟩]
      ·rw[if_neg hc,if_neg (fun h=>hc ⟨by omega,h.2⟩)]
    ·dsimp only;rw[i2,hq,decide_eq_true hd,gT];rfl
   ·rw[if_neg hd];refine⟨fun e he=>?_,?_⟩
    ·rw[i1 e he];unfold jr;by_cases ee:e=k
     ·subst ee;rw[if_neg (fun h=>hd h.2.1),if_neg (fun h=>hd h.2.1)]
     ·by_cases hc:e<k/\D.getD e 0<0/\eZ s h e=true
      ·rw[if_pos hc,if_pos ⟨by omega,hc.2⟩]
      ·rw[if_neg hc,if_neg (fun h=>hc ⟨by omega,h.2⟩)]
    ·rw[i2,hq,decide_eq_false hd,Bool.false_and];simp
  | false=>
   rw[Ac hn]
   have fY:¬ (D.getD k 0<0/\eZ s h k=true):=fun ⟨g1,g2⟩=>by
    unfold tk at hn;rw[g2,Bool.true_and]at hn;have:k=h:=by simpa using hn
    subst this;omega
   refine⟨fun e he=>?_,?_⟩
   ·rw[i1 e he];unfold jr;by_cases ee:e=k
    ·subst ee;rw[if_neg (fun h=>fY h.2),if_neg (fun h=>fY h.2)]
    ·by_cases hc:e<k/\D.getD e 0<0/\eZ s h e=true
     ·rw[if_pos hc,if_pos ⟨by omega,hc.2⟩]
     ·rw[if_neg hc,if_neg (fun h=>hc ⟨by omega,h.2⟩)]
   ·rw[i2,hq];cases hd:decide (D.getD k 0<0)&&eZ s h k with
    | false=>simp
    | true=>simp only[Bool.and_eq_true,decide_eq_true_eq]at hd;exact absurd hd fY
theorem FM{n:Nat} {L:Nat->Nat->Bool} {f:Nat} {D E:Nat->Int} {Q:List Nat} (hf:f<n) (h:Bfs n L f D Q) (he:∀ e,e<n->D e=E e):Bfs n L f E Q:=by
 refine⟨by rw[<-he f hf];exact h.zero,fun e h1 h2=>h.only e h1 (by rw[he e h1];exact h2),fun e h1=>by rw[<-he e h1];exact h.low e h1,fun e h1 d h2=>?_,fun q hq=>?_,fun e g h1 h2 h3 h4 h5=>?_,?_,fun a r h1 e h2=>?_⟩
 ·obtain⟨g,hg,e1,e2⟩:=h.pred e h1 d (by rw[he e h1];exact h2);exact⟨g,hg,by rw[<-he g hg];exact e1,e2⟩
 ·have:=h.ok q hq;exact⟨this.1,by rw[<-he q this.1];exact this.2⟩
 ·rw[<-he e h1,<-he g h2];exact h.done e g h1 h2 (by rw[he g h2];exact h3) h4 h5
 ·refine h.asc.imp_of_mem fun {a b} ha hb A0=>?_
  rw[<-he a (h.ok a ha).1,<-he b (h.ok b hb).1];exact A0
 ·have ha:=(h.ok a (by rw[h1];simp)).1;rw[<-he e h2,<-he a ha];exact h.near a r h1 e h2
theorem PU{s:Sys} {f h:Nat} (hf:f<eS s) {D:List Int} {r:List Nat} (hl:D.length=eS s) (b:Bfs (eS s) (eZ s) f (fun e=>D.getD e 0) (h :: r)) :
  Bfs (eS s) (eZ s) f (fun e=>(eM s h D (ef s h)).1.getD e 0) (r++(eM s h D (ef s h)).2)/\(r++(eM s h D (ef s h)).2).length+((List.range (eS s)).filter fun e=>decide ((eM s h D (ef s h)).1.getD e 0<0)).length<(h :: r).length+((List.range (eS s)).filter fun e=>decide (D.getD e 0<0)).length:=by
 have h0:=(b.ok h (by simp)).2;obtain⟨i1,i2⟩:=Sj hl h0 (eS s) (Nat.le_refl _);unfold ef;refine⟨?_,?_⟩
 ·rw[i2];exact FM hf (b.step (fun e g=>Id s e g)) fun e he=>(i1 e he).symm
 ·have h3:=Kw (n:=eS s) (eZ s) (fun e=>D.getD e 0) h h0 r;rw[i2]
  have h4:((List.range (eS s)).filter fun e=>decide ((eM s h D (ge s h (eS s))).1.getD e 0<0))=(List.range (eS s)).filter fun e=>decide (jr (eZ s) (fun e=>D.getD e 0) h (eS s) e<0):=
   List.filter_congr fun e he=>by rw[i1 e (List.mem_range.1 he)]
  rw[h4];exact h3
theorem VM{s:Sys} {f:Nat} (hf:f<eS s) {D:List Int} (hl:D.length=eS s) (b:Bfs (eS s) (eZ s) f (fun e=>D.getD e 0) []):D=db s f:=by
 have h1:=Kv b.dist (lz hf);refine List.ext_getElem (by rw[hl,wH]) fun i h2 h3=>?_
 have h4:=h1 i (by omega);rw[show D.getD i 0=D[i] by simp[h2],show (db s f).getD i 0=(db s f)[i] by simp[h3]]at h4;exact h4
end Go.Proofs.YtmeaoneaephjeaaGreatDoor
namespace Go.Proofs.YtmeaoneaephjeaaGreatDoor
open Go.RowKit Go Go.Shelf
attribute [local go_sem] Oper.semAt_some
theorem OwnQ.ck{w w':World} {g:Nat} {e:TypeId} {v:Value} {n:Nat} {xs:List Value} (h:OwnQ w g e v n xs) (hb:CK w w'):OwnQ w' g e v n xs:=by
 obtain⟨off,cap,h1,h2,h3,h4⟩:=h.ex;refine⟨h.len,off,cap,h1,h2,h3,?_⟩;rcases h4 with h4|⟨cur,fz,h5,h6⟩
 ·exact .inl h4
 ·exact .inr ⟨cur,fz,hb _ _ h5 rfl,h6⟩
def wY(l:List Nat):List Value:=l.map fun x:Nat=>Value.int .i64 (x:Int)
def M0(s:Sys) (D:List Int):Nat:=((List.range (eS s)).filter fun e=>decide (D.getD e 0<0)).length
structure DFI (s:Sys) (w:World) (bq bx be:Nat) (Ds:List Nat) (D:List Int) (Q:List Nat) (V:World):Prop where
 old:Below w.heap.size w V
 box:V.heap[w.heap.size+1]?=some (.cells #[.slice (some ⟨w.heap.size,0,none⟩) (eS s) (eS s)] 38)
 row:V.heap[w.heap.size]?=some (.cells (bH D) 3)
 que:∃ g qv,V.heap[bq]?=some (.cells #[qv] 38)/\OwnQ V g 3 qv Q.length (wY Q)/\w.heap.size+1<g/\g<V.heap.size/\g≠bx/\g≠be/\g≠bq
 marks:cU w.heap.size Ds V
theorem DFI.sta{s:Sys} {w:World} {bq bx be B:Nat} {Ds:List Nat} {D:List Int} {Q:List Nat} (hB:w.heap.size<=B) (hD:∀ E∈Ds,E<B):cI B (DFI s w bq bx be Ds D Q):=fun A A' c h=>by
 obtain⟨g,qv,h1,h2,h3,h4,h5⟩:=h.que;exact⟨c.below hB h.old.size h.old,c.same _ _ h.box (.inr rfl),c.same _ _ h.row (.inr rfl),⟨g,qv,c.same _ _ h1 (.inr rfl),h2.ck c.ck,h3,Nat.lt_of_lt_of_le h4 c.size,h5⟩,cI.marks hD A A' c h.marks⟩
def WD(s:Sys) (B f:Nat) (w:World) (n:Nat) (act:Act) (W:World):Prop:=∃ (D:List Int) (Q:List Nat) (bq:Nat) (Ds:List Nat) (u2 u3 u4 u6 u8 u9 u10 u11 u12 u13 u14 u15 u16 u17 u18 u19 u20 u21 u22 u23 u24 u25 u26 u27 u28 u29 u30 u31 u32 u33 u34 u35 u36 u37 u38 u39 u40 u41 u42 u43 u44 u45 u46 u47 u48 u49 u50 u51 u52 u53 u54 u55 u56 u57 u58 u59 u60 u61:Value),
   act={ tmps:=#[Value.pointer (some ⟨B,0,none⟩),Value.int .i64 f,u2,u3,u4,Value.pointer (some ⟨w.heap.size+1,0,none⟩),u6,Value.pointer (some ⟨bq,0,none⟩),u8,u9,u10,u11,u12,u13,u14,u15,u16,u17,u18,u19,u20,u21,u22,u23,u24,u25,u26,u27,u28,u29,u30,u31,u32,u33,u34,u35,u36,u37,u38,u39,u40,u41,u42,u43,u44,u45,u46,u47,u48,u49,u50,u51,u52,u53,u54,u55,u56,u57,u58,u59,u60,u61],defers:=m7 Ds }/\n=Q.length+M0 s D/\n<=257/\D.length=eS s/\Bfs (eS s) (eZ s) f (fun e=>D.getD e 0) Q/\w.heap.size+1<bq/\bq<W.heap.size/\DFI s w bq W.heap.size W.heap.size Ds D Q W
theorem M1{n:Nat} {L:Nat->Nat->Bool} {f:Nat} {D:Nat->Int} {Q:List Nat} (b:Bfs n L f D Q) (d:Nat):∀ e,e<n->D e=(d:Int)->d+1<=((List.range n).filter fun x=>decide (0<=D x/\D x<=(d:Int))).length:=by
 induction d with
 | zero=>
  intro e he h;have:e∈(List.range n).filter fun x=>decide (0<=D x/\D x<=((0:Nat):Int)):=by simp[he,h]
  have:=List.length_pos_of_mem this;omega
 | succ d ih=>
  intro e he h;obtain⟨g,hg,h1,_⟩:=b.pred e he d (by rw[h];rfl);have h4:=ih g hg h1
  have h5:((List.range n).filter fun x=>decide (0<=D x/\D x<=(d:Int))).length<((List.range n).filter fun x=>decide (0<=D x/\D x<=((d+1:Nat):Int))).length:=by
   refine Fj _ _ _ (fun x _ hx=>?_) e (by simpa using he) (by rw[h];simp;omega) (by rw[h];simp;omega);simp only[decide_eq_true_eq]at hx ⊢;omega
  omega
theorem M2{s:Sys} {f h:Nat} {D:List Int} {Q:List Nat} (b:Bfs (eS s) (eZ s) f (fun e=>D.getD e 0) Q) (hh:h<eS s) (hE:eS s<=256):D.getD h 0<1000000:=by
 by_cases h0:0<=D.getD h 0
 ·have h1:=M1 b (D.getD h 0).toNat h hh (by omega);have h2:((List.range (eS s)).filter fun x=>decide (0<=D.getD x 0/\D.getD x 0<=((D.getD h 0).toNat:Int))).length<=eS s:=Nat.le_trans (List.length_filter_le _ _) (by simp);omega
 ·omega
theorem VN(s:Sys) (D:List Int):M0 s D<=eS s:=Nat.le_trans (List.length_filter_le _ _) (by simp)
theorem M3(s:Sys) (h:Nat) (D:List Int) (l:List Nat):(eM s h D l).2.length<=l.length:=by
 unfold eM;generalize D.getD h 0+1=dh
 have key:∀ (l:List Nat) (st:List Int × List Nat),(l.foldl (jV dh) st).2.length<=st.2.length+l.length:=by
  intro l;induction l with
  | nil=>intro st;simp
  | cons a r ih=>
   intro st;rw[List.foldl_cons];refine Nat.le_trans (ih _) ?_;have:(jV dh st a).2.length<=st.2.length+1:=by unfold jV;split<;>simp
   simp only[List.length_cons];omega
 exact Nat.le_trans (key l _) (by simp)
theorem WE(s:Sys) (e:Nat):(ef s e).length<=eS s:=Nat.le_trans (List.length_filter_le _ _) (by simp)
theorem M4{s:Sys} {h:Nat} {D:List Int} (h0:0<=D.getD h 0) (l:List Nat):(eM s h D l).1.getD h 0=D.getD h 0:=by
 unfold eM
 have key:∀ (l:List Nat) (st:List Int × List Nat),st.1.getD h 0=D.getD h 0->(l.foldl (jV (D.getD h 0+1)) st).1.getD h 0=D.getD h 0:=by
  intro l;induction l with
  | nil=>intro st h1;exact h1
  | cons a r ih=>
   intro st h1;rw[List.foldl_cons];refine ih _ ?_;unfold jV;split
   ·rename_i h2;by_cases ha:a<st.1.length
    ·dsimp only;rw[fI _ _ _ _ _ ha,if_neg (fun e=>by subst e;omega)];exact h1
    ·dsimp only;rw[List.set_eq_of_length_le (by omega)];exact h1
   ·exact h1
 exact key l _ rfl
theorem PV(s:Sys) (hs:SysOk s) (hE:eS s<=256) (B f:Nat) (hf:f<eS s) (base:Nat) (w:World) (h:ie w base B s) :
  Calls Tryz.prog 137 #[.pointer (some ⟨B,0,none⟩),.int .i64 f] w fun r w'=>r=.returned (.slice (some ⟨w.heap.size,0,none⟩) (eS s) (eS s))/\w'.heap[w.heap.size]?=some (.cells (bH (db s f)) 3)/\Below w.heap.size w w':=by
 obtain⟨pl,cl,h1,_⟩:=(h.at hs).open;have HF:=aa h;have tF:w.cell? ⟨B,1,none⟩=some (.slice pl (eS s) cl):=(ab h1 1).trans rfl;have hBw:=aD h1;obtain⟨i0,cX,cD,bX,cF⟩:=info_parts Tryz.infoInt
 have dr:am (Bfs (eS s) (eZ s) f (fun e=>((List.replicate (eS s) (-1:Int)).set f 0).getD e 0) [f]):=aa (FM hf (Bfs.start hf) fun e he=>by
  rw[fI _ _ _ _ _ (by simp;exact hf)];unfold dT;split
  ·rfl
  ·simp[he])
 obtain⟨m,hm⟩:∃ m,eS s=m:=⟨_,rfl⟩;have gg:=jD (fun _=>-1) m (by omega);have B6:am ((List.range m).map (fun _=>(-1:Int))=List.replicate (eS s) (-1)):=aa (by rw[hm];simp[List.map_const']);rw[hm]at hE hf tF;have HM:=aa hm;have DU:=aa hs;clear hm h1 h hs;refine gi Tryz.func137 rfl ?_;simp only[Tryz.ntmps137,List.size_toArray,List.length_cons,List.length_nil,Nat.reduceAdd,Nat.reduceSub,Array.replicate_succ,Array.replicate_zero,List.push_toArray,List.append_toArray,List.nil_append,List.cons_append]
 go_wp2_with fail
 clear gg tF;refine bC (fun W=>Below w.heap.size w W/\W.heap[w.heap.size]?=some (.cells (fC m (fun _=>-1) 0) 3)/\W.heap[w.heap.size+1]?=some (.cells #[.slice (some ⟨w.heap.size,0,none⟩) m m] 38)) ⟨by go_grown,ar _ (ap _ _),aZ _ _ _⟩ (fun W0 aX=>?_);have iR:=aa aX;have tx0:=ab aX.2.2 0;simp at tx0;clear aX
 go_wp2_with fail
 clear tx0
 go_loopw [17] (fun i wr=>∃ k:Nat,k<=m/\i=.int .i64 k/\Below w.heap.size w wr/\wr.heap[w.heap.size]?=some (.cells (fC m (fun _=>-1) k) 3)/\wr.heap[w.heap.size+1]?=some (.cells #[.slice (some ⟨w.heap.size,0,none⟩) m m] 38)) (fun i _=>m - (intOf i).toNat)
 case atStart=>exact⟨0,by omega,rfl,iR.o.1,iR.o.2.1,iR.o.2.2⟩
 case round=>
  clear iR;obtain⟨k,hk,rfl,aA,hO,hX⟩:=hrel;have tx:=ab hX 0;simp at tx;have eT:=aD hX;have HO:=aa hO;have HX:=aa hX;have aV:=aa aA;by_cases aC:k<m
  ·have tq:=ab hO k;rw[mg _ _ _ _ aC]at tq;have zq:=aH hO k;clear hO hX aA
   go_wp2_with fail
   go_roundw
   ·exact⟨k+1,by omega,by go_num,aV.o.setCell (by dsimp only;omega) _,by rw[aI HO.o,vh m (fun _=>-1) k aC],aM HX.o (by omega) _ _⟩
   ·simp[intOf];omega
  obtain rfl:k=m:=by omega
  have tq:=ab hO f;rw[mg _ _ _ _ hf]at tq;have zq:=aH hO f;have q8:=hO;rw[qz,B6.o]at q8;have eO:=aa q8;have DL:=aA.size;clear hO q8 hX aA
  go_wp2_with fail
  clear tx tq zq
  refine bC (fun W=>Below w.heap.size w W/\W.heap[w.heap.size+1]?=some (.cells #[.slice (some ⟨w.heap.size,0,none⟩) k k] 38)/\W.heap[w.heap.size]?=some (.cells (bH ((List.replicate (eS s) (-1)).set f 0)) 3)/\W.heap[wr.heap.size]?=some (.cells #[.int .i64 f] 3)/\W.heap[wr.heap.size+1]?=some (.cells #[.slice (some ⟨wr.heap.size,0,none⟩) 1 1] 38))
   ⟨((aV.o.setCell (p:=⟨w.heap.size,f,none⟩) (Nat.le_refl _) _).alloc (by simpa using DL) _).alloc (by simp;omega) _,ar _ (ar _ (aM HX.o (by omega) _ _)),ar _ (ar _ (by rw[aI eO.o,mh])),ar _ (by have:=ap (wr.setCell ⟨w.heap.size,f,none⟩ (.int .i64 0)) (.cells #[.int .i64 f] 3);rwa [World.size_setCell]at this),by have:=aZ (wr.setCell ⟨w.heap.size,f,none⟩ (.int .i64 0)) (.cells #[.int .i64 f] 3) (.cells #[.slice (some ⟨wr.heap.size,0,none⟩) 1 1] 38);rwa [World.size_setCell]at this⟩ (fun W1 cM=>?_)
  have tW:w.heap.size+1<wr.heap.size:=eT;generalize wr.heap.size=g0 at cM tW;have gN:=aa cM;have ra:=aD cM.2.2.2.2;clear cM HO eO HX aV wr eT DL W0;refine BC (fun n act W=>WD s B f w n act W) (1+M0 s ((List.replicate (eS s) (-1)).set f 0)) ?start ?round
  case start=>
   refine⟨_,[f],g0+1,[],_,_,_,_,_,_,_,_,_,_,_,_,_,_,_,_,_,_,_,_,_,_,_,_,_,_,_,_,_,_,_,_,_,_,_,_,_,_,_,_,_,_,_,_,_,_,_,_,_,_,_,_,_,_,_,_,_,_,rfl,rfl,by have:=VN s ((List.replicate (eS s) (-1)).set f 0);have:=HM.o;omega,by simp,dr.o,by omega,ra,gN.o.1,by rw[HM.o];exact gN.o.2.1,gN.o.2.2.1,⟨g0,_,gN.o.2.2.2.2,⟨rfl,0,1,rfl,Nat.le_refl _,by unfold maxLen;omega,.inr ⟨_,(0,0),gN.o.2.2.2.1,fun i _ h=>by have:=h.2;simp at this,rfl,rfl⟩⟩,by omega,by omega,by omega,by omega,by omega⟩,cU.nil _ _⟩
  case round=>
   clear gN dr B6;rintro n act W ⟨D,Q,bq,Ds,u2,u3,u4,u6,u8,u9,u10,u11,u12,u13,u14,u15,u16,u17,u18,u19,u20,u21,u22,u23,u24,u25,u26,u27,u28,u29,u30,u31,u32,u33,u34,u35,u36,u37,u38,u39,u40,u41,u42,u43,u44,u45,u46,u47,u48,u49,u50,u51,u52,u53,u54,u55,u56,u57,u58,u59,u60,u61,rfl,hn,hn7,lW,Dn,nm,hbq2,hI⟩;obtain⟨g,qv,JX,GI,hg,hgw,A4,qM,UG⟩:=hI.que;obtain⟨off,cap,rfl,ig,qO,EZ⟩:=GI.ex;have tq:=ab JX 0;simp at tq;have HI:=aa hI;have DF:=aa JX;have Ma:=aa GI;have Gu:=aa Dn;have HN:=aa hn;have Js:=aa lW;clear hI JX GI Dn hn lW;cases Q with
   | nil=>
    have tb:=ab HI.o.box 0;simp at tb;have jv:=aa (VM (by rw[HM.o];exact hf) Js.o Gu.o);have bU:=HI.o.row;rw[jv.o]at bU;have jd:=aa bU;clear bU
    go_wp2_with fail
    refine rp HI.o.marks (v:=.slice (some ⟨w.heap.size,0,none⟩) (eS s) (eS s)) ?_ ⟨rfl,ro HI.o.marks _ _ jd.o rfl,mD (fun D hD=>(HI.o.marks.2 D hD).1) (Nat.le_refl _) HI.o.old⟩;simp[results,Tryz.results137,go_sem]
   | cons h r=>
    have hh:=(Gu.o.ok h (by simp)).1;rw[HM.o]at hh
    obtain⟨cur,fz,kR,jl,hc3,hc4⟩:∃ cur fz,W.heap[g]?=some (.cells cur 3 fz)/\(∀ i,i<cur.size->¬ (fz.1<=i/\i<fz.2))/\cur.size=off+cap/\(cur.toList.drop off).take (h :: r).length=wY (h :: r):=by
     rcases EZ with h0|h0
     ·simp at ig;omega
     ·exact h0
    have th:W.cell? ⟨g,off,none⟩=some (.int .i64 h):=by
     rw[ab kR];have h5:=congrArg (fun l=>l[0]?) hc4;simp[wY]at h5;simpa using h5
    clear EZ kR jl hc3 hc4
    go_wp2_with fail
    refine(vE B h W).mono ?_;rintro e w2 ⟨rfl,rfl⟩;clear th tq
    go_wp2_with fail
    have lW:∀ E∈Ds,E<W.heap.size:=HI.o.marks.lt
    refine bC (fun W1=>DFI s w bq W.heap.size (W.heap.size+1) Ds D (h :: r) W1/\W1.heap[W.heap.size]?=some (.cells #[.pointer (some ⟨B,0,none⟩)] 196)/\W1.heap[W.heap.size+1]?=some (.cells #[.int .i64 h] 3)/\W.heap.size+1<W1.heap.size)
     ⟨⟨(HI.o.old.alloc HI.o.old.size _).alloc (by have:=HI.o.old.size;simp;omega) _,ar _ (ar _ HI.o.box),ar _ (ar _ HI.o.row),⟨g,_,ar _ (ar _ DF.o),(Ma.o.ck (.of_below (by go_grown))),hg,by simp;omega,by omega,by omega,UG⟩,HI.o.marks.up (by go_grown)⟩,ar _ (ap _ _),aZ _ _ _,by simp⟩ (fun W1 cM=>?_)
    obtain⟨xI,A5,Je,Yh⟩:=cM;have dg:=tm s DU.o B h W.heap.size (W.heap.size+1) (by rw[HM.o];exact hh) base w HF.o W1 (fun k _ hk=>xI.old.block k hk) xI.old.size (by simp[ab A5]) (by simp[ab Je]);have WZ:=HI.o.old.size;have tK:=aa xI;have hbq1:bq<W.heap.size:=hbq2;clear A5 Je
    refine mL (gf:=179) (lb:=#[.pointer (some ⟨W.heap.size,0,none⟩),.pointer (some ⟨W.heap.size+1,0,none⟩)]) rfl (enters_of Tryz.func179 (by kernel_rfl) rfl) dg (Below.refl _ _) (fun k hk=>by rcases hk with hk|rfl|rfl<;>omega) (fun i=>rfl)
     (fun i V=>DFI s w bq W.heap.size (W.heap.size+1) Ds (eM s h D ((ef s h).take i)).1 (h :: (r++(eM s h D ((ef s h).take i)).2)) V)
     (fun _ _ _=>False)
     (fun i=>DFI.sta (by omega) (fun E hE=>by have:=lW E hE;omega)) (fun c i=>cI.pure) (by simpa[eM] using xI) ?rnd ?done ?stop
    case stop=>rintro D' c i V hD hi h;exact h.elim
    case rnd=>
     intro yl i V hi hl iS;unfold IU;obtain⟨fv,Rh⟩:∃ fv,(ef s h).getD i 0=fv:=⟨_,rfl⟩
     have kZ:fv<k:=by
      have h2:(ef s h)[i]∈ef s h:=List.getElem_mem hi;rw[show (ef s h)[i]=fv by rw[<-Rh];simp[hi]]at h2;have:=(rF.1 h2).1;rw[HM.o]at this;exact this
     have bK:fv≠h:=by
      have h2:(ef s h)[i]∈ef s h:=List.getElem_mem hi;rw[show (ef s h)[i]=fv by rw[<-Rh];simp[hi]]at h2;exact(rF.1 h2).2.2
     have kU:am (eM s h D ((ef s h).take (i+1))=jV (D.getD h 0+1) (eM s h D ((ef s h).take i)) fv):=aa (by
      rw[List.take_succ_eq_append_getElem hi,CS,<-Rh]
      simp[hi])
     rw[Rh];have cC:(eM s h D ((ef s h).take i)).1.length=k:=by rw[yV,Js.o,HM.o]
     have hh0:=(Gu.o.ok h (by simp)).2
     have hqb:(eM s h D ((ef s h).take i)).2.length<=256:=by
      have h1:=M3 s h D ((ef s h).take i);have h2:=WE s h;have h3:=HM.o;rw[List.length_take]at h1;omega
     have Dx:r.length<=257:=by
      have h1:=HN.o;simp only[List.length_cons]at h1;omega
     have Uj:(eM s h D ((ef s h).take i)).1.getD h 0=D.getD h 0:=M4 hh0 _;generalize byP s h fv=pv;obtain⟨st,eD⟩:∃ st,eM s h D ((ef s h).take i)=st:=⟨_,rfl⟩;rw[eD]at cC Uj kU iS hqb;obtain⟨ql,oO⟩:∃ ql,(h :: (r++st.2)).length=ql+1:=⟨(r++st.2).length,rfl⟩;have hql2:ql<=1000:=by simp only[List.length_cons,List.length_append]at oO;omega
     have oL:=aa iS;have dr:=aa eD;have vW:=aa oO;clear eD iS Rh dg oO Dx hqb
     gi_wp2
     refine⟨Bod.refl _ _ _,fun V=>DFI s w bq W.heap.size (W.heap.size+1) Ds st.1 (h :: (r++st.2)) V,DFI.sta (by omega) (fun E hE=>by have:=lW E hE;omega),oL.o,fun V2 h2 jI=>?_⟩;obtain⟨rlp,jI⟩:=jI;have Jg:=aD jI;clear jI rlp;obtain⟨g2,qv2,k1,k2,k3,k4,k5,k6,k7⟩:=h2.que;rw[vW.o]at k2;have dd:=aa h2;have U7:=aa k1;have DT:=aa k2;have qV:=aa cC;have tb:=ab h2.box 0;have tr:=ab h2.row fv;have tq:=ab k1 0;simp at tb tq;rw[go _ _ (by omega)]at tr;obtain⟨dv,X5⟩:∃ dv,st.1.getD fv 0=dv:=⟨_,rfl⟩;rw[X5]at tr;have HDV:=aa X5;clear h2 k1 k2 X5 cC;have hmem2:fv<eS s:=by rw[HM.o];exact kZ
     have hh2:h<eS s:=by rw[HM.o];exact hh
     by_cases E3:dv<0
     ·have hneg':decide (dv<0)=true:=decide_eq_true E3;obtain⟨off2,cap2,hqv,hnc2,hcm2,N'⟩:=DT.o.ex;subst hqv;have Ra:0<ql+1:=by omega
      have th2:V2.cell? ⟨g2,off2,none⟩=some (.int .i64 h):=by
       rcases N' with h0|⟨cur,fz,c1,c2,c3,c4⟩
       ·omega
       ·rw[ab c1];have h5:=congrArg (fun l=>l[0]?) c4;simp[wY]at h5;simpa using h5
      have trh:=ab dd.o.row h;rw[go _ _ (by have:=qV.o;omega),Uj]at trh;have zr:=aH dd.o.row fv;have HSTEP:am (jV (D.getD h 0+1) st fv=(st.1.set fv (D.getD h 0+1),st.2++[fv])):=aa (by unfold jV;rw[HDV.o,if_pos E3]);have hdh:=M2 Gu.o hh2 (by rw[HM.o];exact hE);generalize D.getD h 0=dh at trh Uj HSTEP kU hh0 hdh
      have jL:am (∃ cs ty fz,V2.heap[g2]?=some (.cells cs ty fz)):=aa (by
       rcases N' with h0|⟨cur,fz,c1,_⟩
       ·omega
       ·exact⟨_,_,_,c1⟩)
      clear E3 N' Uj
      gi_wp2
      refine lu 10 (fun ⟨_,_,h⟩=>h) (by kernel_rfl) (by kernel_rfl) (by kernel_rfl) (fun ops Lq hops hLq=>?_);simp only[List.take_succ_cons,List.take_zero,List.drop_succ_cons,List.drop_zero]at hLq ⊢;have DH:=aa hLq;clear hLq;have S6:=aa hops;clear hops
      repeat still_step
      refine wpStill_nil ?_;refine DH.o _ ?_
      go_wp2_with fail
      obtain⟨V3,Me⟩:∃ V3,V3=(V2.setCell ⟨w.heap.size,fv,none⟩ (.int .i64 (dh+1))).drew:=⟨_,rfl⟩;rw[<-Me];have J6:V3.heap.size=V2.heap.size:=by rw[Me];simp
      have iw:∀ k,k≠w.heap.size->V3.heap[k]?=V2.heap[k]?:=fun k hk=>by rw[Me];exact Below.heap_setCell _ _ _ _ hk
      have Ai:V3.heap[w.heap.size]?=some (.cells (bH (st.1.set fv (dh+1))) 3):=by rw[Me];exact(aI dd.o.row _ _).trans (by rw[mh])
      have hold3:Below w.heap.size w V3:=by rw[Me];exact(dd.o.old.setCell (by dsimp only;omega) _).drew
      clear Me;have Oj:=(iw bq (by omega)).trans U7.o;have tb3:=ab Oj 0;simp at tb3;have HBOX:=aa Oj;have jd:=aa Ai;have zM:=aa hold3;have oN:=aa iw;have bO:=aa ((DT.o.up (w':=V3) (.inl (iw g2 (by omega)))).ck (.of_below ((Below.refl _ V3).alloc (Nat.le_refl _) (.cells #[.int .i64 fv] 3))));have bF:=aa (dQ V3 [.int .i64 (fv:Int)] 3);have HNEW2:am (∀ (j:Nat) (x:Value),[Value.int .i64 (fv:Int)][j]?=some x->(V3.alloc (.cells #[.int .i64 fv] 3)).cell? ((⟨V3.heap.size,0,none⟩:Addr).add j)=some x):=bF;have HSZ3:=aa J6;have GF:am (bq≠g2):=aa (Ne.symm k7);clear k7;have kw:am (ql+1+1<=maxLen):=aa (by unfold maxLen;omega);have fc:am ((ql+1+1) * 8<=140737488355328):=aa (by omega);clear Oj Ai hold3 iw th2 trh zr tb tr tq J6
      gi_wp2_with (gi_at_builtin;go_loud (refine Aq _ rfl (.tmp 56) (.tmp 58) 38 rfl 3 i0 _ 8 Tryz.underlying38 cX cD bX cF rfl g2 _ (ql+1) _ rfl bO.o ⟨V3.heap.size,0,none⟩ 1 (.int .i64 fv) rfl HNEW2.o rfl kw.o fc.o ?_;intro v4 w4 g4 mG fi hg4;obtain⟨off4,cap4,rfl,-⟩:=mG.ex;have wh:=fi.keep (ar _ HBOX.o) GF.o;have c4:=ab wh 0;have f4:=aH wh 0;simp at c4))
      have zQ:=fi.size;have J6:=HSZ3.o;simp only[World.size_alloc]at zQ hg4;have hg2l:=k4;have Rk:∀ k,k<V2.heap.size->k≠g2->k≠w.heap.size->w4.heap[k]?=V2.heap[k]?:=fun k h1 h2 h3=>(fi.same k (by simp;omega) h2).trans ((Below.heap_alloc V3 _ k (by omega)).trans (oN.o k h3))
      obtain⟨cs2,ty2,fz2,Ok⟩:=jL.o
      have uj:∀ (k:Nat) (o:Obj),V2.heap[k]?=some o->o.isCells=false->(w4.setCell ⟨bq,0,none⟩ (.slice (some ⟨g4,off4,none⟩) (ql+1+1) cap4)).heap[k]?=some o:=fun k o ho hc=>by
       have n1:k≠g2:=fun e=>by subst e;rw[Ok]at ho;cases ho;cases hc
       have n2:k≠w.heap.size:=fun e=>by subst e;rw[dd.o.row]at ho;cases ho;cases hc
       have n3:k≠bq:=fun e=>by subst e;rw[U7.o]at ho;cases ho;cases hc
       rw[Below.heap_setCell _ _ _ _ n3];exact(Rk k (aD ho) n1 n2).trans ho
      have hg4l:g4<w4.heap.size:=by
       obtain⟨off5,cap5,_,jf,_,h5⟩:=mG.ex;rcases h5 with h5|⟨cur,fz,c1,_⟩
       ·omega
       ·exact aD c1
      have hg4b:g4≠bq:=by
       rcases hg4 with ⟨e,_⟩|e
       ·rw[e];exact fun h=>GF.o h.symm
       ·omega
      refine⟨⟨by simp;omega,fun k hk=>?_,fun k o _ ho hc=>uj k o ho hc⟩,?_⟩
      ·have mo:k<V2.heap.size/\k≠g2/\k≠w.heap.size/\k≠bq:=by rcases hk with hk|rfl|rfl<;>omega
       rw[Below.heap_setCell _ _ _ _ mo.2.2.2];exact Rk k mo.1 mo.2.1 mo.2.2.1
      ·show DFI s w bq W.heap.size (W.heap.size+1) Ds (eM s h D ((ef s h).take (i+1))).1 (h :: (r++(eM s h D ((ef s h).take (i+1))).2)) _
       rw[kU.o,HSTEP.o];refine⟨(fi.below (zM.o.alloc (by omega) _) (by simp;omega) (by omega)).setCell (by dsimp only;omega) _,?_,?_,⟨g4,_,aI wh _ _,?_,by omega,by simp;omega,by omega,by omega,hg4b⟩,dd.o.marks.keep fun k o ho hc=>uj k o ho hc⟩
       ·exact aM (fi.keep (ar _ ((oN.o _ (by omega)).trans dd.o.box)) (by omega)) (by omega) _ _
       ·exact aM (fi.keep (ar _ jd.o) (by omega)) (by omega) _ _
       ·have e1:(h :: (r++(st.2++[fv]))).length=ql+1+1:=by have:=vW.o;simp only[List.length_cons,List.length_append,List.length_nil]at this ⊢;omega
        have e2:wY (h :: (r++(st.2++[fv])))=wY (h :: (r++st.2))++[Value.int .i64 fv]:=by simp[wY]
        dsimp only;rw[e1,e2];exact mG.up (.inl (Below.heap_setCell _ _ _ _ hg4b))
     ·have hneg':decide (dv<0)=false:=decide_eq_false E3;have HSAME:am (jV (D.getD h 0+1) st fv=st):=aa (by unfold jV;rw[HDV.o,if_neg E3]);clear E3
      gi_wp2
      refine⟨Bod.refl _ _ _,?_⟩
      show DFI s w bq W.heap.size (W.heap.size+1) Ds (eM s h D ((ef s h).take (i+1))).1 (h :: (r++(eM s h D ((ef s h).take (i+1))).2)) V2
      rw[kU.o,HSAME.o];exact dd.o
    case done=>
     intro D' V hD iS hK;rw[List.take_of_length_le (Nat.le_refl _)]at iS;obtain⟨TI,XU⟩:=PU (by rw[HM.o];exact hf) Js.o Gu.o;have oA:(eM s h D (ef s h)).1.length=eS s:=by rw[yV];exact Js.o
     obtain⟨st,eD⟩:∃ st,eM s h D (ef s h)=st:=⟨_,rfl⟩;rw[eD]at iS TI XU oA;obtain⟨g2,qv2,k1,k2,k3,k4,k5,k6,k7⟩:=iS.que;obtain⟨ql,oO⟩:∃ ql,(h :: (r++st.2)).length=ql+1:=⟨(r++st.2).length,rfl⟩;rw[oO]at k2;obtain⟨off2,cap2,rfl,hnc2,hcm2,-⟩:=k2.ex;have tb:=ab k1 0;simp at tb;have oL:=aa iS;have DT:=aa k2;have vW:=aa oO;have HBF2:=aa TI;have HMS:=aa XU;have C':=aa oA;have hDl2:∀ E∈Ds,E<D':=fun E hE=>by have:=lW E hE;omega
     have HK:=aa hK;clear eD iS TI XU oA k1 k2 oO dg hK;have xQ:am (ql=(r++st.2).length):=aa (by have:=vW.o;simp only[List.length_cons]at this;omega)
     have jO:am (∀ (u:Value) (act:Act),OwnQ V g2 3 u ql (wY (r++st.2))->(∃ (u2 u3 u4 u6 u8 u9 u10 u11 u12 u13 u14 u15 u16 u17 u18 u19 u20 u21 u22 u23 u24 u25 u26 u27 u28 u29 u30 u31 u32 u33 u34 u35 u36 u37 u38 u39 u40 u41 u42 u43 u44 u45 u46 u47 u48 u49 u50 u51 u52 u53 u54 u55 u56 u57 u58 u59 u60 u61:Value),act={ tmps:=#[Value.pointer (some ⟨B,0,none⟩),Value.int .i64 f,u2,u3,u4,Value.pointer (some ⟨w.heap.size+1,0,none⟩),u6,Value.pointer (some ⟨V.heap.size,0,none⟩),u8,u9,u10,u11,u12,u13,u14,u15,u16,u17,u18,u19,u20,u21,u22,u23,u24,u25,u26,u27,u28,u29,u30,u31,u32,u33,u34,u35,u36,u37,u38,u39,u40,u41,u42,u43,u44,u45,u46,u47,u48,u49,u50,u51,u52,u53,u54,u55,u56,u57,u58,u59,u60,u61],defers:=m7 (D' :: Ds) })->∃ m,m<n/\WD s B f w m act (V.alloc (Obj.cells #[u] 38))):=aa (fun u act hu ⟨u2,u3,u4,u6,u8,u9,u10,u11,u12,u13,u14,u15,u16,u17,u18,u19,u20,u21,u22,u23,u24,u25,u26,u27,u28,u29,u30,u31,u32,u33,u34,u35,u36,u37,u38,u39,u40,u41,u42,u43,u44,u45,u46,u47,u48,u49,u50,u51,u52,u53,u54,u55,u56,u57,u58,u59,u60,u61,ha⟩=>by
      have aC:(r++st.2).length+M0 s st.1<n:=by rw[HN.o];exact HMS.o
      have hV1:=oL.o.old.size;refine⟨_,aC,st.1,r++st.2,V.heap.size,D' :: Ds,_,_,_,_,_,_,_,_,_,_,_,_,_,_,_,_,_,_,_,_,_,_,_,_,_,_,_,_,_,_,_,_,_,_,_,_,_,_,_,_,_,_,_,_,_,_,_,_,_,_,_,_,_,_,_,_,_,_,ha,rfl,by omega,C'.o,HBF2.o,by omega,by simp,?_⟩;have hz:(V.alloc (Obj.cells #[u] 38)).heap.size=V.heap.size+1:=by simp
      refine⟨oL.o.old.alloc hV1 _,ar _ oL.o.box,ar _ oL.o.row,⟨g2,u,ap _ _,by rw[<-xQ.o];exact hu.ck (.of_below (by go_grown)),k3,by omega,by omega,by omega,by omega⟩,?_⟩
      exact cU.cons (oL.o.marks.up (by go_grown)) (by omega) (ar _ HK.o) hDl2)
     have ud:=aa (OwnQ.tail (x:=.int .i64 h) (xs:=wY (r++st.2)) DT.o);by_cases hc:cap2=1
     ·subst hc;obtain rfl:ql=0:=by omega
      have Db:=ud.o;rw[if_pos rfl]at Db;have HG:am (∀ act,_->_):=aa (fun act=>jO.o _ act Db);clear Db
      go_wp2_with fail
      exact HG.o _ ⟨_,_,_,_,_,_,_,_,_,_,_,_,_,_,_,_,_,_,_,_,_,_,_,_,_,_,_,_,_,_,_,_,_,_,_,_,_,_,_,_,_,_,_,_,_,_,_,_,_,_,_,_,_,_,_,_,_,_,rfl⟩
     ·have Db:=ud.o;rw[if_neg hc]at Db;have HG:am (∀ act,_->_):=aa (fun act=>jO.o _ act Db);clear Db
      go_wp2_with fail
      exact HG.o _ ⟨_,_,_,_,_,_,_,_,_,_,_,_,_,_,_,_,_,_,_,_,_,_,_,_,_,_,_,_,_,_,_,_,_,_,_,_,_,_,_,_,_,_,_,_,_,_,_,_,_,_,_,_,_,_,_,_,_,_,rfl⟩
theorem Tryz.infoLink:(Tryz.prog.info? 75).map (fun i=>(i.zero,i.size,i.bytes))=some (some (.agg #[.int .i64 0,.int .i64 0]),2,16):=by kernel_rfl
theorem VO(s:Sys) (e:Nat):(ef s e).Pairwise (·<·):=List.Pairwise.filter _ List.pairwise_lt_range
theorem VP{s:Sys} {e i:Nat} {D:List Int} {d:Nat} (hi:i<(ef s e).length) (hd:D.getD ((ef s e).getD i 0) 0=d) (hb:∀ j,j<i->D.getD ((ef s e).getD j 0) 0≠d) (he:D.getD e 0≠d):gW s D d e=(ef s e).getD i 0:=by
 have e1:(ef s e).getD i 0=(ef s e)[i]:=az 0 hi;rw[e1]at hd ⊢;obtain⟨h1,h2,h3⟩:=rF.1 (List.getElem_mem hi);unfold gW;rw[dB (eS s) (ef s e)[i] _ h1 (fun j hj=>?_) (by rw[hd,h2];simp),Int.toNat_natCast];cases GA:eZ s e j with
 | false=>simp
 | true=>
  rw[Bool.and_true];refine decide_eq_false fun hdj=>?_
  have Uy:j∈ef s e:=rF.2 ⟨by omega,GA,fun e2=>he (by rw[<-e2];exact hdj)⟩;obtain⟨i',nC,e'⟩:=List.getElem_of_mem Uy;rcases Nat.lt_trichotomy i' i with aC|aC|aC
  ·exact hb i' aC (by rw[az 0 nC,e'];exact hdj)
  ·subst aC;omega
  ·have:=List.pairwise_iff_getElem.1 (VO s e) i i' hi nC aC;omega
theorem VQ{s:Sys} {f:Nat} (hf:f<eS s) {e d:Nat} (he:e<eS s) (h:(db s f).getD e 0=d+1) (hb:∀ j,j<(ef s e).length->(db s f).getD ((ef s e).getD j 0) 0≠d):False:=by
 obtain⟨h1,h2,h3,_⟩:=BH hf he h;have hm:gW s (db s f) d e∈ef s e:=rF.2 ⟨h1,h3,fun e2=>by rw[e2]at h2;omega⟩;obtain⟨i,hi,e'⟩:=List.getElem_of_mem hm;exact hb i hi (by rw[az 0 hi,e'];exact h2)
theorem tt{w:World} {base:Nat} {v:Value} {l:List Lk} (h:aJ w base 75 2 v l.length (cT l)) (hx:∀ u∈l,bR u.x/\bR u.p) (hn:l.length<=17592186044416):bN w v l:=by
 have aU:=fun i (hi:i<l.length) j (u:Value) (hj:j<2) (hu:l[i].c[j]?=some u)=>h.cell (i * 2+j) u (by unfold cT;rw[pW Lk.c 2 (fun _=>rfl) l i j hi hj];exact hu)
 rcases h.2 with ⟨hz,h0⟩|⟨g,cap,cur,fz,rfl,_,hg,_,kR,jl,_⟩
 ·refine⟨none,0,by rw[hz,h0],⟨by omega,by omega,fun _=>rfl⟩,hn,fun i x hi=>?_⟩;have:=(List.getElem?_eq_some_iff.1 hi).1;omega
 ·refine⟨some ⟨g,0,none⟩,cap,rfl,⟨kR,by simp only[maxLen]at jl;omega,fun e=>by cases e⟩,hn,fun i x hi=>⟨g,0,rfl,?_⟩⟩;obtain⟨gL,rfl⟩:=List.getElem?_eq_some_iff.1 hi;obtain⟨r0,r1⟩:=hx _ (List.getElem_mem gL)
  have key:∀ j u,j<2->l[i].c[j]?=some u->w.cell? ⟨g,0+i * 2+j,none⟩=some u:=fun j u hj hu=>by
   obtain⟨g',c',e1,e2⟩:=aU i gL j u hj hu;have:g=g':=by simp at e1;exact e1.1
   rw[this,Nat.zero_add];exact e2
  exact⟨⟨key 0 _ (by omega) rfl,r0⟩,⟨key 1 _ (by omega) rfl,r1⟩⟩
theorem BT(n:Nat) (q:Nat->Bool):-1<=firstIx n q/\firstIx n q<n\/firstIx n q=-1:=by
 rcases bE n q with ⟨e,_⟩|⟨k,hk,e,_⟩
 ·exact .inr e
 ·exact .inl ⟨by omega,by omega⟩
theorem Lm{s:Sys} (hn:nS s<=5) (hE:eS s<=4096) (D:List Int):∀ d e,∀ y∈kM s D d e,bR y.x/\bR y.p
 | 0,_,y,hy=>by simp[kM]at hy
 | d+1,e,y,hy=>by
  rw[kM]at hy;rcases List.mem_cons.1 hy with rfl|hy
  ·have h1:=BT (eS s) fun g=>decide (D.getD g 0=d)&&eZ s e g
   have h2:=BT (nS s) fun p=>linkB s p e (gW s D d e)
   refine⟨?_,?_⟩
   ·show bR ((gW s D d e:Nat):Int)
    unfold gW;generalize firstIx (eS s) _=z at h1;exact⟨by omega,by omega⟩
   ·show bR (byP s e (gW s D d e))
    unfold byP;generalize firstIx (nS s) _=z at h2;exact⟨by omega,by omega⟩
  ·exact Lm hn hE D d _ y hy
structure WkI (s:Sys) (w w1:World) (b11 f cur:Nat) (l:List Lk) (Ds:List Nat) (V:World):Prop where
 old:Below w.heap.size w V
 fin:∀ k,w.heap.size+2<=k->k<w1.heap.size->V.heap[k]?=w1.heap[k]?
 far:V.heap[w1.heap.size]?=some (.cells (bH (db s f)) 3)
 fbox:V.heap[b11]?=some (.cells #[.slice (some ⟨w1.heap.size,0,none⟩) (eS s) (eS s)] 38)
 ebox:V.heap[w.heap.size+1]?=some (.cells #[.int .i64 cur] 3)
 walk:∃ v,V.heap[b11+2]?=some (.cells #[v] 54)/\aJ V (b11+1) 75 2 v l.length (cT l)
 marks:cU w.heap.size Ds V
theorem WkI.sta{s:Sys} {w w1:World} {b11 f cur B:Nat} {l:List Lk} {Ds:List Nat} (hB:w.heap.size<=B) (hB1:w1.heap.size<=B) (hD:∀ E∈Ds,E<B) (NE:∀ k,w.heap.size+2<=k->k<w1.heap.size->∃ o,w1.heap[k]?=some o):cI B (WkI s w w1 b11 f cur l Ds):=fun A A' c h=>by
 obtain⟨v,h1,h2⟩:=h.walk;refine⟨c.below hB h.old.size h.old,fun k k1 k2=>?_,c.same _ _ h.far (.inr rfl),c.same _ _ h.fbox (.inr rfl),c.same _ _ h.ebox (.inr rfl),⟨v,c.same _ _ h1 (.inr rfl),h2.ck c.ck⟩,cI.marks hD A A' c h.marks⟩;obtain⟨o,ho⟩:=NE k k1 k2;rw[ho];exact c.same _ _ ((h.fin k k1 k2).trans ho) (.inl (by omega))
def WF(s:Sys) (B f:Nat) (full:List Lk) (w w1:World) (b11:Nat) (n:Nat) (act:Act) (W:World):Prop:=∃ (cur:Nat) (l:List Lk) (Ds:List Nat) (u0 u1 u5 u6 u7 u8 u10 u13 u14 u15 u16 u17 u18 u19 u20 u21 u22 u23 u24 u25 u26 u27 u28 u29 u30 u31 u32 u33 u34 u35 u36 u37 u38 u39 u40 u41 u42 u43 u44 u45 u46 u47 u48 u49 u50 u51 u52 u53 u54 u55 u56 u57 u58 u59 u60 u61 u62:Value),
 act={ tmps:=#[u0,u1,Value.int .i64 f,Value.pointer (some ⟨w.heap.size,0,none⟩),Value.pointer (some ⟨w.heap.size+1,0,none⟩),u5,u6,u7,u8,Value.pointer (some ⟨B,0,none⟩),u10,Value.pointer (some ⟨b11,0,none⟩),Value.pointer (some ⟨b11+2,0,none⟩),u13,u14,u15,u16,u17,u18,u19,u20,u21,u22,u23,u24,u25,u26,u27,u28,u29,u30,u31,u32,u33,u34,u35,u36,u37,u38,u39,u40,u41,u42,u43,u44,u45,u46,u47,u48,u49,u50,u51,u52,u53,u54,u55,u56,u57,u58,u59,u60,u61,u62],defers:=m7 Ds }/\cur<eS s/\(db s f).getD cur 0=n/\l++kM s (db s f) n cur=full/\b11+2<W.heap.size/\WkI s w w1 b11 f cur l Ds W
theorem PW(s:Sys) (hv:verifyE s=0) (hE:eS s<=256) (vc vs vt ve:Value) (e f:Nat) (he:e<eS s) (hf:f<eS s) (hD:0<=(db s f).getD e 0) (w:World) (hs:IsSys w s vc vs vt ve) (hN:movesN s.prob.a.states<1099511627776) :
  Calls Tryz.prog 90 #[.agg (bL s.prob vc vs s.n vt ve),.int .i64 e,.int .i64 f] w fun r w'=>∃ u,r=.returned (.tuple #[u,.bool true,.int .i64 0])/\(bN w' u (⟨e,-1⟩ :: kE s e f)/\∀ k,u.ownBlock=some k->w.heap.size<=k)/\Below w.heap.size w w':=by
 have HS:=aa hs;obtain⟨⟨pc,cc,rfl⟩,⟨ps,cs,rfl⟩,⟨pt,ct,rfl⟩,⟨pe,ce,rfl⟩⟩:=bD hs;clear hs
 have HC:am (∀ W,Below w.heap.size w W->∀ vl,aQ W vl [(e:Int),f]->_):=aa (fun W (hb:Below w.heap.size w W) vl (hl:aQ W vl [(e:Int),f])=>MZ s hv _ _ _ _ vl [(e:Int),f] W (HS.o.up hb) hN hl (fun k hk=>by
  rcases k with _|_|k
  ·exact⟨by simp,by simpa using he⟩
  ·exact⟨by simp,by simpa using hf⟩
  ·simp at hk;omega))
 have dD:=aa (gE hv);have HE:=aa he;have Dt:=aa hf;have HDD:=aa hD;obtain⟨i0,cX,cD,bX,cF⟩:=info_parts Tryz.infoLink;obtain⟨full,qj⟩:∃ full,(⟨e,-1⟩ :: kE s e f:List Lk)=full:=⟨_,rfl⟩;rw[qj];have Jk:=aa qj;clear hv hD qj;refine gi Tryz.func90 rfl ?_;simp only[Tryz.ntmps90,List.size_toArray,List.length_cons,List.length_nil,Nat.reduceAdd,Nat.reduceSub,Array.replicate_succ,Array.replicate_zero,List.push_toArray,List.append_toArray,List.nil_append,List.cons_append]
 go_wp2_with fail
 refine aO (fun W=>Below w.heap.size w W/\W.heap[w.heap.size+1]?=some (.cells #[.int .i64 e] 3)/\W.heap[w.heap.size+1+1]?=some (.cells (bH [(e:Int),f]) 3)) ⟨by go_grown,ar _ (aZ _ _ _),dZ _ _ _ _⟩ (fun W0 aX=>?_);obtain⟨aG,wl,Xj⟩:=aX;have mY:=aD Xj;refine(HC.o W0 aG _ (rM (by rfl) (by decide) Xj fun i hi=>?_)).mono ?_
 ·have:i=0\/i=1:=by simp at hi;omega
  have h1:=HE.o;have h2:=Dt.o;rcases this with rfl|rfl
  ·exact⟨by simp<;>omega,by simp<;>omega⟩
  ·exact⟨by simp<;>omega,by simp<;>omega⟩
 rintro r w1 ⟨B,rfl,aK,hF1,L1⟩;have A5:=af aK wl;have bI:=aa (ae aG aK);have kS:=aa A5;have gh:=aa (L1.mono (show w.heap.size+2<=W0.heap.size by omega));have fZ:w.heap.size+1<w1.heap.size:=by have:=aK.size;omega
 clear aG wl Xj aK hF1 L1 A5 mY HC W0
 go_wp2_with fail
 refine(PV s dD.o hE B f Dt.o _ w1 gh.o).mono ?_;rintro r w2 ⟨rfl,N5,aT⟩;have dM:=af aT kS.o;have tx2:∀ o,(w2.alloc o).cell? ⟨w.heap.size+1,0,none⟩=some (.int .i64 e):=fun o=>(ab (ar o dM) 0).trans rfl
 have tfe:∀ o,(w2.alloc o).cell? ⟨w1.heap.size,e,none⟩=some (.int .i64 ((db s f).getD e 0)):=fun o=>(ab (ar o N5) e).trans (go _ _ (by rw[wH];exact he))
 obtain⟨n0,pA⟩:∃ n0:Nat,(db s f).getD e 0=n0:=⟨((db s f).getD e 0).toNat,by have:=HDD.o;omega⟩;rw[pA]at tfe;have Ql:=aa pA;obtain⟨m,hm⟩:∃ m,eS s=m:=⟨_,rfl⟩;have HM:=aa hm;have cf:=aa aT;have HFAR:=aa N5;have fN:=aa dM;have je:w1.heap.size<w2.heap.size:=aD N5;rw[hm]at hE he hf ⊢;clear aT N5 dM pA hm;have qj:=Jk.o
 have N1:am (full.length<=257/\∀ y∈full,bR y.x/\bR y.p):=aa (by
  have h1:=(yy (s:=s) Dt.o n0 e HE.o Ql.o).2.2;have h2:=Ea (s:=s) Dt.o e HE.o;have h3:=Ql.o;have h4:=HM.o;rw[<-qj];unfold kE;rw[h3,Int.toNat_natCast];refine⟨by simp only[List.length_cons,h1];omega,fun y hy=>?_⟩;rcases List.mem_cons.1 hy with rfl|hy
  ·exact⟨⟨by dsimp only;omega,by dsimp only;omega⟩,⟨by dsimp only;omega,by dsimp only;omega⟩⟩
  ·exact Lm dD.o.n.2.1 (by omega) _ _ _ y hy)
 have HFULL:am ([(⟨e,-1⟩:Lk)]++kM s (db s f) n0 e=full):=aa (by rw[<-qj];unfold kE;rw[Ql.o,Int.toNat_natCast];rfl);clear qj
 go_wp2_with fail
 have BY:am (∀ (cur:Nat) (l:List Lk) (Ds:List Nat) (B0:Nat),w1.heap.size<=B0->(∀ E∈Ds,E<B0)->cI B0 (WkI s w w1 w2.heap.size f cur l Ds)):=aa (fun cur l Ds B0 h1 h2=>WkI.sta (by omega) h1 h2 fun k _ hk=>⟨w1.heap[k],by rw[Array.getElem?_eq_getElem hk]⟩)
 have iR:am (WkI s w w1 w2.heap.size f e [⟨e,-1⟩] [] (((w2.alloc (Obj.cells #[Value.slice (some { block:=w1.heap.size,off:=0 }) m m] 38)).alloc (Obj.cells #[Value.int .i64 e,Value.int .i64 (-1)] 75)).alloc (Obj.cells #[Value.slice (some { block:=w2.heap.size+1,off:=0 }) 1 1] 54))):=aa (by
  have hg:Below w2.heap.size w2 (((w2.alloc (Obj.cells #[Value.slice (some { block:=w1.heap.size,off:=0 }) m m] 38)).alloc (Obj.cells #[Value.int .i64 e,Value.int .i64 (-1)] 75)).alloc (Obj.cells #[Value.slice (some { block:=w2.heap.size+1,off:=0 }) 1 1] 54)):=by go_grown
  refine⟨ae bI.o (ae cf.o hg),fun k _ hk=>?_,af hg HFAR.o,?_,af hg fN.o,⟨_,dZ _ _ _ _,?_⟩,cU.nil _ _⟩
  ·rw[hg.block k (by omega),cf.o.block k hk]
  ·rw[HM.o];exact ar _ (ar _ (ap _ _))
  ·exact⟨rfl,.inr ⟨w2.heap.size+1,1,_,(0,0),rfl,Nat.le_refl _,ar _ (aZ _ _ _),fun i _ h=>by have:=h.2;simp at this,Nat.le_refl _,by unfold maxLen;omega,rfl,rfl⟩⟩)
 refine BC (fun n act W=>WF s B f full w w1 w2.heap.size n act W) n0 ?start ?round
 case start=>exact⟨e,[⟨e,-1⟩],[],_,_,_,_,_,_,_,_,_,_,_,_,_,_,_,_,_,_,_,_,_,_,_,_,_,_,_,_,_,_,_,_,_,_,_,_,_,_,_,_,_,_,_,_,_,_,_,_,_,_,_,_,_,_,_,_,_,rfl,HE.o,Ql.o,HFULL.o,by simp,iR.o⟩
 case round=>
  clear iR Ql HFULL tx2 tfe fN HFAR kS;generalize w2.heap.size=b11 at je BY cf;rintro n act W ⟨cur,l,Ds,u0,u1,u5,u6,u7,u8,u10,u13,u14,u15,u16,u17,u18,u19,u20,u21,u22,u23,u24,u25,u26,u27,u28,u29,u30,u31,u32,u33,u34,u35,u36,u37,u38,u39,u40,u41,u42,u43,u44,u45,u46,u47,u48,u49,u50,u51,u52,u53,u54,u55,u56,u57,u58,u59,u60,u61,u62,rfl,bW,hcd,qj,df,hI⟩;obtain⟨v,kl,bd⟩:=hI.walk;obtain⟨av,cv,rfl⟩:=bd.slice;have te:=ab hI.ebox 0;have tw:=ab kl 0;simp at te tw;have HI:=aa hI;have oy:=aa kl;have bO:=aa bd;have JI:=aa hcd;have A3:=aa qj;have jR:=aa bW;clear hI kl bd hcd qj;by_cases QI:cur=f
  ·have bK:((cur:Int) != (f:Int))=false:=by simp[QI]
   have HL:am (l=full):=aa (by
    have h0:=(lz (s:=s) (f:=f) Dt.o).zero;have h1:=JI.o;rw[QI]at h1;have h2:n=0:=by omega
    have h3:=A3.o;rw[h2]at h3
    simpa[kM] using h3)
   clear QI
   go_wp2_with fail
   refine rp HI.o.marks (v:=.tuple #[.slice av l.length cv,.bool true,.int .i64 0]) ?_ ⟨_,rfl,?_,mD (fun D hD=>(HI.o.marks.2 D hD).1) (Nat.le_refl _) HI.o.old⟩
   ·simp[results,Tryz.results90,go_sem]
   ·rw[HL.o]at bO ⊢;exact⟨tt (bO.o.ck (ro HI.o.marks)) N1.o.2 (by have:=N1.o.1;omega),fun k hk=>by have:=(bO.o.lt k hk).1;omega⟩
  ·have bK:((cur:Int) != (f:Int))=true:=by simp;omega
   obtain⟨d,hd⟩:∃ d,n=d+1:=by
    refine⟨n - 1,?_⟩;rcases Nat.eq_zero_or_pos n with h0|h0
    ·exact absurd ((lz (s:=s) (f:=f) Dt.o).only cur bW (by rw[JI.o,h0];rfl)) QI
    ·omega
   have Gl:=aa hd;clear QI hd
   go_wp2_with fail
   refine(vE B cur W).mono ?_;rintro r w3 ⟨rfl,rfl⟩;clear te tw
   go_wp2_with fail
   have lW:∀ E∈Ds,E<W.heap.size:=HI.o.marks.lt;refine bC (fun V=>WkI s w w1 b11 f cur l Ds V/\V.heap[W.heap.size]?=some (.cells #[.pointer (some ⟨B,0,none⟩)] 196)/\V.heap[W.heap.size+1]?=some (.cells #[.int .i64 cur] 3)/\W.heap.size+1<V.heap.size) ⟨BY.o cur l Ds W.heap.size (by omega) lW _ _ (Chg.of_below (by go_grown)) HI.o,ar _ (ap _ _),aZ _ _ _,by simp⟩ (fun W1 cM=>?_);obtain⟨xI,A5,Je,Yh⟩:=cM;have dg:=tm s dD.o B cur W.heap.size (W.heap.size+1) jR.o (w.heap.size+2) w1 gh.o W1 (fun k h1 h2=>xI.fin k h1 h2) (by omega) (by simp[ab A5]) (by simp[ab Je]);have gB:am (∀ i,i<(ef s cur).length->(db s f).getD ((ef s cur).getD i 0) 0=d->(∀ j,j<i->(db s f).getD ((ef s cur).getD j 0) 0≠d)->gW s (db s f) d cur=(ef s cur).getD i 0):=aa (fun i h1 h2 h3=>VP h1 h2 h3 (by have:=JI.o;have:=Gl.o;omega))
   refine mL (gf:=179) (lb:=#[.pointer (some ⟨W.heap.size,0,none⟩),.pointer (some ⟨W.heap.size+1,0,none⟩)]) rfl (enters_of Tryz.func179 (by kernel_rfl) rfl) dg (Below.refl _ _) (fun k hk=>by rcases hk with hk|rfl|rfl<;>omega) (fun i=>rfl)
    (fun i V=>(WkI s w w1 b11 f cur l Ds V/\V.heap[W.heap.size]?=some (.cells #[.pointer (some ⟨B,0,none⟩)] 196)/\V.heap[W.heap.size+1]?=some (.cells #[.int .i64 cur] 3))/\∀ j,j<i->(db s f).getD ((ef s cur).getD j 0) 0≠d)
    (fun c i V=>c=.exit 2/\WkI s w w1 b11 f (gW s (db s f) d cur) (l++[⟨gW s (db s f) d cur,byP s cur (gW s (db s f) d cur)⟩]) Ds V)
    (fun i=>((BY.o cur l Ds _ (by omega) (fun E hE=>by have:=lW E hE;omega)).and (cI.cells.and cI.cells)).and cI.pure) (fun c i=>cI.pure.and (BY.o _ _ Ds _ (by omega) (fun E hE=>by have:=lW E hE;omega))) ⟨⟨xI,A5,Je⟩,fun j hj=>by omega⟩ ?rnd ?done ?stop
   case done=>
    intro D' V hD iS hK;exact(VQ Dt.o jR.o (by rw[JI.o,Gl.o];rfl) iS.2).elim
   case stop=>
    rintro D' c i V hD hi ⟨rfl,iS⟩ hK
    have HG:am (∀ act:Act,(∃ (u0 u1 u5 u6 u7 u8 u10 u13 u14 u15 u16 u17 u18 u19 u20 u21 u22 u23 u24 u25 u26 u27 u28 u29 u30 u31 u32 u33 u34 u35 u36 u37 u38 u39 u40 u41 u42 u43 u44 u45 u46 u47 u48 u49 u50 u51 u52 u53 u54 u55 u56 u57 u58 u59 u60 u61 u62:Value),act={ tmps:=#[u0,u1,Value.int .i64 f,Value.pointer (some ⟨w.heap.size,0,none⟩),Value.pointer (some ⟨w.heap.size+1,0,none⟩),u5,u6,u7,u8,Value.pointer (some ⟨B,0,none⟩),u10,Value.pointer (some ⟨b11,0,none⟩),Value.pointer (some ⟨b11+2,0,none⟩),u13,u14,u15,u16,u17,u18,u19,u20,u21,u22,u23,u24,u25,u26,u27,u28,u29,u30,u31,u32,u33,u34,u35,u36,u37,u38,u39,u40,u41,u42,u43,u44,u45,u46,u47,u48,u49,u50,u51,u52,u53,u54,u55,u56,u57,u58,u59,u60,u61,u62],defers:=m7 (D' :: Ds) })->∃ m,m<n/\WF s B f full w w1 b11 m act V):=aa (by
     rintro act ⟨u0,u1,u5,u6,u7,u8,u10,u13,u14,u15,u16,u17,u18,u19,u20,u21,u22,u23,u24,u25,u26,u27,u28,u29,u30,u31,u32,u33,u34,u35,u36,u37,u38,u39,u40,u41,u42,u43,u44,u45,u46,u47,u48,u49,u50,u51,u52,u53,u54,u55,u56,u57,u58,u59,u60,u61,u62,ha⟩;have h1:=Gl.o;have h2:=BH (s:=s) Dt.o jR.o (d:=d) (by rw[JI.o,h1];rfl);obtain⟨v5,k1,_⟩:=iS.walk;refine⟨d,by omega,_,_,D' :: Ds,_,_,_,_,_,_,_,_,_,_,_,_,_,_,_,_,_,_,_,_,_,_,_,_,_,_,_,_,_,_,_,_,_,_,_,_,_,_,_,_,_,_,_,_,_,_,_,_,_,_,_,_,_,_,_,_,_,ha,h2.1,h2.2.1,?_,aD k1,{ iS with marks:=cU.cons iS.marks (by omega) hK fun E hE=>by have:=lW E hE;omega }⟩;have h3:=A3.o;rw[h1]at h3;rw[<-h3,List.append_assoc]
     rfl)
    clear iS hK dg xI A5 Je
    go_wp2_with fail
    exact HG.o _ ⟨_,_,_,_,_,_,_,_,_,_,_,_,_,_,_,_,_,_,_,_,_,_,_,_,_,_,_,_,_,_,_,_,_,_,_,_,_,_,_,_,_,_,_,_,_,_,_,_,_,_,_,_,_,_,_,_,_,rfl⟩
   case rnd=>
    intro yl i V hi hl iS;obtain⟨iS,fY⟩:=iS;unfold IU;obtain⟨nb,iP⟩:∃ nb,(ef s cur).getD i 0=nb:=⟨_,rfl⟩
    have kZ:nb<eS s:=by
     rw[<-iP,az 0 hi];exact(rF.1 (List.getElem_mem hi)).1
    have HNXT:=aa (fun h=>gB.o i hi h fY);have fk:am ((db s f).getD nb 0≠d->∀ j,j<i+1->(db s f).getD ((ef s cur).getD j 0) 0≠d):=aa (fun h=>aY fY (by rw[iP];exact h));rw[iP]at HNXT ⊢;have oL:=aa iS;obtain⟨pv,XB⟩:∃ pv,byP s cur nb=pv:=⟨_,rfl⟩;rw[XB];have JG:=aa XB;clear iS dg iP fY XB xI A5 Je
    gi_wp2
    refine⟨Bod.refl _ _ _,fun V=>WkI s w w1 b11 f cur l Ds V/\V.heap[W.heap.size]?=some (.cells #[.pointer (some ⟨B,0,none⟩)] 196)/\V.heap[W.heap.size+1]?=some (.cells #[.int .i64 cur] 3),(BY.o cur l Ds _ (by omega) (fun E hE=>by have:=lW E hE;omega)).and (cI.cells.and cI.cells),oL.o,fun V2 h2 jI=>?_⟩;obtain⟨rlp,jI⟩:=jI;have Jg:=aD jI;clear jI rlp;obtain⟨h2,dM,iN⟩:=h2;obtain⟨v2,k1,k2⟩:=h2.walk;obtain⟨av2,cv2,rfl⟩:=k2.slice;have dd:=aa h2;have U7:=aa k1;have DT:=aa k2;have fN:=aa dM;have wg:=aa iN;have tf:=ab h2.fbox 0;have te:=ab h2.ebox 0;have tn:=ab h2.far nb;have tc:=ab h2.far cur;rw[go _ _ (by rw[wH];exact kZ)]at tn;rw[go _ _ (by rw[wH];exact bW),JI.o]at tc;simp at tf te;rw[HM.o]at tf;have yf:∀ z:ExtW V2,z.val.cell? ⟨b11,0,none⟩=_:=fun z=>z.cell tf
    have ye:∀ z:ExtW V2,z.val.cell? ⟨w.heap.size+1,0,none⟩=_:=fun z=>z.cell te
    have jn:IntKind.i64.wrap ((n:Int) - 1)=(d:Int):=by have:=Gl.o;have:=N1.o.1;have h5:=congrArg List.length A3.o;rw[IntWalk.i64_in _ (by have h6:=Ea (s:=s) Dt.o cur bW;have:=JI.o;have:=HM.o;omega)];omega
    have hnm:nb<m:=by have:=HM.o;omega
    have qO:cur<m:=by have:=HM.o;omega
    clear h2 k1 k2 dM iN;by_cases L0:(db s f).getD nb 0=d
    ·have iO:=aa (HNXT.o L0);rw[L0]at tn;have yn:∀ z:ExtW V2,z.val.cell? ⟨w1.heap.size,nb,none⟩=_:=fun z=>z.cell tn
     have yc:∀ z:ExtW V2,z.val.cell? ⟨w1.heap.size,cur,none⟩=_:=fun z=>z.cell tc
     clear L0 tn tc tf te
     gi_wp2
     refine qm (fun ⟨_,_,h⟩=>h) (by kernel_rfl) (by kernel_rfl) (by kernel_rfl) ?_
     repeat (go_big_quiet_step (fail))
     refine wpQuiet_nil ?_;rintro _ ⟨xq,rfl⟩;have qL:=xq.ext;generalize xq.val=V3 at qL ⊢;clear yf ye yn yc;have Kk:=aa qL;have h3:=BY.o cur l Ds W1.heap.size (by omega) (fun E hE=>by have:=lW E hE;omega) _ _ (Chg.of_below qL) dd.o;have k1:=af qL U7.o;have k2:=DT.o.ck (.of_below qL);have J6:=qL.size;have tw:=ab k1 0;simp at tw;have sa:=aa h3;have oN:=aa k1;have cY:=aa (k2.up ((Below.refl _ V3).alloc (Nat.le_refl _) (.cells #[.int .i64 nb,.int .i64 pv] 75)));have bF:=aa (dQ V3 [.int .i64 nb,.int .i64 pv] 75);have jp:am (l.length+1<=300):=aa (by have h5:=congrArg List.length A3.o;have:=N1.o.1;simp only[List.length_append]at h5;omega);have kw:am (l.length+1<=maxLen):=aa (by have:=jp.o;unfold maxLen;omega);have fc:am ((l.length+1) * 16<=140737488355328):=aa (by have:=jp.o;omega);have gu:am (b11+1<=(V3.alloc (.cells #[.int .i64 nb,.int .i64 pv] 75)).heap.size):=aa (by simp;omega);have hne1:¬ (b11+2=w.heap.size+1):=by omega
     clear qL h3 k1 k2
     go_wp2_with fail
     gi_wp2_with (gi_at_builtin;(refine qZ _ rfl (.tmp 55) (.tmp 59) 54 rfl (b11+1) 75 i0 _ 2 16 Tryz.underlying54 cX cD bX cF rfl (by decide) _ l.length _ rfl cY.o ⟨V3.heap.size,0,none⟩ 1 1 [.int .i64 nb,.int .i64 pv] rfl rfl bF.o (by simp[Value.oneCell']) kw.o fc.o gu.o ?_;intro v4 w4 mG fi _;obtain⟨av4,cv4,rfl⟩:=mG.slice;have wh:=im cY.o fi oN.o (by decide);have U5:=im cY.o fi sa.o.ebox (by decide);have c4:=ab wh 0;have f4:=aH wh 0;have c5:=ab U5 0;have f5:=aH U5 0;simp at c4 c5))
     have zQ:=fi.size;simp only[World.size_alloc]at zQ;have Rk:∀ k,k<V3.heap.size->(∀ g,(Value.slice av2 l.length cv2).ownBlock=some g->k≠g)->w4.heap[k]?=V3.heap[k]?:=fun k h1 h2=>(fi.block k (by simp;omega) (fun e=>h2 k e.symm rfl)).trans (Below.heap_alloc V3 _ k h1)
     have uj:∀ (k:Nat) (o:Obj),V3.heap[k]?=some o->o.isCells=false->((w4.setCell ⟨b11+2,0,none⟩ (.slice av4 (l.length+1) cv4)).setCell ⟨w.heap.size+1,0,none⟩ (.int .i64 nb)).heap[k]?=some o:=fun k o ho hc=>by
      have n1:k≠w.heap.size+1:=fun e=>by subst e;rw[sa.o.ebox]at ho;cases ho;cases hc
      have n2:k≠b11+2:=fun e=>by subst e;rw[oN.o]at ho;cases ho;cases hc
      rw[Below.heap_setCell _ _ _ _ n1,Below.heap_setCell _ _ _ _ n2];exact nj cY.o fi ho hc
     have UH:∀ (k:Nat) (c:Array Value) (ty:TypeId) (fz:Nat × Nat),V3.heap[k]?=some (.cells c ty fz)->75≠ty->k≠w.heap.size+1->k≠b11+2->((w4.setCell ⟨b11+2,0,none⟩ (.slice av4 (l.length+1) cv4)).setCell ⟨w.heap.size+1,0,none⟩ (.int .i64 nb)).heap[k]?=some (.cells c ty fz):=fun k c ty fz h1 h2 h3 h4=>by
      rw[Below.heap_setCell _ _ _ _ h3,Below.heap_setCell _ _ _ _ h4];exact im cY.o fi h1 h2
     have xN:=af Kk.o fN.o;have hy3:=af Kk.o wg.o;refine⟨⟨by simp;have:=Kk.o.size;omega,fun k hk=>?_,fun k o _ ho hc=>uj k o (af Kk.o ho) hc⟩,rfl,?_⟩
     ·rcases hk with hk|rfl|rfl
      ·have h1:=w1.heap[k];have h2:V2.heap[k]?=some w1.heap[k]:=(dd.o.fin k hk.1 hk.2).trans (by rw[Array.getElem?_eq_getElem hk.2]);rw[h2,Below.heap_setCell _ _ _ _ (by dsimp only;omega),Below.heap_setCell _ _ _ _ (by dsimp only;omega)];exact sW cY.o fi (af Kk.o h2) (by omega)
      ·rw[fN.o];exact UH _ _ _ _ xN (by decide) (by omega) (by omega)
      ·rw[wg.o];exact UH _ _ _ _ hy3 (by decide) (by omega) (by omega)
     ·rw[iO.o,JG.o];refine⟨((eG sa.o.old (by omega) cY.o fi).setCell (by dsimp only;omega) _).setCell (by dsimp only;omega) _,fun k h1 h2=>?_,?_,?_,?_,⟨_,aM (aI wh _ _) (by omega) _ _,?_⟩,sa.o.marks.keep uj⟩
      ·have h3:V3.heap[k]?=some w1.heap[k]:=(sa.o.fin k h1 h2).trans (by rw[Array.getElem?_eq_getElem h2]);rw[Array.getElem?_eq_getElem h2,Below.heap_setCell _ _ _ _ (by dsimp only;omega),Below.heap_setCell _ _ _ _ (by dsimp only;omega)];exact sW cY.o fi h3 (by omega)
      ·exact UH _ _ _ _ sa.o.far (by decide) (by omega) (by omega)
      ·exact UH _ _ _ _ sa.o.fbox (by decide) (by omega) (by omega)
      ·exact aI (aM U5 (by omega) _ _) _ _
      ·have e1:(l++[(⟨nb,pv⟩:Lk)]).length=l.length+1:=by simp
       have e2:cT (l++[(⟨nb,pv⟩:Lk)])=cT l++[Value.int .i64 nb,Value.int .i64 pv]:=by rw[nY];rfl
       rw[e1,e2];have o5:=mG.put (mG.ne wh (by decide)) 0 (Value.slice av4 (l.length+1) cv4);exact o5.put (o5.ne (aM U5 (by omega) 0 (Value.slice av4 (l.length+1) cv4)) (by decide)) _ _
    ·have TJ:=aa (fk.o L0);have hdne:((db s f).getD nb 0 == (d:Int))=false:=beq_eq_false_iff_ne.2 L0;generalize (db s f).getD nb 0=dn at tn hdne;have yn:∀ z:ExtW V2,z.val.cell? ⟨w1.heap.size,nb,none⟩=_:=fun z=>z.cell tn
     have yc:∀ z:ExtW V2,z.val.cell? ⟨w1.heap.size,cur,none⟩=_:=fun z=>z.cell tc
     clear L0 tn tc tf te
     gi_wp2
     refine qm (fun ⟨_,_,h⟩=>h) (by kernel_rfl) (by kernel_rfl) (by kernel_rfl) ?_
     repeat (go_big_quiet_step (fail))
     refine wpQuiet_nil ?_;rintro _ ⟨xq,rfl⟩;have qL:=xq.ext;generalize xq.val=V3 at qL ⊢;clear yf ye yn yc hdne
     gi_wp2
     exact⟨Bod.of_below (fun k hk=>by rcases hk with hk|rfl|rfl<;>omega) qL,⟨BY.o cur l Ds W1.heap.size (by omega) (fun E hE=>by have:=lW E hE;omega) _ _ (Chg.of_below qL) dd.o,af qL fN.o,af qL wg.o⟩,TJ.o⟩
theorem FN{w:World} {v:Value} {l:List Lk} (h:bN w v l) (j:Nat) (u:Value) (hu:(cT l)[j]?=some u):∃ b o c,v=.slice (some ⟨b,o,none⟩) l.length c/\w.cell? ⟨b,o+j,none⟩=some u:=by
 have hj:=(List.getElem?_eq_some_iff.1 hu).1;rw[lQ]at hj;obtain⟨i,s,hs,rfl⟩:∃ i s,s<2/\j=i * 2+s:=⟨j / 2,j % 2,by omega,by omega⟩;have hi:i<l.length:=by omega
 unfold cT at hu;rw[pW Lk.c 2 (fun _=>rfl) l i s hi hs]at hu;obtain⟨a,cap,rfl,_,_,e⟩:=h.at;obtain⟨b,o,rfl,⟨c0,_⟩,⟨c1,_⟩⟩:=e i hi;refine⟨b,o,cap,rfl,?_⟩;rw[<-Nat.add_assoc];rcases (show s=0\/s=1 by omega) with rfl|rfl<;>(simp at hu;subst hu;first|exact c0|exact c1)
theorem IV{w:World} {v:Value} {l:List Lk} (h:bN w v l):∀ y∈l,bR y.x/\bR y.p:=fun y hy=>by
 obtain⟨i,hi,rfl⟩:=List.getElem_of_mem hy;obtain⟨a,cap,rfl,_,_,e⟩:=h.at;obtain⟨b,o,_,h1⟩:=e i hi;exact⟨h1.1.2,h1.2.2⟩
theorem wZ{w:World} {a:Option Addr} {n c:Nat} {l:List Lk} (h:bN w (.slice a n c) l) (k:Nat) (hk:k<=l.length):bN w (.slice a k c) (l.take k):=by
 obtain⟨a',c',e,⟨h1,h2,h3⟩,h4,h5⟩:=h;injection e with e1 e2 e3
 subst e1 e3;refine⟨a,c,by rw[List.length_take,Nat.min_eq_left hk],⟨by rw[List.length_take];omega,h2,h3⟩,by rw[List.length_take];omega,fun i x hx=>h5 i x ?_⟩;rw[List.getElem?_take]at hx;split at hx
 ·exact hx
 ·cases hx
theorem M5{w:World} {b o n c:Nat} {l:List Lk} (h:bN w (.slice (some ⟨b,o,none⟩) n c) l) (k:Nat) (hk:k<=l.length):bN w (.slice (some (if c=k then⟨b,o,none⟩ else⟨b,o+k * 2,none⟩)) (n - k) (c - k)) (l.drop k):=by
 obtain⟨a',c',e,⟨h1,h2,h3⟩,h4,h5⟩:=h;injection e with e1 e2 e3
 subst e1 e2 e3;refine⟨_,c - k,by rw[List.length_drop],⟨by rw[List.length_drop];omega,by omega,fun h=>by cases h⟩,by rw[List.length_drop];omega,fun i x hx=>?_⟩;rw[List.getElem?_drop]at hx;have hi:=(List.getElem?_eq_some_iff.1 hx).1;obtain⟨b',o',e,hr⟩:=h5 (k+i) x hx;injection e with e;injection e with e1 e2 e3
 subst e1 e2;refine⟨b,o+k * 2,by rw[if_neg (by omega)],?_⟩;rw[Nat.add_mul,<-Nat.add_assoc]at hr;exact hr
theorem uN(v:Value) (l:List Lk) (w:World) (hv:bN w v l) (hn:l.length<=1048576) :
  Calls Tryz.prog 27 #[v] w fun e w'=>∃ u,e=.returned u/\aJ w' w.heap.size 75 2 u l.length (cT l)/\Below w.heap.size w w':=by
 obtain⟨i0,hi,cD,bX,cF⟩:=info_parts Tryz.infoLink;have HW:=aa (FN hv);have ka:=fun w=>Lib.run_eql_slice_nil (P:=Tryz.prog) w 54
 obtain⟨a,cap,rfl,⟨_,_,j9⟩,_,_⟩:=hv;cases a with
 | none=>
  have hl:l.length=0:=by have:=j9 rfl;omega
  obtain rfl:l=[]:=List.eq_nil_of_length_eq_zero hl;obtain rfl:=j9 rfl
  go_enter Tryz.func27,Tryz.ntmps27
  go_wp2_with fail
  go_ret
  exact⟨_,rfl,aJ.nil _ _ _ _,Below.refl _ _⟩
 | some ad=>
  have bQ:∀ j u,(cT l)[j]?=some u->(w.alloc (.cells #[] 75)).cell? (ad.add j)=some u:=fun j u hj=>by
   obtain⟨b,o,c,e,eP⟩:=HW.o j u hj;have:ad=⟨b,o,none⟩:=by simp at e;exact e.1
   subst this;have:(Addr.add ⟨b,o,none⟩ j)=⟨b,o+j,none⟩:=by unfold Addr.add;split<;>simp_all
   rw[this];exact ak (by go_grown) eP
  have bd:aJ (w.alloc (.cells #[] 75)) w.heap.size 75 2 (.slice (some ⟨w.heap.size,0,none⟩) 0 0) 0 []:=⟨by simp,.inr ⟨w.heap.size,0,#[],(0,0),rfl,Nat.le_refl _,ap _ _,fun i hi=>by simp at hi,by omega,by simp[maxLen],by simp,by simp⟩⟩;have bF:=aa bQ;have bO:=aa bd;clear bQ bd j9
  go_enter Tryz.func27,Tryz.ntmps27
  go_wp2_with (at_builtin;(refine bg _ rfl (.tmp 5) (.tmp 6) 54 rfl w.heap.size 75 i0 _ 2 16 Tryz.underlying54 hi cD bX cF rfl (by decide) _ 0 [] rfl bO.o ad l.length cap (cT l) rfl (lQ l) bF.o (Cz l) (by unfold maxLen;omega) (by omega) (by simp) ?_;intro v' w1 gY lK _;obtain⟨av',cv',rfl⟩:=gY.slice))
  go_ret
  rw[Nat.zero_add,List.nil_append]at gY;refine⟨_,rfl,by simpa using gY,Below.grown (w:=w.alloc (.cells #[] 75)) (by go_grown) lK (by simp) (fun k hk=>?_)⟩;cases hk;exact Nat.le_refl _
theorem aJ.links{w:World} {base:Nat} {v:Value} {l:List Lk} (h:aJ w base 75 2 v l.length (cT l)) (hx:∀ u∈l,bR u.x/\bR u.p) (hn:l.length<=1048576):bN w v l:=tt h hx (by omega)
theorem Ln{w:World} {base g n c:Nat} {l:List Lk} (h:aJ w base 75 2 (.slice (some ⟨g,0,none⟩) n c) n (cT l)) (j:Nat) (x:Value) (hj:j<(cT l).length) {m:List Lk} (hm:cT m=(cT l).set j x):aJ (w.setCell ⟨g,j,none⟩ x) base 75 2 (.slice (some ⟨g,0,none⟩) n c) n (cT m):=by
 obtain⟨hl,h⟩:=h;refine⟨by rw[hm,List.length_set];exact hl,?_⟩;rcases h with ⟨h,_⟩|⟨g',cap,cur,fz,h1,h2,h3,h4,h5,h6,h7,h8⟩
 ·cases h
 injection h1 with e1 e2 e3
 injection e1 with e1
 injection e1 with e1
 subst e1 e3;refine .inr ⟨g,c,cur.setIfInBounds j x,fz,rfl,h2,aI h3 _ _,by simpa using h4,h5,h6,by simpa using h7,?_⟩;rw[hm,Array.toList_setIfInBounds,List.take_set,h8]
end Go.Proofs.YtmeaoneaephjeaaGreatDoor
namespace Go.Proofs.YtmeaoneaephjeaaGreatDoor
open Go.RowKit Go Go.Shelf
attribute [local go_sem] Oper.semAt_some
attribute [local go_sem] yL
theorem Lo(s:Sys) (e:Nat):il s e<256:=ik _ 8
theorem Lp(s:Sys) (l:List Nat):comM s l<256:=ik _ 8
theorem ScAt.val{w:World} {B:Nat} {s:Sys} (h:ScAt w B s):∃ pv cv,w.cell? ⟨B,10,none⟩=some (.slice pv (eS s) cv)/\∀ e,e<eS s->∃ b o,pv=some ⟨b,o,none⟩/\w.cell? ⟨b,o+e,none⟩=some (.int .i64 (il s e:Nat)):=by
 obtain⟨vc,vs,vt,ve,vv,vl,h1,_,h2,_⟩:=h.ex;obtain⟨pv,cv,rfl,_,_,ev⟩:=h2.at;have hl:(Eo s).length=eS s:=by simp[Eo]
 rw[hl]at h1;refine⟨pv,cv,(ab h1 10).trans rfl,fun e he=>?_⟩;obtain⟨b,o,e1,c1,_⟩:=ev e (by rw[hl];exact he);refine⟨b,o,e1,?_⟩;rw[Nat.mul_one]at c1;rw[c1];simp[Eo]
theorem KT(bo bs B n cv e m v b o:Nat) (hm:m<256) (hv:v<256) (he:e<n) (W:World) (h1:W.heap[bo]?=some (.cells #[.int .i64 m] 3)) (h2:W.cell? ⟨bs,0,none⟩=some (.pointer (some ⟨B,0,none⟩))) (h3:W.cell? ⟨B,10,none⟩=some (.slice (some ⟨b,o,none⟩) n cv)) (h4:W.cell? ⟨b,o+e,none⟩=some (.int .i64 v)) :
  Calls Tryz.prog 134 #[.int .i64 e,.pointer (some ⟨bo,0,none⟩),.pointer (some ⟨bs,0,none⟩)] W fun r W'=>(∃ x,r=.returned x)/\W'=W.drew.setCell ⟨bo,0,none⟩ (.int .i64 (m &&& v:Nat)):=by
 have t1:=ab h1 0;simp at t1;have Xe:=aa h1;have lZ:bits .and .i64 ((m:Nat):Int) ((v:Nat):Int)=((m &&& v:Nat):Int):=Au m v (by omega) (by omega);clear h1
 go_enter Tryz.func134,Tryz.ntmps134
 go_still_tail 9,(by kernel_rfl)
 change wpList _ _ _ _ _ W.drew;have t2:W.drew.cell? ⟨bo,0,none⟩=some (.int .i64 m):=t1;have z2:W.drew.frozen? ⟨bo,0,none⟩=false:=aH Xe.o 0;clear t1 h2 h3 h4;obtain⟨V,hV⟩:∃ V,V=W.drew:=⟨_,rfl⟩;rw[<-hV]at t2 z2 ⊢;clear hV
 go_wp2_with fail
 go_end0
 exact⟨⟨_,rfl⟩,rfl⟩
structure CmI (s:Sys) (w:World) (B:Nat) (l:List Nat) (V:World):Prop where
 old:Below w.heap.size w V
 sc:V.heap[w.heap.size]?=some (.cells #[.pointer (some ⟨B,0,none⟩)] 94)
 out:V.heap[w.heap.size+1]?=some (.cells #[.int .i64 (comM s l:Nat)] 3)
 fn:V.heap[w.heap.size+1+1]?=some (.cells #[.func (.func 134) #[] #[.pointer (some ⟨w.heap.size+1,0,none⟩),.pointer (some ⟨w.heap.size,0,none⟩)]] 205)
theorem CmI.sta{s:Sys} {w:World} {B B0:Nat} {l:List Nat} (h:w.heap.size<=B0):cI B0 (CmI s w B l):=fun _ _ c x=>⟨c.below h x.old.size x.old,c.same _ _ x.sc (.inr rfl),c.same _ _ x.out (.inr rfl),c.same _ _ x.fn (.inr rfl)⟩
theorem CT(s:Sys) (B:Nat) (gf:Nat) (lb:Array Value) (eg:∀ args w,(callFunc gf args).run Tryz.prog w=.ok (.enter gf args) w) (l:List Nat) (hl:∀ e∈l,e<eS s) (S:Nat->Prop) (w:World) (gd:ScAt w B s) (hS:∀ k,S k->k<w.heap.size)
  (dg:∀ W,Below w.heap.size w W->sE Tryz.prog gf lb (wX l) l.length S W) :
  Calls Tryz.prog 84 #[.pointer (some ⟨B,0,none⟩),.func (.func gf) #[] lb] w fun r w'=>r=.returned (.int .i64 (comM s l:Nat))/\Below w.heap.size w w':=by
 have jH:=aa gd;have HL:=aa hl;have HNIL:am (comM s (l.take 0)=255):=aa (by rw[List.take_zero];exact BG s);have HSQ:=aa dg;have ec:=enters_of Tryz.func134 (by kernel_rfl) rfl;clear gd hl dg;refine gi Tryz.func84 rfl ?_;simp only[Tryz.ntmps84,List.size_toArray,List.length_cons,List.length_nil,Nat.reduceAdd,Nat.reduceSub,Array.replicate_succ,Array.replicate_zero,List.push_toArray,List.append_toArray,List.nil_append,List.cons_append]
 go_wp2_with fail
 refine bC (fun W=>CmI s w B [] W) ⟨by go_grown,ar _ (ar _ (ap _ _)),by rw[BG];exact ar _ (aZ _ _ _),dZ _ _ _ _⟩ (fun W1 cM=>?_);have gN:=aa cM;have DL:=cM.old.size;have dg:=HSQ.o W1 cM.old;have hsf:=aD cM.fn;clear cM
 refine mL (gf:=gf) (lb:=lb) rfl eg dg (Below.refl _ _) (fun k hk=>by have:=hS k hk;omega) (fun i=>rfl)
  (fun i V=>CmI s w B (l.take i) V) (fun _ _ _=>False) (fun i=>CmI.sta (by omega)) (fun c i=>cI.pure) (by rw[List.take_zero];exact gN.o) ?rnd ?done ?stop
 case stop=>rintro D' c i V hD hi h;exact h.elim
 case rnd=>
  intro yl i V hi hl iS;unfold wX;obtain⟨e,kh⟩:∃ e,l.getD i 0=e:=⟨_,rfl⟩;have xK:l[i]=e:=by rw[<-kh,az 0 hi]
  have jg:=HL.o l[i] (List.getElem_mem hi);rw[xK]at jg;have kU:am (comM s (l.take (i+1))=comM s (l.take i) &&& il s e):=aa (by rw[List.take_succ_eq_append_getElem hi,Fp,xK]);rw[kh];have oL:=aa iS;clear iS kh xK dg
  gi_wp2
  refine⟨Bod.refl _ _ _,fun V=>CmI s w B (l.take i) V,CmI.sta (by omega),oL.o,fun V2 h2 jI=>?_⟩;have dd:=aa h2;have tf:=ab h2.fn 0;simp at tf;obtain⟨pv,cv,t10,ev⟩:=(jH.o.up h2.old).val;obtain⟨b,o,rfl,te⟩:=ev e jg;have HC:=aa (KT (w.heap.size+1) w.heap.size B (eS s) cv e (comM s (l.take i)) (il s e) b o (Lp _ _) (Lo _ _) jg V2 h2.out (by rw[ab h2.sc];rfl) t10 te);have Jg:=h2.old.size;clear h2 t10 ev te jI
  gi_wp2
  refine⟨trivial,rfl,xr (HC.o.mono ?_)⟩;rintro r w3 ⟨⟨x,rfl⟩,rfl⟩
  gi_wp2
  obtain⟨q1,q2,q3,q4⟩:=dd.o;refine⟨⟨by simp,fun k hk=>?_,fun k o _ hk ho=>?_⟩,⟨(q1.drew.setCell (by dsimp only;omega) _),aM (by exact q2) (by omega) _ _,?_,aM (by exact q4) (by omega) _ _⟩⟩
  ·have:=hS k hk;exact Below.heap_setCell V2.drew _ _ _ (by dsimp only;omega)
  ·exact(KeepsOthers.setCell V2.drew _ _).same k o hk ho
  ·rw[kU.o];exact(aI (W:=V2.drew) q3 0 _).trans rfl
 case done=>
  intro D' V hD iS hK;rw[List.take_of_length_le (Nat.le_refl _)]at iS;have t1:=ab iS.out 0;simp at t1;have oL:=aa iS;clear iS dg
  go_wp2_with fail
  refine iK hK (results_tmp rfl _ _ _) ?_;exact⟨rfl,eY (by omega) oL.o.old⟩
end Go.Proofs.YtmeaoneaephjeaaGreatDoor
namespace Go.Proofs.YtmeaoneaephjeaaGreatDoor
open Go.RowKit Go Go.Shelf
attribute [local go_sem] Oper.semAt_some
theorem Ad{s:Sys} (hv:verifyE s=0):0<eS s:=by
 obtain⟨hb,hs⟩:=yt hv;have hp:=(gE hv).prob;obtain⟨ht,ha,_⟩:=pS hp;have h1:=(fy ht).2.2.2.1.1;have h2:=ip ha;have h3:=FH h2.2.1 (by have:=h2.1;omega) s.prob.rounds.toNat 0 (by have:=h2.1;omega);rw[hs]
 show 0<(execsS s.prob (aN s.prob) (iX s.prob.t.cases.length (aN s.prob).length)).2.length
 unfold execsS;rw[rL,yv];have:0<(aN s.prob).length:=h3;have:=Nat.mul_pos (show 0<s.prob.t.cases.length by omega) this;simp;omega
def og(s:Sys):Nat:=(maxTo (partsS s) ((partsS s).length - 1)).toNat
def kY(s:Sys) (k:Nat):List Int:=(List.range k).map fun x:Nat=>comB s (memL (partsS s) x)
def jj(s:Sys):List Int:=kY s (og s+1)
theorem kX(s:Sys) (e:Nat) (he:e<eS s):0<=(partsS s).getD e 0/\(partsS s).getD e 0<=e:=l8 (wV s _) e (by rw[gV];exact he)
theorem CU{s:Sys} (h0:0<eS s):maxTo (partsS s) ((partsS s).length - 1)=(og s:Int)/\og s<eS s:=by
 obtain⟨i,hi,e⟩:=BP (partsS s) ((partsS s).length - 1);rw[dp]at hi;have h1:=kX s i (by omega);unfold og;rw[e];exact⟨by omega,by omega⟩
theorem qB{s:Sys} (h0:0<eS s) (e:Nat) (he:e<eS s):((partsS s).getD e 0).toNat<=og s:=by
 have h1:=IP (partsS s) ((partsS s).length - 1) e (by rw[dp];omega);have h2:=(CU h0).1;omega
theorem mi{f:Nat->Int} {n k:Nat} (h:k<n):((List.range n).map f).getD k 0=f k:=by simp[h]
theorem PX{s:Sys} (h0:0<eS s) (e:Nat) (he:e<eS s):(jj s).getD ((partsS s).getD e 0).toNat 0=(choiceS s).getD e 0:=by
 have h1:=qB h0 e he;have h2:=kX s e he;unfold jj kY choiceS;rw[mi (by omega),mi he,show ((((partsS s).getD e 0).toNat:Nat):Int)=(partsS s).getD e 0 by omega]
theorem rG{s:Sys} {x:Int}:∀ e∈memL (partsS s) x,e<eS s:=fun e he=>by
 have:=(jN.1 he).1;rw[dp]at this;exact this
theorem vG(s:Sys) (l:List Nat) (ho:oS s<=8):bR (comB s l):=by
 have:=Ms s l;unfold comB at *;rcases bE (oS s) (fun v=>l.all fun e=>valB s e v) with ⟨e,_⟩|⟨k,hk,e,_⟩
 ·rw[e];exact⟨by omega,by omega⟩
 ·rw[e];exact⟨by omega,by omega⟩
theorem uO(s:Sys) (hs:SysOk s) (h0:0<eS s) (hE:eS s<=256) (B:Nat) (w:World) (gd:ScAt w B s) (hT:iF w) :
  Calls Tryz.prog 41 #[.pointer (some ⟨B,0,none⟩)] w fun r w'=>∃ u,r=.returned u/\aQ w' u (jj s)/\Below w.heap.size w w':=by
 obtain⟨vc,vs,vt,ve,vv,vl,h1,_,_,h2⟩:=gd.ex;obtain⟨pl,cl,rfl,lt1,lt2,el⟩:=h2.at;have tl:w.cell? ⟨B,11,none⟩=some (.slice pl (partsS s).length cl):=(ab h1 11).trans rfl;obtain⟨i0,cX,cD,bX,cF⟩:=info_parts Tryz.infoInt;have cB:=aa (And.intro cX (And.intro cD (And.intro bX cF)));have kw:=aa (G8 _ _ w h2 (by rw[dp];exact h0));have htop:=(CU h0).2;rw[(CU h0).1]at kw;have jH:=aa gd;have HT:=aa hT;have XY:=aa (fun (k:Nat) (W:World) (hb:Below w.heap.size w W) (q:Nat) (hq:comB s (memL (partsS s) k)=firstIx 8 (wG s (memL (partsS s) k)))=>CL (wG s (memL (partsS s) k)) W (hT.up hb));have ij:am (∀ k:Nat,comB s (memL (partsS s) k)=firstIx 8 (wG s (memL (partsS s) k))):=aa fun k=>K9 hs rG
 have iT:am (kY s 0=[]/\(∀ k,kY s (k+1)=kY s k++[comB s (memL (partsS s) k)])/\(∀ k,(kY s k).length=k)/\∀ k,∀ x∈kY s k,bR x):=aa ⟨rfl,fun k=>by simp[kY,List.range_succ],fun k=>by simp[kY],fun k x hx=>by
  obtain⟨j,_,rfl⟩:=List.mem_map.1 hx
  exact vG s _ hs.outs.2.1⟩
 have jO:am (kY s (og s+1)=jj s):=aa rfl;obtain⟨M,hM⟩:∃ M,og s=M:=⟨_,rfl⟩;rw[hM]at htop kw jO;clear h1 h2 gd hT cX cD bX cF el hM
 go_enter Tryz.func41,Tryz.ntmps41
 go_wp2_with fail
 refine kw.o.mono ?_;rintro e w1 ⟨rfl,rfl⟩;clear tl
 go_wp2_with fail
 go_loopw [3,11] (fun o i wr=>∃ k:Nat,k<=M+1/\i=.int .i64 k/\Below w.heap.size w wr/\aJ wr w.heap.size 3 1 o k ((kY s k).map (Value.int .i64))) (fun _ i _=>M+1 - (intOf i).toNat)
 ·exact⟨0,by omega,rfl,Below.refl _ _,by rw[iT.o.1];exact aJ.nil _ _ _ _⟩
 ·
  obtain⟨k,hk,rfl,aA,bd⟩:=hrel;obtain⟨al,cl2,rfl⟩:=bd.slice;have bO:=aa bd;have aV:=aa aA;have AY:=aA.size;clear bd aA;by_cases aC:k<M+1
  ·have oD:(k:Int)<(M:Int)+1:=by omega
   go_wp2_with fail
   refine(xE B k wr).mono ?_;rintro e w2 ⟨rfl,rfl⟩
   go_wp2_with fail
   refine aO (fun W=>Below wr.heap.size wr W/\W.heap[wr.heap.size]?=some (.cells #[.pointer (some ⟨B,0,none⟩)] 94)/\W.heap[wr.heap.size+1]?=some (.cells #[.int .i64 k] 3)) ⟨by go_grown,ar _ (ap _ _),aZ _ _ _⟩ (fun W2 eI=>?_);obtain⟨aT,dM,iN⟩:=eI;have rU:=ae aV.o aT;have J8:=aD iN;refine(CT s B 135 _ (enters_of Tryz.func135 (by kernel_rfl) rfl) (memL (partsS s) k) rG (fun q=>q<wr.heap.size\/q=wr.heap.size\/q=wr.heap.size+1) W2 (jH.o.up rU) (fun q hq=>by rcases hq with hq|rfl|rfl<;>omega) (fun W hb=>vF s B wr.heap.size (wr.heap.size+1) k wr (jH.o.up aV.o) W (ae aT hb) (by rw[ab (af hb dM)];rfl) (by rw[ab (af hb iN)];rfl))).mono ?_;rintro e w3 ⟨rfl,bG⟩;have uP:=ae rU bG;have kP:=aa (ae aT bG);clear dM iN aT rU bG
   go_wp2_with fail
   refine(XY.o k w3 uP 0 (ij.o k)).mono ?_;rintro e w4 ⟨rfl,rfl⟩;rw[<-ij.o k];obtain⟨x,hx⟩:∃ x,comB s (memL (partsS s) k)=x:=⟨_,rfl⟩;rw[hx];have iu:am (kY s (k+1)=kY s k++[x]):=aa (by rw[<-hx];exact iT.o.2.1 k);have cY:=aa ((bO.o.up kP.o).up ((Below.refl _ w3).alloc (Nat.le_refl _) (.cells #[.int .i64 x] 3)));have bF:=aa (dQ w3 [.int .i64 x] 3);have dE:=aa uP;have kH:am (k+1<=maxLen):=aa (by unfold maxLen;omega);have fc:am ((k+1) * 8<=140737488355328):=aa (by omega);have gu:am (w.heap.size<=(w3.alloc (.cells #[.int .i64 x] 3)).heap.size):=aa (by have:=dE.o.size;simp;omega);clear uP hx
   go_wp2_with (at_builtin;(refine bg _ rfl (.tmp 14) (.tmp 21) 38 rfl w.heap.size 3 i0 _ 1 8 Tryz.underlying38 cB.o.1 cB.o.2.1 cB.o.2.2.1 cB.o.2.2.2 rfl (by decide) _ k _ rfl cY.o ⟨w3.heap.size,0,none⟩ 1 1 [.int .i64 x] rfl rfl bF.o (by simp[Value.oneCell']) kH.o fc.o gu.o ?_;intro v6 w6 fh eF _))
   go_roundw
   ·
    refine⟨k+1,by omega,by go_num,eG dE.o (Nat.le_refl _) cY.o eF,?_⟩;rw[iu.o,List.map_append];exact fh
   ·simp[intOf];omega
  ·obtain rfl:k=M+1:=by omega
   have oD:¬ ((M:Int)+1<(M:Int)+1):=by omega
   go_wp2_with fail
   go_ret
   refine⟨_,rfl,?_,aV.o⟩;rw[<-jO.o];have h3:=iT.o.2.2.1 (M+1);exact gp (base:=w.heap.size) (by rw[h3];exact bO.o) (iT.o.2.2.2 _) (by omega)
def iJ(s:Sys) (e k:Nat):List Int:=((List.range k).filter (valB s e)).map fun v:Nat=>(v:Int)
theorem Sk{s:Sys} (h:SysOk s) {e:Nat} (he:e<eS s):iJ s e 8=valuesS s e:=by
 unfold iJ valuesS;have ho:=h.outs.2.1;obtain⟨d,hd⟩:∃ d,8=oS s+d:=⟨8 - oS s,by omega⟩
 have j9:((List.range d).map (oS s+·)).filter (valB s e)=[]:=List.filter_eq_nil_iff.2 fun v hv h2=>by
  obtain⟨j,_,rfl⟩:=List.mem_map.1 hv;have:=Ie h he h2;omega
 rw[hd,List.range_add,List.filter_append,j9,List.append_nil]
theorem IW{s:Sys} {e k:Nat} (h:valB s e k=true):iJ s e (k+1)=iJ s e k++[(k:Int)]:=by
 unfold iJ;rw[List.range_succ,List.filter_append,List.map_append];simp[h]
theorem Lr{s:Sys} {e k:Nat} (h:valB s e k=false):iJ s e (k+1)=iJ s e k:=by
 unfold iJ;rw[List.range_succ,List.filter_append,List.map_append];simp[h]
theorem BU(s:Sys) (e k:Nat):(iJ s e k).length<=k:=by
 unfold iJ;rw[List.length_map];exact Nat.le_trans (List.length_filter_le _ _) (by simp)
theorem mW(w:World):aQ w (.slice none 0 0) []:=gp (aJ.nil w 0 _ _) (by simp) (by simp)
theorem CV(s:Sys) (x:Int) (hE:eS s<=256) (vc vs vt ve:Value) (w:World) (hs:IsSys w s vc vs vt ve) (hN:movesN s.prob.a.states<1099511627776) :
  Calls Tryz.prog 11 #[.agg (bL s.prob vc vs s.n vt ve),.int .i64 x] w fun r w'=>∃ u,r=.returned (.tuple #[u,.int .i64 (valuesR s x).2])/\aQ w' u (valuesR s x).1/\Below w.heap.size w w':=by
 have HS:=aa hs;obtain⟨⟨pc,cc,rfl⟩,⟨ps,cs,rfl⟩,⟨pt,ct,rfl⟩,⟨pe,ce,rfl⟩⟩:=bD hs;clear hs;have HC:=aa (fun W (hb:Below w.heap.size w W)=>od s hE _ _ _ _ W (HS.o.up hb) hN);obtain⟨i0,cX,cD,bX,cF⟩:=info_parts Tryz.infoInt;have cB:=aa (And.intro cX (And.intro cD (And.intro bX cF)))
 have dD:am (readyE s=0->SysOk s):=aa fun h=>by
  refine gE ?_;unfold readyE at h;split at h
  ·rename_i h1;exact absurd h h1
  ·omega
 have cO:am (readyE s≠0->valuesR s x=([],readyE s)):=aa fun h=>by unfold valuesR;rw[if_pos h]
 have eh:am (readyE s=0->(x<0\/(eS s:Int)<=x)->valuesR s x=([],6)):=aa fun h h2=>by unfold valuesR;rw[if_neg (by omega),if_pos h2]
 have fT:am (readyE s=0->¬ (x<0\/(eS s:Int)<=x)->valuesR s x=(valuesS s x.toNat,0)):=aa fun h h2=>by unfold valuesR;rw[if_neg (by omega),if_neg h2]
 generalize valuesR s x=vr at cO eh fT ⊢;obtain⟨re,kg⟩:∃ re,readyE s=re:=⟨_,rfl⟩;rw[kg]at cO eh fT HC dD;clear kg cX cD bX cF
 go_enter Tryz.func11,Tryz.ntmps11
 go_wp2_with fail
 refine aO (fun W=>Below w.heap.size w W) (by go_grown) (fun W0 aG=>?_);refine(HC.o W0 aG).mono ?_;rintro e w1 ⟨v,rfl,aK,h2,h3⟩;have bI:=aa (ae aG aK);by_cases hr:re=0
 case neg=>
  have HV:=aa (cO.o hr);obtain rfl:=h2 hr;have F3:(re != 0)=true:=by simpa using hr
  clear aG aK h2 h3 hr HC
  go_wp2_with fail
  go_ret2
  exact⟨_,by rw[HV.o];rfl,by rw[HV.o];exact mW _,bI.o⟩
 obtain⟨B,rfl,hB,gd⟩:=h3 hr;have jH:=aa gd;obtain⟨pv,cv,tv,ev⟩:=gd.val;have EV:=aa ev;have JL:=aa (dD.o hr);subst hr;have fZ:=bI.o.size;clear aG aK h2 h3 HC gd ev;by_cases dk:x<0
 ·have HV:=aa (eh.o rfl (.inl dk));have hd:decide (x<0)=true:=decide_eq_true dk;clear dk
  go_wp2_with fail
  go_ret2
  exact⟨_,by rw[HV.o];rfl,by rw[HV.o];exact mW _,bI.o⟩
 have hd:decide (x<0)=false:=decide_eq_false dk;obtain⟨e,rfl⟩:∃ e:Nat,x=e:=⟨x.toNat,by omega⟩;by_cases dm:eS s<=e
 ·have HV:=aa (eh.o rfl (.inr (by omega)));have fw:decide ((eS s:Int)<=(e:Int))=true:=decide_eq_true (by omega);have qL:decide (eS s<=e)=true:=decide_eq_true dm;clear dk dm
  go_wp2_with fail
  go_ret2
  exact⟨_,by rw[HV.o];rfl,by rw[HV.o];exact mW _,bI.o⟩
 have fw:decide ((eS s:Int)<=(e:Int))=false:=decide_eq_false (by omega);have qL:decide (eS s<=e)=false:=decide_eq_false dm;have HV:=aa (fT.o rfl (by omega));have he:e<eS s:=by omega
 obtain⟨b,o,rfl,te⟩:=EV.o e he;have nz:am (iJ s e 8=valuesS s e):=aa (Sk JL.o he);clear dk dm
 go_wp2_with fail
 go_loopw [8,29] (fun q i wr=>∃ k:Nat,k<=8/\i=.int .i64 k/\Below w1.heap.size w1 wr/\aJ wr w1.heap.size 3 1 q (iJ s e k).length ((iJ s e k).map (Value.int .i64))) (fun _ i _=>8 - (intOf i).toNat)
 ·exact⟨0,by omega,rfl,Below.refl _ _,aJ.nil _ _ _ _⟩
 ·
  obtain⟨k,hk,rfl,aA,bd⟩:=hrel;obtain⟨al,cl2,rfl⟩:=bd.slice;have bO:=aa bd;have aV:=aa aA;have AY:=aA.size;have tvr:=ak aV.o tv;have ter:=ak aV.o te;clear bd aA;by_cases aC:k<8
  ·have oD:(k:Int)<8:=by omega
   have gR:=rx ((il s e:Nat):Int) k;have Yk:hasB ((il s e:Nat):Int) k=valB s e k:=by unfold il;rw[nd,decide_eq_true aC,Bool.true_and]
   rw[Yk]at gR;have rf:=BU s e k;cases hb:valB s e k with
   | true=>
    have HY:=aa (IW hb);rw[hb]at gR;obtain⟨n,hn⟩:∃ n,(iJ s e k).length=n:=⟨_,rfl⟩;rw[hn]at rf bO ⊢;have ss:am ((iJ s e (k+1)).length=n+1):=aa (by rw[HY.o,List.length_append,hn];rfl);have cY:=aa (bO.o.up ((Below.refl _ wr).alloc (Nat.le_refl _) (.cells #[.int .i64 k] 3)));have bF:=aa (dQ wr [.int .i64 (k:Int)] 3);have kH:am (n+1<=maxLen):=aa (by unfold maxLen;omega);have fc:am ((n+1) * 8<=140737488355328):=aa (by omega);have gu:am (w1.heap.size<=(wr.alloc (.cells #[.int .i64 k] 3)).heap.size):=aa (by simp;omega);clear hb Yk hn
    go_wp2_with (at_builtin;(refine bg _ rfl (.tmp 43) (.tmp 45) 38 rfl w1.heap.size 3 i0 _ 1 8 Tryz.underlying38 cB.o.1 cB.o.2.1 cB.o.2.2.1 cB.o.2.2.2 rfl (by decide) _ n _ rfl cY.o ⟨wr.heap.size,0,none⟩ 1 1 [.int .i64 (k:Int)] rfl rfl bF.o (by simp[Value.oneCell']) kH.o fc.o gu.o ?_;intro v6 w6 fh eF _))
    go_roundw
    ·
     refine⟨k+1,by omega,by go_num,eG aV.o (Nat.le_refl _) cY.o eF,?_⟩;rw[ss.o,HY.o,List.map_append];exact fh
    ·simp[intOf];omega
   | false=>
    have HY:=aa (Lr hb);rw[hb]at gR;clear hb Yk
    go_wp2_with fail
    go_roundw
    ·
     refine⟨k+1,by omega,by go_num,aV.o,?_⟩;rw[HY.o];exact bO.o
    ·simp[intOf];omega
  ·obtain rfl:k=8:=by omega
   clear tvr ter
   go_wp2_with fail
   go_ret2
   refine⟨_,by rw[HV.o];rfl,?_,ae bI.o aV.o⟩;rw[HV.o,Int.toNat_natCast,<-nz.o];refine gp (l:=iJ s e 8) bO.o (fun y hy=>?_) (by have:=BU s e 8;omega);obtain⟨j,hj,rfl⟩:=List.mem_map.1 hy;have:=List.mem_range.1 (List.mem_filter.1 hj).1;exact⟨by omega,by omega⟩
theorem CW(s:Sys) (hE:eS s<=256) (vc vs vt ve:Value) (w:World) (hT:iF w) (hs:IsSys w s vc vs vt ve) (hN:movesN s.prob.a.states<1099511627776) :
  Calls Tryz.prog 13 #[.agg (bL s.prob vc vs s.n vt ve)] w fun r w'=>∃ u,r=.returned (.tuple #[u,.int .i64 (choiceR s).2])/\aQ w' u (choiceR s).1/\Below w.heap.size w w':=by
 have HS:=aa hs;have HT:=aa hT;obtain⟨⟨pc,cc,rfl⟩,⟨ps,cs,rfl⟩,⟨pt,ct,rfl⟩,⟨pe,ce,rfl⟩⟩:=bD hs;clear hs hT;have HC:=aa (fun W (hb:Below w.heap.size w W)=>od s hE _ _ _ _ W (HS.o.up hb) hN);obtain⟨i0,cX,cD,bX,cF⟩:=info_parts Tryz.infoInt;have cB:=aa (And.intro cX (And.intro cD (And.intro bX cF)))
 have jS:am (readyE s=0->verifyE s=0):=aa fun h=>by
  unfold readyE at h;split at h
  ·rename_i h1;exact absurd h h1
  ·omega
 have cO:am (readyE s≠0->choiceR s=([],readyE s)):=aa fun h=>by unfold choiceR;rw[if_pos h]
 have fT:am (readyE s=0->choiceR s=(choiceS s,0)):=aa fun h=>by unfold choiceR;rw[if_neg (by omega)]
 generalize choiceR s=vr at cO fT ⊢;obtain⟨re,kg⟩:∃ re,readyE s=re:=⟨_,rfl⟩;rw[kg]at cO fT HC jS;clear kg cX cD bX cF
 go_enter Tryz.func13,Tryz.ntmps13
 go_wp2_with fail
 refine aO (fun W=>Below w.heap.size w W) (by go_grown) (fun W0 aG=>?_);refine(HC.o W0 aG).mono ?_;rintro e w1 ⟨v,rfl,aK,h2,h3⟩;have bI:=aa (ae aG aK);by_cases hr:re=0
 case neg=>
  have HV:=aa (cO.o hr);obtain rfl:=h2 hr;have F3:(re != 0)=true:=by simpa using hr
  clear aG aK h2 h3 hr HC
  go_wp2_with fail
  go_ret2
  exact⟨_,by rw[HV.o];rfl,by rw[HV.o];exact mW _,bI.o⟩
 obtain⟨B,rfl,hB,gd⟩:=h3 hr;have jH:=aa gd;have HV:=aa (fT.o hr);have tI:=aa (jS.o hr);have dD:=aa (gE tI.o);have HP:=aa (Ad tI.o);subst hr;have fZ:=bI.o.size;clear aG aK h2 h3 HC gd
 go_wp2_with fail
 refine(uO s dD.o HP.o hE B w1 jH.o (HT.o.up bI.o)).mono ?_;rintro e w2 ⟨u,rfl,hu,aT⟩;have HU:=aa hu;obtain⟨pu,cu,rfl,eu⟩:=cV hu;have EU:=aa eu;have cf:=aa (ae bI.o aT);obtain⟨vc,vs,vt,ve,vv,vl,q1,_,_,q2⟩:=(jH.o.up aT).ex;obtain⟨pl,cl,rfl,el⟩:=cV q2;have EL:=aa el;have tl:w2.cell? ⟨B,11,none⟩=some (.slice pl (partsS s).length cl):=(ab q1 11).trans rfl;have jR:am ((jj s).length=og s+1):=aa (by simp[jj,kY]);have HL:am ((partsS s).length=eS s):=aa (dp s);obtain⟨L,hL⟩:∃ L:Nat->List Int,L=fun k=>(List.range k).map fun e=>(choiceS s).getD e 0:=⟨_,rfl⟩
 have jp:am (L 0=[]/\(∀ k,L (k+1)=L k++[(choiceS s).getD k 0])/\(∀ k,(L k).length=k)/\L (eS s)=choiceS s/\∀ k,k<=eS s->∀ x∈L k,bR x):=aa (by
  subst hL;refine⟨rfl,fun k=>by simp[List.range_succ],fun k=>by simp,?_,fun k hk x hx=>?_⟩
  ·unfold choiceS;exact List.map_congr_left fun e he=>mi (List.mem_range.1 he)
  ·obtain⟨j,hj,rfl⟩:=List.mem_map.1 hx;have:=List.mem_range.1 hj;unfold choiceS;rw[mi (by omega)]
   exact vG s _ dD.o.outs.2.1)
 have oC:am (∀ k,k<eS s->0<=(partsS s).getD k 0/\((partsS s).getD k 0).toNat<(jj s).length/\(jj s).getD ((partsS s).getD k 0).toNat 0=(choiceS s).getD k 0):=aa fun k hk=>⟨(kX s k hk).1,by have:=qB HP.o k hk;have:=jR.o;omega,PX HP.o k hk⟩
 rw[HL.o]at tl EL;obtain⟨m,hm⟩:∃ m,eS s=m:=⟨_,rfl⟩;rw[hm]at hE jp oC tl EL;clear hu eu aT q1 q2 el hL hm;obtain⟨cn,Dk⟩:∃ cn,(jj s).length=cn:=⟨_,rfl⟩;rw[Dk]at EU oC ⊢;clear Dk jR HL
 go_wp2_with fail
 clear tl
 go_loopw [7,25] (fun q i wr=>∃ k:Nat,k<=m/\i=.int .i64 k/\Below w2.heap.size w2 wr/\aJ wr w2.heap.size 3 1 q k ((L k).map (Value.int .i64))) (fun _ i _=>m - (intOf i).toNat)
 ·exact⟨0,by omega,rfl,Below.refl _ _,by rw[jp.o.1];exact aJ.nil _ _ _ _⟩
 ·
  obtain⟨k,hk,rfl,aA,bd⟩:=hrel;obtain⟨al,cl2,rfl⟩:=bd.slice;have bO:=aa bd;have aV:=aa aA;have AY:=aA.size;clear bd;by_cases aC:k<m
  ·obtain⟨b,o,rfl,c1⟩:=EL.o k aC;obtain⟨g1,g2,g3⟩:=oC.o k aC;obtain⟨n,hn⟩:∃ n:Nat,(partsS s).getD k 0=n:=⟨((partsS s).getD k 0).toNat,by omega⟩;rw[hn,Int.toNat_natCast]at g2 g3;obtain⟨b2,o2,rfl,c2⟩:=EU.o n g2;rw[g3]at c2;rw[hn]at c1;have d1:=ak aA c1;have d2:=ak aA c2;have iu:=aa (jp.o.2.1 k);generalize (choiceS s).getD k 0=x at d2 iu;have cY:=aa (bO.o.up ((Below.refl _ wr).alloc (Nat.le_refl _) (.cells #[.int .i64 x] 3)));have bF:=aa (dQ wr [.int .i64 x] 3);have kH:am (k+1<=maxLen):=aa (by unfold maxLen;omega);have fc:am ((k+1) * 8<=140737488355328):=aa (by omega);have gu:am (w2.heap.size<=(wr.alloc (.cells #[.int .i64 x] 3)).heap.size):=aa (by simp;omega);clear g1 g3 hn c1 c2 aA
   go_wp2_with (at_builtin;(refine bg _ rfl (.tmp 29) (.tmp 34) 38 rfl w2.heap.size 3 i0 _ 1 8 Tryz.underlying38 cB.o.1 cB.o.2.1 cB.o.2.2.1 cB.o.2.2.2 rfl (by decide) _ k _ rfl cY.o ⟨wr.heap.size,0,none⟩ 1 1 [.int .i64 x] rfl rfl bF.o (by simp[Value.oneCell']) kH.o fc.o gu.o ?_;intro v6 w6 fh eF _))
   go_roundw
   ·
    refine⟨k+1,by omega,by go_num,eG aV.o (Nat.le_refl _) cY.o eF,?_⟩;rw[iu.o,List.map_append];exact fh
   ·simp[intOf];omega
  ·obtain rfl:k=m:=by omega
   clear aA
   go_wp2_with fail
   go_ret2
   refine⟨_,by rw[HV.o];rfl,?_,ae cf.o aV.o⟩;rw[HV.o,<-jp.o.2.2.2.1];exact gp (l:=L k) (by rw[jp.o.2.2.1 k];exact bO.o) (jp.o.2.2.2.2 k (Nat.le_refl _)) (by have:=jp.o.2.2.1 k;omega)
theorem VR{s:Sys} {p:Nat} (hp:p<nS s) (e:Nat):hasB ((oblM s e:Nat):Int) p=!hasB (fltS s e) p:=by unfold oblM;rw[nd,decide_eq_true hp,Bool.true_and]
theorem PY{s:Sys} (h:nS s<=5) (e:Nat):oblM s e<32:=by
 have h1:=ik (fun p=>!hasB (fltS s e) p) (nS s);have h4:(2:Nat) ^ nS s<=2 ^ 5:=Nat.pow_le_pow_right (by omega) h;unfold oblM;omega
theorem M6(s:Sys) (hs:SysOk s) (p e f:Nat) (hp:p<nS s) (he:e<eS s) (hf:f<eS s) (vc vs vt ve:Value) (w:World) (cA:IsSys w s vc vs vt ve) :
  Calls Tryz.prog 139 #[.agg (bL s.prob vc vs s.n vt ve),.int .i64 p,.int .i64 e,.int .i64 f] w fun r w'=>r=.returned (.bool (linkB s p e f))/\Below w.heap.size w w':=by
 have HS:=aa cA;obtain⟨⟨pc,cc,rfl⟩,⟨ps,cs,rfl⟩,⟨pt,ct,rfl⟩,⟨pe,ce,rfl⟩⟩:=bD cA;clear cA;have LI:=aa (fun W (hb:Below w.heap.size w W)=>FL s hs e he _ _ _ _ W (HS.o.up hb));have HMF:=aa (fun W (hb:Below w.heap.size w W)=>FL s hs f hf _ _ _ _ W (HS.o.up hb));have jf:=hs.n.2.1;have lh:=PY jf e;have hlf:=PY jf f;have Xq:=aa (fun w=>mR ((oblM s e:Nat):Int) p (by omega) (by omega) (by omega) w);have X4:=aa (fun w=>mR ((oblM s f:Nat):Int) p (by omega) (by omega) (by omega) w);rw[VR hp]at Xq X4;have it:am (linkB s p e f=(!hasB (fltS s e) p&&!hasB (fltS s f) p&&decide (finS s e p=finS s f p))):=aa rfl;obtain⟨b,o,_,ce1,e0,rfl,_,_,_,_,cv1,-,-,c3,-,-,-,b2,o2,pr,cr,rfl,c4,bU⟩:=gy hs HS.o.ex he;injection e0 with e01 e02 e03
 subst e01;clear e02 e03;obtain⟨b',o',_,ce2,e0,e4,_,_,_,_,cv2,-,-,d3,-,-,-,b3,o3,pr',cr',rfl,d4,mH⟩:=gy hs HS.o.ex hf;injection e0 with e01 e02 e03
 injection e01 with e01
 injection e01 with e011 e012
 subst e011 e012;clear e02 e03 e4;have pg:=hs.rounds;obtain⟨rr,vN⟩:∃ rr:Nat,s.prob.rounds=rr:=⟨s.prob.rounds.toNat,by omega⟩;have Gb:s.prob.rounds.toNat=rr:=by omega
 rw[Gb]at c3 c4 d3 d4;obtain⟨pa,ca,ea,r1⟩:=cV bU;injection ea with ea1 ea2 ea3
 subst ea1 ea3;clear ea2;obtain⟨pa',ca',ea,r2⟩:=cV mH;injection ea with ea1 ea2 ea3
 subst ea1 ea3;clear ea2;obtain⟨b6,o6,rfl,f1⟩:=r1 p (by simpa using hp);obtain⟨b7,o7,rfl,f2⟩:=r2 p (by simpa using hp);rw[mi hp]at f1 f2;have rY:s.ex.length=eS s:=rfl;have Gp:=aa (fun W (hb:Below w.heap.size w W)=>CQ s e rr vN (.slice pc s.prob.t.cases.length cc) (.slice ps s.prob.a.states.length cs) (.slice pt s.tab.length ct) b o s.ex.length ce he b2 o2 (rr+1) cv1 (by omega) (.slice (some ⟨b6,o6,none⟩) (nS s) cr) ⟨_,_,_,rfl⟩ W (ak hb c3) (ak hb c4));have sg:=aa (fun W (hb:Below w.heap.size w W)=>CQ s f rr vN (.slice pc s.prob.t.cases.length cc) (.slice ps s.prob.a.states.length cs) (.slice pt s.tab.length ct) b o s.ex.length ce hf b3 o3 (rr+1) cv2 (by omega) (.slice (some ⟨b7,o7,none⟩) (nS s) cr') ⟨_,_,_,rfl⟩ W (ak hb d3) (ak hb d4));have oI:=aa f1;have se:=aa f2;generalize hasB (fltS s e) p=be at Xq it;generalize hasB (fltS s f) p=bf at X4 it;generalize finS s e p=xe at oI it;generalize finS s f p=xf at se it;generalize linkB s p e f=lk at it ⊢;clear c3 c4 d3 d4 bU mH r1 r2 f1 f2 vN Gb rY pg lh hlf
 go_enter Tryz.func139,Tryz.ntmps139
 go_wp2_with fail
 refine aO (fun W=>Below w.heap.size w W/\∃ c,W.heap[w.heap.size]?=some (.cells c 35)/\c=bL s.prob (.slice pc s.prob.t.cases.length cc) (.slice ps s.prob.a.states.length cs) s.n (.slice pt s.tab.length ct) (.slice (some ⟨b,o,none⟩) s.ex.length ce)) ⟨by go_grown,_,ap _ _,rfl⟩ (fun W0 aX=>?_);obtain⟨aG,_,hA,rfl⟩:=aX;refine(LI.o W0 aG).mono ?_;rintro r w1 ⟨rfl,aK⟩;have bI:=aa (ae aG aK);have du:=aa (af aK hA);clear aG aK hA LI
 go_wp2_with fail
 refine(Xq.o w1).mono ?_;rintro r w' ⟨rfl,rfl⟩;cases be with
 | true=>
  go_wp2_with fail
  go_ret
  exact⟨aR (by rw[it.o];rfl),bI.o⟩
 | false=>
  have tS:=ab du.o
  go_wp2_with fail
  clear tS;refine(HMF.o w1 bI.o).mono ?_;rintro r w2 ⟨rfl,aT⟩;have cf:=aa (ae bI.o aT);have oT:=aa (af aT du.o);clear aT
  go_wp2_with fail
  refine(X4.o w2).mono ?_;rintro r w' ⟨rfl,rfl⟩;cases bf with
  | true=>
   go_wp2_with fail
   go_ret
   exact⟨aR (by rw[it.o];rfl),cf.o⟩
  | false=>
   have HLK2:am (lk=decide (xe=xf)):=aa (by rw[it.o];rfl)
   go_wp2_with fail
   have yS:∀ z:ExtW w2,∀ j,z.val.cell? ⟨w.heap.size,j,none⟩=_:=fun z=>ab (af z.ext oT.o)
   have y1:∀ z:ExtW w2,z.val.cell? ⟨b6,o6+p,none⟩=_:=fun z=>ak (ae cf.o z.ext) oI.o
   have y2:∀ z:ExtW w2,z.val.cell? ⟨b7,o7+p,none⟩=_:=fun z=>ak (ae cf.o z.ext) se.o
   have K1:am (∀ y:ExtW w2,Calls Tryz.prog 46 #[.agg #[.int .i64 s.prob.t.n,.int .i64 s.prob.t.ins,.int .i64 s.prob.t.outs,.slice pc s.prob.t.cases.length cc,.int .i64 s.prob.a.n,.slice ps s.prob.a.states.length cs,.int .i64 s.prob.rounds,.int .i64 s.n,.slice pt s.tab.length ct,.slice (some ⟨b,o,none⟩) s.ex.length ce],.int .i64 e] y.val fun r w''=>r=.returned (.slice (some ⟨b6,o6,none⟩) (nS s) cr)/\∃ z:ExtW w2,w''=z.val):=aa (fun y=>Calls.ext_of (Gp.o y.val (ae cf.o y.ext)));have K2:am (∀ y:ExtW w2,Calls Tryz.prog 46 #[.agg #[.int .i64 s.prob.t.n,.int .i64 s.prob.t.ins,.int .i64 s.prob.t.outs,.slice pc s.prob.t.cases.length cc,.int .i64 s.prob.a.n,.slice ps s.prob.a.states.length cs,.int .i64 s.prob.rounds,.int .i64 s.n,.slice pt s.tab.length ct,.slice (some ⟨b,o,none⟩) s.ex.length ce],.int .i64 f] y.val fun r w''=>r=.returned (.slice (some ⟨b7,o7,none⟩) (nS s) cr')/\∃ z:ExtW w2,w''=z.val):=aa (fun y=>Calls.ext_of (sg.o y.val (ae cf.o y.ext)));refine aB (by kernel_rfl) (by kernel_rfl) ?_
   repeat (go_big_quiet_step (first|(go_at_call 46;with_reducible exact K1.o _)|(go_at_call 46;with_reducible exact K2.o _)))
   refine wpQuiet_nil ?_;rintro _ ⟨xq,rfl⟩;clear yS y1 y2
   go_wp2_with fail
   go_ret
   exact⟨aR (by rw[HLK2.o,Bool.eq_iff_iff];simp),ae cf.o xq.ext⟩
theorem VT(d:Nat) (a b:Lk) (w:World):(Op.equalIn (d+2) 75 a.v b.v).run Tryz.prog w=.ok (decide (a=b)) w:=by
 have hS:Tryz.prog.underlying 75=some (.struct (Tryz.prog.fieldsOf 75)):=by kernel_rfl
 have hp:Tryz.prog.stoodInHeld 75=false:=by kernel_rfl
 rw[run_equalIn_struct w (d+1) 75 _ _ hS hp];have ag:=Tryz.isAgg3;have u3:=Tryz.underlying3;simp only[Program.fieldsOf,Tryz.underlying75];simp[Op.eqFields,part,ag,run_equalIn_int w d 3 _ .i64 _ _ u3];obtain⟨n,k⟩:=a;obtain⟨m,l⟩:=b;by_cases hn:n=m
 case neg=>simp[hn]
 by_cases hk:k=l<;>simp[hn,hk]
theorem WG(a b:Lk) (w:World):(binOp .neq 75 a.v b.v).run Tryz.prog w=.ok (.bool (!decide (a=b))) w:=by
 rw[run_neq_struct,VT 9998];rfl
theorem M7(va vb:Value) (a b:List Lk) (w:World) (ha:bN w va a) (hb:bN w vb b) :
  Calls Tryz.prog 53 #[va,vb] w fun e w'=>e=.returned (.bool (decide (a=b)))/\Below w.heap.size w w':=by
 obtain⟨pa,ca,rfl,la1,la2,ea⟩:=ha.at;obtain⟨pb,cb,rfl,lb1,lb2,eb⟩:=hb.at;have EA:=aa ea;have EB:=aa eb;have ij:am (a.length=b.length->(∀ j,j<a.length->a.getD j default=b.getD j default)->decide (a=b)=true):=aa fun h1 h2=>decide_eq_true (fq default h1 h2)
 have iO:am (a.length≠b.length->decide (a=b)=false):=aa fun h=>decide_eq_false fun e=>h (by rw[e])
 have pB:am (∀ j,j<a.length->a.getD j default≠b.getD j default->decide (a=b)=false):=aa fun j _ h=>decide_eq_false fun e=>h (by rw[e])
 generalize decide (a=b)=r at ij iO pB ⊢;clear ha hb ea eb
 go_enter Tryz.func53,Tryz.ntmps53
 by_cases hl:a.length=b.length
 case neg=>
  have hd:(((a.length:Nat):Int) != ((b.length:Nat):Int))=true:=by simp;omega
  have HR:=aa (iO.o hl);clear hl
  go_wp2_with fail
  go_ret
  exact⟨aR (by rw[HR.o]),Below.refl _ _⟩
 have HL:=aa hl;obtain⟨n,hn⟩:∃ n,a.length=n:=⟨_,rfl⟩;have iP:b.length=n:=by omega
 have HN:=aa hn;have A6:=aa iP;rw[hn]at la1 la2 ⊢;rw[iP]at lb1 lb2 ⊢;clear hl hn iP;have hd:((n:Int) != (n:Int))=false:=by simp
 go_wp2_with fail
 go_loopw [5] (fun i wr=>∃ k:Nat,k<=n/\i=.int .i64 k/\Below w.heap.size w wr/\∀ j,j<k->a.getD j default=b.getD j default) (fun i _=>n - (intOf i).toNat)
 ·exact⟨0,by omega,rfl,Below.refl _ _,fun j hj=>by omega⟩
 ·
  obtain⟨k,hk,rfl,aA,aW⟩:=hrel;have H:=aa aW;have aV:=aa aA;clear aW;by_cases aC:k<n
  ·obtain⟨b1,o1,rfl,h1⟩:=EA.o k (by rw[HN.o];exact aC);obtain⟨b2,o2,rfl,h2⟩:=EB.o k (by rw[A6.o];exact aC);have qN:=aa (az (default:Lk) (show k<a.length by rw[HN.o];exact aC));have rV:=aa (az (default:Lk) (show k<b.length by rw[A6.o];exact aC));generalize a[k]'(by rw[HN.o];exact aC)=x at h1 qN;generalize b[k]'(by rw[A6.o];exact aC)=y at h2 rV;have c0:∀ z:ExtW wr,z.val.cell? ⟨b1,o1+k * 2,none⟩=_:=fun z=>z.cell (ak aA h1.1.1)
   have c1:∀ z:ExtW wr,z.val.cell? ⟨b1,o1+k * 2+1,none⟩=_:=fun z=>z.cell (ak aA h1.2.1)
   have d0:∀ z:ExtW wr,z.val.cell? ⟨b2,o2+k * 2,none⟩=_:=fun z=>z.cell (ak aA h2.1.1)
   have d1:∀ z:ExtW wr,z.val.cell? ⟨b2,o2+k * 2+1,none⟩=_:=fun z=>z.cell (ak aA h2.2.1)
   have ka:=fun w=>WG x y w
   clear h1 h2 aA;cases cg:decide (x=y) with
   | true=>
    have oz:=aa (of_decide_eq_true cg);rw[cg]at ka;clear cg
    go_wp2_with fail
    refine aB (by kernel_rfl) (by kernel_rfl) ?_
    repeat (go_big_quiet_step (fail))
    refine wpQuiet_nil ?_;rintro _ ⟨xq,rfl⟩;clear c0 c1 d0 d1 ka
    go_wp2_with fail
    go_roundw
    ·exact⟨k+1,by omega,by go_num,ae aV.o xq.ext,aY (p:=fun j=>a.getD j default=b.getD j default) H.o (by rw[qN.o,rV.o];exact oz.o)⟩
    ·simp[intOf];omega
   | false=>
    have HR:=aa (pB.o k (by rw[HN.o];exact aC) (by rw[qN.o,rV.o];exact of_decide_eq_false cg));rw[cg]at ka;clear cg
    go_wp2_with fail
    refine aB (by kernel_rfl) (by kernel_rfl) ?_
    repeat (go_big_quiet_step (fail))
    refine wpQuiet_nil ?_;rintro _ ⟨xq,rfl⟩;clear c0 c1 d0 d1 ka
    go_wp2_with fail
    go_ret
    exact⟨aR (by rw[HR.o]),ae aV.o xq.ext⟩
  ·obtain rfl:k=n:=by omega
   have HR:=aa (ij.o HL.o fun j hj=>H.o j (by have:=HN.o;omega))
   go_wp2_with fail
   go_ret
   exact⟨aR (by rw[HR.o]),aV.o⟩
theorem M8(v:Value) (l:List Int) (w:World) (hv:aQ w v l) :
  Calls Tryz.prog 131 #[v] w fun e w'=>e=.returned (.bool (constB l))/\Below w.heap.size w w':=by
 obtain⟨pl,cl,rfl,el⟩:=cV hv;obtain⟨_,_,_,_,cC,_⟩:=hv.at;have EL:=aa el;have Mb:am (constB l=!(anyLt l.length fun i=>decide (l.getD i 0≠l.getD 0 0))):=aa rfl;have fk:am (∀ k,k<l.length->l.getD k 0≠l.getD 0 0->constB l=false):=aa fun k hk h=>by rw[Mb.o,RN hk (decide_eq_true h)];rfl
 have ju:am ((∀ k,k<l.length->l.getD k 0=l.getD 0 0)->constB l=true):=aa fun h=>by rw[Mb.o,eX _ _ fun k hk=>decide_eq_false (fun h'=>h' (h k hk))];rfl
 generalize constB l=r at fk ju ⊢;obtain⟨x0,dk⟩:∃ x0,l.getD 0 0=x0:=⟨_,rfl⟩;have zA:=aa dk;rw[dk]at fk ju;clear dk;obtain⟨n,hn⟩:∃ n,l.length=n:=⟨_,rfl⟩;rw[hn]at EL fk ju cC ⊢;clear hv el Mb hn
 go_enter Tryz.func131,Tryz.ntmps131
 go_wp2_with fail
 go_loopw [3] (fun i wr=>∃ k:Nat,k<=n/\i=.int .i64 k/\Below w.heap.size w wr/\∀ j,j<k->l.getD j 0=x0) (fun i _=>n - (intOf i).toNat)
 ·exact⟨0,by omega,rfl,Below.refl _ _,fun j hj=>by omega⟩
 ·
  obtain⟨k,hk,rfl,aA,aW⟩:=hrel;have H:=aa aW;have aV:=aa aA;clear aW;by_cases aC:k<n
  ·obtain⟨b1,o1,rfl,c1⟩:=EL.o k aC;obtain⟨b2,o2,e2,c2⟩:=EL.o 0 (by omega);injection e2 with e2
   injection e2 with e2 e3
   subst e2 e3;rw[zA.o]at c2;have nr:=aa (fk.o k aC);have HB:=aa (fun h:l.getD k 0=x0=>aY (p:=fun j=>l.getD j 0=x0) H.o h);have y1:∀ z:ExtW wr,z.val.cell? ⟨b1,o1+k,none⟩=_:=fun z=>z.cell (ak aA c1)
   have y2:∀ z:ExtW wr,z.val.cell? ⟨b1,o1,none⟩=_:=fun z=>z.cell (ak aA c2)
   by_cases cg:l.getD k 0=x0
   ·have oW:=aa (HB.o cg);have hd:(l.getD k 0 != x0)=false:=by rw[cg];simp
    clear HB nr cg aA c1 c2;generalize l.getD k 0=xk at y1 hd
    go_wp2_with fail
    refine aB (by kernel_rfl) (by kernel_rfl) ?_
    repeat (go_big_quiet_step (fail))
    refine wpQuiet_nil ?_;rintro _ ⟨xq,rfl⟩;clear y1 y2
    go_wp2_with fail
    go_roundw
    ·exact⟨k+1,by omega,by go_num,ae aV.o xq.ext,oW.o⟩
    ·simp[intOf];omega
   ·have HR:=aa (nr.o cg);have hd:(l.getD k 0 != x0)=true:=by simpa using cg
    clear HB nr cg aA c1 c2;generalize l.getD k 0=xk at y1 hd
    go_wp2_with fail
    refine aB (by kernel_rfl) (by kernel_rfl) ?_
    repeat (go_big_quiet_step (fail))
    refine wpQuiet_nil ?_;rintro _ ⟨xq,rfl⟩;clear y1 y2
    go_wp2_with fail
    go_ret
    exact⟨aR (by rw[HR.o]),ae aV.o xq.ext⟩
  ·obtain rfl:k=n:=by omega
   have HR:=aa (ju.o fun j hj=>H.o j hj)
   go_wp2_with fail
   go_ret
   exact⟨aR (by rw[HR.o]),aV.o⟩
theorem M9(na nb:Int) (va vb:Value) (a b:List Vw) (w:World) (ha:kW w va a) (hb:kW w vb b) :
  Calls Tryz.prog 149 #[.agg #[.int .i64 na,va],.agg #[.int .i64 nb,vb]] w fun e w'=>e=.returned (.bool (decide (na=nb/\a=b)))/\Below w.heap.size w w':=by
 obtain⟨pa,ca,rfl,la1,la2,ea⟩:=ha.at;obtain⟨pb,cb,rfl,lb1,lb2,eb⟩:=hb.at;have EA:=aa ea;have EB:=aa eb;have lH:am (na≠nb->decide (na=nb/\a=b)=false):=aa fun h=>decide_eq_false fun e=>h e.1
 have ij:am (na=nb->a.length=b.length->(∀ j,j<a.length->a.getD j default=b.getD j default)->decide (na=nb/\a=b)=true):=aa fun h0 h1 h2=>decide_eq_true ⟨h0,fq default h1 h2⟩
 have iO:am (a.length≠b.length->decide (na=nb/\a=b)=false):=aa fun h=>decide_eq_false fun e=>h (by rw[e.2])
 have pB:am (∀ j,j<a.length->a.getD j default≠b.getD j default->decide (na=nb/\a=b)=false):=aa fun j _ h=>decide_eq_false fun e=>h (by rw[e.2])
 generalize decide (na=nb/\a=b)=r at lH ij iO pB ⊢;clear ha hb ea eb
 go_enter Tryz.func149,Tryz.ntmps149
 by_cases fE:na=nb
 case neg=>
  have hd:(na != nb)=true:=by simpa using fE
  have HR:=aa (lH.o fE);clear fE
  go_wp2_with fail
  go_ret
  exact⟨aR (by rw[HR.o]),by go_grown⟩
 have ij:=aa (ij.o fE);subst fE;by_cases hl:a.length=b.length
 case neg=>
  have hd:(((a.length:Nat):Int) != ((b.length:Nat):Int))=true:=by simp;omega
  have HR:=aa (iO.o hl);clear hl
  go_wp2_with fail
  go_ret
  exact⟨aR (by rw[HR.o]),by go_grown⟩
 have HL:=aa hl;obtain⟨n,hn⟩:∃ n,a.length=n:=⟨_,rfl⟩;have iP:b.length=n:=by omega
 have HN:=aa hn;have A6:=aa iP;rw[hn]at la1 la2 ⊢;rw[iP]at lb1 lb2 ⊢;clear hl hn iP;have hd:((n:Int) != (n:Int))=false:=by simp
 go_wp2_with fail
 refine bC (fun W=>Below w.heap.size w W/\W.heap[w.heap.size]?=some (.cells #[.int .i64 na,.slice pa n ca] 32)/\W.heap[w.heap.size+1]?=some (.cells #[.int .i64 na,.slice pb n cb] 32)) ⟨by go_grown,ar _ (ap _ _),by have h:=ap (w.alloc (.cells #[.int .i64 na,.slice pa n ca] 32)) (.cells #[.int .i64 na,.slice pb n cb] 32);simpa using h⟩ (fun W0 aX=>?_);obtain⟨aG,bB,nG⟩:=aX;have eQ:=aa aG;have j8:=aa bB;have nB:=aa nG;clear aG bB nG
 go_loopw [5] (fun i wr=>∃ k:Nat,k<=n/\i=.int .i64 k/\Below W0.heap.size W0 wr/\∀ j,j<k->a.getD j default=b.getD j default) (fun i _=>n - (intOf i).toNat)
 ·exact⟨0,by omega,rfl,Below.refl _ _,fun j hj=>by omega⟩
 ·
  obtain⟨k,hk,rfl,aA,aW⟩:=hrel;have H:=aa aW;have aV:=aa aA;have bP:=aa (ae eQ.o aA);clear aW aA;have tA:=ab (af aV.o j8.o);by_cases aC:k<n
  ·obtain⟨b1,o1,rfl,h1⟩:=EA.o k (by rw[HN.o];exact aC);obtain⟨b2,o2,rfl,h2⟩:=EB.o k (by rw[A6.o];exact aC);have qN:=aa (az (default:Vw) (show k<a.length by rw[HN.o];exact aC));have rV:=aa (az (default:Vw) (show k<b.length by rw[A6.o];exact aC));generalize a[k]'(by rw[HN.o];exact aC)=x at h1 qN;generalize b[k]'(by rw[A6.o];exact aC)=y at h2 rV;have c0:∀ z:ExtW wr,z.val.cell? ⟨b1,o1+k * 8,none⟩=_:=fun z=>z.cell (ak bP.o h1.1.1)
   have c1:∀ z:ExtW wr,z.val.cell? ⟨b1,o1+k * 8+1,none⟩=_:=fun z=>z.cell (ak bP.o h1.2.1.1)
   have c2:∀ z:ExtW wr,z.val.cell? ⟨b1,o1+k * 8+2,none⟩=_:=fun z=>z.cell (ak bP.o h1.2.2.1.1)
   have c3:∀ z:ExtW wr,z.val.cell? ⟨b1,o1+k * 8+3,none⟩=_:=fun z=>z.cell (ak bP.o h1.2.2.2.1.1)
   have c4:∀ z:ExtW wr,z.val.cell? ⟨b1,o1+k * 8+4,none⟩=_:=fun z=>z.cell (ak bP.o h1.2.2.2.2.1.1)
   have c5:∀ z:ExtW wr,z.val.cell? ⟨b1,o1+k * 8+5,none⟩=_:=fun z=>z.cell (ak bP.o h1.2.2.2.2.2.1.1)
   have c6:∀ z:ExtW wr,z.val.cell? ⟨b1,o1+k * 8+6,none⟩=_:=fun z=>z.cell (ak bP.o h1.2.2.2.2.2.2.1.1)
   have c7:∀ z:ExtW wr,z.val.cell? ⟨b1,o1+k * 8+7,none⟩=_:=fun z=>z.cell (ak bP.o h1.2.2.2.2.2.2.2.1)
   have d0:∀ z:ExtW wr,z.val.cell? ⟨b2,o2+k * 8,none⟩=_:=fun z=>z.cell (ak bP.o h2.1.1)
   have d1:∀ z:ExtW wr,z.val.cell? ⟨b2,o2+k * 8+1,none⟩=_:=fun z=>z.cell (ak bP.o h2.2.1.1)
   have d2:∀ z:ExtW wr,z.val.cell? ⟨b2,o2+k * 8+2,none⟩=_:=fun z=>z.cell (ak bP.o h2.2.2.1.1)
   have d3:∀ z:ExtW wr,z.val.cell? ⟨b2,o2+k * 8+3,none⟩=_:=fun z=>z.cell (ak bP.o h2.2.2.2.1.1)
   have d4:∀ z:ExtW wr,z.val.cell? ⟨b2,o2+k * 8+4,none⟩=_:=fun z=>z.cell (ak bP.o h2.2.2.2.2.1.1)
   have d5:∀ z:ExtW wr,z.val.cell? ⟨b2,o2+k * 8+5,none⟩=_:=fun z=>z.cell (ak bP.o h2.2.2.2.2.2.1.1)
   have d6:∀ z:ExtW wr,z.val.cell? ⟨b2,o2+k * 8+6,none⟩=_:=fun z=>z.cell (ak bP.o h2.2.2.2.2.2.2.1.1)
   have d7:∀ z:ExtW wr,z.val.cell? ⟨b2,o2+k * 8+7,none⟩=_:=fun z=>z.cell (ak bP.o h2.2.2.2.2.2.2.2.1)
   have tA2:∀ z:ExtW wr,z.val.cell? ⟨w.heap.size,1,none⟩=some (.slice (some ⟨b1,o1,none⟩) n ca):=fun z=>z.cell (by rw[ab (af aV.o j8.o)];rfl)
   have tC2:∀ z:ExtW wr,z.val.cell? ⟨w.heap.size+1,1,none⟩=some (.slice (some ⟨b2,o2,none⟩) n cb):=fun z=>z.cell (by rw[ab (af aV.o nB.o)];rfl)
   have ka:=fun w=>PQ x y w
   clear h1 h2;cases cg:decide (x=y) with
   | true=>
    have oz:=aa (of_decide_eq_true cg);rw[cg]at ka;clear cg
    go_wp2_with fail
    refine aB (by kernel_rfl) (by kernel_rfl) ?_
    repeat (go_big_quiet_step (fail))
    refine wpQuiet_nil ?_;rintro _ ⟨xq,rfl⟩;clear c0 c1 c2 c3 c4 c5 c6 c7 d0 d1 d2 d3 d4 d5 d6 d7 tA2 tC2 ka tA
    go_wp2_with fail
    go_roundw
    ·exact⟨k+1,by omega,by go_num,ae aV.o xq.ext,aY (p:=fun j=>a.getD j default=b.getD j default) H.o (by rw[qN.o,rV.o];exact oz.o)⟩
    ·simp[intOf];omega
   | false=>
    have HR:=aa (pB.o k (by rw[HN.o];exact aC) (by rw[qN.o,rV.o];exact of_decide_eq_false cg));rw[cg]at ka;clear cg
    go_wp2_with fail
    refine aB (by kernel_rfl) (by kernel_rfl) ?_
    repeat (go_big_quiet_step (fail))
    refine wpQuiet_nil ?_;rintro _ ⟨xq,rfl⟩;clear c0 c1 c2 c3 c4 c5 c6 c7 d0 d1 d2 d3 d4 d5 d6 d7 tA2 tC2 ka tA
    go_wp2_with fail
    go_ret
    exact⟨aR (by rw[HR.o]),ae bP.o xq.ext⟩
  ·obtain rfl:k=n:=by omega
   have HF:∀ j,j<a.length->a.getD j default=b.getD j default:=fun j hj=>H.o j (by have:=HN.o;omega)
   have HR:am (r=true):=aa (by first|exact ij.o HL.o HF|exact ij.o trivial HL.o HF|exact ij.o rfl HL.o HF);clear HF
   go_wp2_with fail
   go_ret
   exact⟨aR (by rw[HR.o]),bP.o⟩
theorem M'(va vb:Value) (a b:List Int) (w:World) (ha:aQ w va a) (hb:aQ w vb b) :
  Calls Tryz.prog 184 #[va,vb] w fun e w'=>e=.returned (.bool (decide (a=b)))/\Below w.heap.size w w':=by
 obtain⟨pa,ca,rfl,ea⟩:=cV ha;obtain⟨pb,cb,rfl,eb⟩:=cV hb;obtain⟨_,_,_,_,la2,_⟩:=ha.at;obtain⟨_,_,_,_,lb2,_⟩:=hb.at;have EA:=aa ea;have EB:=aa eb;have ij:am (a.length=b.length->(∀ j,j<a.length->a.getD j 0=b.getD j 0)->decide (a=b)=true):=aa fun h1 h2=>decide_eq_true (fq 0 h1 h2)
 have iO:am (a.length≠b.length->decide (a=b)=false):=aa fun h=>decide_eq_false fun e=>h (by rw[e])
 have pB:am (∀ j,j<a.length->a.getD j 0≠b.getD j 0->decide (a=b)=false):=aa fun j _ h=>decide_eq_false fun e=>h (by rw[e])
 generalize decide (a=b)=r at ij iO pB ⊢;clear ha hb ea eb
 go_enter Tryz.func184,Tryz.ntmps184
 by_cases hl:a.length=b.length
 case neg=>
  have hd:(((a.length:Nat):Int) != ((b.length:Nat):Int))=true:=by simp;omega
  have HR:=aa (iO.o hl);clear hl
  go_wp2_with fail
  go_ret
  exact⟨aR (by rw[HR.o]),Below.refl _ _⟩
 have HL:=aa hl;obtain⟨n,hn⟩:∃ n,a.length=n:=⟨_,rfl⟩;have iP:b.length=n:=by omega
 have HN:=aa hn;have A6:=aa iP;rw[hn]at la2 EA ⊢;rw[iP]at lb2 EB ⊢;clear hl hn iP;have hd:((n:Int) != (n:Int))=false:=by simp
 go_wp2_with fail
 go_loopw [5] (fun i wr=>∃ k:Nat,k<=n/\i=.int .i64 k/\Below w.heap.size w wr/\∀ j,j<k->a.getD j 0=b.getD j 0) (fun i _=>n - (intOf i).toNat)
 ·exact⟨0,by omega,rfl,Below.refl _ _,fun j hj=>by omega⟩
 ·
  obtain⟨k,hk,rfl,aA,aW⟩:=hrel;have H:=aa aW;have aV:=aa aA;clear aW;by_cases aC:k<n
  ·obtain⟨b1,o1,rfl,h1⟩:=EA.o k aC;obtain⟨b2,o2,rfl,h2⟩:=EB.o k aC;have qN:am (∀ x,a.getD k 0=x->a.getD k 0=x):=aa fun _ h=>h
   obtain⟨x,hx⟩:∃ x,a.getD k 0=x:=⟨_,rfl⟩;obtain⟨y,hy⟩:∃ y,b.getD k 0=y:=⟨_,rfl⟩;rw[hx]at h1;rw[hy]at h2;have HX:=aa hx;have HY:=aa hy;have c0:∀ z:ExtW wr,z.val.cell? ⟨b1,o1+k,none⟩=_:=fun z=>z.cell (ak aA h1)
   have d0:∀ z:ExtW wr,z.val.cell? ⟨b2,o2+k,none⟩=_:=fun z=>z.cell (ak aA h2)
   clear h1 h2 aA hx hy qN;by_cases cg:x=y
   ·have oz:=aa cg;have fw:(x != y)=false:=by simp[cg]
    clear cg
    go_wp2_with fail
    refine aB (by kernel_rfl) (by kernel_rfl) ?_
    repeat (go_big_quiet_step (fail))
    refine wpQuiet_nil ?_;rintro _ ⟨xq,rfl⟩;clear c0 d0
    go_wp2_with fail
    go_roundw
    ·exact⟨k+1,by omega,by go_num,ae aV.o xq.ext,aY (p:=fun j=>a.getD j 0=b.getD j 0) H.o (by rw[HX.o,HY.o];exact oz.o)⟩
    ·simp[intOf];omega
   ·have HR:=aa (pB.o k (by rw[HN.o];exact aC) (by rw[HX.o,HY.o];exact cg));have fw:(x != y)=true:=by simpa using cg
    clear cg
    go_wp2_with fail
    refine aB (by kernel_rfl) (by kernel_rfl) ?_
    repeat (go_big_quiet_step (fail))
    refine wpQuiet_nil ?_;rintro _ ⟨xq,rfl⟩;clear c0 d0
    go_wp2_with fail
    go_ret
    exact⟨aR (by rw[HR.o]),ae aV.o xq.ext⟩
  ·obtain rfl:k=n:=by omega
   have HR:=aa (ij.o HL.o fun j hj=>H.o j (by have:=HN.o;omega))
   go_wp2_with fail
   go_ret
   exact⟨aR (by rw[HR.o]),aV.o⟩
theorem Na(va vb:Value) (a b:List Rd) (w:World) (ha:kK w va a) (hb:kK w vb b) :
  Calls Tryz.prog 183 #[va,vb] w fun e w'=>e=.returned (.bool (decide (a=b)))/\Below w.heap.size w w':=by
 obtain⟨pa,ca,rfl,la1,la2,ea⟩:=ha.at;obtain⟨pb,cb,rfl,lb1,lb2,eb⟩:=hb.at;clear ha hb;have EA:=aa ea;clear ea;have EB:=aa eb;clear eb;generalize oB:decide (a=b)=res;have jP:=aa oB;clear oB;by_cases hl:a.length=b.length
 case neg=>
  have iz:((a.length:Int) != (b.length:Int))=true:=by simp;omega
  have HR:am (res=false):=by(have h:res=false:=by(rw[<-jP.o];simp;intro h;exact hl (by rw[h])));exact h
  clear hl
  go_enter Tryz.func183,Tryz.ntmps183
  go_wp2
  go_ret
  exact⟨aR HR.o.symm,Below.refl _ _⟩
 have iz:((a.length:Int) != (b.length:Int))=false:=by simp[hl]
 have HL:=aa hl;clear hl
 go_enter Tryz.func183,Tryz.ntmps183
 go_wp2
 clear iz
 go_loopw [5] (fun i wr=>Below w.heap.size w wr/\∃ k:Nat,k<=a.length/\i=.int .i64 k/\∀ j,j<k->a.getD j default=b.getD j default) (fun i _=>a.length - (intOf i).toNat)
 ·exact⟨Below.refl _ _,0,by omega,rfl,by simp⟩
 ·
  obtain⟨aA,k,hk,rfl,aW⟩:=hrel;have H:=aa aW;clear aW;by_cases aC:k<a.length
  ·have jc:k<b.length:=by have:=HL.o;omega
   obtain⟨b1,o1,rfl,⟨c0,r0⟩,⟨c1,r1⟩,⟨c2,r2⟩,⟨c3,r3⟩,⟨c4,r4⟩,⟨c5,r5⟩,⟨c6,r6⟩⟩:=EA.o k aC;obtain⟨b2,o2,rfl,⟨e0,s0⟩,⟨e1,s1⟩,⟨e2,s2⟩,⟨e3,s3⟩,⟨e4,s4⟩,⟨e5,s5⟩,⟨e6,s6⟩⟩:=EB.o k jc;have c0':∀ y:ExtW wr,y.val.cell? ⟨b1,o1+k * 7,none⟩=_:=fun y=>y.cell (ak aA c0)
   have c1':∀ y:ExtW wr,y.val.cell? ⟨b1,o1+k * 7+1,none⟩=_:=fun y=>y.cell (ak aA c1)
   have c2':∀ y:ExtW wr,y.val.cell? ⟨b1,o1+k * 7+2,none⟩=_:=fun y=>y.cell (ak aA c2)
   have c3':∀ y:ExtW wr,y.val.cell? ⟨b1,o1+k * 7+3,none⟩=_:=fun y=>y.cell (ak aA c3)
   have c4':∀ y:ExtW wr,y.val.cell? ⟨b1,o1+k * 7+4,none⟩=_:=fun y=>y.cell (ak aA c4)
   have c5':∀ y:ExtW wr,y.val.cell? ⟨b1,o1+k * 7+5,none⟩=_:=fun y=>y.cell (ak aA c5)
   have c6':∀ y:ExtW wr,y.val.cell? ⟨b1,o1+k * 7+6,none⟩=_:=fun y=>y.cell (ak aA c6)
   have e0':∀ y:ExtW wr,y.val.cell? ⟨b2,o2+k * 7,none⟩=_:=fun y=>y.cell (ak aA e0)
   have e1':∀ y:ExtW wr,y.val.cell? ⟨b2,o2+k * 7+1,none⟩=_:=fun y=>y.cell (ak aA e1)
   have e2':∀ y:ExtW wr,y.val.cell? ⟨b2,o2+k * 7+2,none⟩=_:=fun y=>y.cell (ak aA e2)
   have e3':∀ y:ExtW wr,y.val.cell? ⟨b2,o2+k * 7+3,none⟩=_:=fun y=>y.cell (ak aA e3)
   have e4':∀ y:ExtW wr,y.val.cell? ⟨b2,o2+k * 7+4,none⟩=_:=fun y=>y.cell (ak aA e4)
   have e5':∀ y:ExtW wr,y.val.cell? ⟨b2,o2+k * 7+5,none⟩=_:=fun y=>y.cell (ak aA e5)
   have e6':∀ y:ExtW wr,y.val.cell? ⟨b2,o2+k * 7+6,none⟩=_:=fun y=>y.cell (ak aA e6)
   have HX:=aa (az default aC);have HY:=aa (az default jc);clear c0 r0 e0 s0 c1 r1 e1 s1 c2 r2 e2 s2 c3 r3 e3 s3 c4 r4 e4 s4 c5 r5 e5 s5 c6 r6 e6 s6;generalize a[k]=x at c0' c1' c2' c3' c4' c5' c6' HX;generalize b[k]=y at e0' e1' e2' e3' e4' e5' e6' HY;have bK:=fun w=>Pi x y w
   go_wp2
   by_cases cg:x=y
   ·have hd:decide (x=y)=true:=by simpa using cg
    have oz:am (a.getD k default=b.getD k default):=by(have h:a.getD k default=b.getD k default:=by(rw[HX.o,HY.o,cg]));exact h
    rw[hd]at bK;clear cg hd;refine aB (by kernel_rfl) (by kernel_rfl) ?_
    repeat (go_big_quiet_step (fail))
    refine wpQuiet_nil ?_;intro _ eJ;obtain⟨xq,dj⟩:=eJ;subst dj;clear c0' c1' c2' c3' c4' c5' c6' e0' e1' e2' e3' e4' e5' e6' bK
    go_wp2
    go_roundw
    ·exact⟨ae aA xq.ext,k+1,by omega,by go_num,aY H.o oz.o⟩
    ·simp[intOf];omega
   ·have hd:decide (x=y)=false:=by simpa using cg
    have HR:am (res=false):=by(have h:res=false:=by(rw[<-jP.o];simp;intro h;subst h;rw[HX.o]at HY;exact cg HY.o));exact h
    rw[hd]at bK;clear cg hd;refine aB (by kernel_rfl) (by kernel_rfl) ?_
    repeat (go_big_quiet_step (fail))
    refine wpQuiet_nil ?_;intro _ eJ;obtain⟨xq,dj⟩:=eJ;subst dj;clear c0' c1' c2' c3' c4' c5' c6' e0' e1' e2' e3' e4' e5' e6' bK
    go_wp2
    go_ret
    exact⟨aR HR.o.symm,ae aA xq.ext⟩
  ·have HR:am (res=true):=by(have h:res=true:=by(rw[<-jP.o];simp;exact fq default HL.o fun j hj=>H.o j (by omega)));exact h
   go_wp2
   go_ret
   exact⟨aR HR.o.symm,aA⟩
theorem Nb(x y:Ex) (wa wb va vb:Value) (w:World) (Uc:kK w wa x.word) (AV:kK w wb y.word) (ha:dL w va x.views) (hb:dL w vb y.views) :
  Calls Tryz.prog 150 #[.agg #[.int .i64 x.c,wa,va],.agg #[.int .i64 y.c,wb,vb]] w fun e w'=>e=.returned (.bool (decide (x=y)))/\Below w.heap.size w w':=by
 obtain⟨cx,wx,ax⟩:=x;obtain⟨cy,wy,ay⟩:=y;dsimp only at Uc AV ha hb ⊢;have LG:=aa (fun W (h:Below w.heap.size w W)=>Na wa wb wx wy W (Uc.up up_round h) (AV.up up_round h));obtain⟨pw,cw,rfl,_,_,_⟩:=Uc.at;obtain⟨qw,dw,rfl,_,_,_⟩:=AV.at;obtain⟨pa,ca,rfl,la1,la2,ea⟩:=ha.at;obtain⟨pb,cb,rfl,lb1,lb2,eb⟩:=hb.at;have EA:=aa ea;have EB:=aa eb;have Dv:am (cx≠cy->decide ((⟨cx,wx,ax⟩:Ex)=⟨cy,wy,ay⟩)=false):=aa fun h=>decide_eq_false fun e=>h (congrArg Ex.c e)
 have Gc:am (decide (wx=wy)=false->decide ((⟨cx,wx,ax⟩:Ex)=⟨cy,wy,ay⟩)=false):=aa fun h=>decide_eq_false fun e=>(of_decide_eq_false h) (congrArg Ex.word e)
 have iO:am (ax.length≠ay.length->decide ((⟨cx,wx,ax⟩:Ex)=⟨cy,wy,ay⟩)=false):=aa fun h=>decide_eq_false fun e=>h (congrArg (fun z=>(Ex.views z).length) e)
 have pB:am (∀ j,j<ax.length->ax.getD j []≠ay.getD j []->decide ((⟨cx,wx,ax⟩:Ex)=⟨cy,wy,ay⟩)=false):=aa fun j _ h=>decide_eq_false fun e=>h (congrArg (fun z=>(Ex.views z).getD j []) e)
 have ij:am (cx=cy/\decide (wx=wy)=true/\ax.length=ay.length/\(∀ j,j<ax.length->ax.getD j []=ay.getD j [])->decide ((⟨cx,wx,ax⟩:Ex)=⟨cy,wy,ay⟩)=true):=aa fun ⟨h0,h1,h2,h3⟩=>decide_eq_true (by rw[h0,of_decide_eq_true h1,fq [] h2 h3])
 generalize decide ((⟨cx,wx,ax⟩:Ex)=⟨cy,wy,ay⟩)=r at Dv Gc iO pB ij ⊢;generalize decide (wx=wy)=bw at LG Gc ij;generalize wx.length=nw1,wy.length=nw2 at LG ⊢;clear Uc AV ha hb ea eb
 go_enter Tryz.func150,Tryz.ntmps150
 by_cases fE:cx=cy
 case neg=>
  have hd:(cx != cy)=true:=by simpa using fE
  have HR:=aa (Dv.o fE);clear fE
  go_wp2_with fail
  go_ret
  exact⟨aR (by rw[HR.o]),by go_grown⟩
 have uk:=aa fE;have UJ:(cx != cy)=false:=by simp[fE]
 clear fE;obtain⟨n,hn⟩:∃ n,ax.length=n:=⟨_,rfl⟩;obtain⟨m,hm⟩:∃ m,ay.length=m:=⟨_,rfl⟩;have HN:=aa hn;have HM:=aa hm;rw[hn]at la1 la2 ⊢;rw[hm]at lb1 lb2 ⊢;clear hn hm
 go_wp2_with fail
 refine aO (fun W=>Below w.heap.size w W/\W.heap[w.heap.size]?=some (.cells #[.int .i64 cx,.slice pw nw1 cw,.slice pa n ca] 89)/\W.heap[w.heap.size+1]?=some (.cells #[.int .i64 cy,.slice qw nw2 dw,.slice pb m cb] 89)) ⟨by go_grown,ar _ (ap _ _),by have h:=ap (w.alloc (.cells #[.int .i64 cx,.slice pw nw1 cw,.slice pa n ca] 89)) (.cells #[.int .i64 cy,.slice qw nw2 dw,.slice pb m cb] 89);simpa using h⟩ (fun W00 aX=>?_);obtain⟨aG,bB,nG⟩:=aX;refine(LG.o W00 aG).mono ?_;rintro e W0 ⟨rfl,aK⟩;have eQ:=aa (ae aG aK);have j8:=aa (af aK bB);have nB:=aa (af aK nG);have tA:=ab j8.o;have tC:=ab nB.o;clear aG bB nG aK LG;cases bw with
 | false=>
  have HR:am (r=false):=aa (by first|exact Gc.o rfl|exact Gc.o trivial)
  go_wp2_with fail
  go_ret
  exact⟨aR (by rw[HR.o]),eQ.o⟩
 | true=>
  by_cases hl:n=m
  case neg=>
   have hd:(((n:Nat):Int) != ((m:Nat):Int))=true:=by simp;omega
   have HR:=aa (iO.o (by rw[HN.o,HM.o];exact hl));clear hl
   go_wp2_with fail
   go_ret
   exact⟨aR (by rw[HR.o]),eQ.o⟩
  subst hl;have hd:((n:Int) != (n:Int))=false:=by simp
  go_wp2_with fail
  clear tA tC
  go_loopw [5] (fun i wr=>∃ k:Nat,k<=n/\i=.int .i64 k/\Below W0.heap.size W0 wr/\∀ j,j<k->ax.getD j []=ay.getD j []) (fun i _=>n - (intOf i).toNat)
  ·exact⟨0,by omega,rfl,Below.refl _ _,fun j hj=>by omega⟩
  ·
   obtain⟨k,hk,rfl,aA,aW⟩:=hrel;have H:=aa aW;have aV:=aa aA;have bP:=aa (ae eQ.o aA);clear aW aA;have tA:=ab (af aV.o j8.o);have tC:=ab (af aV.o nB.o);by_cases aC:k<n
   ·obtain⟨b1,o1,rfl,v1,g1,h1⟩:=EA.o k (by rw[HN.o];exact aC);obtain⟨b2,o2,rfl,v2,g2,h2⟩:=EB.o k (by rw[HM.o];exact aC);have qN:=aa (az ([]:List Int) (show k<ax.length by rw[HN.o];exact aC));have rV:=aa (az ([]:List Int) (show k<ay.length by rw[HM.o];exact aC));generalize ax[k]'(by rw[HN.o];exact aC)=x at h1 qN;generalize ay[k]'(by rw[HM.o];exact aC)=y at h2 rV;have d1:=ak bP.o g1;have d2:=ak bP.o g2;rw[Nat.mul_one]at d1 d2;have zK:=aa (fun W (h:Below w.heap.size w W)=>M' v1 v2 x y W (h1.up up_int h) (h2.up up_int h));clear h1 h2 g1 g2
    go_wp2_with fail
    go_still_tail 10,(by kernel_rfl)
    go_wp2_with fail
    refine aO (fun W=>Below wr.heap.size wr W) (Below.drew (Below.refl _ _)) (fun W5 hW5=>?_);refine(zK.o W5 (ae bP.o hW5)).mono ?_;rintro e w6 ⟨rfl,gz⟩;have qK:=aa (ae aV.o (ae hW5 gz));clear hW5 gz d1 d2 tA tC zK;cases cg:decide (x=y) with
    | true=>
     have oz:=aa (of_decide_eq_true cg);clear cg
     go_wp2_with fail
     go_roundw
     ·exact⟨k+1,by omega,by go_num,qK.o,aY (p:=fun j=>ax.getD j []=ay.getD j []) H.o (by rw[qN.o,rV.o];exact oz.o)⟩
     ·simp[intOf];omega
    | false=>
     have HR:=aa (pB.o k (by rw[HN.o];exact aC) (by rw[qN.o,rV.o];exact of_decide_eq_false cg));clear cg
     go_wp2_with fail
     go_ret
     exact⟨aR (by rw[HR.o]),ae eQ.o qK.o⟩
   ·obtain rfl:k=n:=by omega
    have HF:∀ j,j<ax.length->ax.getD j []=ay.getD j []:=fun j hj=>H.o j (by have:=HN.o;omega)
    have HR:am (r=true):=aa (ij.o ⟨uk.o,by first|rfl|trivial,by rw[HN.o,HM.o],HF⟩);clear HF
    go_wp2_with fail
    go_ret
    exact⟨aR (by rw[HR.o]),bP.o⟩
end Go.Proofs.YtmeaoneaephjeaaGreatDoor
