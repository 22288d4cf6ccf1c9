/-
  A part of the proof: lemmas and contracts that the parts behind it use. Each one's conditions are its own premises.
-/
import Derived.Lib.MinMax
import Derived.Test.YtmeaoneaephjeaaGreatDoorK7
set_option maxRecDepth 100000
set_option maxHeartbeats 8000000
set_option linter.unusedVariables false
set_option linter.unusedSimpArgs false
namespace Go.Proofs.YtmeaoneaephjeaaGreatDoor
open Go.RowKit Go Go.Shelf
attribute [local go_sem] Oper.semAt_some
theorem EG{w:World} {B:Nat} {cs:Array Value} {t:TypeId} {fz:Nat × Nat} (h:w.heap[B]?=some (.cells cs t fz)) (o:Nat) (hf:¬ (fz.1<=o/\o<fz.2)):w.frozen? ⟨B,o,none⟩=false:=by
 simp[World.frozen?,h];simpa using hf
def kP(n:Nat) (f r:Nat->Int) (q:Nat):List Value:=(List.range n).map fun j=>Value.int .i64 (if j<q then f j else r j)
theorem Hg(n:Nat) (f r:Nat->Int) (q:Nat):(kP n f r q).length=n:=by simp[kP]
theorem QW(n:Nat) (f r:Nat->Int) (q:Nat):(kP n f r q).set q (.int .i64 (f q))=kP n f r (q+1):=by
 refine List.ext_getElem (by simp[kP]) fun i h1 h2=>?_
 rw[List.getElem_set];simp only[kP,List.getElem_map,List.getElem_range];by_cases e:q=i
 ·subst e;rw[if_pos rfl,if_pos (by omega)]
 ·rw[if_neg e]
  by_cases h:i<q
  ·rw[if_pos h,if_pos (by omega)]
  ·rw[if_neg h,if_neg (by omega)]
theorem EH(n:Nat) (f r:Nat->Int) (q:Nat) (h:f q=r q):kP n f r (q+1)=kP n f r q:=by
 unfold kP;refine List.map_congr_left fun j _=>?_
 by_cases e:j=q
 ·subst e;rw[if_pos (by omega),if_neg (by omega),h]
 ·by_cases h:j<q
  ·rw[if_pos (by omega),if_pos h]
  ·rw[if_neg (by omega),if_neg h]
theorem Vl(p:Nat):hasB 0 p=false:=by simp[hasB]
theorem List.set_take'{α:Type} (l:List α) (i n:Nat) (a:α):(l.take n).set i a=(l.set i a).take n:=by rw[List.take_set]
theorem UC{s:Sys} (h:SysOk s):∀ x∈q6 s,∀ y∈x,bI y:=fun x hx y hy=>by
 obtain⟨e,he,rfl⟩:=List.mem_map.1 hx;obtain⟨p,hp,rfl⟩:=List.mem_map.1 hy;have h1:=lm h (List.mem_range.1 he) (List.mem_range.1 hp);have h2:=h.tab;split
 ·exact⟨by omega,by omega⟩
 ·exact⟨by omega,by omega⟩
theorem QX{w:World} {pr:Option Addr} {n cr:Nat} {l:List Int} (h:aY w (.slice pr n cr) l) (hl:l.length=n):gh w 1 (.slice pr n cr) n (l.map (Value.int .i64)):=by
 obtain⟨a,cap,e,⟨h1,h2,h3⟩,h4,h5⟩:=h;injection e with e1 e2 e3
 subst e1 e3;refine⟨pr,cr,rfl,fun e=>⟨by have:=h3 e;omega,h3 e⟩,by simp[hl],fun j u hj=>?_,fun u hu=>by obtain⟨x,_,rfl⟩:=List.mem_map.1 hu;rfl⟩;rw[List.getElem?_map]at hj;cases hx:l[j]? with
 | none=>rw[hx]at hj;cases hj
 | some x=>
  rw[hx]at hj;obtain⟨b,o,e,h6,_⟩:=h5 j x hx;rw[Nat.mul_one]at h6;exact⟨b,o,e,by rw[h6];exact hj⟩
theorem aD.block{w:World} {base n:Nat} {e:TypeId} {v:Value} {xs:List Value} (h:aD w base e 1 v n xs) (hn:0<n):∃ g cap cur fz,v=.slice (some ⟨g,0,none⟩) n cap/\base<=g/\w.heap[g]?=some (.cells cur e fz)/\(∀ i,i<cur.size->¬ (fz.1<=i/\i<fz.2))/\n<=cap/\cap<=maxLen/\cur.size=cap/\cur.toList.take n=xs/\v.ownBlock=some g:=by
 rcases h.2 with ⟨_,h0⟩|⟨g,cap,cur,fz,rfl,h1,h2,h3,h4,h5,h6,h7⟩
 ·omega
 ·exact⟨g,cap,cur,fz,rfl,h1,h2,h3,h4,h5,by omega,by rw[Nat.mul_one]at h7;exact h7,rfl⟩
theorem iu{w:World} {s:Sys} (hs:SysOk s) {ve:Value} (h:zm w ve s.ex) {k:Nat} (hk:k<eS s):∃ b o pe ce,ve=.slice (some ⟨b,o,none⟩) (eS s) ce/\pe=some (⟨b,o,none⟩:Addr)/\∃ pw nw cw pv cv,w.cell? ⟨b,o+k * 3,none⟩=some (.int .i64 (cF s k).c)/\w.cell? ⟨b,o+k * 3+1,none⟩=some (.slice pw nw cw)/\w.cell? ⟨b,o+k * 3+2,none⟩=some (.slice pv (s.prob.rounds.toNat+1) cv)/\nw=s.prob.rounds.toNat ∧
  (0<nw->∃ b1 o1,pw=some ⟨b1,o1,none⟩/\w.cell? ⟨b1,o1+(nw - 1) * 7+6,none⟩=some (.int .i64 (fltS s k)))/\(nw=0->fltS s k=0) ∧
  ∃ b2 o2 pr cr,pv=some ⟨b2,o2,none⟩/\w.cell? ⟨b2,o2+s.prob.rounds.toNat,none⟩=some (.slice pr (nS s) cr)/\aY w (.slice pr (nS s) cr) ((List.range (nS s)).map (finS s k)):=by
 obtain⟨a,ce,e0,_,_,ep⟩:=h.at;obtain⟨b,o,rfl,⟨c1,_⟩,⟨uw,c2,h2⟩,⟨uv,c3,h3⟩⟩:=ep k hk;have hx:s.ex[k]=cF s k:=by unfold cF;exact(ap default hk).symm
 rw[hx]at c1 h2 h3;have I4:=hs.word k hk;obtain⟨sp,TC⟩:=hs.views k hk;obtain⟨pw,cw,rfl,_,_,ew⟩:=h2.at;obtain⟨pv,cv,rfl,_,_,ev⟩:=h3.at;obtain⟨b2,o2,e2,vr,cr',hr⟩:=ev s.prob.rounds.toNat (by omega);rw[Nat.mul_one]at cr'
 have bV:(cF s k).views[s.prob.rounds.toNat]'(by omega)=(List.range (nS s)).map (finS s k):=by
  have cK:=(TC _ (List.getElem_mem (l:=(cF s k).views) (show s.prob.rounds.toNat<(cF s k).views.length by omega))).1;refine List.ext_getElem (by simp[cK]) fun i h1 h2=>?_
  simp only[List.getElem_map,List.getElem_range];unfold finS;rw[ap [] (show s.prob.rounds.toNat<(cF s k).views.length by omega),ap 0 h1]
 rw[bV]at hr;obtain⟨pr,cr,rfl,_⟩:=hr.at;rw[show ((List.range (nS s)).map (finS s k)).length=nS s by simp]at cr' hr;refine⟨b,o,_,ce,e0,rfl,pw,_,cw,pv,cv,c1,c2,by rw[sp]at c3;exact c3,I4,fun h0=>?_,fun h0=>?_,b2,o2,pr,cr,e2,cr',hr⟩
 ·obtain⟨b1,o1,e1,_,_,_,_,_,_,c6,_⟩:=ew ((cF s k).word.length - 1) (by omega)
  refine⟨b1,o1,e1,?_⟩;rw[c6];unfold fltS zl;rw[if_neg (by omega),ap default (show (cF s k).word.length - 1<(cF s k).word.length by omega)]
 ·unfold fltS zl
  rw[if_pos h0]
def gI(w:World) (base B:Nat) (s:Sys):Prop:=base<=B/\∃ vl,w.heap[B]?=some (.cells #[.int .i64 (nS s),vl] 201)/\cN w base vl (q6 s)
theorem gI.at{w:World} {base B:Nat} {s:Sys} (h:gI w base B s) (hs:SysOk s):FinAt w B s:=by
 obtain⟨_,vl,h1,h2⟩:=h;exact⟨vl,h1,m8 h2 (UC hs) (by rw[A3];have:=hs.count;omega) (fun x hx=>by obtain⟨e,_,rfl⟩:=List.mem_map.1 hx;rw[lj];have:=hs.n.2.1;omega)⟩
theorem aD.keepB{w V:World} {base k n:Nat} {e:TypeId} {v:Value} {xs:List Value} (h:aD w base e k v n xs) (hk:∀ g,base<=g->g<w.heap.size->V.heap[g]?=w.heap[g]?):aD V base e k v n xs:=by
 obtain⟨hl,h⟩:=h;refine⟨hl,?_⟩;rcases h with h|⟨g,cap,cur,fz,h1,h2,h3,h4⟩
 ·exact .inl h
 ·exact .inr ⟨g,cap,cur,fz,h1,h2,(hk g h2 (ar h3)).trans h3,h4⟩
theorem aD.baseB{w:World} {base b k n:Nat} {e:TypeId} {v:Value} {xs:List Value} (h:aD w base e k v n xs) (hb:b<=base):aD w b e k v n xs:=by
 obtain⟨hl,h⟩:=h;refine⟨hl,?_⟩;rcases h with h|⟨g,cap,cur,fz,h1,h2,h3,h4⟩
 ·exact .inl h
 ·exact .inr ⟨g,cap,cur,fz,h1,Nat.le_trans hb h2,h3,h4⟩
theorem gI.keep{w V:World} {base B:Nat} {s:Sys} (h:gI w base B s) (hk:∀ g,base<=g->g<w.heap.size->V.heap[g]?=w.heap[g]?):gI V base B s:=by
 obtain⟨h0,vl,h1,xs,h2,h3⟩:=h;exact⟨h0,vl,(hk B h0 (ar h1)).trans h1,xs,h2.keepB hk,fun i hi=>by obtain⟨x,q1,q2⟩:=h3 i hi;exact⟨x,q1,q2.keepB hk⟩⟩
theorem gI.mono{w:World} {base b B:Nat} {s:Sys} (h:gI w base B s) (hb:b<=base):gI w b B s:=by
 obtain⟨h0,vl,h1,xs,h2,h3⟩:=h;exact⟨Nat.le_trans hb h0,vl,h1,xs,h2.baseB hb,fun i hi=>by obtain⟨x,q1,q2⟩:=h3 i hi;exact⟨x,q1,q2.baseB hb⟩⟩
theorem gI.up{w V:World} {base B:Nat} {s:Sys} (h:gI w base B s) (hb:Below w.heap.size w V):gI V base B s:=h.keep fun g _ hg=>hb.block g hg
theorem DJ(s:Sys) (vc vs vt ve:Value) (w:World) (hs:IsSys w s vc vs vt ve) (hN:movesN s.prob.a.states<1099511627776) :
  Calls Tryz.prog 128 #[.agg (bE s.prob vc vs s.n vt ve)] w fun e w'=>∃ v,e=.returned (.tuple #[v,.int .i64 (verifyE s)])/\Below w.heap.size w w'/\(verifyE s≠0->v=.pointer none)/\(verifyE s=0->∃ B,v=.pointer (some ⟨B,0,none⟩)/\FinAt w' B s/\gI w' w.heap.size B s):=by
 have HS:=aa hs;obtain⟨⟨pc,cc,rfl⟩,⟨ps,cs,rfl⟩,⟨pt,ct,rfl⟩,⟨pe,ce,rfl⟩⟩:=bg hs;clear hs;have HC:=aa (fun W (hb:Below w.heap.size w W)=>oJ s _ _ _ _ W (HS.out.up hb) hN);obtain⟨i0,cG,cf,bP,cj⟩:=info_parts Tryz.infoInt;obtain⟨j0,nC,iV,jm,iD⟩:=info_parts Tryz.infoInts
 go_enter Tryz.func128,Tryz.ntmps128
 go_wp2_with fail
 refine aL (fun W=>Below w.heap.size w W/\∃ c,W.heap[w.heap.size]?=some (.cells c 35)/\c=bE s.prob _ _ s.n _ _) ⟨by go_grown,_,ak _ _,rfl⟩ (fun W0 aW=>?_);obtain⟨aC,_,hA,rfl⟩:=aW;refine(HC.out W0 aC).mono ?_;rintro e w1 ⟨rfl,aG⟩;have db:=ae aC aG;have dM:=af aG hA;have tS:=ab dM;have dy:=aa dM;have eP:=aa db;have fP:=db.size;have iL:=ar dM;clear hA dM aC aG HC db;by_cases hv:verifyE s=0
 case neg=>
  have HV:=aa hv;obtain⟨ev,lR⟩:∃ ev,verifyE s=ev:=⟨_,rfl⟩;rw[lR]at hv ⊢;have HE:=aa lR;have Jp:(ev != 0)=true:=by simpa using hv
  clear hv lR
  go_wp2_with fail
  go_ret2
  exact⟨_,by rw[HE.out];rfl,eP.out,fun _=>rfl,fun h=>absurd h HV.out⟩
 have CS:=aa hv;have gg:=jh hv;have di:=aa gg;rw[hv];clear hv;have fq:=gg.n;have FG:=aa (HS.out.ex);have HK:Hid (∀ k,k<eS s->_):=aa (fun k (hk:k<eS s)=>iu gg FG.out hk);have jr:s.ex.length=eS s:=rfl;rw[jr]at tS HK dy;clear jr;obtain⟨n,hn⟩:∃ n,nS s=n:=⟨_,rfl⟩;obtain⟨m,hm⟩:∃ m,eS s=m:=⟨_,rfl⟩;have E5:s.prob.t.n=(n:Int):=by omega
 have hm4:m<=4096:=by have:=gg.count;omega
 have ic:1<=n/\n<=5:=by omega
 have pL:=gg.rounds;obtain⟨r,hr⟩:∃ r,s.prob.rounds.toNat=r:=⟨_,rfl⟩;have VD:r<=6:=by omega
 have Ai:=aa gg.flt;rw[hn,hm,hr]at HK;rw[hm]at tS dy Ai;have t0:w1.cell? ⟨w.heap.size,0,none⟩=some (.int .i64 n):=by rw[tS 0,<-E5];rfl
 have t9:∀ o,(w1.alloc o).cell? ⟨w.heap.size,9,none⟩=some (.slice pe m ce):=fun o=>(ab (am o dy.out) 9).trans rfl
 clear tS
 go_wp2_with fail
 clear t0 t9;refine bj (fun W=>Below w.heap.size w W/\W.heap[w1.heap.size]?=some (.cells #[.int .i64 n,.slice none 0 0] 201)) ⟨eP.out.alloc fP _,ak _ _⟩ (fun W2 eF=>?_);generalize w1.heap.size=B at eF fP iL;have cD:=aa eF;clear eF eP dy;obtain⟨L,hL⟩:∃ L:Nat->List (List Int),L=fun k=>(List.range k).map (fc s):=⟨_,rfl⟩
 have HL:Hid (L 0=[]/\(∀ k,L (k+1)=L k++[fc s k])/\L m=q6 s/\∀ k,(L k).length=k):=aa (by
  subst hL;refine⟨rfl,fun k=>by simp[List.range_succ],?_,fun k=>by simp⟩
  unfold q6;rw[hm])
 clear hL;have n9:=aa hn;have HMM:=aa hm;clear hn hm gg fq hr pL E5
 go_loopw [26] (fun i wr=>∃ k:Nat,k<=m/\i=.int .i64 k/\Below w.heap.size w wr/\∃ lv,wr.heap[B]?=some (.cells #[.int .i64 n,lv] 201)/\cN wr w.heap.size lv (L k)) (fun i _=>m - (intOf i).toNat)
 case atStart=>exact⟨0,by omega,rfl,cD.out.1,_,cD.out.2,by rw[HL.out.1];exact bW.nil _ _⟩
 case round=>
  clear cD;obtain⟨k,hk,rfl,aq,lv,hB,xs,aX,jr⟩:=hrel;obtain⟨al,cl,rfl⟩:=aX.slice;have HB:=aa hB;have bL:=aa aX;have C5:=aa jr;have aR:=aa aq;have uJ:=ar hB;have wU:=aq.size;clear aX jr;by_cases az:k<m
  ·obtain⟨b,o,_,ce',e0,rfl,pw,nw,cw,pv,cv,c1,c2,c3,lT,ez,gP,b2,o2,pr,cr,e2,c4,bV⟩:=HK.out k az
   injection e0 with e0 e8 e9
   clear e8 e9;subst e0 e2 lT;have d1:=ai aq c1;have d2:=ai aq c2;have d3:=ai aq c3;have hA:Below wr.heap.size wr (wr.alloc (.cells #[.int .i64 (cF s k).c,.slice pw nw cw,.slice (some ⟨b2,o2,none⟩) (nw+1) cv] 89)):=by go_grown
   have VX:=ae aq hA;have d4:=ai VX c4;have j8:=aa (bV.up up_int VX);have sy:=Ai.out k az;obtain⟨fl,RR⟩:∃ fl,fltS s k=fl:=⟨_,rfl⟩;rw[RR]at ez gP sy;have IA:=aa RR
   have RO:Hid (gh (wr.alloc (.cells #[.int .i64 (cF s k).c,.slice pw nw cw,.slice (some ⟨b2,o2,none⟩) (nw+1) cv] 89)) 1 (.slice pr n cr) n ((List.range n).map fun j=>Value.int .i64 (finS s k j))):=aa (by
    have h:=QX j8.out (by simp);rw[List.map_map]at h
    exact h)
   have We:wr.heap.size<(wr.alloc (.cells #[.int .i64 (cF s k).c,.slice pw nw cw,.slice (some ⟨b2,o2,none⟩) (nw+1) cv] 89)).heap.size:=by simp
   have WN:=aa hA;have kG:0<n:=by omega
   have tX:=ab (ak wr (.cells #[.int .i64 (cF s k).c,.slice pw nw cw,.slice (some ⟨b2,o2,none⟩) (nw+1) cv] 89));clear c1 c2 c3 c4 bV hA RR hB aq;by_cases hw:nw=0
   ·obtain rfl:=gP hw
    subst hw;simp only[Nat.zero_add,Nat.add_zero]at d3 d4 tX We RO WN
    go_wp2_with (at_builtin;(refine fi _ rfl (.const (.slice none 0 0)) (.tmp 49) 38 rfl wr.heap.size 3 i0 _ 1 8 Tryz.underlying38 cG cf bP cj rfl (by decide) (.slice none 0 0) 0 [] rfl (aD.nil _ _ _ _) _ n ((List.range n).map fun j=>Value.int .i64 (finS s k j)) rfl RO.out (by unfold maxLen;omega) (by omega) (by simp) ?_;intro v2 w2 fx dk _;rw[Nat.zero_add,List.nil_append]at fx;have cB:=aa (Below.grown WN.out dk (Nat.le_of_lt We) (fun g h=>by cases h));obtain⟨g,cap,cur,fz,kE,hg,mQ,mI,jO,pT,jv,mP,_⟩:=fx.block kG;subst kE;have HG:=aa (And.intro mQ (And.intro mI (And.intro jv mP)));clear fx dk mQ mI jv mP))
    clear tX;obtain⟨wrA,Bi⟩:∃ x,x=wr:=⟨_,rfl⟩;subst Bi;have hgw:=ar HG.out.1
    go_loopw [53] (fun i wi=>∃ (p:Nat) (cu:Array Value),p<=n/\i=.int .i64 p/\Only g w2 wi/\wi.heap[g]?=some (.cells cu 3 fz)/\cu.size=cap/\cu.toList.take n=kP n (fun p=>if hasB (fltS s k) p then -1 else finS s k p) (finS s k) p) (fun i _=>n - (intOf i).toNat)
    case atStart=>exact⟨0,cur,by omega,rfl,Only.refl _ _,HG.out.1,HG.out.2.2.1,by rw[HG.out.2.2.2];simp[kP]⟩
    case round=>
     obtain⟨p,cu,hp,rfl,ho,rz,Ie,xd⟩:=hrel;by_cases E5:p<n
     ·have HO:=aa ho;have S6:=aa rz;have iU:=aa xd
      have tq:=ab rz p;rw[Array.getElem?_eq_getElem (show p<cu.size by omega)]at tq;have zq:=EG rz p (HG.out.2.1 p (by have:=HG.out.2.2.1;omega));clear ho rz xd;have HS:Hid ((if hasB (fltS s k) p then -1 else finS s k p)=finS s k p):=aa (by rw[IA.out,Vl];rfl);clear tq zq
      go_wp2_with fail
      go_roundw
      case rel=>exact⟨p+1,cu,by omega,by go_num,HO.out,S6.out,Ie,by rw[EH _ _ _ _ HS.out];exact iU.out⟩
      case measure=>simp[intOf];omega
     ·obtain rfl:p=n:=by omega
      have kw:=ho.below cB.out (by omega);have Ju:=af kw HB.out;have tB:=ab Ju 1
      have sk:aD wr w.heap.size 3 1 (.slice (some ⟨g,0,none⟩) p cap) (fc s k).length ((fc s k).map (Value.int .i64)):=by
       rw[lj,n9.out]
       have e:(fc s k).map (Value.int .i64)=kP p (fun p=>if hasB (fltS s k) p then -1 else finS s k p) (finS s k) p:=by
        unfold fc kP;rw[n9.out,List.map_map];refine List.map_congr_left fun j hj=>?_
        rw[if_pos (List.mem_range.1 hj)];rfl
       rw[e];exact⟨by rw[Hg];omega,.inr ⟨g,cap,cu,fz,rfl,by omega,rz,fun i hi=>HG.out.2.1 i (by have:=HG.out.2.2.1;omega),jO,pT,by omega,by rw[Nat.mul_one];exact xd⟩⟩
      have df:=aa ((bL.out.up kw).up ((Below.refl _ wr).alloc (Nat.le_refl _) (.cells #[.slice (some ⟨g,0,none⟩) p cap] 38)));have bB:=aa (eA wr [.slice (some ⟨g,0,none⟩) p cap] 38)
      have Sj:Hid (∀ i (hi:i<(L k).length),∃ x,xs[i]?=some x/\aD (wr.alloc (.cells #[.slice (some ⟨g,0,none⟩) p cap] 38)) w.heap.size 3 1 x (L k)[i].length ((L k)[i].map (Value.int .i64))):=aa (fun i hi=>by
       obtain⟨x,q1,q2⟩:=C5.out i hi
       exact⟨x,q1,(q2.up kw).up ((Below.refl _ wr).alloc (Nat.le_refl _) _)⟩)
      have zA:=aa (sk.up ((Below.refl _ wr).alloc (Nat.le_refl _) (.cells #[.slice (some ⟨g,0,none⟩) p cap] 38)));have C7:=aa Ju;have nJ:=aa (ae aR.out kw);have Xr:=HL.out.2.2.2 k;have hLk2:(L k).length<=4096:=by omega
      have Aw:=nJ.out.size;clear Xr ho rz xd kw Ju sk
      go_wp2_with (at_builtin;(refine aZ _ rfl (.tmp 69) (.tmp 71) 56 rfl w.heap.size 38 j0 _ 1 24 Tryz.underlying56 nC iV jm iD rfl (by decide) _ (L k).length xs rfl df.out ⟨wr.heap.size,0,none⟩ 1 1 [.slice (some ⟨g,0,none⟩) p cap] rfl rfl bB.out (by simp[Value.oneCell']) (by unfold maxLen;omega) (by omega) (by simp;omega) ?_;intro v3 w3 nT jG _;obtain⟨av3,cv3,rfl⟩:=nT.slice;have qn:=gW df.out jG C7.out (by decide);have c3:=ab qn 1;have f3:=aE qn 1;have dP:=aa qn;have Jk:Hid (cN w3 w.heap.size (.slice av3 ((L k).length+1) cv3) (L k++[fc s k])):=aa (bW.snoc (l:=L k) df.out Sj.out (by decide) zA.out jG nT);have IT:=aa (eR nJ.out (Nat.le_refl _) df.out jG);clear nT jG qn))
      go_roundw
      case rel=>
       refine⟨k+1,by omega,by go_num,IT.out.setCell (by dsimp only;omega) _,.slice av3 ((L k).length+1) cv3,?_,?_⟩
       ·rw[aF dP.out];rfl
       ·rw[HL.out.2.1 k]
        exact((KeepT.refl [201] w.heap.size w3 (ms:=[])).set dP.out (by simp) (by omega) _).fresh Jk.out (by decide) (by decide)
      case measure=>simp[intOf];omega
   ·obtain⟨q,rfl⟩:∃ q,nw=q+1:=⟨nw - 1,by omega⟩
    obtain⟨b1,o1,rfl,c5⟩:=ez (by omega);have d5:=ai VX c5;rw[Nat.add_sub_cancel]at d5;clear c5 ez gP
    go_wp2_with (at_builtin;(refine fi _ rfl (.const (.slice none 0 0)) (.tmp 49) 38 rfl wr.heap.size 3 i0 _ 1 8 Tryz.underlying38 cG cf bP cj rfl (by decide) (.slice none 0 0) 0 [] rfl (aD.nil _ _ _ _) _ n ((List.range n).map fun j=>Value.int .i64 (finS s k j)) rfl RO.out (by unfold maxLen;omega) (by omega) (by simp) ?_;intro v2 w2 fx dk _;rw[Nat.zero_add,List.nil_append]at fx;have cB:=aa (Below.grown WN.out dk (Nat.le_of_lt We) (fun g h=>by cases h));obtain⟨g,cap,cur,fz,kE,hg,mQ,mI,jO,pT,jv,mP,_⟩:=fx.block kG;subst kE;have HG:=aa (And.intro mQ (And.intro mI (And.intro jv mP)));clear fx dk mQ mI jv mP))
    clear tX;obtain⟨wrA,Bi⟩:∃ x,x=wr:=⟨_,rfl⟩;subst Bi;have hgw:=ar HG.out.1
    go_loopw [53] (fun i wi=>∃ (p:Nat) (cu:Array Value),p<=n/\i=.int .i64 p/\Only g w2 wi/\wi.heap[g]?=some (.cells cu 3 fz)/\cu.size=cap/\cu.toList.take n=kP n (fun p=>if hasB (fltS s k) p then -1 else finS s k p) (finS s k) p) (fun i _=>n - (intOf i).toNat)
    case atStart=>exact⟨0,cur,by omega,rfl,Only.refl _ _,HG.out.1,HG.out.2.2.1,by rw[HG.out.2.2.2];simp[kP]⟩
    case round=>
     obtain⟨p,cu,hp,rfl,ho,rz,Ie,xd⟩:=hrel;by_cases E5:p<n
     ·have HO:=aa ho;have S6:=aa rz;have iU:=aa xd
      have tq:=ab rz p;rw[Array.getElem?_eq_getElem (show p<cu.size by omega)]at tq;have zq:=EG rz p (HG.out.2.1 p (by have:=HG.out.2.2.1;omega));clear ho rz xd;have gq:=qG fl p;cases hb:hasB fl p with
      | true=>
       rw[hb]at gq;have HS:Hid ((if hasB (fltS s k) p then -1 else finS s k p)=-1):=aa (by rw[IA.out,hb];rfl);clear hb
       go_wp2_with fail
       go_roundw
       case rel=>
        refine⟨p+1,_,by omega,by go_num,HO.out.setCell p _,aF S6.out p _,by simpa using Ie,?_⟩;rw[Array.toList_setIfInBounds,<-List.set_take',iU.out,<-QW n (fun p=>if hasB (fltS s k) p then -1 else finS s k p) (finS s k) p,HS.out]
       case measure=>simp[intOf];omega
      | false=>
       rw[hb]at gq;have HS:Hid ((if hasB (fltS s k) p then -1 else finS s k p)=finS s k p):=aa (by rw[IA.out,hb];rfl);clear hb tq zq
       go_wp2_with fail
       go_roundw
       case rel=>exact⟨p+1,cu,by omega,by go_num,HO.out,S6.out,Ie,by rw[EH _ _ _ _ HS.out];exact iU.out⟩
       case measure=>simp[intOf];omega
     ·obtain rfl:p=n:=by omega
      have kw:=ho.below cB.out (by omega);have Ju:=af kw HB.out;have tB:=ab Ju 1
      have sk:aD wr w.heap.size 3 1 (.slice (some ⟨g,0,none⟩) p cap) (fc s k).length ((fc s k).map (Value.int .i64)):=by
       rw[lj,n9.out]
       have e:(fc s k).map (Value.int .i64)=kP p (fun p=>if hasB (fltS s k) p then -1 else finS s k p) (finS s k) p:=by
        unfold fc kP;rw[n9.out,List.map_map];refine List.map_congr_left fun j hj=>?_
        rw[if_pos (List.mem_range.1 hj)];rfl
       rw[e];exact⟨by rw[Hg];omega,.inr ⟨g,cap,cu,fz,rfl,by omega,rz,fun i hi=>HG.out.2.1 i (by have:=HG.out.2.2.1;omega),jO,pT,by omega,by rw[Nat.mul_one];exact xd⟩⟩
      have df:=aa ((bL.out.up kw).up ((Below.refl _ wr).alloc (Nat.le_refl _) (.cells #[.slice (some ⟨g,0,none⟩) p cap] 38)));have bB:=aa (eA wr [.slice (some ⟨g,0,none⟩) p cap] 38)
      have Sj:Hid (∀ i (hi:i<(L k).length),∃ x,xs[i]?=some x/\aD (wr.alloc (.cells #[.slice (some ⟨g,0,none⟩) p cap] 38)) w.heap.size 3 1 x (L k)[i].length ((L k)[i].map (Value.int .i64))):=aa (fun i hi=>by
       obtain⟨x,q1,q2⟩:=C5.out i hi
       exact⟨x,q1,(q2.up kw).up ((Below.refl _ wr).alloc (Nat.le_refl _) _)⟩)
      have zA:=aa (sk.up ((Below.refl _ wr).alloc (Nat.le_refl _) (.cells #[.slice (some ⟨g,0,none⟩) p cap] 38)));have C7:=aa Ju;have nJ:=aa (ae aR.out kw);have Xr:=HL.out.2.2.2 k;have hLk2:(L k).length<=4096:=by omega
      have Aw:=nJ.out.size;clear Xr ho rz xd kw Ju sk
      go_wp2_with (at_builtin;(refine aZ _ rfl (.tmp 69) (.tmp 71) 56 rfl w.heap.size 38 j0 _ 1 24 Tryz.underlying56 nC iV jm iD rfl (by decide) _ (L k).length xs rfl df.out ⟨wr.heap.size,0,none⟩ 1 1 [.slice (some ⟨g,0,none⟩) p cap] rfl rfl bB.out (by simp[Value.oneCell']) (by unfold maxLen;omega) (by omega) (by simp;omega) ?_;intro v3 w3 nT jG _;obtain⟨av3,cv3,rfl⟩:=nT.slice;have qn:=gW df.out jG C7.out (by decide);have c3:=ab qn 1;have f3:=aE qn 1;have dP:=aa qn;have Jk:Hid (cN w3 w.heap.size (.slice av3 ((L k).length+1) cv3) (L k++[fc s k])):=aa (bW.snoc (l:=L k) df.out Sj.out (by decide) zA.out jG nT);have IT:=aa (eR nJ.out (Nat.le_refl _) df.out jG);clear nT jG qn))
      go_roundw
      case rel=>
       refine⟨k+1,by omega,by go_num,IT.out.setCell (by dsimp only;omega) _,.slice av3 ((L k).length+1) cv3,?_,?_⟩
       ·rw[aF dP.out];rfl
       ·rw[HL.out.2.1 k]
        exact((KeepT.refl [201] w.heap.size w3 (ms:=[])).set dP.out (by simp) (by omega) _).fresh Jk.out (by decide) (by decide)
      case measure=>simp[intOf];omega
  ·obtain rfl:k=m:=by omega
   have tB:=ab hB 1;clear hB aq
   go_wp2_with fail
   go_ret2
   refine⟨_,by rw[CS.out];rfl,aR.out,fun h=>absurd CS.out h,fun _=>⟨B,rfl,?_⟩⟩
   have qD:cN wr w.heap.size (.slice al (L k).length cl) (q6 s):=by
    have h3:=HL.out.2.2.1;rw[<-h3];exact⟨xs,bL.out,C5.out⟩
   have hfo:gI wr w.heap.size B s:=⟨by omega,_,by rw[n9.out];exact HB.out,qD⟩;exact⟨hfo.at di.out,hfo⟩
def oblM(s:Sys) (e:Nat):Nat:=maskN (fun p=>!hasB (fltS s e) p) (nS s)
theorem andNot_mask:∀ n:Fin 6,∀ f:Fin 32,bits .andNot .i64 (((2 ^ n.val - 1:Nat):Int)) (f.val:Int)=((maskN (fun p=>!hasB (f.val:Int) p) n.val:Nat):Int):=by decide +kernel
theorem shl_one:∀ n:Fin 6,wrap64 (wrap64 ((2:Int) ^ n.val) - 1)=((2 ^ n.val - 1:Nat):Int):=by decide +kernel
theorem Ou(s:Sys) (hs:SysOk s) (e:Nat) (he:e<eS s) (vc vs:Value) (pt:Option Addr) (nt ct:Nat) (pe:Option Addr) (ne ce:Nat) (pw:Option Addr) (nw cw:Nat) (vv:Value) (w:World) (lT:nw<=6)
  (ez:0<nw->∃ b1 o1,pw=some ⟨b1,o1,none⟩/\w.cell? ⟨b1,o1+(nw - 1) * 7+6,none⟩=some (.int .i64 (fltS s e))) (gP:nw=0->fltS s e=0) :
  Calls Tryz.prog 87 #[.agg (bE s.prob vc vs s.n (.slice pt nt ct) (.slice pe ne ce)),.agg #[.int .i64 (cF s e).c,.slice pw nw cw,vv]] w fun r w'=>r=.returned (.int .i64 (oblM s e:Nat))/\Below w.heap.size w w':=by
 have hn:=hs.n;have sy:=hs.flt e he;obtain⟨f,hf⟩:∃ f:Nat,fltS s e=f:=⟨(fltS s e).toNat,by omega⟩
 have FN:f<32:=by
  have h1:((2:Nat) ^ nS s:Int)<=((2 ^ 5:Nat):Int):=by exact_mod_cast Nat.pow_le_pow_right (show 0<2 by omega) hn.2.1
  have h2:=sy.2;rw[hf]at h2;have h3:((2:Int) ^ nS s)=(((2:Nat) ^ nS s:Nat):Int):=by simp
  rw[h3]at h2;have h4:(2:Nat) ^ nS s<=2 ^ 5:=Nat.pow_le_pow_right (by omega) hn.2.1;omega
 have HAN:Hid (bits .andNot .i64 (((2 ^ nS s - 1:Nat):Int)) (f:Int)=(oblM s e:Nat)):=aa (by
  unfold oblM;rw[hf]
  exact andNot_mask ⟨nS s,by omega⟩ ⟨f,FN⟩)
 have HSH:Hid (wrap64 (wrap64 ((2:Int) ^ nS s) - 1)=((2 ^ nS s - 1:Nat):Int)):=aa (shl_one ⟨nS s,by omega⟩)
 have HZ:Hid (f=0->((2 ^ nS s - 1:Nat):Int)=(oblM s e:Nat)):=aa fun h=>by
  subst h;have key:∀ n:Fin 6,((2 ^ n.val - 1:Nat):Int)=bits .andNot .i64 (((2 ^ n.val - 1:Nat):Int)) 0:=by decide +kernel
  exact(key ⟨nS s,by omega⟩).trans HAN.out
 rw[hf]at ez gP;have fq:s.n=(nS s:Int):=hn.2.2.1;have ic:=hn.2.1;rw[fq];generalize nS s=n at *;generalize oblM s e=ob at *;clear hn sy hf hs fq;have HW:Hid (∀ x:Int,wrap64 ((2:Int) ^ n)=x->wrap64 (x - 1)=((2 ^ n - 1:Nat):Int)):=aa fun x hx=>by rw[<-hx];exact HSH.out
 obtain⟨pw2,hpw2⟩:∃ pw2:Int,wrap64 ((2:Int) ^ n)=pw2:=⟨_,rfl⟩;have xg:=HW.out pw2 hpw2;by_cases hw:nw=0
 ·have hz:=gP hw
  subst hw;have HR:=aa (HZ.out (by omega));clear gP ez hz
  go_enter Tryz.func87,Tryz.ntmps87
  go_wp2_with fail
  go_ret
  exact⟨aA (xg.trans HR.out),by go_grown⟩
 ·obtain⟨q,rfl⟩:∃ q,nw=q+1:=⟨nw - 1,by omega⟩
  obtain⟨b1,o1,rfl,c5⟩:=ez (by omega);rw[Nat.add_sub_cancel]at c5;have d5:∀ o1' o2',((w.alloc o1').alloc o2').cell? ⟨b1,o1+q * 7+6,none⟩=some (.int .i64 f):=fun o1' o2'=>ai (by go_grown) c5
  have lE:=HAN.out;clear c5 ez gP
  go_enter Tryz.func87,Tryz.ntmps87
  go_wp2_with fail
  go_ret
  exact⟨rfl,by go_grown⟩
theorem QY(s:Sys) (hv:verifyE s=0) (e:Nat) (he:e<eS s) (vc vs vt ve:Value) (w:World) (hs:IsSys w s vc vs vt ve) (hN:movesN s.prob.a.states<1099511627776) :
  Calls Tryz.prog 43 #[.agg (bE s.prob vc vs s.n vt ve),.int .i64 e] w fun r w'=>r=.returned (.tuple #[.int .i64 (oblM s e:Nat),.int .i64 0])/\Below w.heap.size w w':=by
 have HS:=aa hs;obtain⟨⟨pc,cc,rfl⟩,⟨ps,cs,rfl⟩,⟨pt,ct,rfl⟩,⟨pe,ce,rfl⟩⟩:=bg hs;clear hs;have HC:=aa (fun W (hb:Below w.heap.size w W)=>oJ s _ _ _ _ W (HS.out.up hb) hN);have di:=aa (jh hv);have HV:=aa hv;obtain⟨b,o,_,ce',e0,rfl,pw,nw,cw,pv,cv,c1,c2,c3,lT,ez,gP,-⟩:=iu di.out HS.out.ex he;injection e0 with e01 e02 e03
 subst e01;have Bj:nw<=6:=by have:=di.out.rounds;omega
 clear e02 e03 hv lT;obtain⟨m,hm⟩:∃ m,s.ex.length=m:=⟨_,rfl⟩;have uV:e<m:=by rw[<-hm];exact he
 have fS:decide ((m:Int)<=(e:Int))=false:=decide_eq_false (by omega);have pH:decide (m<=e)=false:=decide_eq_false (by omega);have qz:=aa (fun W (hb:Below w.heap.size w W)=>Ou s di.out e he (.slice pc s.prob.t.cases.length cc) (.slice ps s.prob.a.states.length cs) pt s.tab.length ct (some ⟨b,o,none⟩) s.ex.length ce pw nw cw (.slice pv (s.prob.rounds.toNat+1) cv) W Bj (fun h=>by obtain⟨b1,o1,q1,q2⟩:=ez h;exact⟨b1,o1,q1,ai hb q2⟩) gP);rw[hm]at HC qz ⊢;have HM:=aa hm;clear ez gP hm
 go_enter Tryz.func43,Tryz.ntmps43
 go_wp2_with fail
 refine aL (fun W=>Below w.heap.size w W/\∃ c,W.heap[w.heap.size]?=some (.cells c 35)/\c=bE s.prob (.slice pc s.prob.t.cases.length cc) (.slice ps s.prob.a.states.length cs) s.n (.slice pt s.tab.length ct) (.slice (some ⟨b,o,none⟩) m ce)) ⟨by go_grown,_,ak _ _,rfl⟩ (fun W0 aW=>?_);obtain⟨aC,_,hA,rfl⟩:=aW;refine(HC.out W0 aC).mono ?_;rintro r w1 ⟨rfl,aG⟩;have dM:=af aG hA;have dy:=aa dM;have db:=ae aC aG;have bC:=aa db;rw[HV.out];have tS:=ab dM;have yS:∀ z:ExtW w1,∀ j,z.val.cell? ⟨w.heap.size,j,none⟩=_:=fun z=>ab (af z.ext dy.out)
 have y1:∀ z:ExtW w1,z.val.cell? ⟨b,o+e * 3,none⟩=_:=fun z=>ai (ae bC.out z.ext) c1
 have y2:∀ z:ExtW w1,z.val.cell? ⟨b,o+e * 3+1,none⟩=_:=fun z=>ai (ae bC.out z.ext) c2
 have y3:∀ z:ExtW w1,z.val.cell? ⟨b,o+e * 3+2,none⟩=_:=fun z=>ai (ae bC.out z.ext) c3
 have bO:Hid (∀ y:ExtW w1,Calls Tryz.prog 87 #[.agg (bE s.prob (.slice pc s.prob.t.cases.length cc) (.slice ps s.prob.a.states.length cs) s.n (.slice pt s.tab.length ct) (.slice (some ⟨b,o,none⟩) m ce)),.agg #[.int .i64 (cF s e).c,.slice pw nw cw,.slice pv (s.prob.rounds.toNat+1) cv]] y.val fun r w''=>r=.returned (.int .i64 (oblM s e:Nat))/\∃ z:ExtW w1,w''=z.val):=aa (fun y=>Calls.ext_of (qz.out y.val (ae bC.out y.ext)));clear hA dM aC aG HC qz c1 c2 c3 db
 go_wp2_with fail
 refine aB (by kernel_rfl) (by kernel_rfl) ?_
 repeat (go_big_quiet_step ((go_at_call 87;exact bO.out _)))
 refine wpQuiet_nil ?_;rintro _ ⟨xq,rfl⟩;clear tS yS y1 y2 y3
 go_wp2_with fail
 go_ret2
 exact⟨by simp,ae bC.out xq.ext⟩
theorem Ae(c f:Int) (pw:Option Addr) (nw cw:Nat) (vv:Value) (w:World) (lT:nw<=6) (ez:0<nw->∃ b1 o1,pw=some ⟨b1,o1,none⟩/\w.cell? ⟨b1,o1+(nw - 1) * 7+6,none⟩=some (.int .i64 f)) (gP:nw=0->f=0) :
  Calls Tryz.prog 61 #[.agg #[.int .i64 c,.slice pw nw cw,vv]] w fun r w'=>r=.returned (.int .i64 f)/\Below w.heap.size w w':=by
 by_cases hw:nw=0
 ·obtain rfl:=gP hw
  subst hw;clear gP ez
  go_enter Tryz.func61,Tryz.ntmps61
  go_wp2_with fail
  go_ret
  exact⟨rfl,by go_grown⟩
 ·obtain⟨q,rfl⟩:∃ q,nw=q+1:=⟨nw - 1,by omega⟩
  obtain⟨b1,o1,rfl,c5⟩:=ez (by omega);rw[Nat.add_sub_cancel]at c5;have d5:∀ o1',(w.alloc o1').cell? ⟨b1,o1+q * 7+6,none⟩=some (.int .i64 f):=fun o1'=>ai (by go_grown) c5
  clear c5 ez gP
  go_enter Tryz.func61,Tryz.ntmps61
  go_wp2_with fail
  go_ret
  exact⟨rfl,by go_grown⟩
theorem UD{s:Sys} (hs:SysOk s) {e:Nat} (he:e<eS s):bits .andNot .i64 ((2:Int) ^ nS s - 1) (fltS s e)=(oblM s e:Nat):=by
 have hn:=hs.n;have sy:=hs.flt e he;obtain⟨f,hf⟩:∃ f:Nat,fltS s e=f:=⟨(fltS s e).toNat,by omega⟩
 have FN:f<32:=by
  have h2:=sy.2;rw[hf]at h2;have h3:((2:Int) ^ nS s)=(((2:Nat) ^ nS s:Nat):Int):=by simp
  rw[h3]at h2;have h4:(2:Nat) ^ nS s<=2 ^ 5:=Nat.pow_le_pow_right (by omega) hn.2.1;omega
 have key:∀ n:Fin 6,((2:Int) ^ n.val - 1)=((2 ^ n.val - 1:Nat):Int):=by decide +kernel
 rw[key ⟨nS s,by omega⟩];unfold oblM;rw[hf];exact andNot_mask ⟨nS s,by omega⟩ ⟨f,FN⟩
theorem EJ(s:Sys) (hs:SysOk s) (e:Nat) (he:e<eS s) (vc vs vt ve:Value) (w:World) (bX:IsSys w s vc vs vt ve) :
  Calls Tryz.prog 28 #[.agg (bE s.prob vc vs s.n vt ve),.int .i64 e] w fun r w'=>r=.returned (.int .i64 (oblM s e:Nat))/\Below w.heap.size w w':=by
 have HS:=aa bX;obtain⟨⟨pc,cc,rfl⟩,⟨ps,cs,rfl⟩,⟨pt,ct,rfl⟩,⟨pe,ce,rfl⟩⟩:=bg bX;clear bX;obtain⟨b,o,_,ce',e0,rfl,pw,nw,cw,pv,cv,c1,c2,c3,lT,ez,gP,-⟩:=iu hs HS.out.ex he;injection e0 with e01 e02 e03
 subst e01;have Bj:nw<=6:=by have:=hs.rounds;omega
 clear e02 e03 lT;have lE:=UD hs he;have yE:=aa (fun W (hb:Below w.heap.size w W)=>Ae (cF s e).c (fltS s e) pw nw cw (.slice pv (s.prob.rounds.toNat+1) cv) W Bj (fun h=>by obtain⟨b1,o1,q1,q2⟩:=ez h;exact⟨b1,o1,q1,ai hb q2⟩) gP);have hn:=hs.n;have AK:=aa (fun W=>Er (nS s) (by omega) W);obtain⟨m,hm⟩:∃ m,s.ex.length=m:=⟨_,rfl⟩;have uV:e<m:=by rw[<-hm];exact he
 obtain⟨sn,Ic⟩:∃ sn,s.n=sn:=⟨_,rfl⟩;have fq:sn=(nS s:Int):=by rw[<-Ic];exact hn.2.2.1
 rw[hm,Ic];subst fq;generalize fltS s e=f at lE yE;generalize oblM s e=ob at lE ⊢;obtain⟨n,E8⟩:∃ n,nS s=n:=⟨_,rfl⟩;rw[E8]at lE AK ⊢;clear ez gP hm Ic hn E8
 go_enter Tryz.func28,Tryz.ntmps28
 go_wp2_with fail
 refine bj (fun W=>Below w.heap.size w W/\∃ c,W.heap[w.heap.size]?=some (.cells c 35)/\c=bE s.prob (.slice pc s.prob.t.cases.length cc) (.slice ps s.prob.a.states.length cs) (n:Int) (.slice pt s.tab.length ct) (.slice (some ⟨b,o,none⟩) m ce)) ⟨by go_grown,_,ak _ _,rfl⟩ (fun W0 aW=>?_);obtain⟨aC,_,hA,rfl⟩:=aW;have cM:=aa aC;have HA:=aa hA;have yS:∀ z:ExtW W0,∀ j,z.val.cell? ⟨w.heap.size,j,none⟩=_:=fun z=>ab (af z.ext HA.out)
 have y1:∀ z:ExtW W0,z.val.cell? ⟨b,o+e * 3,none⟩=_:=fun z=>ai (ae cM.out z.ext) c1
 have y2:∀ z:ExtW W0,z.val.cell? ⟨b,o+e * 3+1,none⟩=_:=fun z=>ai (ae cM.out z.ext) c2
 have y3:∀ z:ExtW W0,z.val.cell? ⟨b,o+e * 3+2,none⟩=_:=fun z=>ai (ae cM.out z.ext) c3
 have AQ:Hid (∀ y:ExtW W0,Calls Tryz.prog 60 #[.int .i64 (n:Int)] y.val fun r w''=>r=.returned (.int .i64 (2 ^ n - 1))/\∃ z:ExtW W0,w''=z.val):=aa (fun y=>Calls.ext_of ((AK.out y.val).mono fun r w' ⟨h1,h2⟩=>⟨h1,h2 ▸ Below.refl _ _⟩));have wI:Hid (∀ y:ExtW W0,Calls Tryz.prog 61 #[.agg #[.int .i64 (cF s e).c,.slice pw nw cw,.slice pv (s.prob.rounds.toNat+1) cv]] y.val fun r w''=>r=.returned (.int .i64 f)/\∃ z:ExtW W0,w''=z.val):=aa (fun y=>Calls.ext_of (yE.out y.val (ae cM.out y.ext)));clear aC hA AK yE c1 c2 c3;refine aB (by kernel_rfl) (by kernel_rfl) ?_
 repeat (go_big_quiet_step (first|(go_at_call 60;with_reducible exact AQ.out _)|(go_at_call 61;with_reducible exact wI.out _)))
 refine wpQuiet_nil ?_;rintro _ ⟨xq,rfl⟩;clear yS y1 y2 y3
 go_wp2_with fail
 go_ret
 exact⟨rfl,ae cM.out xq.ext⟩
theorem B6(s:Sys) (e rr:Nat) (hr:s.prob.rounds=rr) (vc vs vt:Value) (b o ne ce:Nat) (he:e<ne) (b2 o2 nv cv:Nat) (hv:rr<nv) (u:Value) (hu:∃ a n c,u=.slice a n c) (w:World) (c3:w.cell? ⟨b,o+e * 3+2,none⟩=some (.slice (some ⟨b2,o2,none⟩) nv cv)) (c4:w.cell? ⟨b2,o2+rr,none⟩=some u) :
  Calls Tryz.prog 46 #[.agg (bE s.prob vc vs s.n vt (.slice (some ⟨b,o,none⟩) ne ce)),.int .i64 e] w fun r w'=>r=.returned u/\Below w.heap.size w w':=by
 obtain⟨ua,un,uc,rfl⟩:=hu;have FA:bE s.prob vc vs s.n vt (.slice (some ⟨b,o,none⟩) ne ce)=#[.int .i64 s.prob.t.n,.int .i64 s.prob.t.ins,.int .i64 s.prob.t.outs,vc,.int .i64 s.prob.a.n,vs,.int .i64 (rr:Int),.int .i64 s.n,vt,.slice (some ⟨b,o,none⟩) ne ce]:=by rw[<-hr];rfl
 rw[FA];clear hr FA
 go_enter Tryz.func46,Tryz.ntmps46
 go_wp2_with fail
 refine bj (fun W=>Below w.heap.size w W/\∃ c,W.heap[w.heap.size]?=some (.cells c 35)/\c=#[.int .i64 s.prob.t.n,.int .i64 s.prob.t.ins,.int .i64 s.prob.t.outs,vc,.int .i64 s.prob.a.n,vs,.int .i64 (rr:Int),.int .i64 s.n,vt,.slice (some ⟨b,o,none⟩) ne ce]) ⟨by go_grown,_,ak _ _,rfl⟩ (fun W0 aW=>?_);obtain⟨aC,_,hA,rfl⟩:=aW;have cM:=aa aC;have HA:=aa hA;have yS:∀ z:ExtW W0,∀ j,z.val.cell? ⟨w.heap.size,j,none⟩=_:=fun z=>ab (af z.ext HA.out)
 have y3:∀ z:ExtW W0,z.val.cell? ⟨b,o+e * 3+2,none⟩=_:=fun z=>ai (ae cM.out z.ext) c3
 have y4:∀ z:ExtW W0,z.val.cell? ⟨b2,o2+rr,none⟩=_:=fun z=>ai (ae cM.out z.ext) c4
 clear aC hA c3 c4;refine aB (by kernel_rfl) (by kernel_rfl) ?_
 repeat (go_big_quiet_step (fail))
 refine wpQuiet_nil ?_;rintro _ ⟨xq,rfl⟩;clear yS y3 y4
 go_wp2_with fail
 go_ret
 exact⟨rfl,ae cM.out xq.ext⟩
theorem F1(y x:Int) (b:Nat) (a:Addr) (n c:Nat) (hn:0<n) (W:World) (h1:W.cell? ⟨b,0,none⟩=some (.slice (some a) n c)) (h2:W.cell? a=some (.int .i64 x)) :
  Calls Tryz.prog 172 #[.int .i64 y,.pointer (some ⟨b,0,none⟩)] W fun e W'=>e=.returned (.bool (y != x))/\Below W.heap.size W W':=by
 go_enter Tryz.func172,Tryz.ntmps172
 go_wp2_with fail
 go_ret
 exact⟨rfl,by go_grown⟩
theorem Hh(v:Value) (l:List Int) (w:World) (hv:aY w v l) :
  Calls Tryz.prog 125 #[v] w fun e w'=>e=.returned (.bool (constB l))/\Below w.heap.size w w':=by
 obtain⟨pa,ca,rfl,lt1,lt2,ea⟩:=hv.at
 have HC:=aa (fun (W:World) (hb:Below w.heap.size w W) (hB:W.heap[w.heap.size]?=some (.cells #[.slice pa l.length ca] 38))=>jT 172 #[.pointer (some ⟨w.heap.size,0,none⟩)] (enters_of Tryz.func172 (by kernel_rfl) rfl) (.slice pa l.length ca) l (fun i=>decide (l.getD i 0≠l.getD 0 0)) W (hv.up up_int hb) (fun i hi W2 aV=>by
  obtain⟨b0,o0,e0,h0,_⟩:=ea 0 (by omega);rw[Nat.zero_mul,Nat.add_zero]at h0;have:=F1 l[i] (l.getD 0 0) w.heap.size ⟨b0,o0,none⟩ l.length ca (by omega) W2 (by rw[ab (af aV hB),e0];rfl) (by rw[ap 0 (show 0<l.length by omega)];exact ai (ae hb aV) h0);refine this.mono fun e W' ⟨h1,h2⟩=>⟨?_,h2⟩
  rw[h1,ap 0 hi];have hx:(l[i] != l.getD 0 0)=decide (l[i]≠l.getD 0 0):=by rw[Bool.eq_iff_iff];simp
  rw[hx]))
 have KI:Hid (constB l=!(anyLt l.length fun i=>decide (l.getD i 0≠l.getD 0 0))):=aa rfl;clear hv ea
 go_enter Tryz.func125,Tryz.ntmps125
 go_wp2_with fail
 refine aL (fun W=>Below w.heap.size w W/\W.heap[w.heap.size]?=some (.cells #[.slice pa l.length ca] 38)) ⟨by go_grown,ak _ _⟩ (fun W0 aW=>?_);obtain⟨aC,br⟩:=aW;refine(HC.out W0 aC br).mono ?_;rintro e w1 ⟨rfl,aG⟩;clear br HC;generalize (anyLt l.length fun i=>decide (l.getD i 0≠l.getD 0 0))=b at KI
 go_wp2_with fail
 go_ret
 exact⟨aN (by rw[KI.out]),ae aC aG⟩
def uz(e:Int) (a:Bool):Value:=.tuple #[.bool (decide (e=0)&&a),.int .i64 e]
theorem F2(t:Tk) (vc:Value) (w:World) (hv:bK w vc t.cases) :
  Calls Tryz.prog 76 #[.agg #[.int .i64 t.n,.int .i64 t.ins,.int .i64 t.outs,vc]] w fun e w'=>e=.returned (uz (taskE t) (agreeB t))/\Below w.heap.size w w':=by
 have HT:=aa (fun W (hb:Below w.heap.size w W)=>pX t vc W (hv.up up_case hb));obtain⟨te,hte⟩:∃ te,taskE t=te:=⟨_,rfl⟩;rw[hte]at HT ⊢;clear hte;obtain⟨pc,cc,rfl,l1,m1,e1⟩:=hv.at;clear hv;have E:=aa e1;clear e1
 have fD:Hid (∀ k j,k<t.cases.length->j<(t.cases.getD k default).out.length->constB ((t.cases.getD k default).out.getD j [])=false->agreeB t=false):=aa fun k j hk hj h=>by
  cases ha:agreeB t with
  | false=>rfl
  | true=>rw[(pA t).1 ha k hk j hj]at h;cases h
 have ju:Hid ((∀ k,k<t.cases.length->∀ j,j<(t.cases.getD k default).out.length->constB ((t.cases.getD k default).out.getD j [])=true)->agreeB t=true):=aa fun h=>(pA t).2 h
 generalize agreeB t=ag at fD ju
 go_enter Tryz.func76,Tryz.ntmps76
 go_wp2_with fail
 refine aL (fun W=>Below w.heap.size w W/\W.heap[w.heap.size]?=some (.cells #[.int .i64 t.n,.int .i64 t.ins,.int .i64 t.outs,.slice pc t.cases.length cc] 24)) ⟨by go_grown,ak _ _⟩ (fun W0 aW=>?_);obtain⟨aC,br⟩:=aW;refine(HT.out W0 aC).mono ?_;rintro e w1 ⟨rfl,aG⟩;have gd:=ae aC aG;have t1:=ab (af aG br);clear br HT;by_cases hz:te=0
 case neg=>
  have Fr:(te != 0)=true:=by simpa using hz
  have hd:decide (te=0)=false:=decide_eq_false hz
  go_wp2_with fail
  go_ret2
  exact⟨by unfold uz;rw[hd];simp,gd⟩
 subst hz;have bC:=aa gd
 go_wp2_with fail
 clear t1
 go_loopw [17] (fun i wr=>Below w1.heap.size w1 wr/\∃ k:Nat,k<=t.cases.length/\i=.int .i64 k/\∀ q,q<k->∀ j,j<(t.cases.getD q default).out.length->constB ((t.cases.getD q default).out.getD j [])=true) (fun i _=>t.cases.length - (intOf i).toNat)
 case atStart=>exact⟨Below.refl _ _,0,by omega,rfl,fun q hq=>by omega⟩
 case round=>
  obtain⟨aq,k,hk,rfl,aS⟩:=hrel;have H:=aa aS;clear aS;have dq:=ae bC.out aq;have eP:=aa dq;by_cases az:k<t.cases.length
  ·obtain⟨b1,o1,rfl,⟨x0,cx0,cS⟩,⟨x1,cx1,dj⟩,⟨x2,cx2,dU⟩⟩:=E.out k az
   have d0:=ai dq cx0;have d1:=ai dq cx1;have d2:=ai dq cx2;have HG:=aa (ap default az);have km:=aa (dj.up up_ints dq);obtain⟨p0,q0,rfl,_⟩:=cS;obtain⟨p1,q1,rfl,wc,R7,ex⟩:=dj.at;obtain⟨p2,q2,rfl,_⟩:=dU;have EX:=aa ex;have sU:=aa (fun j=>fD.out k j az);rw[HG.out]at sU;clear cx0 cx1 cx2 dj ex;generalize t.cases[k]=c at d0 d1 d2 km EX HG sU wc R7;have wM:=aa aq;clear aq dq
   go_wp2_with fail
   clear d0 d1 d2;obtain⟨wrA,lB⟩:∃ x,x=wr:=⟨_,rfl⟩;subst lB;refine bj (fun W=>Below wrA.heap.size wrA W) (by go_grown) (fun W1 aV=>?_);have cB:=aa aV;clear aV
   go_loopw [24] (fun i wr=>Below wrA.heap.size wrA wr/\∃ j:Nat,j<=c.out.length/\i=.int .i64 j/\∀ q,q<j->constB (c.out.getD q [])=true) (fun i _=>c.out.length - (intOf i).toNat)
   case atStart=>exact⟨cB.out,0,by omega,rfl,fun q hq=>by omega⟩
   case round=>
    obtain⟨aq,j,hj,rfl,aS⟩:=hrel;have H2:=aa aS;clear aS;have aR:=aa aq;have bZ:=aa (ae eP.out aq);by_cases gR:j<c.out.length
    ·obtain⟨b3,o3,rfl,vx,cvx,Fe⟩:=EX.out j gR
     have dv:=ai bZ.out cvx;have Cu:=aa (Fe.up up_int bZ.out);have PM:=aa (ap [] gR);rw[Nat.mul_one]at dv;clear cvx Fe aq
     go_wp2_with fail
     refine(Hh vx _ wr Cu.out).mono ?_;rintro e w4 ⟨rfl,cg⟩;have fe:=aa cg;clear dv cg;cases hc:constB c.out[j] with
     | true=>
      have HC:Hid (constB (c.out.getD j [])=true):=aa (by rw[PM.out];exact hc);clear hc
      go_wp2_with fail
      go_roundw
      case rel=>exact⟨ae aR.out fe.out,j+1,by omega,by go_num,aT H2.out HC.out⟩
      case measure=>simp[intOf];omega
     | false=>
      have HC:Hid (ag=false):=aa (sU.out j gR (by rw[PM.out];exact hc));clear hc
      go_wp2_with fail
      go_ret2
      exact⟨by rw[HC.out];unfold uz;simp,ae bZ.out fe.out⟩
    ·have oR:Hid (∀ q,q<c.out.length->constB (c.out.getD q [])=true):=aa fun q hq=>H2.out q (by omega)
     clear aq
     go_wp2_with fail
     go_roundw
     case rel=>exact⟨ae wM.out aR.out,k+1,by omega,by go_num,aT H.out (by rw[HG.out];exact oR.out)⟩
     case measure=>simp[intOf];omega
  ·have HR:Hid (ag=true):=aa (ju.out fun q hq=>H.out q (by omega))
   clear aq dq
   go_wp2_with fail
   go_ret2
   exact⟨by rw[HR.out];unfold uz;simp,eP.out⟩
theorem Hi{w:World} {base:Nat} {v:Value} {l:List (List Int)} (h:pj w base v l) (hr:∀ x∈l,∀ y∈x,bI y) (hn:l.length<=1048576) (nU:∀ x∈l,x.length<=1048576):dR w v l:=by
 obtain⟨xs,h1,h2⟩:=h;have h3:=aD.of_owns h1;have hl:xs.length=l.length:=by have:=h3.1;omega
 exact m8 ⟨xs,h3,fun i hi=>⟨xs[i]'(by omega),by rw[List.getElem?_eq_getElem],aD.of_owns (h2 i hi (by omega))⟩⟩ hr hn nU
theorem B7{s:Sys} (h:SysOk s) {e:Nat} (he:e<eS s):iG s.prob.t (cF s e).c (fltS s e)=0:=by
 have h1:=h.cas e he;have h2:=h.flt e he;have h3:=(qT h.prob).1;unfold iG;rw[if_neg (by omega),if_neg (by omega),if_neg];have h4:s.prob.t.n.toNat=nS s:=by have:=h.n;omega
 rw[h4];omega
theorem JX{s:Sys} (h:SysOk s) {e:Nat} (he:e<eS s):iH s.prob.t (cF s e).c (fltS s e)=vecE s e:=by
 unfold iH;rw[if_neg (by rw[B7 h he];simp)];rfl
def vq(s:Sys) (e j x:Nat):Bool:=anyLt j fun i=>decide (((vecE s e).getD i []).getD 0 0=(x:Int))
theorem UE(s:Sys) (e j v:Nat) (hv:v<8) (h:((vecE s e).getD j []).getD 0 0=(v:Int)):maskN (vq s e j) 8 ||| 2 ^ v=maskN (vq s e (j+1)) 8:=by
 rw[<-Ny hv,Qj];refine zU fun x _=>?_
 show (vq s e j x || decide (x=v))=(vq s e j x || decide (((vecE s e).getD j []).getD 0 0=(x:Int)))
 congr 1;rw[h,decide_eq_decide];omega
theorem UF(s:Sys) (e:Nat):maskN (vq s e 0) 8=0:=(lf _ _).2 ((fH _ _).2 fun _ _=>rfl)
theorem EK{s:Sys} (h:SysOk s) (ha:agreeB s.prob.t=true) {e:Nat} (he:e<eS s) {v:List Int} (hv:v∈vecE s e):constB v=true/\v=List.replicate (nS s) (v.getD 0 0)/\0<=v.getD 0 0/\v.getD 0 0<oS s/\v.length=nS s:=by
 obtain⟨_,h2⟩:=Bz h he;obtain⟨h3,h4,i,j,hi,hj,h5⟩:=h2 v hv;have hc:=(pA _).1 ha i hi j hj;rw[<-h5]at hc;have hn:=h.n;have h6:=NB hc;have h7:=h4 (v.getD 0 0) (by rw[show v.getD 0 0=v[0]'(by omega) by simp[show 0<v.length by omega]];exact List.getElem_mem _);exact⟨hc,by rw[<-h3];exact h6,h7.1,h7.2,h3⟩
theorem Vm{s:Sys} (h:SysOk s) (ha:agreeB s.prob.t=true) {e:Nat} (he:e<eS s):maskN (vq s e (vecE s e).length) 8=gV s e:=by
 refine zU fun x _=>?_
 rw[Bool.eq_iff_iff,Kb];unfold vq;rw[kI];constructor
 ·rintro⟨k,hk,h1⟩
  have h2:(vecE s e)[k]∈vecE s e:=List.getElem_mem hk;have h3:=(EK h ha he h2).2.1;rw[ap [] hk]at h1;rw[of_decide_eq_true h1]at h3;rw[<-h3];exact h2
 ·intro h1
  obtain⟨k,hk,e1⟩:=List.getElem_of_mem h1;refine⟨k,hk,?_⟩;rw[ap [] hk,e1];have hn:=h.n.1;simp[show 0<nS s by omega]
theorem tt{m k:Nat} (hm:m<1024) (hk:k<=30):bits .or .i64 ((m:Nat):Int) (wrap64 ((2:Int) ^ k))=((m ||| 2 ^ k:Nat):Int):=by
 have h2:(2:Nat) ^ k<=2 ^ 30:=Nat.pow_le_pow_right (by omega) hk;rw[Hd hk,vj _ _ (by omega) (by omega)]
theorem Ov(y x:Int) (b:Nat) (a:Addr) (n c:Nat) (hn:0<n) (W:World) (h1:W.cell? ⟨b,0,none⟩=some (.slice (some a) n c)) (h2:W.cell? a=some (.int .i64 x)) :
  Calls Tryz.prog 127 #[.int .i64 y,.pointer (some ⟨b,0,none⟩)] W fun e W'=>e=.returned (.bool (y != x))/\Below W.heap.size W W':=by
 go_enter Tryz.func127,Tryz.ntmps127
 go_wp2_with fail
 go_ret
 exact⟨rfl,by go_grown⟩
theorem Ow(l:List Int) (hc:constB l=true) (a:Option Addr) (c b:Nat) (W:World) (hv:aY W (.slice a l.length c) l) (hB:W.heap[b]?=some (.cells #[.slice a l.length c] 38)) :
  Calls Tryz.prog 106 #[.slice a l.length c,.func (.func 127) #[] #[.pointer (some ⟨b,0,none⟩)]] W fun e W'=>e=.returned (.bool false)/\Below W.heap.size W W':=by
 refine(jT 127 #[.pointer (some ⟨b,0,none⟩)] (enters_of Tryz.func127 (by kernel_rfl) rfl) _ l (fun i=>decide (l.getD i 0≠l.getD 0 0)) W hv (fun i hi W2 aV=>?_)).mono fun e W' ⟨h1,h2⟩=>⟨?_,h2⟩
 ·obtain⟨pa,ca,e1,_,_,ea⟩:=hv.at
  injection e1 with e1 _ _
  subst e1;obtain⟨b0,o0,e0,h0,_⟩:=ea 0 (by omega);rw[Nat.zero_mul,Nat.add_zero]at h0;have:=Ov l[i] (l.getD 0 0) b ⟨b0,o0,none⟩ l.length c (by omega) W2 (by rw[ab (af aV hB),e0];rfl) (by rw[ap 0 (show 0<l.length by omega)];exact ai aV h0);refine this.mono fun e W' ⟨h1,h2⟩=>⟨?_,h2⟩
  rw[h1,ap 0 hi];have hx:(l[i] != l.getD 0 0)=decide (l[i]≠l.getD 0 0):=by rw[Bool.eq_iff_iff];simp
  rw[hx]
 ·rw[h1]
  unfold constB at hc;rw[Bool.not_eq_true']at hc;rw[hc]
theorem QZ(s:Sys) (hs:SysOk s) (ha:agreeB s.prob.t=true) (e:Nat) (he:e<eS s) (vc:Value) (pw:Option Addr) (nw cw:Nat) (vv:Value) (w:World) (hv:bK w vc s.prob.t.cases) (lT:nw<=6)
  (ez:0<nw->∃ b1 o1,pw=some ⟨b1,o1,none⟩/\w.cell? ⟨b1,o1+(nw - 1) * 7+6,none⟩=some (.int .i64 (fltS s e))) (gP:nw=0->fltS s e=0) :
  Calls Tryz.prog 77 #[.agg #[.int .i64 s.prob.t.n,.int .i64 s.prob.t.ins,.int .i64 s.prob.t.outs,vc],.agg #[.int .i64 (cF s e).c,.slice pw nw cw,vv]] w fun r w'=>r=.returned (.tuple #[.int .i64 (gV s e:Nat),.int .i64 0])/\Below w.heap.size w w':=by
 have HA:=aa (fun W (hb:Below w.heap.size w W)=>JD s.prob.t vc (cF s e).c (fltS s e) W (hv.up up_case hb));rw[B7 hs he,JX hs he]at HA
 have uR:=aa (fun (W:World) (base:Nat) (u:Value) (h:pj W base u (vecE s e))=>Hi h (fun x hx y hy=>by
  have h1:=(Bz hs he).2 x hx;have h2:=h1.2.1 y hy;have h3:=hs.outs;exact⟨by omega,by omega⟩) (by
  have h1:=hs.cas e he;have h2:=(eX (qT hs.prob).1).2.2.2.2 (s.prob.t.cases.getD (cF s e).c.toNat default) (by rw[ap default h1.2];exact List.getElem_mem _);have h3:=J' h2 (fltS s e);have h4:vecE s e=fV (s.prob.t.cases.getD (cF s e).c.toNat default) (fltS s e):=rfl;rw[h4]
  omega) (fun x hx=>by have:=((Bz hs he).2 x hx).1;have:=hs.n;omega))
 have HCON:=aa (fun (v:List Int) (hv:v∈vecE s e)=>EK hs ha he hv);have fE:=aa (fun j v=>UE s e j v);have oR:=aa (Vm hs ha he);have HZ:=aa (UF s e);have hos:=hs.outs.2.1;obtain⟨pc,cc,rfl,l1,m1,e1⟩:=hv.at;clear hv e1 ha;generalize vecE s e=vl at HA uR HCON fE oR;by_cases hw:nw=0
 case' pos=>
  have hz:=gP hw;subst hw;rw[hz]at HA
  go_enter Tryz.func77,Tryz.ntmps77
  go_wp2_with fail
 case' neg=>
  obtain⟨q,rfl⟩:∃ q,nw=q+1:=⟨nw - 1,by omega⟩;obtain⟨b1,o1,rfl,c5⟩:=ez (by omega);rw[Nat.add_sub_cancel]at c5;have d5:∀ o1' o2',((w.alloc o1').alloc o2').cell? ⟨b1,o1+q * 7+6,none⟩=some (.int .i64 (fltS s e)):=fun o1' o2'=>ai (by go_grown) c5
  clear c5 ez gP
  go_enter Tryz.func77,Tryz.ntmps77
  go_wp2_with fail
  clear d5
 all_goals
  refine aL (fun W=>Below w.heap.size w W) (by go_grown) (fun W0 aC=>?_);refine(HA.out W0 aC).mono ?_;rintro r w1 ⟨u,rfl,hu,aG⟩;have HU:=aa (uR.out _ _ _ hu);obtain⟨pu,cu,rfl,lu1,lu2,eu⟩:=HU.out.at;have EU:=aa eu;have bC:=aa (ae aC aG);clear hu aC aG eu
  go_wp2_with fail
  go_loopw [10,35] (fun o i wr=>∃ j:Nat,j<=vl.length/\i=.int .i64 j/\o=.int .i64 (maskN (vq s e j) 8:Nat)/\Below w1.heap.size w1 wr) (fun _ i _=>vl.length - (intOf i).toNat)
  case atStart=>exact⟨0,by omega,rfl,by rw[HZ.out];rfl,Below.refl _ _⟩
  case round=>
   obtain⟨j,hj,rfl,rfl,aq⟩:=hrel;have aR:=aa aq;by_cases az:j<vl.length
   ·obtain⟨b3,o3,rfl,vx,cvx,Fe⟩:=EU.out j az
    have dv:=ai aq cvx;have Cu:=aa (Fe.up up_int aq);obtain⟨pv,cv,rfl,lv1,lv2,ev⟩:=Cu.out.at;obtain⟨g1,g2,g3,g4,g5⟩:=HCON.out vl[j] (List.getElem_mem az);have hgj:vl.getD j []=vl[j]:=ap [] az;have pJ:=aa (fE.out j);rw[hgj]at pJ;rw[Nat.mul_one]at dv;generalize vl[j]=v at dv Cu lv1 lv2 ev g1 g2 g3 g4 g5 pJ;have fq:=hs.n.1;obtain⟨b4,o4,rfl,c4,-⟩:=ev 0 (by omega);have TA:v[0]'(by omega)=v.getD 0 0:=(ap 0 (by omega)).symm;rw[TA,Nat.zero_mul,Nat.add_zero]at c4;obtain⟨v0,jN⟩:∃ v0:Nat,v.getD 0 0=v0:=⟨(v.getD 0 0).toNat,by omega⟩;rw[jN]at c4 g4 pJ;have hv8:v0<8:=by omega
    have yT:=aa (pJ.out v0 hv8 rfl);have pU:=aa g1;have cK:0<v.length:=by omega
    have WL:=aa c4;have hmlt:maskN (vq s e j) 8<256:=fF _ 8;have KH:=aa hmlt;clear cvx Fe aq ev g1 g2 g3 g4 g5 hgj TA jN c4 hmlt pJ fq
    go_wp2_with fail
    clear dv;refine aL (fun W=>Below wr.heap.size wr W/\W.heap[wr.heap.size]?=some (.cells #[.slice (some ⟨b4,o4,none⟩) v.length cv] 38)) ⟨by go_grown,ak _ _⟩ (fun W3 ru=>?_);obtain⟨bA,Xw⟩:=ru;refine(Ow v pU.out _ cv wr.heap.size W3 (Cu.out.up up_int bA) Xw).mono ?_;rintro r w4 ⟨rfl,cg⟩;have tb:=ab (af cg Xw) 0;simp at tb;have t0:=ai (ae bA cg) WL.out;have fe:=aa (ae bA cg);clear bA cg Xw
    go_wp2_with fail
    go_roundw
    case rel=>exact⟨j+1,by omega,by go_num,vU (by rw[<-yT.out];exact tt (by have:=KH.out;omega) (by omega)),ae aR.out fe.out⟩
    case measure=>simp[intOf];omega
   ·have HR:Hid (maskN (vq s e j) 8=gV s e):=aa (by rw[<-oR.out,show j=vl.length by omega])
    go_wp2_with fail
    go_ret2
    exact⟨by rw[HR.out];simp,ae bC.out aR.out⟩
theorem LX(s:Sys) (hv:verifyE s=0) (vc vs vt ve vl:Value) (l:List Int) (w:World) (hs:IsSys w s vc vs vt ve) (hN:movesN s.prob.a.states<1099511627776) (hl:aY w vl l) (hr:∀ k,k<l.length->0<=l.getD k 0/\l.getD k 0<(eS s:Int)) :
  Calls Tryz.prog 136 #[.agg (bE s.prob vc vs s.n vt ve),vl] w fun e w'=>∃ B,e=.returned (.tuple #[.pointer (some ⟨B,0,none⟩),.int .i64 0])/\Below w.heap.size w w'/\FinAt w' B s/\gI w' w.heap.size B s:=by
 have HS:=aa hs;have HL:=aa hl;have HR:=aa hr;obtain⟨⟨pc,cc,rfl⟩,⟨ps,cs,rfl⟩,⟨pt,ct,rfl⟩,⟨pe,ce,rfl⟩⟩:=bg hs;obtain⟨pl,cl,rfl,_,_,el⟩:=hl.at;have EL:=aa el;clear hs hl hr el;have HC:=aa (fun W (hb:Below w.heap.size w W)=>DJ s _ _ _ _ W (HS.out.up hb) hN);have HV:=aa hv;clear hv
 go_enter Tryz.func136,Tryz.ntmps136
 go_wp2_with fail
 refine aL (fun W=>Below w.heap.size w W) (by go_grown) (fun W0 aC=>?_);refine(HC.out W0 aC).mono ?_;rintro e w1 ⟨v,rfl,aG,_,h2⟩;obtain⟨B,rfl,hF,hO⟩:=h2 HV.out;have HO:=aa (hO.mono aC.size);rw[HV.out];have db:=ae aC aG;have eP:=aa db;have HF:=aa hF;clear aC aG h2 hF hO db HC
 go_wp2_with fail
 go_loopw [20] (fun i wr=>∃ k:Nat,k<=l.length/\i=.int .i64 k/\Below w.heap.size w wr/\FinAt wr B s/\gI wr w.heap.size B s) (fun i _=>l.length - (intOf i).toNat)
 case atStart=>exact⟨0,by omega,rfl,eP.out,HF.out,HO.out⟩
 case round=>
  clear eP HF HO;obtain⟨k,hk,rfl,aq,hF,hO⟩:=hrel;have aR:=aa aq;have HF:=aa hF;have HO:=aa hO;clear hO;by_cases az:k<l.length
  ·obtain⟨b1,o1,rfl,h1⟩:=EL.out k az
   rw[Nat.mul_one]at h1;have c1:=ai aq h1.1;have hx:=HR.out k az;rw[ap 0 az]at hx;clear h1 aq hF;generalize l[k]=x at c1 hx;obtain⟨cS,dj⟩:=hx;have HT:=aa (B3 s B x wr HF.out);rw[decide_eq_true cS,decide_eq_true dj]at HT;clear cS dj
   go_wp2_with fail
   refine HT.out.mono ?_;rintro e w2 ⟨rfl,aV⟩;clear c1
   go_wp2_with fail
   go_roundw
   case rel=>exact⟨k+1,by omega,by go_num,ae aR.out aV,HF.out.up aV,HO.out.up aV⟩
   case measure=>simp[intOf];omega
  ·clear aq hF
   go_wp2_with fail
   go_ret2
   exact⟨B,rfl,aR.out,HF.out,HO.out⟩
theorem vV(s:Sys):∀ k,lK (gp s k)
 | 0=>oC _ _
 | _+1=>oC _ _
theorem B8(s:Sys) (hv:verifyE s=0) (hE:eS s<=256) (vc vs vt ve:Value) (w:World) (hs:IsSys w s vc vs vt ve) (hN:movesN s.prob.a.states<1099511627776) :
  Calls Tryz.prog 78 #[.agg (bE s.prob vc vs s.n vt ve)] w fun e w'=>∃ u,e=.returned (.tuple #[u,.int .i64 0])/\aY w' u (aO s)/\Below w.heap.size w w':=by
 have HS:=aa hs;obtain⟨⟨pc,cc,rfl⟩,⟨ps,cs,rfl⟩,⟨pt,ct,rfl⟩,⟨pe,ce,rfl⟩⟩:=bg hs;clear hs;have HC:=aa (fun W (hb:Below w.heap.size w W)=>DJ s _ _ _ _ W (HS.out.up hb) hN);have gg:=jh hv;have HV:=aa hv;have di:=aa gg;have kG:=gg.n.1;have ic:=gg.n.2.1;clear hv gg
 go_enter Tryz.func78,Tryz.ntmps78
 go_wp2_with fail
 refine aL (fun W=>Below w.heap.size w W) (by go_grown) (fun W0 aC=>?_);refine(HC.out W0 aC).mono ?_;rintro e w1 ⟨v,rfl,aG,_,h2⟩;obtain⟨B,rfl,hF,-⟩:=h2 HV.out;rw[HV.out];have db:=ae aC aG;have eP:=aa db;have HF:=aa hF;clear aC aG h2 hF db HC
 go_wp2_with fail
 have RQ:=xZ s di.out hE B 0 (by omega) w1 HF.out;rw[show ((0:Nat):Int)=0 from rfl]at RQ;refine RQ.mono ?_;clear RQ;rintro e w2 ⟨u,rfl,hu,aV⟩;have HU:=aa hu;obtain⟨au,cu,rfl,_⟩:=hu.at;rw[jV]at HU;have cB:=aa aV;clear hu aV
 go_wp2_with fail
 go_loopw [6,7] (fun o i wr=>∃ k:Nat,k<nS s/\i=.int .i64 ((k:Int)+1)/\Below w1.heap.size w1 wr/\∃ a c,o=.slice a (eS s) c/\aY wr (.slice a (eS s) c) (gp s k)) (fun _ i _=>nS s+1 - (intOf i).toNat)
 case atStart=>exact⟨0,by omega,rfl,cB.out,_,_,by rw[jV],by exact HU.out⟩
 case round=>
  clear HU cB;obtain⟨k,hk,rfl,aq,a,c,rfl,hu⟩:=hrel;have aR:=aa aq;have HU:=aa hu;have hF:=HF.out.up aq;obtain⟨pl,cl,h1,_⟩:=hF.open;have t1:=ab h1 0;simp at t1;have uR:=aa hF;clear aq hu hF h1;by_cases az:k+1<nS s
  ·have nE:(k:Int)+1<(nS s:Int):=by omega
   go_wp2_with fail
   have bU:=xZ s di.out hE B (k+1) az wr uR.out;rw[show ((k+1:Nat):Int)=(k:Int)+1 by omega]at bU;refine bU.mono ?_;rintro e w3 ⟨u2,rfl,oe,bA⟩;have KW:=aa oe;obtain⟨a2,c2,rfl,_⟩:=oe.at;have dP:=aa bA;clear oe bA t1 bU;rw[jV]at KW ⊢
   go_wp2_with fail
   refine(Ot _ _ (gp s k) (iI s (k+1)) w3 (HU.out.up up_int dP.out) KW.out (vV s k) (oC _ _) (by rw[jV,ir]) (by rw[ir];exact hE)).mono ?_;rintro e w4 ⟨u4,rfl,pO,cg⟩;have uG:=aa pO;obtain⟨a4,c4,rfl,_⟩:=pO.at;have gR:(qI (gp s k) (iI s (k+1))).length=eS s:=ir s (k+1);rw[gR]at uG ⊢;have fe:=aa cg;clear pO cg gR
   go_wp2_with fail
   go_roundw
   case rel=>exact⟨k+1,az,by go_num,ae aR.out (ae dP.out fe.out),a4,c4,rfl,uG.out⟩
   case measure=>simp[intOf];omega
  ·have nE:¬ (k:Int)+1<(nS s:Int):=by omega
   have HK:Hid (aO s=gp s k):=aa (by unfold aO;rw[show nS s - 1=k by omega])
   go_wp2_with fail
   go_ret2
   exact⟨_,rfl,by rw[HK.out];exact HU.out,ae eP.out aR.out⟩
abbrev Vn(s:Sys) (vc vs vt ve vv vl:Value):Array Value:=bE s.prob vc vs s.n vt ve++#[vv,vl]
theorem Q0{w:World} {v:Value} {l:List Int} (h:aY w v l) {B o:Nat} {c:Array Value} {ty:TypeId} {fz:Nat × Nat} (hB:w.heap[B]?=some (.cells c ty fz)) (hy:∀ x:Int,c[o]?≠some (.int .i64 x)) (x:Value):aY (w.setCell ⟨B,o,none⟩ x) v l:=by
 obtain⟨a,cap,e,h1,h2,h3⟩:=h;refine⟨a,cap,e,h1,h2,fun i z hi=>?_⟩;obtain⟨b,o',e1,h4,h5⟩:=h3 i z hi;refine⟨b,o',e1,?_,h5⟩;have h4:w.cell? ⟨b,o'+i * 1,none⟩=some (.int .i64 z):=h4;by_cases hb:b=B
 ·subst hb
  rw[ab hB]at h4;rw[ab (aF hB o x),Array.getElem?_setIfInBounds];split
  ·rename_i h6
   rw[<-h6]at h4;exact absurd h4 (hy z)
  ·exact h4
 ·have:(w.setCell ⟨B,o,none⟩ x).cell? ⟨b,o'+i * 1,none⟩=w.cell? ⟨b,o'+i * 1,none⟩:=by
   unfold World.cell?;rw[Below.heap_setCell _ _ _ _ hb]
  exact this.trans h4
theorem JY(a:Bool):uz 0 a=.tuple #[.bool a,.int .i64 0]:=by simp[uz]
theorem nf(s:Sys) (hE:eS s<=256) (vc vs vt ve:Value) (w:World) (hs:IsSys w s vc vs vt ve) (hN:movesN s.prob.a.states<1099511627776) :
  Calls Tryz.prog 38 #[.agg (bE s.prob vc vs s.n vt ve)] w fun r w'=>∃ v,r=.returned (.tuple #[v,.int .i64 (readyE s)])/\Below w.heap.size w w'/\(readyE s≠0->v=.pointer none)/\(readyE s=0->∃ B,v=.pointer (some ⟨B,0,none⟩)/\w.heap.size<=B/\ScAt w' B s):=by
 have HS:=aa hs;obtain⟨⟨pc,cc,rfl⟩,⟨ps,cs,rfl⟩,⟨pt,ct,rfl⟩,⟨pe,ce,rfl⟩⟩:=bg hs;clear hs;have HC:=aa (fun W (hb:Below w.heap.size w W)=>oJ s _ _ _ _ W (HS.out.up hb) hN);have Fv:=aa (fun W (hb:Below w.heap.size w W)=>F2 s.prob.t _ W (HS.out.up hb).cases);have VJ:=aa (fun (hv:verifyE s=0) W (hb:Below w.heap.size w W)=>B8 s hv hE _ _ _ _ W (HS.out.up hb) hN);obtain⟨i0,cG,cf,bP,cj⟩:=info_parts Tryz.infoInt;have bQ:=aa (And.intro cG (And.intro cf (And.intro bP cj)));have cX:Hid (verifyE s≠0->readyE s=verifyE s):=aa fun h=>by unfold readyE;rw[if_pos h]
 have dE:Hid (verifyE s=0->agreeB s.prob.t=false->readyE s=11):=aa fun h h2=>by unfold readyE;rw[if_neg (by omega),h2];rfl
 have fZ:Hid (verifyE s=0->agreeB s.prob.t=true->readyE s=0):=aa fun h h2=>by unfold readyE;rw[if_neg (by omega),h2];rfl
 have kj:Hid (verifyE s=0->taskE s.prob.t=0):=aa fun h=>(qT (jh h).prob).1
 obtain⟨re,mG⟩:∃ re,readyE s=re:=⟨_,rfl⟩;rw[mG]at cX dE fZ ⊢;clear mG cG cf bP cj
 go_enter Tryz.func38,Tryz.ntmps38
 go_wp2_with fail
 refine aL (fun W=>Below w.heap.size w W/\∃ c,W.heap[w.heap.size]?=some (.cells c 35)/\c=bE s.prob _ _ s.n _ _) ⟨by go_grown,_,ak _ _,rfl⟩ (fun W0 aW=>?_);obtain⟨aC,_,hA,rfl⟩:=aW;refine(HC.out W0 aC).mono ?_;rintro e w1 ⟨rfl,aG⟩;have dM:=af aG hA;have dy:=aa dM;have bC:=aa (ae aC aG);have fP:=bC.out.size;have iL:=ar dM;clear hA dM aC aG HC;by_cases hv:verifyE s=0
 case neg=>
  have HV:=aa (cX.out hv);obtain⟨ev,lR⟩:∃ ev,verifyE s=ev:=⟨_,rfl⟩;rw[lR]at hv HV ⊢;have Jp:(ev != 0)=true:=by simpa using hv
  have gK:=aa hv;clear hv lR
  go_wp2_with fail
  go_ret2
  exact⟨_,by rw[HV.out];rfl,bC.out,fun _=>rfl,fun h=>absurd (HV.out.symm.trans h) gK.out⟩
 have HV:=aa hv;have V0:=aa (kj.out hv);have di:=aa (jh hv);rw[hv];clear hv;have tS:=ab dy.out
 go_wp2_with fail
 clear tS;refine(Fv.out w1 bC.out).mono ?_;rintro e w2 ⟨rfl,aV⟩;rw[V0.out,JY];have cB:=aa (ae bC.out aV);have mK:=aa (af aV dy.out);have mM:=aV.size;clear aV dy;cases FA:agreeB s.prob.t with
 | false=>
  have cT:=aa (dE.out HV.out FA);clear FA
  go_wp2_with fail
  go_ret2
  exact⟨_,by rw[cT.out];rfl,cB.out,fun _=>rfl,fun h=>by have:=cT.out;omega⟩
 | true=>
  have cT:=aa (fZ.out HV.out FA);have KC:=aa (fun e (he:e<eS s) pw nw cw vv W (hb:Below w.heap.size w W)=>QZ s di.out FA e he _ pw nw cw vv W (HS.out.up hb).cases);have FG:=aa HS.out.ex;have HK:Hid (∀ k,k<eS s->_):=aa (fun k (hk:k<eS s)=>iu di.out FG.out hk)
  have gu:Hid (∀ k,k<=eS s->∀ x∈(List.range k).map (fun e=>((gV s e:Nat):Int)),bI x):=aa (fun k _ x hx=>by
   obtain⟨e,_,rfl⟩:=List.mem_map.1 hx;have:=fF (valB s e) 8;unfold gV
   exact⟨by omega,by omega⟩)
  obtain⟨L,hL⟩:∃ L:Nat->List Int,L=fun k=>(List.range k).map (fun e=>((gV s e:Nat):Int)):=⟨_,rfl⟩
  have HL:Hid (L 0=[]/\(∀ k,L (k+1)=L k++[((gV s k:Nat):Int)])/\L (eS s)=Do s/\(∀ k,(L k).length=k)/\∀ k,k<=eS s->∀ x∈L k,bI x):=aa (by
   subst hL
   exact⟨rfl,fun k=>by simp[List.range_succ],rfl,fun k=>by simp,gu.out⟩)
  clear hL FA;obtain⟨m,hm⟩:∃ m,eS s=m:=⟨_,rfl⟩;have HM:=aa hm;have jr:s.ex.length=m:=hm;have tS:=ab mK.out;have t9:∀ o,(w2.alloc o).cell? ⟨w.heap.size,9,none⟩=some (.slice pe m ce):=fun o=>(ab (am o mK.out) 9).trans (by rw[<-jr];rfl)
  rw[hm]at hE HK HL;clear hm jr
  go_wp2_with fail
  clear tS t9;refine bj (fun W=>Below w2.heap.size w2 W/\∃ c,W.heap[w2.heap.size]?=some (.cells c 98)/\c=Vn s (.slice pc s.prob.t.cases.length cc) (.slice ps s.prob.a.states.length cs) (.slice pt s.tab.length ct) (.slice pe s.ex.length ce) (.slice none 0 0) (.slice none 0 0)) ⟨by go_grown,_,ak _ _,rfl⟩ (fun W3 ru=>?_);obtain⟨bA,_,qn,rfl⟩:=ru;have P8:w.heap.size<w2.heap.size:=ar mK.out;obtain⟨B,WX⟩:∃ B,w2.heap.size=B:=⟨_,rfl⟩;rw[WX]at qn P8 ⊢;have Pk:=aa WX;have IT:=aa (And.intro bA qn);clear bA qn WX
  go_loopw [37] (fun i wr=>∃ k:Nat,k<=m/\i=.int .i64 k/\Below w2.heap.size w2 wr/\∃ lv,wr.heap[B]?=some (.cells (Vn s (.slice pc s.prob.t.cases.length cc) (.slice ps s.prob.a.states.length cs) (.slice pt s.tab.length ct) (.slice pe s.ex.length ce) lv (.slice none 0 0)) 98)/\aD wr w2.heap.size 3 1 lv k ((L k).map (Value.int .i64))) (fun i _=>m - (intOf i).toNat)
  case atStart=>exact⟨0,by omega,rfl,IT.out.1,_,IT.out.2,by rw[HL.out.1];exact aD.nil _ _ _ _⟩
  case round=>
   clear IT;obtain⟨k,hk,rfl,aq,lv,hB,aX⟩:=hrel;obtain⟨al,cl,rfl⟩:=aX.slice;have HB:=aa hB;have bL:=aa aX;have aR:=aa aq;have sv:=af aq mK.out;have WC:=aa sv;have db:=ae cB.out aq;have eP:=aa db;have wU:=aq.size;have uJ:=ar hB;by_cases az:k<m
   ·obtain⟨b,o,_,ce',e0,rfl,pw,nw,cw,pv,cv,c1,c2,c3,lT,ez,gP,-⟩:=HK.out k az
    injection e0 with e01 e02 e03
    subst e01;have Bj:nw<=6:=by have:=di.out.rounds;omega
    clear e02 e03;have d1:=ai db c1;have d2:=ai db c2;have d3:=ai db c3;have tA:∀ o' j,(wr.alloc o').cell? ⟨w.heap.size,j,none⟩=(bE s.prob (.slice pc s.prob.t.cases.length cc) (.slice ps s.prob.a.states.length cs) s.n (.slice pt s.tab.length ct) (.slice (some ⟨b,o,none⟩) s.ex.length ce))[j]?:=fun o' j=>ab (am o' sv) j
    have iU:=aa (fun W (hb:Below w.heap.size w W)=>KC.out k (by rw[HM.out];exact az) pw nw cw (.slice pv (s.prob.rounds.toNat+1) cv) W hb Bj (fun h=>by obtain⟨b1,o1,q1,q2⟩:=ez h;exact⟨b1,o1,q1,ai hb q2⟩) gP);clear aX aq sv db c1 c2 c3 lT ez gP hB
    go_wp2_with fail
    refine aL (fun W=>Below wr.heap.size wr W) (by go_grown) (fun W4 cg=>?_);refine(iU.out W4 (ae eP.out cg)).mono ?_;rintro r w5 ⟨rfl,dO⟩;have gx:=ae cg dO;have iy:=aa (af gx HB.out);have tB:w5.cell? ⟨B,10,none⟩=some (.slice al k cl):=(ab iy.out 10).trans rfl;have C9:=aa ((bL.out.up gx).up ((Below.refl _ w5).alloc (Nat.le_refl _) (.cells #[.int .i64 ((gV s k:Nat):Int)] 3)));have bB:=aa (eA w5 [.int .i64 ((gV s k:Nat):Int)] 3);have lO:=aa (ae aR.out gx);have gO:Hid (k+1<=maxLen):=aa (by unfold maxLen;omega);have eo:Hid ((k+1) * 8<=140737488355328):=aa (by omega);have fL:Hid (w2.heap.size<=(w5.alloc (.cells #[.int .i64 ((gV s k:Nat):Int)] 3)).heap.size):=aa (by have:=lO.out.size;simp;omega);clear cg dO gx tA d1 d2 d3 iU
    go_wp2_with (at_builtin;(refine aZ _ rfl (.tmp 56) (.tmp 58) 38 rfl w2.heap.size 3 i0 _ 1 8 Tryz.underlying38 bQ.out.1 bQ.out.2.1 bQ.out.2.2.1 bQ.out.2.2.2 rfl (by decide) _ k _ rfl C9.out ⟨w5.heap.size,0,none⟩ 1 1 [.int .i64 ((gV s k:Nat):Int)] rfl rfl bB.out (by simp[Value.oneCell']) gO.out eo.out fL.out ?_;intro v6 w6 gF fN _;obtain⟨av6,cv6,rfl⟩:=gF.slice;have Tv:=gW C9.out fN iy.out (by decide);have c6:w6.cell? ⟨B,10,none⟩=some _:=(ab Tv 10).trans rfl;have f6:=aE Tv 10))
    go_roundw
    case rel=>
     refine⟨k+1,by omega,by go_num,(BS lO.out lO.out.size (Nat.le_refl _) C9.out fN).setCell (by dsimp only;rw[Pk.out];exact Nat.le_refl _) _,.slice av6 (k+1) cv6,?_,?_⟩
     ·rw[aF Tv];rfl
     ·rw[HL.out.2.1 k,List.map_append]
      exact gF.put (gF.ne Tv (by decide)) _ _
    case measure=>simp[intOf];omega
   ·obtain rfl:k=m:=by omega
    have tA:∀ j,wr.cell? ⟨w.heap.size,j,none⟩=_:=fun j=>ab sv j
    clear aX aq sv db hB
    go_wp2_with fail
    refine(VJ.out HV.out wr eP.out).mono ?_;rintro r w4 ⟨u,rfl,hu,cg⟩;have uO:=af cg HB.out;have c4:w4.cell? ⟨B,11,none⟩=some _:=(ab uO 11).trans rfl;have f4:=aE uO 11;obtain⟨au,cu,rfl,_⟩:=hu.at;have HU:=aa hu;have fe:=aa uO;have nJ:=aa cg;clear tA hu uO cg
    go_wp2_with fail
    go_ret2
    have CE:Below w.heap.size w (w4.setCell ⟨B,11,none⟩ (.slice au (aO s).length cu)):=(ae eP.out nJ.out).setCell (by dsimp only;omega) _;refine⟨_,by rw[cT.out];rfl,CE,fun h=>absurd cT.out h,fun _=>⟨B,rfl,by omega,⟨.slice pc s.prob.t.cases.length cc,.slice ps s.prob.a.states.length cs,.slice pt s.tab.length ct,.slice pe s.ex.length ce,.slice al k cl,.slice au (aO s).length cu,(aF fe.out 11 (.slice au (aO s).length cu)).trans rfl,HS.out.up CE,?_,?_⟩⟩⟩
    ·have h1:=(bL.out.up nJ.out).put ((bL.out.up nJ.out).ne fe.out (by decide)) 11 (.slice au (aO s).length cu)
     have h2:=HL.out.2.2.1;have h3:=HL.out.2.2.2.1 k;rw[h2]at h1 h3;exact gX (l:=Do s) (base:=w2.heap.size) (by rw[h3];exact h1) (by rw[<-h2];exact HL.out.2.2.2.2 k (Nat.le_refl _)) (by omega)
    ·exact Q0 HU.out fe.out (by intro x;simp) _
theorem Ox(x:Nat) (hx:x<256) (cS:x≠0) (w:World) (hT:ii w) :
  Calls Tryz.prog 178 #[.int .u64 x] w fun e w'=>e=.returned (.int .i64 (Lib.ctz 64 x))/\w=w':=by
 obtain⟨Mw,hk⟩:=Lib.lowest_bit 64 x cS (by omega);obtain⟨hi,yu⟩:=Lib.deBruijn64_at _ hk;have eB:=hT _ hi;rw[yu]at eB;exact Uf x _ _ w (by simp;omega) (tz64_key x _ (by omega) cS Mw) hi hk eB
theorem UG(x:Nat) (hx:x<256) (cS:x≠0) (w:World) (hT:ii w) :
  Calls Tryz.prog 133 #[.int .u64 x] w fun e w'=>e=.returned (.int .i64 (Lib.ctz 64 x))/\w=w':=by
 have HC:=aa (Ox x hx cS w hT);clear hT
 go_enter Tryz.func133,Tryz.ntmps133
 go_wp2_with fail
 refine HC.out.mono ?_;rintro e w' ⟨rfl,rfl⟩
 go_wp2_with fail
 go_ret
 exact⟨rfl,rfl⟩
theorem ctz_first:∀ x,x<256->x≠0->((Lib.ctz 64 x:Nat):Int)=firstIx 8 fun i=>x.testBit i:=by decide +kernel
theorem B'(q:Nat->Bool) (w:World) (hT:ii w) :
  Calls Tryz.prog 83 #[.int .i64 (maskN q 8:Nat)] w fun e w'=>e=.returned (.int .i64 (firstIx 8 q))/\w=w':=by
 have az:maskN q 8<256:=fF q 8;have HZ:Hid (maskN q 8=0->firstIx 8 q=-1):=aa fun h=>eC _ _ ((fH _ _).1 ((lf q 8).1 h))
 have HN:Hid (maskN q 8≠0->((Lib.ctz 64 (maskN q 8):Nat):Int)=firstIx 8 q):=aa fun h=>by
  rw[ctz_first _ az h];refine lX _ _ _ fun j hj=>?_
  rw[dI,decide_eq_true hj,Bool.true_and]
 have HC:=aa (fun h=>UG (maskN q 8) az h w hT);generalize maskN q 8=x at *;clear hT;by_cases h0:x=0
 ·have HR:=aa (HZ.out h0)
  have hd:((x:Int) == 0)=true:=by simp[h0]
  clear h0
  go_enter Tryz.func83,Tryz.ntmps83
  go_wp2_with fail
  go_ret
  exact⟨aA (by rw[HR.out]),rfl⟩
 ·have HR:=aa (HN.out h0)
  have sJ:=aa (HC.out h0);have hd:((x:Int) == 0)=false:=by simp;omega
  have hw:IntKind.u64.wrap (x:Int)=x:=by simp[IntKind.wrap,IntKind.bits];omega
  clear h0
  go_enter Tryz.func83,Tryz.ntmps83
  go_wp2_with fail
  refine sJ.out.mono ?_;rintro e w' ⟨rfl,rfl⟩
  go_wp2_with fail
  go_ret
  exact⟨aA (by rw[HR.out]),rfl⟩
def maxTo(l:List Int):Nat->Int
 | 0=>l.getD 0 0
 | k+1=>max (maxTo l k) (l.getD (k+1) 0)
theorem Hj(l:List Int):∀ k i,i<=k->l.getD i 0<=maxTo l k
 | 0,i,h=>by
  obtain rfl:i=0:=by omega
  exact Int.le_refl _
 | k+1,i,h=>by
  rw[maxTo];by_cases e:i=k+1
  ·subst e;omega
  ·have:=Hj l k i (by omega);omega
theorem A5(l:List Int):∀ k,∃ i,i<=k/\maxTo l k=l.getD i 0
 | 0=>⟨0,Nat.le_refl _,rfl⟩
 | k+1=>by
  obtain⟨i,hi,e⟩:=A5 l k;rw[maxTo];by_cases h:maxTo l k<=l.getD (k+1) 0
  ·exact⟨k+1,Nat.le_refl _,by omega⟩
  ·exact⟨i,by omega,by omega⟩
theorem F3(v:Value) (l:List Int) (w:World) (hv:aY w v l) (h0:0<l.length) :
  Calls Tryz.prog 82 #[v] w fun e w'=>e=.returned (.int .i64 (maxTo l (l.length - 1)))/\w=w':=by
 obtain⟨pa,ca,rfl,lt1,lt2,ea⟩:=hv.at;have EA:=aa ea;obtain⟨b0,o0,rfl,c0,-⟩:=ea 0 h0;rw[Nat.zero_mul,Nat.add_zero,<-ap 0 h0]at c0;clear hv ea
 go_enter Tryz.func82,Tryz.ntmps82
 go_wp2_with fail
 clear c0
 go_loop [3,4] (fun m i=>∃ k:Nat,k<l.length/\i=.int .i64 ((k:Int)+1)/\m=.int .i64 (maxTo l k)) (fun _ i=>l.length+1 - (intOf i).toNat)
 case atStart=>exact⟨0,h0,rfl,vU (by rw[maxTo,ap 0 h0])⟩
 case round=>
  obtain⟨k,hk,rfl,rfl⟩:=hrel;by_cases az:k+1<l.length
  ·obtain⟨b1,o1,e1,c1,-⟩:=EA.out (k+1) az
   cases e1
   rw[Nat.mul_one,<-ap 0 az]at c1;have c2:w.cell? ⟨b0,o0+(k+1),none⟩=some (.int .i64 (l.getD (k+1) 0)):=c1;have HM:Hid (maxTo l (k+1)=max (maxTo l k) (l.getD (k+1) 0)):=aa rfl;generalize l.getD (k+1) 0=x at c1 c2 HM;generalize maxTo l k=m at HM;have nE:(k:Int)+1<(l.length:Int):=by omega
   go_wp2_with fail
   go_round
   case rel=>exact⟨k+1,az,by go_num,vU (by rw[HM.out])⟩
   case measure=>simp[intOf];omega
  ·have nE:¬ (k:Int)+1<(l.length:Int):=by omega
   have HK:Hid (l.length - 1=k):=aa (by omega)
   go_wp2_with fail
   go_ret
   exact⟨aA (by rw[HK.out]),rfl⟩
def sd(s:Sys) (e f:Nat):Bool:=byB s e f&&decide (f≠e)
def fR(s:Sys) (e k:Nat):List Nat:=(List.range k).filter (sd s e)
def dN(s:Sys) (e:Nat):List Nat:=fR s e (eS s)
theorem vW{s:Sys} {e k:Nat} (h:sd s e k=true):fR s e (k+1)=fR s e k++[k]:=by
 unfold fR;rw[List.range_succ,List.filter_append];simp[h]
theorem zs{s:Sys} {e k:Nat} (h:sd s e k=false):fR s e (k+1)=fR s e k:=by
 unfold fR;rw[List.range_succ,List.filter_append];simp[h]
theorem Q4{s:Sys} {e:Nat}:∀ {k m:Nat},k<=m->fR s e k <+: fR s e m:=fun {k m} h=>by
 induction m with
 | zero=>obtain rfl:k=0:=by omega
         exact List.prefix_refl _
 | succ m ih=>
  by_cases e1:k=m+1
  ·subst e1;exact List.prefix_refl _
  ·refine(ih (by omega)).trans ?_
   cases hb:sd s e m with
   | true=>rw[vW hb];exact List.prefix_append _ _
   | false=>rw[zs hb];exact List.prefix_refl _
theorem Vo{s:Sys} {e k:Nat} (hk:k<eS s) (h:sd s e k=true):(fR s e k).length<(dN s e).length/\(dN s e).getD (fR s e k).length 0=k:=by
 have h1:fR s e (k+1) <+: dN s e:=Q4 (by omega);rw[vW h]at h1;obtain⟨t,ht⟩:=h1;rw[<-ht];refine⟨by simp,?_⟩;rw[List.append_assoc,List.getD_eq_getElem?_getD,List.getElem?_append_right (Nat.le_refl _)];simp
theorem qU{s:Sys} {e f:Nat}:f∈dN s e↔f<eS s/\byB s e f=true/\f≠e:=by
 simp[dN,fR,sd]
def Hk(s:Sys) (e:Nat) (i:Nat):Array Value:=#[.int .i64 ((dN s e).getD i 0:Nat),.int .i64 (byP s e ((dN s e).getD i 0))]
theorem uA(B e:Nat) (w:World) :
  Calls Tryz.prog 138 #[.pointer (some ⟨B,0,none⟩),.int .i64 e] w fun r w'=>r=.returned (.func (.func 179) #[] #[.pointer (some ⟨w.heap.size,0,none⟩),.pointer (some ⟨w.heap.size+1,0,none⟩)])/\w'=(w.alloc (.cells #[.pointer (some ⟨B,0,none⟩)] 196)).alloc (.cells #[.int .i64 e] 3):=by
 go_enter Tryz.func138,Tryz.ntmps138
 go_wp2
 go_ret
 exact⟨rfl,rfl⟩
def gj(S:Nat->Prop) (w w':World):Prop:=∀ k,S k->w'.heap[k]?=w.heap[k]?
theorem gj.trans{S:Nat->Prop} {a b c:World} (h:gj S a b) (k:gj S b c):gj S a c:=fun i hi=>(k i hi).trans (h i hi)
theorem gj.cell{S:Nat->Prop} {w w':World} (h:gj S w w') {b:Nat} (hb:S b) {o:Nat}:w'.cell? ⟨b,o,none⟩=w.cell? ⟨b,o,none⟩:=by
 have:=h b hb;unfold World.cell?;rw[this]
theorem se(s:Sys) (hs:SysOk s) (B e bx be:Nat) (he:e<eS s) (base:Nat) (w0:World) (h:gI w0 base B s) (w:World) (aC:∀ k,base<=k->k<w0.heap.size->w.heap[k]?=w0.heap[k]?) (mn:w0.heap.size<=w.heap.size) (hx:w.cell? ⟨bx,0,none⟩=some (.pointer (some ⟨B,0,none⟩))) (hy:w.cell? ⟨be,0,none⟩=some (.int .i64 e)) :
  rH Tryz.prog 179 #[.pointer (some ⟨bx,0,none⟩),.pointer (some ⟨be,0,none⟩)] (Hk s e) (dN s e).length (fun k=>(base<=k/\k<w0.heap.size)\/k=bx\/k=be) w:=by
 intro yl J Jx W hW hJ nV hY h0;have kF:=fj hx;have lP:=fj hy;have eT:gj (fun k=>(base<=k/\k<w0.heap.size)\/k=bx\/k=be) w W:=fun k hk=>hW.block k (by rcases hk with hk|rfl|rfl<;>first|omega|assumption)
 obtain⟨pl,cl,h1,-⟩:=(h.at hs).open;have P8:=h.1;have H1:=aa h1;have HX:=aa hx;have S4:=aa hy;have k8:=aa h;have HJ:=aa hJ;have Jh:=aa nV;have HY:=aa hY;have H0:=aa h0;have gk:Hid (∀ (W:World) (f:Nat),f<eS s->FinAt W B s->_):=aa fun W f (hf:f<eS s) (h:FinAt W B s)=>Ad s hs B e f he hf W h
 have HKF:Hid (∀ W:World,gj (fun k=>(base<=k/\k<w0.heap.size)\/k=bx\/k=be) w W->FinAt W B s):=aa (fun W y9=>by exact(h.keep fun k h1 h2=>(y9 k (.inl ⟨h1,h2⟩)).trans (aC k h1 h2)).at hs);have tx:=(eT.cell (.inr (.inl rfl))).trans hx;have tF:W.cell? ⟨B,1,none⟩=some (.slice pl (eS s) cl):=(ab ((eT B (.inl ⟨P8,ar h1⟩)).trans ((aC B P8 (ar h1)).trans h1)) 1).trans rfl;have sK:=aa eT;have HN:Hid (∀ k,k<eS s->sd s e k=true->(fR s e k).length<(dN s e).length/\(dN s e).getD (fR s e k).length 0=k):=aa fun k hk h=>Vo hk h
 have jM:Hid ((fR s e (eS s)).length=(dN s e).length):=aa rfl;have ic:=hs.n.2.1
 have eo:Hid (∀ f,byB s e f=true->0<=byP s e f/\byP s e f<nS s/\(∀ j,j<(byP s e f).toNat->linkB s j e f=false)/\linkB s (byP s e f).toNat e f=true):=aa (fun f hf=>by
  obtain⟨g1,g2,g3⟩:=uj hf;refine⟨g1,g2,fun j hj=>?_,g3⟩;unfold byP at hj;rcases bD (nS s) (fun p=>linkB s p e f) with ⟨e1,_⟩|⟨k,hk,e1,_,h2⟩
  ·rw[e1]at hj;simp at hj
  ·rw[e1,Int.toNat_natCast]at hj;exact h2 j hj)
 have I':=hs;clear h1 hx hy h aC kF lP mn P8 hJ nV hY h0 eT hs;obtain⟨m,hm⟩:∃ m,eS s=m:=⟨_,rfl⟩;have hcount:=I'.count;rw[hm]at HN jM he tF gk hcount;clear hm I';refine(callsIn_wide (n:=0)).1 ?_;refine callsIn_of_wp Tryz.func179 rfl trivial ?_ rfl;simp only[Tryz.ntmps179,List.size_toArray,List.length_cons,List.length_nil,Nat.reduceAdd,Nat.reduceSub,Array.replicate_succ,Array.replicate_zero,List.push_toArray,List.append_toArray,List.nil_append,List.cons_append]
 gi_wp2
 clear tx tF
 gi_loopw [12] (fun i wr=>∃ k:Nat,k<=m/\i=.int .i64 k/\gj (fun k=>(base<=k/\k<w0.heap.size)\/k=bx\/k=be) w wr/\J (fR s e k).length wr) (fun i _=>m - (intOf i).toNat)
 case atStart=>exact⟨0,by omega,rfl,sK.out,H0.out⟩
 case round=>
  obtain⟨k,hk,rfl,fM,hj⟩:=hrel;have jP:=aa fM;have iX:=aa hj;clear hj;by_cases az:k<m
  ·have tx:=(fM.cell (.inr (.inl rfl))).trans HX.out
   have ty:=(fM.cell (.inr (.inr rfl))).trans S4.out;have HL:=aa (gk.out wr k az (HKF.out wr fM));obtain⟨set,kT⟩:∃ set,maskN (fun p=>linkB s p e k) (nS s)=set:=⟨_,rfl⟩;rw[kT]at HL;have fE:=aa kT;have hz:set=0↔byB s e k=false:=by rw[<-kT,lf];rfl
   clear fM kT
   gi_wp2
   refine⟨trivial,rfl,callsIn_wide.2 (HL.out.mono ?_)⟩;rintro r w1 ⟨rfl,rfl⟩;by_cases hb:byB s e k=true
   ·have MF:¬ ((set:Int)=0):=fun h=>by have:=hz.1 (by omega);rw[hb]at this;cases this
    have I':((set:Int) == 0)=false:=by simpa using MF
    by_cases sS:e=k
    ·have fD:Hid ((fR s e (k+1)).length=(fR s e k).length):=aa (by rw[zs (by unfold sd;rw[decide_eq_false (show ¬ (k≠e) from fun h=>h sS.symm),Bool.and_false])])
     have Sn:((e:Int) == (k:Int))=true:=by rw[sS];simp
     clear hz MF sS hb
     gi_wp2
     go_roundw
     case rel=>exact⟨k+1,by omega,by go_num,jP.out,by rw[fD.out];exact iX.out⟩
     case measure=>simp[intOf];omega
    ·have iz:sd s e k=true:=by unfold sd;rw[hb,decide_eq_true (show k≠e from fun h=>sS h.symm)];rfl
     have ju:Hid ((fR s e (k+1)).length=(fR s e k).length+1):=aa (by rw[vW iz];simp);obtain⟨kG,nU⟩:=HN.out k az iz;have Sn:((e:Int) == (k:Int))=false:=by simp;omega
     obtain⟨g1,g2,g3,g4⟩:=eo.out k hb;obtain⟨p0,mJ⟩:∃ p0:Nat,byP s e k=p0:=⟨(byP s e k).toNat,by omega⟩;rw[mJ,Int.toNat_natCast]at g3 g4;have cM:Hid (∀ p,p<p0->hasB (set:Nat) p=false):=aa (fun p hp=>by rw[<-fE.out,jg,g3 p hp,Bool.and_false]);have bC:Hid (hasB (set:Nat) p0=true):=aa (by rw[<-fE.out,jg,g4,decide_eq_true (by omega)];rfl);have Bd:Hid (Hk s e (fR s e k).length=#[.int .i64 k,.int .i64 p0]):=aa (by unfold Hk;rw[nU,mJ]);have II:p0<5:=by omega
     obtain⟨c,hc⟩:∃ c,(fR s e k).length=c:=⟨_,rfl⟩;rw[hc]at kG Bd ju iX;clear hz MF sS hb iz nU g1 g2 g3 g4 mJ hc
     gi_wp2
     gi_loop [6] (fun x=>∃ p:Nat,p<=p0/\x=.int .i64 p) (fun x=>p0 - (intOf x).toNat)
     case atStart=>exact⟨0,by omega,rfl⟩
     case round=>
      obtain⟨p,hp,rfl⟩:=hrel;have gq:=rI (set:Nat) p;by_cases hpp:p=p0
      ·subst hpp
       rw[bC.out]at gq;obtain⟨fn,tmps,assign,body,n',hR⟩:=HY.out c wr kG iX.out;rw[Bd.out]at n';have HR:=aa hR;clear hR
       gi_wp2
       refine⟨rfl,HR.out.mono ?_⟩;rintro e W3 (⟨rfl,Cn,Cm,hZ⟩|⟨rfl,rB⟩)
       ·gi_wp2
        go_roundw
        case rel=>exact⟨k+1,by omega,by go_num,gj.trans jP.out hZ,by rw[ju.out];exact Cn⟩
        case measure=>simp[intOf];omega
       ·gi_wp2
        refine bodyPost_ret (results_none rfl _ _ _) rfl ?_;exact⟨⟨_,rfl⟩,.inr ⟨_,by omega,rB⟩⟩
      ·rw[cM.out p (by omega)]at gq
       gi_wp2
       go_round
       case rel=>exact⟨p+1,by omega,by go_num⟩
       case measure=>simp[intOf];omega
   ·have fd:byB s e k=false:=by simpa using hb
    obtain rfl:=hz.2 fd;have fD:Hid ((fR s e (k+1)).length=(fR s e k).length):=aa (by rw[zs (by unfold sd;rw[fd];rfl)]);clear hz hb fd
    gi_wp2
    go_roundw
    case rel=>exact⟨k+1,by omega,by go_num,jP.out,by rw[fD.out];exact iX.out⟩
    case measure=>simp[intOf];omega
  ·obtain rfl:k=m:=by omega
   gi_wp2
   go_end0
   exact⟨⟨_,rfl⟩,.inl (by rw[<-jM.out];exact iX.out)⟩
def gE(parts:List Int) (label:Int) (k:Nat):List Nat:=(List.range k).filter fun e=>decide (parts.getD e 0=label)
theorem yh{p:List Int} {x:Int} {k:Nat} (h:p.getD k 0=x):gE p x (k+1)=gE p x k++[k]:=by
 unfold gE;rw[List.range_succ,List.filter_append];simpa using h
theorem Hl{p:List Int} {x:Int} {k:Nat} (h:p.getD k 0≠x):gE p x (k+1)=gE p x k:=by
 unfold gE;rw[List.range_succ,List.filter_append];simpa using h
theorem Oy{p:List Int} {x:Int}:∀ {k m:Nat},k<=m->gE p x k <+: gE p x m:=fun {k m} h=>by
 induction m with
 | zero=>obtain rfl:k=0:=by omega
         exact List.prefix_refl _
 | succ m ih=>
  by_cases e1:k=m+1
  ·subst e1;exact List.prefix_refl _
  ·refine(ih (by omega)).trans ?_
   by_cases hb:p.getD m 0=x
   ·rw[yh hb];exact List.prefix_append _ _
   ·rw[Hl hb];exact List.prefix_refl _
theorem UH{p:List Int} {x:Int} {k:Nat} (hk:k<p.length) (h:p.getD k 0=x):(gE p x k).length<(eG p x).length/\(eG p x).getD (gE p x k).length 0=k:=by
 have h1:gE p x (k+1) <+: eG p x:=Oy (by omega);rw[yh h]at h1;obtain⟨t,ht⟩:=h1;rw[<-ht];refine⟨by simp,?_⟩;rw[List.append_assoc,List.getD_eq_getElem?_getD,List.getElem?_append_right (Nat.le_refl _)];simp
def vX(l:List Nat) (i:Nat):Array Value:=#[.int .i64 (l.getD i 0:Nat)]
theorem wF(B:Nat) (x:Int) (w:World) :
  Calls Tryz.prog 85 #[.pointer (some ⟨B,0,none⟩),.int .i64 x] w fun r w'=>r=.returned (.func (.func 135) #[] #[.pointer (some ⟨w.heap.size,0,none⟩),.pointer (some ⟨w.heap.size+1,0,none⟩)])/\w'=(w.alloc (.cells #[.pointer (some ⟨B,0,none⟩)] 94)).alloc (.cells #[.int .i64 x] 3):=by
 go_enter Tryz.func85,Tryz.ntmps85
 go_wp2
 go_ret
 exact⟨rfl,rfl⟩
theorem uB(s:Sys) (B bx be:Nat) (x:Int) (w0:World) (h:ScAt w0 B s) (w:World) (aC:Below w0.heap.size w0 w) (hx:w.cell? ⟨bx,0,none⟩=some (.pointer (some ⟨B,0,none⟩))) (hy:w.cell? ⟨be,0,none⟩=some (.int .i64 x)) :
  rH Tryz.prog 135 #[.pointer (some ⟨bx,0,none⟩),.pointer (some ⟨be,0,none⟩)] (vX (eG (aO s) x)) (eG (aO s) x).length (fun k=>k<w0.heap.size\/k=bx\/k=be) w:=by
 intro yl J Jx W hW hJ nV hY h0;have kF:=fj hx;have lP:=fj hy;have mn:=aC.size;have eT:gj (fun k=>k<w0.heap.size\/k=bx\/k=be) w W:=fun k hk=>hW.block k (by rcases hk with hk|rfl|rfl<;>first|omega|assumption)
 obtain⟨vc,vs,vt,ve,vv,vl,h1,_,_,h2⟩:=h.ex;obtain⟨pl,cl,rfl,lt1,lt2,el⟩:=h2.at;have H1:=aa h1;have HX:=aa hx;have S4:=aa hy;have HJ:=aa hJ;have Jh:=aa nV;have HY:=aa hY;have H0:=aa h0;have tx:=(eT.cell (.inr (.inl rfl))).trans hx;have za:∀ k,k<w0.heap.size->w.heap[k]?=w0.heap[k]?:=fun k hk=>aC.block k hk
 have Lg:=aa za;have tF:W.cell? ⟨B,11,none⟩=some (.slice pl (aO s).length cl):=(ab ((eT B (.inl (ar h1))).trans ((aC.block B (ar h1)).trans h1)) 11).trans rfl;have sK:=aa eT;have Dc:Hid (∀ k,k<(aO s).length->(aO s).getD k 0=x->(gE (aO s) x k).length<(eG (aO s) x).length/\(eG (aO s) x).getD (gE (aO s) x k).length 0=k):=aa fun k hk h=>UH hk h
 have ju:Hid (∀ k,(aO s).getD k 0=x->(gE (aO s) x (k+1)).length=(gE (aO s) x k).length+1):=aa fun k h=>by rw[yh h];simp
 have fD:Hid (∀ k,(aO s).getD k 0≠x->(gE (aO s) x (k+1)).length=(gE (aO s) x k).length):=aa fun k h=>by rw[Hl h]
 have jM:Hid ((gE (aO s) x (aO s).length).length=(eG (aO s) x).length):=aa rfl
 have EL:Hid (∀ (V:World),gj (fun k=>k<w0.heap.size\/k=bx\/k=be) w V->∀ i,i<(aO s).length->∃ b o,pl=some ⟨b,o,none⟩/\V.cell? ⟨b,o+i,none⟩=some (.int .i64 ((aO s).getD i 0))):=aa (fun V hV i hi=>by
  obtain⟨b,o,e1,c1,_⟩:=el i hi;rw[Nat.mul_one,<-ap 0 hi]at c1;have az:=fj c1;refine⟨b,o,e1,?_⟩;rw[hV.cell (.inl az),<-c1];unfold World.cell?
  rw[za b az])
 clear h1 hx hy h aC kF lP mn hJ nV hY h0 eT h2 el za;obtain⟨n,hn⟩:∃ n,(aO s).length=n:=⟨_,rfl⟩;rw[hn]at Dc jM EL lt1 lt2 tF;clear hn;refine(callsIn_wide (n:=0)).1 ?_;refine callsIn_of_wp Tryz.func135 rfl trivial ?_ rfl;simp only[Tryz.ntmps135,List.size_toArray,List.length_cons,List.length_nil,Nat.reduceAdd,Nat.reduceSub,Array.replicate_succ,Array.replicate_zero,List.push_toArray,List.append_toArray,List.nil_append,List.cons_append]
 gi_wp2
 clear tx tF
 gi_loopw [11] (fun i wr=>∃ k:Nat,k<=n/\i=.int .i64 k/\gj (fun k=>k<w0.heap.size\/k=bx\/k=be) w wr/\J (gE (aO s) x k).length wr) (fun i _=>n - (intOf i).toNat)
 case atStart=>exact⟨0,by omega,rfl,sK.out,H0.out⟩
 case round=>
  obtain⟨k,hk,rfl,fM,hj⟩:=hrel;have jP:=aa fM;have iX:=aa hj;clear hj;by_cases az:k<n
  ·obtain⟨b1,o1,rfl,c1⟩:=EL.out wr fM k az
   have ty:=(fM.cell (.inr (.inr rfl))).trans S4.out;clear fM;by_cases hx:(aO s).getD k 0=x
   ·have Pf:=aa (ju.out k hx)
    obtain⟨kG,nU⟩:=Dc.out k az hx;have Bd:Hid (vX (eG (aO s) x) (gE (aO s) x k).length=#[.int .i64 k]):=aa (by unfold vX;rw[nU]);rw[hx]at c1;obtain⟨c,hc⟩:∃ c,(gE (aO s) x k).length=c:=⟨_,rfl⟩;rw[hc]at kG Bd Pf iX;clear nU hx hc;have nP:(x == x)=true:=by simp
    obtain⟨fn,tmps,assign,body,n',hR⟩:=HY.out c wr kG iX.out;rw[Bd.out]at n';have HR:=aa hR;clear hR
    gi_wp2
    refine⟨rfl,HR.out.mono ?_⟩;rintro e W3 (⟨rfl,Cn,Cm,hZ⟩|⟨rfl,rB⟩)
    ·gi_wp2
     go_roundw
     case rel=>exact⟨k+1,by omega,by go_num,gj.trans jP.out hZ,by rw[Pf.out];exact Cn⟩
     case measure=>simp[intOf];omega
    ·gi_wp2
     refine bodyPost_ret (results_none rfl _ _ _) rfl ?_;exact⟨⟨_,rfl⟩,.inr ⟨_,by omega,rB⟩⟩
   ·have sU:=aa (fD.out k hx)
    have nP:((aO s).getD k 0 == x)=false:=beq_eq_false_iff_ne.2 hx;generalize (aO s).getD k 0=y at c1 nP;clear hx
    gi_wp2
    refine⟨fun f hf=>(by cases hf),?_⟩
    gi_wp2
    go_roundw
    case rel=>exact⟨k+1,by omega,by go_num,jP.out,by rw[sU.out];exact iX.out⟩
    case measure=>simp[intOf];omega
  ·obtain rfl:k=n:=by omega
   clear fM
   gi_wp2
   go_end0
   exact⟨⟨_,rfl⟩,.inl (by rw[<-jM.out];exact iX.out)⟩
end Go.Proofs.YtmeaoneaephjeaaGreatDoor
namespace Go.Proofs.YtmeaoneaephjeaaGreatDoor
open Go.RowKit Go Go.Shelf
attribute [local go_sem] Oper.semAt_some
attribute [local go_sem] xQ
theorem Kn(s:Sys) (e:Nat):gV s e<256:=fF _ 8
theorem Ko(s:Sys) (l:List Nat):comM s l<256:=fF _ 8
theorem ScAt.val{w:World} {B:Nat} {s:Sys} (h:ScAt w B s):∃ pv cv,w.cell? ⟨B,10,none⟩=some (.slice pv (eS s) cv)/\∀ e,e<eS s->∃ b o,pv=some ⟨b,o,none⟩/\w.cell? ⟨b,o+e,none⟩=some (.int .i64 (gV s e:Nat)):=by
 obtain⟨vc,vs,vt,ve,vv,vl,h1,_,h2,_⟩:=h.ex;obtain⟨pv,cv,rfl,_,_,ev⟩:=h2.at;have hl:(Do s).length=eS s:=by simp[Do]
 rw[hl]at h1;refine⟨pv,cv,(ab h1 10).trans rfl,fun e he=>?_⟩;obtain⟨b,o,e1,c1,_⟩:=ev e (by rw[hl];exact he);refine⟨b,o,e1,?_⟩;rw[Nat.mul_one]at c1;rw[c1];simp[Do]
theorem JZ(bo bs B n cv e m v b o:Nat) (hm:m<256) (hv:v<256) (he:e<n) (W:World) (h1:W.heap[bo]?=some (.cells #[.int .i64 m] 3)) (h2:W.cell? ⟨bs,0,none⟩=some (.pointer (some ⟨B,0,none⟩))) (h3:W.cell? ⟨B,10,none⟩=some (.slice (some ⟨b,o,none⟩) n cv)) (h4:W.cell? ⟨b,o+e,none⟩=some (.int .i64 v)) :
  Calls Tryz.prog 134 #[.int .i64 e,.pointer (some ⟨bo,0,none⟩),.pointer (some ⟨bs,0,none⟩)] W fun r W'=>(∃ x,r=.returned x)/\W'=W.drew.setCell ⟨bo,0,none⟩ (.int .i64 (m &&& v:Nat)):=by
 have t1:=ab h1 0;simp at t1;have Wz:=aa h1;have lE:bits .and .i64 ((m:Nat):Int) ((v:Nat):Int)=((m &&& v:Nat):Int):=zL m v (by omega) (by omega);clear h1
 go_enter Tryz.func134,Tryz.ntmps134
 go_still_tail 9,(by kernel_rfl)
 change wpList _ _ _ _ _ W.drew;have t2:W.drew.cell? ⟨bo,0,none⟩=some (.int .i64 m):=t1;have z2:W.drew.frozen? ⟨bo,0,none⟩=false:=aE Wz.out 0;clear t1 h2 h3 h4;obtain⟨V,hV⟩:∃ V,V=W.drew:=⟨_,rfl⟩;rw[<-hV]at t2 z2 ⊢;clear hV
 go_wp2_with fail
 go_end0
 exact⟨⟨_,rfl⟩,rfl⟩
structure CmI (s:Sys) (w:World) (B:Nat) (l:List Nat) (V:World):Prop where
 old:Below w.heap.size w V
 sc:V.heap[w.heap.size]?=some (.cells #[.pointer (some ⟨B,0,none⟩)] 94)
 out:V.heap[w.heap.size+1]?=some (.cells #[.int .i64 (comM s l:Nat)] 3)
 fn:V.heap[w.heap.size+1+1]?=some (.cells #[.func (.func 134) #[] #[.pointer (some ⟨w.heap.size+1,0,none⟩),.pointer (some ⟨w.heap.size,0,none⟩)]] 205)
theorem CmI.sta{s:Sys} {w:World} {B B0:Nat} {l:List Nat} (h:w.heap.size<=B0):cI B0 (CmI s w B l):=fun _ _ c x=>⟨c.below h x.old.size x.old,c.same _ _ x.sc (.inr rfl),c.same _ _ x.out (.inr rfl),c.same _ _ x.fn (.inr rfl)⟩
theorem Ca(s:Sys) (B:Nat) (gf:Nat) (lb:Array Value) (eg:∀ args w,(callFunc gf args).run Tryz.prog w=.ok (.enter gf args) w) (l:List Nat) (hl:∀ e∈l,e<eS s) (S:Nat->Prop) (w:World) (fO:ScAt w B s) (hS:∀ k,S k->k<w.heap.size)
  (da:∀ W,Below w.heap.size w W->rH Tryz.prog gf lb (vX l) l.length S W) :
  Calls Tryz.prog 84 #[.pointer (some ⟨B,0,none⟩),.func (.func gf) #[] lb] w fun r w'=>r=.returned (.int .i64 (comM s l:Nat))/\Below w.heap.size w w':=by
 have kn:=aa fO;have HL:=aa hl;have HNIL:Hid (comM s (l.take 0)=255):=aa (by rw[List.take_zero];exact AX s);have HSQ:=aa da;have ec:=enters_of Tryz.func134 (by kernel_rfl) rfl;clear fO hl da;refine fT Tryz.func84 rfl ?_;simp only[Tryz.ntmps84,List.size_toArray,List.length_cons,List.length_nil,Nat.reduceAdd,Nat.reduceSub,Array.replicate_succ,Array.replicate_zero,List.push_toArray,List.append_toArray,List.nil_append,List.cons_append]
 go_wp2_with fail
 refine bj (fun W=>CmI s w B [] W) ⟨by go_grown,am _ (am _ (ak _ _)),by rw[AX];exact am _ (ba _ _ _),dH _ _ _ _⟩ (fun W1 cC=>?_);have gc:=aa cC;have I':=cC.old.size;have da:=HSQ.out W1 cC.old;have hsf:=ar cC.fn;clear cC
 refine mg (gf:=gf) (lb:=lb) rfl eg da (Below.refl _ _) (fun k hk=>by have:=hS k hk;omega) (fun i=>rfl)
  (fun i V=>CmI s w B (l.take i) V) (fun _ _ _=>False) (fun i=>CmI.sta (by omega)) (fun c i=>cI.pure) (by rw[List.take_zero];exact gc.out) ?rnd ?done ?stop
 case stop=>rintro D' c i V hD hi h;exact h.elim
 case rnd=>
  intro yl i V hi hl iv;unfold vX;obtain⟨e,jr⟩:∃ e,l.getD i 0=e:=⟨_,rfl⟩;have wK:l[i]=e:=by rw[<-jr,ap 0 hi]
  have iN:=HL.out l[i] (List.getElem_mem hi);rw[wK]at iN;have kj:Hid (comM s (l.take (i+1))=comM s (l.take i) &&& gV s e):=aa (by rw[List.take_succ_eq_append_getElem hi,En,wK]);rw[jr];have nG:=aa iv;clear iv jr wK da
  gi_wp2
  refine⟨Bod.refl _ _ _,fun V=>CmI s w B (l.take i) V,CmI.sta (by omega),nG.out,fun V2 h2 jq=>?_⟩;have cT:=aa h2;have tf:=ab h2.fn 0;simp at tf;obtain⟨pv,cv,t10,ev⟩:=(kn.out.up h2.old).val;obtain⟨b,o,rfl,te⟩:=ev e iN;have HC:=aa (JZ (w.heap.size+1) w.heap.size B (eS s) cv e (comM s (l.take i)) (gV s e) b o (Ko _ _) (Kn _ _) iN V2 h2.out (by rw[ab h2.sc];rfl) t10 te);have Ja:=h2.old.size;clear h2 t10 ev te jq
  gi_wp2
  refine⟨trivial,rfl,wz (HC.out.mono ?_)⟩;rintro r w3 ⟨⟨x,rfl⟩,rfl⟩
  gi_wp2
  obtain⟨q1,q2,q3,q4⟩:=cT.out;refine⟨⟨by simp,fun k hk=>?_,fun k o _ hk ho=>?_⟩,⟨(q1.drew.setCell (by dsimp only;omega) _),aH (by exact q2) (by omega) _ _,?_,aH (by exact q4) (by omega) _ _⟩⟩
  ·have:=hS k hk
   exact Below.heap_setCell V2.drew _ _ _ (by dsimp only;omega)
  ·exact(KeepsOthers.setCell V2.drew _ _).same k o hk ho
  ·rw[kj.out]
   exact(aF (W:=V2.drew) q3 0 _).trans rfl
 case done=>
  intro D' V hD iv hK;rw[List.take_of_length_le (Nat.le_refl _)]at iv;have t1:=ab iv.out 0;simp at t1;have nG:=aa iv;clear iv da
  go_wp2_with fail
  refine io hK (results_tmp rfl _ _ _) ?_;exact⟨rfl,eE (by omega) nG.out.old⟩
end Go.Proofs.YtmeaoneaephjeaaGreatDoor
namespace Go.Proofs.YtmeaoneaephjeaaGreatDoor
open Go.RowKit Go Go.Shelf
attribute [local go_sem] Oper.semAt_some
theorem zu{s:Sys} (hv:verifyE s=0):0<eS s:=by
 obtain⟨hb,hs⟩:=El hv;have hp:=(jh hv).prob;obtain⟨ht,ha,_⟩:=qT hp;have h1:=(eX ht).2.2.2.1.1;have h2:=hH ha;have h3:=Ey h2.2.1 (by have:=h2.1;omega) s.prob.rounds.toNat 0 (by have:=h2.1;omega);rw[hs]
 show 0<(execsS s.prob (aI s.prob) (jd s.prob.t.cases.length (aI s.prob).length)).2.length
 unfold execsS;rw[xE,xF];have:0<(aI s.prob).length:=h3;have:=Nat.mul_pos (show 0<s.prob.t.cases.length by omega) this;simp;omega
def ng(s:Sys):Nat:=(maxTo (aO s) ((aO s).length - 1)).toNat
def kA(s:Sys) (k:Nat):List Int:=(List.range k).map fun x:Nat=>comB s (eG (aO s) x)
def iR(s:Sys):List Int:=kA s (ng s+1)
theorem ky(s:Sys) (e:Nat) (he:e<eS s):0<=(aO s).getD e 0/\(aO s).getD e 0<=e:=tg (vV s _) e (by rw[ir];exact he)
theorem Cb{s:Sys} (h0:0<eS s):maxTo (aO s) ((aO s).length - 1)=(ng s:Int)/\ng s<eS s:=by
 obtain⟨i,hi,e⟩:=A5 (aO s) ((aO s).length - 1);rw[gB]at hi;have h1:=ky s i (by omega);unfold ng;rw[e];exact⟨by omega,by omega⟩
theorem pD{s:Sys} (h0:0<eS s) (e:Nat) (he:e<eS s):((aO s).getD e 0).toNat<=ng s:=by
 have h1:=Hj (aO s) ((aO s).length - 1) e (by rw[gB];omega);have h2:=(Cb h0).1;omega
theorem nh{f:Nat->Int} {n k:Nat} (h:k<n):((List.range n).map f).getD k 0=f k:=by simp[h]
theorem Oz{s:Sys} (h0:0<eS s) (e:Nat) (he:e<eS s):(iR s).getD ((aO s).getD e 0).toNat 0=(dm s).getD e 0:=by
 have h1:=pD h0 e he;have h2:=ky s e he;unfold iR kA dm;rw[nh (by omega),nh he,show ((((aO s).getD e 0).toNat:Nat):Int)=(aO s).getD e 0 by omega]
theorem uC{s:Sys} {x:Int}:∀ e∈eG (aO s) x,e<eS s:=fun e he=>by
 have:=(vE.1 he).1;rw[gB]at this;exact this
theorem DK(s:Sys) (l:List Nat) (ho:oS s<=8):bI (comB s l):=by
 have:=Lt s l;unfold comB at *;rcases bD (oS s) (fun v=>l.all fun e=>valB s e v) with ⟨e,_⟩|⟨k,hk,e,_⟩
 ·rw[e];exact⟨by omega,by omega⟩
 ·rw[e];exact⟨by omega,by omega⟩
theorem tz(s:Sys) (hs:SysOk s) (h0:0<eS s) (hE:eS s<=256) (B:Nat) (w:World) (fO:ScAt w B s) (hT:ii w) :
  Calls Tryz.prog 41 #[.pointer (some ⟨B,0,none⟩)] w fun r w'=>∃ u,r=.returned u/\aY w' u (iR s)/\Below w.heap.size w w':=by
 obtain⟨vc,vs,vt,ve,vv,vl,h1,_,_,h2⟩:=fO.ex;obtain⟨pl,cl,rfl,lt1,lt2,el⟩:=h2.at;have tl:w.cell? ⟨B,11,none⟩=some (.slice pl (aO s).length cl):=(ab h1 11).trans rfl;obtain⟨i0,cG,cf,bP,cj⟩:=info_parts Tryz.infoInt;have bQ:=aa (And.intro cG (And.intro cf (And.intro bP cj)));have gO:=aa (F3 _ _ w h2 (by rw[gB];exact h0));have htop:=(Cb h0).2;rw[(Cb h0).1]at gO;have kn:=aa fO;have HT:=aa hT;have VJ:=aa (fun (k:Nat) (W:World) (hb:Below w.heap.size w W) (q:Nat) (hq:comB s (eG (aO s) k)=firstIx 8 (vA s (eG (aO s) k)))=>B' (vA s (eG (aO s) k)) W (hT.up hb));have gU:Hid (∀ k:Nat,comB s (eG (aO s) k)=firstIx 8 (vA s (eG (aO s) k))):=aa fun k=>Kc hs uC
 have wJ:Hid (kA s 0=[]/\(∀ k,kA s (k+1)=kA s k++[comB s (eG (aO s) k)])/\(∀ k,(kA s k).length=k)/\∀ k,∀ x∈kA s k,bI x):=aa ⟨rfl,fun k=>by simp[kA,List.range_succ],fun k=>by simp[kA],fun k x hx=>by
  obtain⟨j,_,rfl⟩:=List.mem_map.1 hx
  exact DK s _ hs.outs.2.1⟩
 have k8:Hid (kA s (ng s+1)=iR s):=aa rfl;obtain⟨M,hM⟩:∃ M,ng s=M:=⟨_,rfl⟩;rw[hM]at htop gO k8;clear h1 h2 fO hT cG cf bP cj el hM
 go_enter Tryz.func41,Tryz.ntmps41
 go_wp2_with fail
 refine gO.out.mono ?_;rintro e w1 ⟨rfl,rfl⟩;clear tl
 go_wp2_with fail
 go_loopw [3,11] (fun o i wr=>∃ k:Nat,k<=M+1/\i=.int .i64 k/\Below w.heap.size w wr/\aD wr w.heap.size 3 1 o k ((kA s k).map (Value.int .i64))) (fun _ i _=>M+1 - (intOf i).toNat)
 case atStart=>exact⟨0,by omega,rfl,Below.refl _ _,by rw[wJ.out.1];exact aD.nil _ _ _ _⟩
 case round=>
  obtain⟨k,hk,rfl,aq,aX⟩:=hrel;obtain⟨al,cl2,rfl⟩:=aX.slice;have bL:=aa aX;have aR:=aa aq;have wU:=aq.size;clear aX aq;by_cases az:k<M+1
  ·have nE:(k:Int)<(M:Int)+1:=by omega
   go_wp2_with fail
   refine(wF B k wr).mono ?_;rintro e w2 ⟨rfl,rfl⟩
   go_wp2_with fail
   refine aL (fun W=>Below wr.heap.size wr W/\W.heap[wr.heap.size]?=some (.cells #[.pointer (some ⟨B,0,none⟩)] 94)/\W.heap[wr.heap.size+1]?=some (.cells #[.int .i64 k] 3)) ⟨by go_grown,am _ (ak _ _),ba _ _ _⟩ (fun W2 eF=>?_);obtain⟨aV,dU,iD⟩:=eF;have rE:=ae aR.out aV;have Je:=ar iD;refine(Ca s B 135 _ (enters_of Tryz.func135 (by kernel_rfl) rfl) (eG (aO s) k) uC (fun q=>q<wr.heap.size\/q=wr.heap.size\/q=wr.heap.size+1) W2 (kn.out.up rE) (fun q hq=>by rcases hq with hq|rfl|rfl<;>omega) (fun W hb=>uB s B wr.heap.size (wr.heap.size+1) k wr (kn.out.up aR.out) W (ae aV hb) (by rw[ab (af hb dU)];rfl) (by rw[ab (af hb iD)];rfl))).mono ?_;rintro e w3 ⟨rfl,bA⟩;have tV:=ae rE bA;have nJ:=aa (ae aV bA);clear dU iD aV rE bA
   go_wp2_with fail
   refine(VJ.out k w3 tV 0 (gU.out k)).mono ?_;rintro e w4 ⟨rfl,rfl⟩;rw[<-gU.out k];obtain⟨x,hx⟩:∃ x,comB s (eG (aO s) k)=x:=⟨_,rfl⟩;rw[hx];have jy:Hid (kA s (k+1)=kA s k++[x]):=aa (by rw[<-hx];exact wJ.out.2.1 k);have dX:=aa ((bL.out.up nJ.out).up ((Below.refl _ w3).alloc (Nat.le_refl _) (.cells #[.int .i64 x] 3)));have bB:=aa (eA w3 [.int .i64 x] 3);have dP:=aa tV;have oP:Hid (k+1<=maxLen):=aa (by unfold maxLen;omega);have eo:Hid ((k+1) * 8<=140737488355328):=aa (by omega);have fL:Hid (w.heap.size<=(w3.alloc (.cells #[.int .i64 x] 3)).heap.size):=aa (by have:=dP.out.size;simp;omega);clear tV hx
   go_wp2_with (at_builtin;(refine aZ _ rfl (.tmp 14) (.tmp 21) 38 rfl w.heap.size 3 i0 _ 1 8 Tryz.underlying38 bQ.out.1 bQ.out.2.1 bQ.out.2.2.1 bQ.out.2.2.2 rfl (by decide) _ k _ rfl dX.out ⟨w3.heap.size,0,none⟩ 1 1 [.int .i64 x] rfl rfl bB.out (by simp[Value.oneCell']) oP.out eo.out fL.out ?_;intro v6 w6 gF fN _))
   go_roundw
   case rel=>
    refine⟨k+1,by omega,by go_num,eR dP.out (Nat.le_refl _) dX.out fN,?_⟩;rw[jy.out,List.map_append];exact gF
   case measure=>simp[intOf];omega
  ·obtain rfl:k=M+1:=by omega
   have nE:¬ ((M:Int)+1<(M:Int)+1):=by omega
   go_wp2_with fail
   go_ret
   refine⟨_,rfl,?_,aR.out⟩;rw[<-k8.out];have h3:=wJ.out.2.2.1 (M+1);exact gX (base:=w.heap.size) (by rw[h3];exact bL.out) (wJ.out.2.2.2 _) (by omega)
def il(s:Sys) (e k:Nat):List Int:=((List.range k).filter (valB s e)).map fun v:Nat=>(v:Int)
theorem Q5{s:Sys} (h:SysOk s) {e:Nat} (he:e<eS s):il s e 8=valuesS s e:=by
 unfold il valuesS;have ho:=h.outs.2.1;obtain⟨d,hd⟩:∃ d,8=oS s+d:=⟨8 - oS s,by omega⟩
 have jH:((List.range d).map (oS s+·)).filter (valB s e)=[]:=List.filter_eq_nil_iff.2 fun v hv h2=>by
  obtain⟨j,_,rfl⟩:=List.mem_map.1 hv;have:=NA h he h2;omega
 rw[hd,List.range_add,List.filter_append,jH,List.append_nil]
theorem Hm{s:Sys} {e k:Nat} (h:valB s e k=true):il s e (k+1)=il s e k++[(k:Int)]:=by
 unfold il;rw[List.range_succ,List.filter_append,List.map_append];simp[h]
theorem Kp{s:Sys} {e k:Nat} (h:valB s e k=false):il s e (k+1)=il s e k:=by
 unfold il;rw[List.range_succ,List.filter_append,List.map_append];simp[h]
theorem A6(s:Sys) (e k:Nat):(il s e k).length<=k:=by
 unfold il;rw[List.length_map];exact Nat.le_trans (List.length_filter_le _ _) (by simp)
theorem oL(w:World):aY w (.slice none 0 0) []:=gX (aD.nil w 0 _ _) (by simp) (by simp)
theorem LY(s:Sys) (x:Int) (hE:eS s<=256) (vc vs vt ve:Value) (w:World) (hs:IsSys w s vc vs vt ve) (hN:movesN s.prob.a.states<1099511627776) :
  Calls Tryz.prog 11 #[.agg (bE s.prob vc vs s.n vt ve),.int .i64 x] w fun r w'=>∃ u,r=.returned (.tuple #[u,.int .i64 (valuesR s x).2])/\aY w' u (valuesR s x).1/\Below w.heap.size w w':=by
 have HS:=aa hs;obtain⟨⟨pc,cc,rfl⟩,⟨ps,cs,rfl⟩,⟨pt,ct,rfl⟩,⟨pe,ce,rfl⟩⟩:=bg hs;clear hs;have HC:=aa (fun W (hb:Below w.heap.size w W)=>nf s hE _ _ _ _ W (HS.out.up hb) hN);obtain⟨i0,cG,cf,bP,cj⟩:=info_parts Tryz.infoInt;have bQ:=aa (And.intro cG (And.intro cf (And.intro bP cj)))
 have di:Hid (readyE s=0->SysOk s):=aa fun h=>by
  refine jh ?_;unfold readyE at h;split at h
  ·rename_i h1;exact absurd h h1
  ·omega
 have cX:Hid (readyE s≠0->valuesR s x=([],readyE s)):=aa fun h=>by unfold valuesR;rw[if_pos h]
 have dE:Hid (readyE s=0->(x<0\/(eS s:Int)<=x)->valuesR s x=([],6)):=aa fun h h2=>by unfold valuesR;rw[if_neg (by omega),if_pos h2]
 have fZ:Hid (readyE s=0->¬ (x<0\/(eS s:Int)<=x)->valuesR s x=(valuesS s x.toNat,0)):=aa fun h h2=>by unfold valuesR;rw[if_neg (by omega),if_neg h2]
 generalize valuesR s x=vr at cX dE fZ ⊢;obtain⟨re,mG⟩:∃ re,readyE s=re:=⟨_,rfl⟩;rw[mG]at cX dE fZ HC di;clear mG cG cf bP cj
 go_enter Tryz.func11,Tryz.ntmps11
 go_wp2_with fail
 refine aL (fun W=>Below w.heap.size w W) (by go_grown) (fun W0 aC=>?_);refine(HC.out W0 aC).mono ?_;rintro e w1 ⟨v,rfl,aG,h2,h3⟩;have bC:=aa (ae aC aG);by_cases hr:re=0
 case neg=>
  have HV:=aa (cX.out hr);obtain rfl:=h2 hr;have Fl:(re != 0)=true:=by simpa using hr
  clear aC aG h2 h3 hr HC
  go_wp2_with fail
  go_ret2
  exact⟨_,by rw[HV.out];rfl,by rw[HV.out];exact oL _,bC.out⟩
 obtain⟨B,rfl,hB,fO⟩:=h3 hr;have kn:=aa fO;obtain⟨pv,cv,tv,ev⟩:=fO.val;have EV:=aa ev;have IR:=aa (di.out hr);subst hr;have fP:=bC.out.size;clear aC aG h2 h3 HC fO ev;by_cases cS:x<0
 ·have HV:=aa (dE.out rfl (.inl cS))
  have hd:decide (x<0)=true:=decide_eq_true cS;clear cS
  go_wp2_with fail
  go_ret2
  exact⟨_,by rw[HV.out];rfl,by rw[HV.out];exact oL _,bC.out⟩
 have hd:decide (x<0)=false:=decide_eq_false cS;obtain⟨e,rfl⟩:∃ e:Nat,x=e:=⟨x.toNat,by omega⟩;by_cases dj:eS s<=e
 ·have HV:=aa (dE.out rfl (.inr (by omega)))
  have fS:decide ((eS s:Int)<=(e:Int))=true:=decide_eq_true (by omega);have pH:decide (eS s<=e)=true:=decide_eq_true dj;clear cS dj
  go_wp2_with fail
  go_ret2
  exact⟨_,by rw[HV.out];rfl,by rw[HV.out];exact oL _,bC.out⟩
 have fS:decide ((eS s:Int)<=(e:Int))=false:=decide_eq_false (by omega);have pH:decide (eS s<=e)=false:=decide_eq_false dj;have HV:=aa (fZ.out rfl (by omega));have he:e<eS s:=by omega
 obtain⟨b,o,rfl,te⟩:=EV.out e he;have AL:Hid (il s e 8=valuesS s e):=aa (Q5 IR.out he);clear cS dj
 go_wp2_with fail
 go_loopw [8,29] (fun q i wr=>∃ k:Nat,k<=8/\i=.int .i64 k/\Below w1.heap.size w1 wr/\aD wr w1.heap.size 3 1 q (il s e k).length ((il s e k).map (Value.int .i64))) (fun _ i _=>8 - (intOf i).toNat)
 case atStart=>exact⟨0,by omega,rfl,Below.refl _ _,aD.nil _ _ _ _⟩
 case round=>
  obtain⟨k,hk,rfl,aq,aX⟩:=hrel;obtain⟨al,cl2,rfl⟩:=aX.slice;have bL:=aa aX;have aR:=aa aq;have wU:=aq.size;have tvr:=ai aR.out tv;have ter:=ai aR.out te;clear aX aq;by_cases az:k<8
  ·have nE:(k:Int)<8:=by omega
   have gq:=qG ((gV s e:Nat):Int) k;have V4:hasB ((gV s e:Nat):Int) k=valB s e k:=by unfold gV;rw[jg,decide_eq_true az,Bool.true_and]
   rw[V4]at gq;have sp:=A6 s e k;cases hb:valB s e k with
   | true=>
    have HY:=aa (Hm hb);rw[hb]at gq;obtain⟨n,hn⟩:∃ n,(il s e k).length=n:=⟨_,rfl⟩;rw[hn]at sp bL ⊢;have sT:Hid ((il s e (k+1)).length=n+1):=aa (by rw[HY.out,List.length_append,hn];rfl);have dX:=aa (bL.out.up ((Below.refl _ wr).alloc (Nat.le_refl _) (.cells #[.int .i64 k] 3)));have bB:=aa (eA wr [.int .i64 (k:Int)] 3);have oP:Hid (n+1<=maxLen):=aa (by unfold maxLen;omega);have eo:Hid ((n+1) * 8<=140737488355328):=aa (by omega);have fL:Hid (w1.heap.size<=(wr.alloc (.cells #[.int .i64 k] 3)).heap.size):=aa (by simp;omega);clear hb V4 hn
    go_wp2_with (at_builtin;(refine aZ _ rfl (.tmp 43) (.tmp 45) 38 rfl w1.heap.size 3 i0 _ 1 8 Tryz.underlying38 bQ.out.1 bQ.out.2.1 bQ.out.2.2.1 bQ.out.2.2.2 rfl (by decide) _ n _ rfl dX.out ⟨wr.heap.size,0,none⟩ 1 1 [.int .i64 (k:Int)] rfl rfl bB.out (by simp[Value.oneCell']) oP.out eo.out fL.out ?_;intro v6 w6 gF fN _))
    go_roundw
    case rel=>
     refine⟨k+1,by omega,by go_num,eR aR.out (Nat.le_refl _) dX.out fN,?_⟩;rw[sT.out,HY.out,List.map_append];exact gF
    case measure=>simp[intOf];omega
   | false=>
    have HY:=aa (Kp hb);rw[hb]at gq;clear hb V4
    go_wp2_with fail
    go_roundw
    case rel=>
     refine⟨k+1,by omega,by go_num,aR.out,?_⟩;rw[HY.out];exact bL.out
    case measure=>simp[intOf];omega
  ·obtain rfl:k=8:=by omega
   clear tvr ter
   go_wp2_with fail
   go_ret2
   refine⟨_,by rw[HV.out];rfl,?_,ae bC.out aR.out⟩;rw[HV.out,Int.toNat_natCast,<-AL.out];refine gX (l:=il s e 8) bL.out (fun y hy=>?_) (by have:=A6 s e 8;omega);obtain⟨j,hj,rfl⟩:=List.mem_map.1 hy;have:=List.mem_range.1 (List.mem_filter.1 hj).1;exact⟨by omega,by omega⟩
theorem LZ(s:Sys) (hE:eS s<=256) (vc vs vt ve:Value) (w:World) (hT:ii w) (hs:IsSys w s vc vs vt ve) (hN:movesN s.prob.a.states<1099511627776) :
  Calls Tryz.prog 13 #[.agg (bE s.prob vc vs s.n vt ve)] w fun r w'=>∃ u,r=.returned (.tuple #[u,.int .i64 (choiceR s).2])/\aY w' u (choiceR s).1/\Below w.heap.size w w':=by
 have HS:=aa hs;have HT:=aa hT;obtain⟨⟨pc,cc,rfl⟩,⟨ps,cs,rfl⟩,⟨pt,ct,rfl⟩,⟨pe,ce,rfl⟩⟩:=bg hs;clear hs hT;have HC:=aa (fun W (hb:Below w.heap.size w W)=>nf s hE _ _ _ _ W (HS.out.up hb) hN);obtain⟨i0,cG,cf,bP,cj⟩:=info_parts Tryz.infoInt;have bQ:=aa (And.intro cG (And.intro cf (And.intro bP cj)))
 have nZ:Hid (readyE s=0->verifyE s=0):=aa fun h=>by
  unfold readyE at h;split at h
  ·rename_i h1;exact absurd h h1
  ·omega
 have cX:Hid (readyE s≠0->choiceR s=([],readyE s)):=aa fun h=>by unfold choiceR;rw[if_pos h]
 have fZ:Hid (readyE s=0->choiceR s=(dm s,0)):=aa fun h=>by unfold choiceR;rw[if_neg (by omega)]
 generalize choiceR s=vr at cX fZ ⊢;obtain⟨re,mG⟩:∃ re,readyE s=re:=⟨_,rfl⟩;rw[mG]at cX fZ HC nZ;clear mG cG cf bP cj
 go_enter Tryz.func13,Tryz.ntmps13
 go_wp2_with fail
 refine aL (fun W=>Below w.heap.size w W) (by go_grown) (fun W0 aC=>?_);refine(HC.out W0 aC).mono ?_;rintro e w1 ⟨v,rfl,aG,h2,h3⟩;have bC:=aa (ae aC aG);by_cases hr:re=0
 case neg=>
  have HV:=aa (cX.out hr);obtain rfl:=h2 hr;have Fl:(re != 0)=true:=by simpa using hr
  clear aC aG h2 h3 hr HC
  go_wp2_with fail
  go_ret2
  exact⟨_,by rw[HV.out];rfl,by rw[HV.out];exact oL _,bC.out⟩
 obtain⟨B,rfl,hB,fO⟩:=h3 hr;have kn:=aa fO;have HV:=aa (fZ.out hr);have sH:=aa (nZ.out hr);have di:=aa (jh sH.out);have HP:=aa (zu sH.out);subst hr;have fP:=bC.out.size;clear aC aG h2 h3 HC fO
 go_wp2_with fail
 refine(tz s di.out HP.out hE B w1 kn.out (HT.out.up bC.out)).mono ?_;rintro e w2 ⟨u,rfl,hu,aV⟩;have HU:=aa hu;obtain⟨pu,cu,rfl,eu⟩:=fG hu;have EU:=aa eu;have cB:=aa (ae bC.out aV);obtain⟨vc,vs,vt,ve,vv,vl,q1,_,_,q2⟩:=(kn.out.up aV).ex;obtain⟨pl,cl,rfl,el⟩:=fG q2;have EL:=aa el;have tl:w2.cell? ⟨B,11,none⟩=some (.slice pl (aO s).length cl):=(ab q1 11).trans rfl;have qE:Hid ((iR s).length=ng s+1):=aa (by simp[iR,kA]);have HL:Hid ((aO s).length=eS s):=aa (gB s);obtain⟨L,hL⟩:∃ L:Nat->List Int,L=fun k=>(List.range k).map fun e=>(dm s).getD e 0:=⟨_,rfl⟩
 have kU:Hid (L 0=[]/\(∀ k,L (k+1)=L k++[(dm s).getD k 0])/\(∀ k,(L k).length=k)/\L (eS s)=dm s/\∀ k,k<=eS s->∀ x∈L k,bI x):=aa (by
  subst hL;refine⟨rfl,fun k=>by simp[List.range_succ],fun k=>by simp,?_,fun k hk x hx=>?_⟩
  ·unfold dm
   exact List.map_congr_left fun e he=>nh (List.mem_range.1 he)
  ·obtain⟨j,hj,rfl⟩:=List.mem_map.1 hx
   have:=List.mem_range.1 hj;unfold dm;rw[nh (by omega)]
   exact DK s _ di.out.outs.2.1)
 have qz:Hid (∀ k,k<eS s->0<=(aO s).getD k 0/\((aO s).getD k 0).toNat<(iR s).length/\(iR s).getD ((aO s).getD k 0).toNat 0=(dm s).getD k 0):=aa fun k hk=>⟨(ky s k hk).1,by have:=pD HP.out k hk;have:=qE.out;omega,Oz HP.out k hk⟩
 rw[HL.out]at tl EL;obtain⟨m,hm⟩:∃ m,eS s=m:=⟨_,rfl⟩;rw[hm]at hE kU qz tl EL;clear hu eu aV q1 q2 el hL hm;obtain⟨cn,CF⟩:∃ cn,(iR s).length=cn:=⟨_,rfl⟩;rw[CF]at EU qz ⊢;clear CF qE HL
 go_wp2_with fail
 clear tl
 go_loopw [7,25] (fun q i wr=>∃ k:Nat,k<=m/\i=.int .i64 k/\Below w2.heap.size w2 wr/\aD wr w2.heap.size 3 1 q k ((L k).map (Value.int .i64))) (fun _ i _=>m - (intOf i).toNat)
 case atStart=>exact⟨0,by omega,rfl,Below.refl _ _,by rw[kU.out.1];exact aD.nil _ _ _ _⟩
 case round=>
  obtain⟨k,hk,rfl,aq,aX⟩:=hrel;obtain⟨al,cl2,rfl⟩:=aX.slice;have bL:=aa aX;have aR:=aa aq;have wU:=aq.size;clear aX;by_cases az:k<m
  ·obtain⟨b,o,rfl,c1⟩:=EL.out k az
   obtain⟨g1,g2,g3⟩:=qz.out k az;obtain⟨n,hn⟩:∃ n:Nat,(aO s).getD k 0=n:=⟨((aO s).getD k 0).toNat,by omega⟩;rw[hn,Int.toNat_natCast]at g2 g3;obtain⟨b2,o2,rfl,c2⟩:=EU.out n g2;rw[g3]at c2;rw[hn]at c1;have d1:=ai aq c1;have d2:=ai aq c2;have jy:=aa (kU.out.2.1 k);generalize (dm s).getD k 0=x at d2 jy;have dX:=aa (bL.out.up ((Below.refl _ wr).alloc (Nat.le_refl _) (.cells #[.int .i64 x] 3)));have bB:=aa (eA wr [.int .i64 x] 3);have oP:Hid (k+1<=maxLen):=aa (by unfold maxLen;omega);have eo:Hid ((k+1) * 8<=140737488355328):=aa (by omega);have fL:Hid (w2.heap.size<=(wr.alloc (.cells #[.int .i64 x] 3)).heap.size):=aa (by simp;omega);clear g1 g3 hn c1 c2 aq
   go_wp2_with (at_builtin;(refine aZ _ rfl (.tmp 29) (.tmp 34) 38 rfl w2.heap.size 3 i0 _ 1 8 Tryz.underlying38 bQ.out.1 bQ.out.2.1 bQ.out.2.2.1 bQ.out.2.2.2 rfl (by decide) _ k _ rfl dX.out ⟨wr.heap.size,0,none⟩ 1 1 [.int .i64 x] rfl rfl bB.out (by simp[Value.oneCell']) oP.out eo.out fL.out ?_;intro v6 w6 gF fN _))
   go_roundw
   case rel=>
    refine⟨k+1,by omega,by go_num,eR aR.out (Nat.le_refl _) dX.out fN,?_⟩;rw[jy.out,List.map_append];exact gF
   case measure=>simp[intOf];omega
  ·obtain rfl:k=m:=by omega
   clear aq
   go_wp2_with fail
   go_ret2
   refine⟨_,by rw[HV.out];rfl,?_,ae cB.out aR.out⟩;rw[HV.out,<-kU.out.2.2.2.1];exact gX (l:=L k) (by rw[kU.out.2.2.1 k];exact bL.out) (kU.out.2.2.2.2 k (Nat.le_refl _)) (by have:=kU.out.2.2.1 k;omega)
theorem OA(q:Nat->Bool) (p:Nat) (hp:p<=10) (w:World) :
  Calls Tryz.prog 180 #[.int .i64 (maskN q p:Nat),.int .i64 p] w fun r w'=>r=.returned (.int .i64 ((maskN q p:Nat)+2 ^ p))/\w=w':=by
 have az:=fF q p;have h2:(2:Nat) ^ p<=2 ^ 10:=Nat.pow_le_pow_right (by omega) hp;have HH:=aa (fun w=>jX ((maskN q p:Nat):Int) p (by omega) (by omega) (by omega) w);have hb:hasB ((maskN q p:Nat):Int) p=false:=by rw[jg,decide_eq_false (by omega)];rfl
 rw[hb]at HH;have HP:=aa (fun w=>qO p (by omega) w);have TU:((2:Int) ^ p)=((2 ^ p:Nat):Int):=by simp
 rw[TU]at HP ⊢;generalize maskN q p=m at *;generalize 2 ^ p=x at *;clear hb TU
 go_enter Tryz.func180,Tryz.ntmps180
 go_wp2_with (first|(go_at_call 47;refine(HH.out _).mono ?_;rintro e w' ⟨rfl,rfl⟩)|(go_at_call 88;refine(HP.out _).mono ?_;rintro e w' ⟨rfl,rfl⟩))
 go_ret
 exact⟨rfl,rfl⟩
def ja(x:Int) (k:Nat):List Int:=((List.range k).filter (hasB x)).map fun v:Nat=>(v:Int)
theorem OB(x:Int) (h0:0<=x) (h1:x<1024) (w:World) :
  Calls Tryz.prog 143 #[.int .i64 x] w fun r w'=>∃ u,r=.returned u/\aY w' u (ja x 5)/\Below w.heap.size w w':=by
 obtain⟨i0,cG,cf,bP,cj⟩:=info_parts Tryz.infoInt;have bQ:=aa (And.intro cG (And.intro cf (And.intro bP cj)));have HH:=aa (fun p (hp:p<=30) w=>jX x p hp h0 (by omega) w)
 have HE:Hid (ja x 0=[]/\(∀ k,hasB x k=true->ja x (k+1)=ja x k++[(k:Int)])/\(∀ k,hasB x k=false->ja x (k+1)=ja x k)/\(∀ k,(ja x k).length<=k)/\∀ k,k<=5->∀ y∈ja x k,bI y):=aa ⟨rfl,fun k h=>by unfold ja;rw[List.range_succ,List.filter_append,List.map_append];simp[h],fun k h=>by unfold ja;rw[List.range_succ,List.filter_append,List.map_append];simp[h],fun k=>by unfold ja;rw[List.length_map];exact Nat.le_trans (List.length_filter_le _ _) (by simp),fun k hk y hy=>by
  obtain⟨j,hj,rfl⟩:=List.mem_map.1 hy;have:=List.mem_range.1 (List.mem_filter.1 hj).1
  exact⟨by omega,by omega⟩⟩
 clear cG cf bP cj
 go_enter Tryz.func143,Tryz.ntmps143
 go_wp2_with fail
 go_loopw [3,4] (fun q i wr=>∃ k:Nat,k<=5/\i=.int .i64 k/\Below w.heap.size w wr/\aD wr w.heap.size 3 1 q (ja x k).length ((ja x k).map (Value.int .i64))) (fun _ i _=>5 - (intOf i).toNat)
 case atStart=>exact⟨0,by omega,rfl,Below.refl _ _,by rw[HE.out.1];exact aD.nil _ _ _ _⟩
 case round=>
  obtain⟨k,hk,rfl,aq,aX⟩:=hrel;obtain⟨al,cl2,rfl⟩:=aX.slice;have bL:=aa aX;have aR:=aa aq;have wU:=aq.size;clear aX aq;by_cases az:k<5
  ·have nE:(k:Int)<5:=by omega
   have sp:=HE.out.2.2.2.1 k;have Tx:=aa (fun w=>HH.out k (by omega) w);obtain⟨n,hn⟩:∃ n,(ja x k).length=n:=⟨_,rfl⟩;rw[hn]at sp bL ⊢;cases hb:hasB x k with
   | true=>
    have HY:=aa (HE.out.2.1 k hb);rw[hb]at Tx;have sT:Hid ((ja x (k+1)).length=n+1):=aa (by rw[HY.out,List.length_append,hn];rfl);have dX:=aa (bL.out.up ((Below.refl _ wr).alloc (Nat.le_refl _) (.cells #[.int .i64 k] 3)));have bB:=aa (eA wr [.int .i64 (k:Int)] 3);have oP:Hid (n+1<=maxLen):=aa (by unfold maxLen;omega);have eo:Hid ((n+1) * 8<=140737488355328):=aa (by omega);have fL:Hid (w.heap.size<=(wr.alloc (.cells #[.int .i64 k] 3)).heap.size):=aa (by simp;omega);clear hb hn
    go_wp2_with fail
    refine(Tx.out wr).mono ?_;rintro e w' ⟨rfl,rfl⟩
    go_wp2_with (at_builtin;(refine aZ _ rfl (.tmp 12) (.tmp 14) 38 rfl w.heap.size 3 i0 _ 1 8 Tryz.underlying38 bQ.out.1 bQ.out.2.1 bQ.out.2.2.1 bQ.out.2.2.2 rfl (by decide) _ n _ rfl dX.out ⟨wr.heap.size,0,none⟩ 1 1 [.int .i64 (k:Int)] rfl rfl bB.out (by simp[Value.oneCell']) oP.out eo.out fL.out ?_;intro v6 w6 gF fN _))
    go_roundw
    case rel=>
     refine⟨k+1,by omega,by go_num,eR aR.out (Nat.le_refl _) dX.out fN,?_⟩;rw[sT.out,HY.out,List.map_append];exact gF
    case measure=>simp[intOf];omega
   | false=>
    have HY:=aa (HE.out.2.2.1 k hb);rw[hb]at Tx;have HN:=aa hn;clear hb hn
    go_wp2_with fail
    refine(Tx.out wr).mono ?_;rintro e w' ⟨rfl,rfl⟩
    go_wp2_with fail
    go_roundw
    case rel=>
     refine⟨k+1,by omega,by go_num,aR.out,?_⟩;rw[HY.out,HN.out];exact bL.out
    case measure=>simp[intOf];omega
  ·obtain rfl:k=5:=by omega
   go_wp2_with fail
   go_ret
   exact⟨_,rfl,gX (l:=ja x 5) bL.out (HE.out.2.2.2.2 5 (Nat.le_refl _)) (by have:=HE.out.2.2.2.1 5;omega),aR.out⟩
theorem UI{s:Sys} {p:Nat} (hp:p<nS s) (e:Nat):hasB ((oblM s e:Nat):Int) p=!hasB (fltS s e) p:=by unfold oblM;rw[jg,decide_eq_true hp,Bool.true_and]
theorem OC{s:Sys} (h:nS s<=5) (e:Nat):oblM s e<32:=by
 have h1:=fF (fun p=>!hasB (fltS s e) p) (nS s);have h4:(2:Nat) ^ nS s<=2 ^ 5:=Nat.pow_le_pow_right (by omega) h;unfold oblM;omega
theorem Cc(s:Sys) (hs:SysOk s) (p e f:Nat) (hp:p<nS s) (he:e<eS s) (hf:f<eS s) (vc vs vt ve:Value) (w:World) (bX:IsSys w s vc vs vt ve) :
  Calls Tryz.prog 139 #[.agg (bE s.prob vc vs s.n vt ve),.int .i64 p,.int .i64 e,.int .i64 f] w fun r w'=>r=.returned (.bool (linkB s p e f))/\Below w.heap.size w w':=by
 have HS:=aa bX;obtain⟨⟨pc,cc,rfl⟩,⟨ps,cs,rfl⟩,⟨pt,ct,rfl⟩,⟨pe,ce,rfl⟩⟩:=bg bX;clear bX;have HME:=aa (fun W (hb:Below w.heap.size w W)=>EJ s hs e he _ _ _ _ W (HS.out.up hb));have HMF:=aa (fun W (hb:Below w.heap.size w W)=>EJ s hs f hf _ _ _ _ W (HS.out.up hb));have ic:=hs.n.2.1;have lu:=OC ic e;have hlf:=OC ic f;have WK:=aa (fun w=>jX ((oblM s e:Nat):Int) p (by omega) (by omega) (by omega) w);have Wa:=aa (fun w=>jX ((oblM s f:Nat):Int) p (by omega) (by omega) (by omega) w);rw[UI hp]at WK Wa;have gk:Hid (linkB s p e f=(!hasB (fltS s e) p&&!hasB (fltS s f) p&&decide (finS s e p=finS s f p))):=aa rfl;obtain⟨b,o,_,ce1,e0,rfl,_,_,_,_,cv1,-,-,c3,-,-,-,b2,o2,pr,cr,rfl,c4,bV⟩:=iu hs HS.out.ex he;injection e0 with e01 e02 e03
 subst e01;clear e02 e03;obtain⟨b',o',_,ce2,e0,e4,_,_,_,_,cv2,-,-,d3,-,-,-,b3,o3,pr',cr',rfl,d4,l9⟩:=iu hs HS.out.ex hf;injection e0 with e01 e02 e03
 injection e01 with e01
 injection e01 with e011 e012
 subst e011 e012;clear e02 e03 e4;have pL:=hs.rounds;obtain⟨rr,CV⟩:∃ rr:Nat,s.prob.rounds=rr:=⟨s.prob.rounds.toNat,by omega⟩;have Fs:s.prob.rounds.toNat=rr:=by omega
 rw[Fs]at c3 c4 d3 d4;obtain⟨pa,ca,ea,r1⟩:=fG bV;injection ea with ea1 ea2 ea3
 subst ea1 ea3;clear ea2;obtain⟨pa',ca',ea,r2⟩:=fG l9;injection ea with ea1 ea2 ea3
 subst ea1 ea3;clear ea2;obtain⟨b6,o6,rfl,f1⟩:=r1 p (by simpa using hp);obtain⟨b7,o7,rfl,f2⟩:=r2 p (by simpa using hp);rw[nh hp]at f1 f2;have Tn:s.ex.length=eS s:=rfl;have AQ:=aa (fun W (hb:Below w.heap.size w W)=>B6 s e rr CV (.slice pc s.prob.t.cases.length cc) (.slice ps s.prob.a.states.length cs) (.slice pt s.tab.length ct) b o s.ex.length ce he b2 o2 (rr+1) cv1 (by omega) (.slice (some ⟨b6,o6,none⟩) (nS s) cr) ⟨_,_,_,rfl⟩ W (ai hb c3) (ai hb c4));have wI:=aa (fun W (hb:Below w.heap.size w W)=>B6 s f rr CV (.slice pc s.prob.t.cases.length cc) (.slice ps s.prob.a.states.length cs) (.slice pt s.tab.length ct) b o s.ex.length ce hf b3 o3 (rr+1) cv2 (by omega) (.slice (some ⟨b7,o7,none⟩) (nS s) cr') ⟨_,_,_,rfl⟩ W (ai hb d3) (ai hb d4));have pU:=aa f1;have rA:=aa f2;generalize hasB (fltS s e) p=be at WK gk;generalize hasB (fltS s f) p=bf at Wa gk;generalize finS s e p=xe at pU gk;generalize finS s f p=xf at rA gk;generalize linkB s p e f=lk at gk ⊢;clear c3 c4 d3 d4 bV l9 r1 r2 f1 f2 CV Fs Tn pL lu hlf
 go_enter Tryz.func139,Tryz.ntmps139
 go_wp2_with fail
 refine aL (fun W=>Below w.heap.size w W/\∃ c,W.heap[w.heap.size]?=some (.cells c 35)/\c=bE s.prob (.slice pc s.prob.t.cases.length cc) (.slice ps s.prob.a.states.length cs) s.n (.slice pt s.tab.length ct) (.slice (some ⟨b,o,none⟩) s.ex.length ce)) ⟨by go_grown,_,ak _ _,rfl⟩ (fun W0 aW=>?_);obtain⟨aC,_,hA,rfl⟩:=aW;refine(HME.out W0 aC).mono ?_;rintro r w1 ⟨rfl,aG⟩;have bC:=aa (ae aC aG);have dy:=aa (af aG hA);clear aC aG hA HME
 go_wp2_with fail
 refine(WK.out w1).mono ?_;rintro r w' ⟨rfl,rfl⟩;cases be with
 | true=>
  go_wp2_with fail
  go_ret
  exact⟨aN (by rw[gk.out];rfl),bC.out⟩
 | false=>
  have tS:=ab dy.out
  go_wp2_with fail
  clear tS;refine(HMF.out w1 bC.out).mono ?_;rintro r w2 ⟨rfl,aV⟩;have cB:=aa (ae bC.out aV);have mK:=aa (af aV dy.out);clear aV
  go_wp2_with fail
  refine(Wa.out w2).mono ?_;rintro r w' ⟨rfl,rfl⟩;cases bf with
  | true=>
   go_wp2_with fail
   go_ret
   exact⟨aN (by rw[gk.out];rfl),cB.out⟩
  | false=>
   have HLK2:Hid (lk=decide (xe=xf)):=aa (by rw[gk.out];rfl)
   go_wp2_with fail
   have yS:∀ z:ExtW w2,∀ j,z.val.cell? ⟨w.heap.size,j,none⟩=_:=fun z=>ab (af z.ext mK.out)
   have y1:∀ z:ExtW w2,z.val.cell? ⟨b6,o6+p,none⟩=_:=fun z=>ai (ae cB.out z.ext) pU.out
   have y2:∀ z:ExtW w2,z.val.cell? ⟨b7,o7+p,none⟩=_:=fun z=>ai (ae cB.out z.ext) rA.out
   have K1:Hid (∀ y:ExtW w2,Calls Tryz.prog 46 #[.agg #[.int .i64 s.prob.t.n,.int .i64 s.prob.t.ins,.int .i64 s.prob.t.outs,.slice pc s.prob.t.cases.length cc,.int .i64 s.prob.a.n,.slice ps s.prob.a.states.length cs,.int .i64 s.prob.rounds,.int .i64 s.n,.slice pt s.tab.length ct,.slice (some ⟨b,o,none⟩) s.ex.length ce],.int .i64 e] y.val fun r w''=>r=.returned (.slice (some ⟨b6,o6,none⟩) (nS s) cr)/\∃ z:ExtW w2,w''=z.val):=aa (fun y=>Calls.ext_of (AQ.out y.val (ae cB.out y.ext)));have K2:Hid (∀ y:ExtW w2,Calls Tryz.prog 46 #[.agg #[.int .i64 s.prob.t.n,.int .i64 s.prob.t.ins,.int .i64 s.prob.t.outs,.slice pc s.prob.t.cases.length cc,.int .i64 s.prob.a.n,.slice ps s.prob.a.states.length cs,.int .i64 s.prob.rounds,.int .i64 s.n,.slice pt s.tab.length ct,.slice (some ⟨b,o,none⟩) s.ex.length ce],.int .i64 f] y.val fun r w''=>r=.returned (.slice (some ⟨b7,o7,none⟩) (nS s) cr')/\∃ z:ExtW w2,w''=z.val):=aa (fun y=>Calls.ext_of (wI.out y.val (ae cB.out y.ext)));refine aB (by kernel_rfl) (by kernel_rfl) ?_
   repeat (go_big_quiet_step (first|(go_at_call 46;with_reducible exact K1.out _)|(go_at_call 46;with_reducible exact K2.out _)))
   refine wpQuiet_nil ?_;rintro _ ⟨xq,rfl⟩;clear yS y1 y2
   go_wp2_with fail
   go_ret
   exact⟨aN (by rw[HLK2.out,Bool.eq_iff_iff];simp),ae cB.out xq.ext⟩
def byM(s:Sys) (e f:Nat):Nat:=maskN (fun p=>linkB s p e f) (nS s)
theorem UJ(s:Sys) (hs:SysOk s) (e f:Nat) (he:e<eS s) (hf:f<eS s) (vc vs vt ve:Value) (w:World) (bX:IsSys w s vc vs vt ve) :
  Calls Tryz.prog 142 #[.agg (bE s.prob vc vs s.n vt ve),.int .i64 e,.int .i64 f] w fun r w'=>r=.returned (.int .i64 (byM s e f:Nat))/\Below w.heap.size w w':=by
 have HS:=aa bX;obtain⟨⟨pc,cc,rfl⟩,⟨ps,cs,rfl⟩,⟨pt,ct,rfl⟩,⟨pe,ce,rfl⟩⟩:=bg bX;clear bX;have gk:=aa (fun p (hp:p<nS s) W (hb:Below w.heap.size w W)=>Cc s hs p e f hp he hf _ _ _ _ W (HS.out.up hb));have ic:=hs.n.2.1;have fq:=hs.n.2.2.1;have HWI:=aa (fun (q:Nat->Bool) p (hp:p<=10) w=>OA q p hp w);have eo:Hid (byM s e f=maskN (fun p=>linkB s p e f) (nS s)):=aa rfl;generalize byM s e f=bm at eo ⊢;obtain⟨q,hq⟩:∃ q:Nat->Bool,q=fun p=>linkB s p e f:=⟨_,rfl⟩
 have HQ:Hid (∀ p,linkB s p e f=q p):=aa fun p=>by rw[hq]
 rw[<-hq]at eo;obtain⟨n,hn⟩:∃ n,nS s=n:=⟨_,rfl⟩;rw[hn]at gk ic fq eo;rw[fq]at gk ⊢;clear hq hn fq
 go_enter Tryz.func142,Tryz.ntmps142
 go_wp2_with fail
 refine bj (fun W=>Below w.heap.size w W/\∃ c,W.heap[w.heap.size]?=some (.cells c 35)/\c=bE s.prob (.slice pc s.prob.t.cases.length cc) (.slice ps s.prob.a.states.length cs) (n:Int) (.slice pt s.tab.length ct) (.slice pe s.ex.length ce)) ⟨by go_grown,_,ak _ _,rfl⟩ (fun W0 aW=>?_);obtain⟨aC,_,hA,rfl⟩:=aW;have cM:=aa aC;have HA:=aa hA;clear aC hA
 go_loopw [7,8] (fun o i wr=>∃ k:Nat,k<=n/\i=.int .i64 k/\o=.int .i64 (maskN q k:Nat)/\Below W0.heap.size W0 wr) (fun _ i _=>n - (intOf i).toNat)
 case atStart=>exact⟨0,by omega,rfl,rfl,Below.refl _ _⟩
 case round=>
  obtain⟨k,hk,rfl,rfl,aq⟩:=hrel;have aR:=aa aq;have hA:=af aq HA.out;have tS:=ab hA;clear aq hA;by_cases az:k<n
  ·have nE:(k:Int)<(n:Int):=by omega
   have SQ:=aa (HWI.out q k (by omega));have lC:=fF q k;have h2:(2:Nat) ^ k<=2 ^ 10:=Nat.pow_le_pow_right (by omega) (by omega)
   go_wp2_with fail
   refine(gk.out k az wr (ae cM.out aR.out)).mono ?_;rintro r w2 ⟨rfl,aV⟩;rw[HQ.out];have cB:=aa aV;clear aV tS;cases hb:q k with
   | true=>
    have dz:Hid (((maskN q k:Nat):Int)+2 ^ k=(maskN q (k+1):Nat)):=aa (by rw[maskN,if_pos hb];simp);clear hb
    go_wp2_with fail
    refine(SQ.out w2).mono ?_;rintro r w' ⟨rfl,rfl⟩
    go_wp2_with fail
    go_roundw
    case rel=>exact⟨k+1,by omega,by go_num,vU dz.out,ae aR.out cB.out⟩
    case measure=>simp[intOf];omega
   | false=>
    have dz:Hid (maskN q k=maskN q (k+1)):=aa (qJ hb);clear hb
    go_wp2_with fail
    go_roundw
    case rel=>exact⟨k+1,by omega,by go_num,by rw[<-dz.out],ae aR.out cB.out⟩
    case measure=>simp[intOf];omega
  ·obtain rfl:k=n:=by omega
   go_wp2_with fail
   go_ret
   exact⟨aA (by rw[eo.out]),ae cM.out aR.out⟩
end Go.Proofs.YtmeaoneaephjeaaGreatDoor
