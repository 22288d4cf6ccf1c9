/-
  A part of the proof: lemmas and contracts that the parts behind it use. Each one's conditions are its own premises.
-/
import Derived.Test.YtmeaoneaephjeaaGreatDoorT4
set_option maxRecDepth 100000
set_option maxHeartbeats 8000000
set_option linter.unusedVariables false
set_option linter.unusedSimpArgs false
namespace Go.Proofs.YtmeaoneaephjeaaGreatDoor
open Go.RowKit Go Go.Shelf
attribute [local go_sem] Oper.semAt_some
theorem B1(v:Value) (l:List Int) (w:World) (hv:aX w v l) (hp:l7 l) (hl:l.length<=65536) :
  Calls Tryz.prog 206 #[v] w fun e w'=>e=.returned (.int .i64 0)/\Below w.heap.size w w':=by
 obtain⟨pa,ca,rfl,la1,la2,ea⟩:=hv.at;have EA:=aa ea;obtain⟨N,hN,hs⟩:=hp;have HS:=aa hs;have HN:=aa hN;clear hv ea hs hN
 go_enter Tryz.func206,Tryz.ntmps206
 go_wp2
 go_loop [3,11] (fun nx i=>∃ k:Nat,k<=l.length/\i=.int .i64 k/\nx=.int .i64 (N k)/\0<=N k/\N k<=k) (fun _ i=>l.length - (intOf i).toNat)
 ·exact⟨0,by omega,rfl,by rw[HN.o],by rw[HN.o];omega,by rw[HN.o];omega⟩
 ·
  obtain⟨k,hk,rfl,rfl,oJ,jV⟩:=hrel;by_cases aD:k<l.length
  ·obtain⟨b1,o1,rfl,h1⟩:=EA.o k aD;rw[Nat.mul_one]at h1;have c1:=h1.1;obtain⟨dq,dA,dW⟩:=HS.o k aD;rw[aA 0 aD]at dq dA dW;clear h1;generalize l[k]=x at c1 dq dA dW;have HX:=aa dW;clear dW;generalize N k=nk at oJ jV dA HX;by_cases Wo:x=nk
   ·subst Wo;have fY:am (N (k+1)=x+1):=aa (by rw[HX.o,if_pos rfl])
    go_wp2
    go_round
    ·exact⟨k+1,by omega,by go_num,by rw[fY.o],by rw[fY.o];omega,by rw[fY.o];omega⟩
    ·simp[intOf];omega
   ·have hxn':(x == nk)=false:=by simpa using Wo
    have dW:¬ nk<x:=by omega
    have xl:¬ x<0:=by omega
    have fY:am (N (k+1)=nk):=aa (by rw[HX.o,if_neg Wo])
    go_wp2
    go_round
    ·exact⟨k+1,by omega,by go_num,by rw[fY.o],by rw[fY.o];omega,by rw[fY.o];omega⟩
    ·simp[intOf];omega
  ·go_wp2
   go_ret
   exact⟨rfl,by go_grown⟩
theorem OP(va vb:Value) (a b:List Int) (w:World) (ha:aX w va a) (hb:aX w vb b) (pa:l7 a) (pb:l7 b) (hl:b.length=a.length) (nm:a.length<=65536) :
  Calls Tryz.prog 174 #[va,vb] w fun e w'=>e=.returned (.int .i64 0)/\Below w.heap.size w w':=by
 have HA:=aa ha;have HB:=aa hb;have HL:=aa hl;have PA:=aa pa;have PB:=aa pb;obtain⟨qa,ca,rfl,_⟩:=ha.at;obtain⟨qb,cb,rfl,_⟩:=hb.at;clear ha hb hl pa pb;have Jt:((a.length:Int) != (b.length:Int))=false:=by rw[HL.o];simp
 go_enter Tryz.func174,Tryz.ntmps174
 go_wp2_with fail
 refine bF (fun W=>Below w.heap.size w W/\W.heap[w.heap.size]?=some (.cells #[.slice qa a.length ca,.slice qb b.length cb] 38)) ⟨by go_grown,aq _ _⟩ (fun W0 bh=>?_);obtain⟨aJ,bK⟩:=bh;have lz:=aa bK;clear bK
 go_loopw [12] (fun i wr=>∃ k:Nat,k<=2/\i=.int .i64 k/\Below w.heap.size w wr/\Below W0.heap.size W0 wr) (fun i _=>2 - (intOf i).toNat)
 ·exact⟨0,by omega,rfl,aJ,Below.refl _ _⟩
 ·
  clear aJ;obtain⟨k,hk,rfl,dx,aB⟩:=hrel;have tB:=ab (af aB lz.o);by_cases h0:k=0
  ·subst h0
   go_wp2_with fail
   refine(B1 _ _ wr (HA.o.up up_int dx) PA.o nm).mono ?_;rintro e w1 ⟨rfl,aM⟩;clear tB
   go_wp2_with fail
   go_roundw
   ·exact⟨1,by omega,by go_num,ae dx aM,ae aB aM⟩
   ·simp[intOf]
  by_cases h1:k=1
  ·subst h1
   go_wp2_with fail
   refine(B1 _ _ wr (HB.o.up up_int dx) PB.o (by rw[HL.o];exact nm)).mono ?_;rintro e w1 ⟨rfl,aM⟩;clear tB
   go_wp2_with fail
   go_roundw
   ·exact⟨2,by omega,by go_num,ae dx aM,ae aB aM⟩
   ·simp[intOf]
  obtain rfl:k=2:=by omega
  clear tB
  go_wp2_with fail
  go_ret
  exact⟨rfl,dx⟩
theorem Km(v:Value) (keys:List Int) (w:World) (hv:aX w v keys) (hl:keys.length<=256) :
  Calls Tryz.prog 176 #[v] w fun e w'=>∃ u,e=.returned u/\aX w' u (lh keys)/\Below w.heap.size w w':=by
 obtain⟨pa,ca,rfl,la1,la2,ea⟩:=hv.at;have EA:=aa ea;clear hv ea;obtain⟨f,hf⟩:∃ f,f=fun i=>(lh keys).getD i 0:=⟨_,rfl⟩
 obtain⟨key,mV⟩:∃ key:Nat->Int,key=fun i=>keys.getD i 0:=⟨_,rfl⟩
 obtain⟨q,hq⟩:∃ q:Nat->Nat->Bool,q=fun k i=>decide (keys.getD k 0=keys.getD i 0):=⟨_,rfl⟩
 have HF:am ((∀ i,f i=(im q keys.length).getD i 0)/\(List.range keys.length).map f=lh keys):=aa (by
  subst hf hq;refine⟨fun _=>rfl,?_⟩;refine List.ext_getElem (by simp[lh,pF]) fun i h1 h2=>?_
  simp[h2])
 have HQ:am (∀ k,firstIx k (fun j=>q j k)=firstIx k (fun j=>decide (key j=key k))):=aa (fun k=>by subst hq mV;rfl);have HK:am (∀ k (h:k<keys.length),key k=keys[k]):=aa (fun k h=>by subst mV;exact aA 0 h);have HC:=aa (jR q);clear hf hq mV;have gc:=jp f keys.length hl;have CQ:=@GF Tryz.prog
 go_enter Tryz.func176,Tryz.ntmps176
 go_wp2_with fail
 clear gc CQ;refine bF (fun W=>Below w.heap.size w W/\dr W w.heap.size (dF key f 0) 0/\W.heap[w.heap.size+1]?=some (.cells (fC keys.length f 0) 3)) ⟨by go_grown,((dr.new w).up (Below.refl _ _ |>.alloc (Nat.le_refl _) _)).congr (fun _=>rfl) rfl,bz _ _ _⟩ (fun W0 bh=>?_);obtain⟨aJ,hM0,gU⟩:=bh
 go_loopw [15] (fun i wr=>∃ k:Nat,k<=keys.length/\i=.int .i64 k/\Below w.heap.size w wr/\dr wr w.heap.size (dF key f k) (bu q k).2.toNat/\wr.heap[w.heap.size+1]?=some (.cells (fC keys.length f k) 3)) (fun i _=>keys.length - (intOf i).toNat)
 ·exact⟨0,by omega,rfl,aJ,hM0,gU⟩
 ·
  clear aJ hM0 gU;obtain⟨k,hk,rfl,aB,hM,hO⟩:=hrel;by_cases aD:k<keys.length
  ·obtain⟨b1,o1,rfl,h1⟩:=EA.o k aD;rw[Nat.mul_one]at h1;have c1:=ak aB h1.1;have oh:=HK.o k aD;clear h1;generalize keys[k]=x at c1 oh;have HX:=aa oh;have yK:=DJ (mt:=245) (kt:=3) (vt:=3) Tryz.underlying245 Tryz.underlying3 (fun w=>by kernel_rfl) hM x;have HM:=aa hM;have HO:=aa hO;have aU:=aa aB;have eM:=hM.lt;have JG:=aC hO;have hc:=(HC.o k).1;have ja:=(HC.o k).2.1;cases hs:dF key f k x with
   | none=>
    rw[hs]at yK;have xE:=UY (mt:=245) (kt:=3) (vt:=3) Tryz.underlying245 3 hM;obtain⟨nn,fA⟩:∃ nn:Nat,(bu q k).2.toNat=nn:=⟨_,rfl⟩;rw[fA]at xE
    have BB:am (∀ y,dF key f (k+1) y=if y=x then some (f k) else dF key f k y):=aa (by
     have:=xL (key:=key) (f:=f) (k:=k) (by rw[oh];exact hs)
     rwa [oh]at this)
    have hfi:firstIx k (fun j=>q j k)<0:=by
     rw[HQ.o,oh];unfold dF at hs;split at hs
     ·assumption
     ·cases hs
    obtain⟨n1,n2⟩:=Hd (q:=q) aD hfi;have qE:am (f k=nn):=aa ((HF.o.1 k).trans (by omega));have rS:am ((bu q (k+1)).2.toNat=if (dF key f k x).isSome then(bu q k).2.toNat else(bu q k).2.toNat+1):=aa (by rw[hs,n2];simp;omega);obtain⟨o,Ld,rK⟩:=uO (mt:=245) (kt:=3) (vt:=3) Tryz.underlying245 Tryz.underlying3 HM.o x (nn:Int);have xo:=aa rK;have eO:am ((wr.putObj w.heap.size o).heap[w.heap.size+1]?=some (.cells (fC keys.length f k) 3)):=aa ((World.putObj_heap_other (by omega)).trans HO.o);have tq:=ab eO.o k;rw[mf _ _ _ _ aD]at tq;have zq:=aG eO.o k;clear rK hM hO aB hs hfi n1 n2 fA oh
    go_wp2_with fail
    go_roundw
    ·
     refine⟨k+1,by omega,by go_num,Below.setCell (eR (Nat.le_refl _) aU.o) (by dsimp only;omega) _,?_,?_⟩
     ·refine dr.congr (dr.kept xo.o (Below.heap_setCell _ _ _ _ (by dsimp only;omega))) (fun y=>?_) rS.o.symm;rw[BB.o,qE.o]
     ·rw[aH eO.o,<-uN _ _ _ aD,qE.o]
    ·simp[intOf];omega
   | some z=>
    rw[hs]at yK;have yO:am (∀ y,dF key f (k+1) y=dF key f k y):=aa (xM (z:=z) (by rw[oh];exact hs));obtain⟨j,hj,e1,e2,e3⟩:=ri hs;obtain⟨n1,n2⟩:=He (q:=q) (j:=j) aD (by rw[HQ.o,oh];exact e1);have qE:am (f k=z):=aa (by rw[HF.o.1 k,n1,<-HF.o.1 j,e3]);have rS:am ((bu q (k+1)).2.toNat=(bu q k).2.toNat):=aa (by rw[n2]);have tq:=ab HO.o k;rw[mf _ _ _ _ aD]at tq;have zq:=aG HO.o k;clear hM hO aB hs n1 n2 e1 e2 e3 oh
    go_wp2_with fail
    go_roundw
    ·
     refine⟨k+1,by omega,by go_num,aU.o.setCell (by dsimp only;omega) _,?_,?_⟩
     ·exact dr.congr (dr.kept HM.o (Below.heap_setCell _ _ _ _ (by dsimp only;omega))) (fun y=>(yO.o y).symm) rS.o.symm
     ·rw[aH HO.o,<-uN _ _ _ aD,qE.o]
    ·simp[intOf];omega
  ·obtain rfl:k=keys.length:=by omega
   have HO:=aa hO;have aU:=aa aB;clear hM hO aB
   go_wp2_with fail
   go_ret
   refine⟨_,rfl,?_,aU.o⟩;have h1:=HO.o;rw[qf,HF.o.2]at h1;refine rD (by simp[lh,pF]) hl h1 fun i hi=>?_
   have:=l8 (pG (fun k i=>decide (keys.getD k 0=keys.getD i 0)) keys.length) i hi;have oU:i<keys.length:=by simpa[lh,pF] using hi
   unfold bT lh;omega
theorem gi(l:List Int) (j:Nat) (h:j<l.length):(bG l)[j]?=some (.int .i64 (l.getD j 0)):=by simp[bG,h]
theorem mg(l:List Int) (j:Nat) (x:Int):(bG l).setIfInBounds j (.int .i64 x)=bG (l.set j x):=by
 unfold bG;rw[List.map_set,List.setIfInBounds_toArray]
structure Only (B:Nat) (w w':World):Prop where
 os:w'.os=w.os
 tape:w'.tape=w.tape
 output:w'.output=w.output
 size:w'.heap.size=w.heap.size
 same:∀ k,k≠B->w'.heap[k]?=w.heap[k]?
theorem Only.refl(B:Nat) (w:World):Only B w w:=⟨rfl,rfl,rfl,rfl,fun _ _=>rfl⟩
theorem Only.trans{B:Nat} {a b c:World} (h:Only B a b) (k:Only B b c):Only B a c:=⟨k.os.trans h.os,k.tape.trans h.tape,k.output.trans h.output,k.size.trans h.size,fun i hi=>(k.same i hi).trans (h.same i hi)⟩
theorem Only.drew{B:Nat} {a b:World} (h:Only B a b):Only B a b.drew:=⟨h.os,h.tape,h.output,h.size,h.same⟩
theorem Only.setCell{B:Nat} {a b:World} (h:Only B a b) (o:Nat) (v:Value):Only B a (b.setCell ⟨B,o,none⟩ v):=
 ⟨h.os,h.tape,h.output,by simpa using h.size,fun k hk=>(Below.heap_setCell _ _ _ _ hk).trans (h.same k hk)⟩
theorem Only.below{B n:Nat} {w a b:World} (h:Only B a b) (hb:Below n w a) (hn:n<=B):Below n w b:=
 ⟨h.os.trans hb.os,h.tape.trans hb.tape,h.output.trans hb.output,by rw[h.size];exact hb.size,fun k hk=>(h.same k (by omega)).trans (hb.block k hk)⟩
theorem xV(n bx B:Nat) (P:List Int) (hP:Par n P) (i:Nat) (hi:i<n) (w:World) (bP:bx≠B) (h1:w.heap[bx]?=some (.cells #[.slice (some ⟨B,0,none⟩) n n] 38)) (h2:w.heap[B]?=some (.cells (bG P) 3)) :
  Calls Tryz.prog 175 #[.int .i64 i,.pointer (some ⟨bx,0,none⟩)] w fun e w'=>e=.returned (.int .i64 (rootN P i))/\Only B w w'/\∃ P',w'.heap[B]?=some (.cells (bG P') 3)/\Par n P'/\∀ j,j<n->rootN P' j=rootN P j:=by
 have H1:=aa h1;have H2:=aa h2;have HP:=aa hP;clear h1 h2 hP
 go_enter Tryz.func175,Tryz.ntmps175
 go_wp2_with fail
 go_loopw [0] (fun x wr=>∃ (j:Nat) (Q:List Int),x=.int .i64 j/\j<n/\Only B w wr/\wr.heap[B]?=some (.cells (bG Q) 3)/\Par n Q/\(∀ j,j<n->rootN Q j=rootN P j)/\rootN P j=rootN P i) (fun x _=>(intOf x).toNat)
 ·exact⟨i,P,rfl,hi,Only.refl _ _,H2.o,HP.o,fun _ _=>rfl,rfl⟩
 ·
  obtain⟨j,Q,rfl,hj,ho,hB,hQ,hr,ph⟩:=hrel;have jH:wr.heap[bx]?=_:=(ho.same bx bP).trans H1.o;have tx:=ab jH 0;simp at tx;obtain⟨a0,a1⟩:=hQ.le j hj;obtain⟨A,hA⟩:∃ A:Nat,Q.getD j 0=A:=⟨(Q.getD j 0).toNat,by omega⟩;have hl:=hQ.len;have t1:=ab hB j;rw[gi _ _ (by omega),hA]at t1;have HO:=aa ho;have HB:=aa hB;have HQ:=aa hQ;have HR:=aa hr;have HJ:=aa ph;have HA:=aa hA;clear ho hQ hr ph jH;by_cases hd:A=j
  ·subst hd;clear hB;have jD:am (rootN P i=A):=aa (by rw[<-HJ.o,<-HR.o A hj];exact nL HA.o)
   go_wp2_with fail
   go_ret
   exact⟨by rw[jD.o];rfl,HO.o,Q,HB.o,HQ.o,HR.o⟩
  ·have hd':((A:Int) != (j:Int))=true:=by simp;omega
   have hAn:A<n:=by omega
   obtain⟨b0,b1⟩:=HQ.o.le A hAn;obtain⟨C,hC⟩:∃ C:Nat,Q.getD A 0=C:=⟨(Q.getD A 0).toNat,by omega⟩;have hCA:C<=A:=by omega
   have hAj:A<j:=by have:=HA.o;omega
   have t2:=ab hB A;rw[gi _ _ (by omega),hC]at t2;have zq:=aG hB j;have HC:=aa hC
   have ly:(wr.drew.setCell ⟨B,j,none⟩ (.int .i64 C)).heap[B]?=some (.cells (bG (Q.set j C)) 3):=by
    rw[aH (W:=wr.drew) hB,mg]
   have t3:=ab ly j;rw[gi _ _ (by simp;omega),fG _ _ _ _ _ (by omega),if_pos rfl]at t3;have hbx2:(wr.drew.setCell ⟨B,j,none⟩ (.int .i64 C)).heap[bx]?=_:=((HO.o.drew.setCell j (.int .i64 C)).same bx bP).trans H1.o;have tx2:=ab hbx2 0;simp at tx2;have HS:=aa ly;clear ly hbx2 hC hA hB
   go_wp2_with fail
   go_still_tail 10,(by kernel_rfl)
   change wpList _ _ _ _ _ wr.drew
   go_wp2_with fail
   go_roundw
   ·
    have hh:=Oe HQ.o j hj;rw[HA.o,Int.toNat_natCast,HC.o]at hh;refine⟨C,Q.set j C,rfl,by omega,HO.o.drew.setCell j _,HS.o,hh.1,fun x hx=>(hh.2 x hx).trans (HR.o x hx),?_⟩;have e1:=mX HQ.o j hj;have e2:=mX HQ.o A hAn;rw[HA.o,Int.toNat_natCast]at e1;rw[HC.o,Int.toNat_natCast]at e2;rw[<-HR.o C (by omega),e2,e1,HR.o j hj];exact HJ.o
   ·simp[intOf];omega
theorem Uni.same{a b:List Int} {n:Nat} {P Q:List Int} (h:Uni a b n P) (hq:Par n Q) (hr:∀ j,j<n->rootN Q j=rootN P j):Uni a b n Q:=⟨hq,fun i hi=>by rw[hr i hi];exact h.wr i hi⟩
theorem Rq{a b l:List Int} {n m j p q:Nat} {P Q Q3:List Int} (hU:Uni a b n Q) (h3:Par n Q3) (hr:∀ i,i<n->rootN Q3 i=rootN Q i) (JR:jm n P Q) (hD:fH l n m Q) (hm:m<n) (hj:j<m) (e:l.getD j 0=l.getD m 0) (hjq:dJ a b m j=true) (hp:rootN Q m=p) (hq:rootN Q j=q) :
  Uni a b n (Q3.set (max p q) (min p q:Nat))/\jm n P (Q3.set (max p q) (min p q:Nat))/\fH l n (m+1) (Q3.set (max p q) (min p q:Nat)):=by
 have hU3:=hU.same h3 hr;have hu:=hU3.union m j hm (by omega) hjq;have e1:rootN Q3 m=p:=(hr m hm).trans hp;have e2:rootN Q3 j=q:=(hr j (by omega)).trans hq;rw[e1,e2]at hu;have k1:jm n Q (Q3.set (max p q) (min p q:Nat)):=(Kb hr).trans (Kc hu.2);refine⟨hu.1,JR.trans k1,hD.join hm hj e k1 ?_⟩;rw[hu.2 m hm,hu.2 j (by omega),e1,e2];rcases Nat.le_total p q with h|h
 ·rw[Nat.max_eq_right h,Nat.min_eq_left h];split<;>simp
 ·rw[Nat.max_eq_left h,Nat.min_eq_right h];simp
theorem OQ{a b:List Int} {qa qb:Option Addr} {n ca cb j:Nat} {w:World} {P:List Int} (hj:j<2) (ha:aX w (.slice qa n ca) a) (hb:aX w (.slice qb n cb) b) (y9:a.length=n) (iK:b.length=n) (h1:1<=j->fH a n n P) :
  ∃ (l:List Int) (ql:Option Addr) (cl:Nat),(#[Value.slice qa n ca,Value.slice qb n cb])[j]?=some (.slice ql n cl)/\aX w (.slice ql n cl) l/\l.length=n/\(∀ i k,l.getD i 0=l.getD k 0->dJ a b i k=true)/\∀ Q,fH l n n Q->jm n P Q->(1<=j+1->fH a n n Q)/\(2<=j+1->fH b n n Q):=by
 by_cases e:j=0
 ·subst e;exact⟨a,qa,ca,rfl,ha,y9,fun i k h=>by unfold dJ;rw[decide_eq_true h];rfl,fun Q h _=>⟨fun _=>h,fun h'=>by omega⟩⟩
 ·obtain rfl:j=1:=by omega
  exact⟨b,qb,cb,rfl,hb,iK,fun i k h=>by unfold dJ;rw[decide_eq_true h,Bool.or_true],fun Q h k=>⟨fun _=>(h1 (by omega)).keep k,fun _=>h⟩⟩
theorem OR(va vb:Value) (a b:List Int) (w:World) (ha:aX w va a) (hb:aX w vb b) (pa:l7 a) (pb:l7 b) (hl:b.length=a.length) (hn:a.length<=256) :
  Calls Tryz.prog 130 #[va,vb] w fun e w'=>∃ u,e=.returned (.tuple #[u,.int .i64 0])/\aX w' u (kQ a b)/\Below w.heap.size w w':=by
 have HA:=aa ha;have HB:=aa hb;have PA:=aa pa;have PB:=aa pb;obtain⟨n,y9⟩:∃ n,a.length=n:=⟨_,rfl⟩;have iK:b.length=n:=hl.trans y9;obtain⟨qa,ca,rfl,_⟩:=ha.at;obtain⟨qb,cb,rfl,_⟩:=hb.at;have HC:=aa (OP _ _ a b w HA.o HB.o PA.o PB.o hl (by omega));have GK:n<=256:=by omega
 rw[y9]at HA HC ⊢;rw[iK]at HB HC ⊢;clear ha hb hl pa pb hn;have HNA:=aa y9;have AN:=aa iK;clear y9 iK;obtain⟨f,hf⟩:∃ f:Nat->Int,f=fun i:Nat=>(i:Int):=⟨_,rfl⟩
 have JW:am (∀ i,f i=(i:Int)):=aa fun i=>by rw[hf]
 clear hf;have gc:=jp f n GK;have eg:=enters_of Tryz.func175 (by kernel_rfl) rfl
 go_enter Tryz.func130,Tryz.ntmps130
 go_wp2_with fail
 refine HC.o.mono ?_;rintro e w1 ⟨rfl,aM⟩
 go_wp2_with fail
 clear gc
 refine bF (fun W=>Below w.heap.size w W/\W.heap[w1.heap.size]?=some (.cells (fC n f 0) 3)/\W.heap[w1.heap.size+1]?=some (.cells #[.slice (some ⟨w1.heap.size,0,none⟩) n n] 38))
  ⟨ae aM (by go_grown),az _ (aq _ _),bz _ _ _⟩ (fun W0 bh=>?_)
 obtain⟨aJ,gU,vE⟩:=bh;have hBw:=aM.size;generalize w1.heap.size=B at gU vE hBw;clear aM w1;have iH:=aa (And.intro aJ (And.intro gU vE));have tx0:=ab vE 0;simp at tx0;clear aJ gU vE
 go_wp2_with fail
 clear tx0
 go_loopw [32] (fun i wr=>∃ k:Nat,k<=n/\i=.int .i64 k/\Below w.heap.size w wr/\wr.heap[B]?=some (.cells (fC n f k) 3)/\wr.heap[B+1]?=some (.cells #[.slice (some ⟨B,0,none⟩) n n] 38)) (fun i _=>n - (intOf i).toNat)
 ·exact⟨0,by omega,rfl,iH.o.1,iH.o.2.1,iH.o.2.2⟩
 ·
  clear iH;obtain⟨k,hk,rfl,aB,hO,hX⟩:=hrel;have tx:=ab hX 0;simp at tx;have eM:=aC hX;by_cases aD:k<n
  ·have tq:=ab hO k;rw[mf _ _ _ _ aD]at tq;have zq:=aG hO k;have HO:=aa hO;have HX:=aa hX;have aU:=aa aB;clear hO hX aB
   go_wp2_with fail
   go_roundw
   ·exact⟨k+1,by omega,by go_num,aU.o.setCell (by dsimp only;omega) _,by rw[aH HO.o,<-JW.o k,uN _ _ _ aD],aN HX.o (by omega) _ _⟩
   ·simp[intOf];omega
  obtain rfl:k=n:=by omega
  clear tx;have q7:=hO;rw[qf]at q7;have hU:=Uni.start a b k
  have HU:am (Uni a b k ((List.range k).map f)):=aa (by
   have e:(List.range k).map f=(List.range k).map fun i:Nat=>(i:Int):=List.map_congr_left fun i _=>JW.o i
   rw[e];exact hU)
  have HO:=aa q7;have HX:=aa hX;have aU:=aa aB;clear hO q7 hX aB hU;have mU:=aU.o.size
  go_wp2_with fail
  refine bF (fun W=>Below w.heap.size w W/\W.heap[wr.heap.size]?=some (.cells #[.slice qa k ca,.slice qb k cb] 38)/\W.heap[B+1]?=some (.cells #[.slice (some ⟨B,0,none⟩) k k] 38)/\W.heap[B]?=some (.cells (bG ((List.range k).map f)) 3)) ⟨aU.o.alloc mU _,aq _ _,az _ HX.o,az _ HO.o⟩ (fun W1 cO=>?_);have hLB:=eM;generalize wr.heap.size=L at cO mU hLB;have gz:=aa cO;clear cO HO HX aU eM wr W0
  go_loopw [45] (fun i wr=>∃ (j:Nat) (P:List Int),j<=2/\i=.int .i64 j/\Below w.heap.size w wr/\wr.heap[L]?=some (.cells #[.slice qa k ca,.slice qb k cb] 38)/\wr.heap[B+1]?=some (.cells #[.slice (some ⟨B,0,none⟩) k k] 38)/\wr.heap[B]?=some (.cells (bG P) 3)/\Uni a b k P/\(1<=j->fH a k k P)/\(2<=j->fH b k k P)) (fun i _=>2 - (intOf i).toNat)
  ·exact⟨0,_,by omega,rfl,gz.o.1,gz.o.2.1,gz.o.2.2.1,gz.o.2.2.2,HU.o,fun h=>by omega,fun h=>by omega⟩
  ·
   clear gz HU;obtain⟨j,P,hj,rfl,aB,hL,hX,hO,hU,TR,FN⟩:=hrel;by_cases aD:j<2
   ·obtain⟨l,ql,cl,uf,ze,F8,hp4,IU⟩:=OQ aD HA.o HB.o HNA.o AN.o TR;have tL:=ab hL j;rw[uf]at tL;have CQ:=@GF Tryz.prog;have HP2:=aa ze;have WD:=aa F8;have HP4:=aa hp4;have HP5:=aa IU;have HL:=aa hL;have HX:=aa hX;have HO:=aa hO;have HU:=aa hU;have aU:=aa aB;have Nr:=aC hL;have Ep:=aB.size;clear uf ze F8 hp4 IU hL hX hO hU aB TR FN
    go_wp2_with fail
    clear CQ tL;obtain⟨key,mV⟩:∃ key:Nat->Int,key=fun i=>l.getD i 0:=⟨_,rfl⟩
    have HK:am (∀ i,key i=l.getD i 0):=aa fun i=>by rw[mV]
    clear mV;refine bF (fun W=>Below w.heap.size w W/\W.heap[L]?=some (.cells #[.slice qa k ca,.slice qb k cb] 38)/\W.heap[B+1]?=some (.cells #[.slice (some ⟨B,0,none⟩) k k] 38)/\W.heap[B]?=some (.cells (bG P) 3)/\dr W wr.heap.size (dF key f 0) 0) ⟨aU.o.alloc Ep _,az _ HL.o,az _ HX.o,az _ HO.o,dr.new wr⟩ (fun W2 fh=>?_);have hML:=Nr;generalize wr.heap.size=M at fh hML Ep;have cQ:=aa fh;clear fh HL HX HO aU Nr wr;have hd:decide ((j:Int)<2)=true:=decide_eq_true (by omega);simp only[hd];clear hd
    go_loopw [52] (fun i wr=>∃ (m:Nat) (Q:List Int),m<=k/\i=.int .i64 m/\Below w.heap.size w wr/\wr.heap[L]?=some (.cells #[.slice qa k ca,.slice qb k cb] 38)/\wr.heap[B+1]?=some (.cells #[.slice (some ⟨B,0,none⟩) k k] 38)/\wr.heap[B]?=some (.cells (bG Q) 3)/\Uni a b k Q/\jm k P Q/\fH l k m Q/\∃ c,dr wr M (dF key f m) c) (fun i _=>k - (intOf i).toNat)
    ·exact⟨0,P,by omega,rfl,cQ.o.1,cQ.o.2.1,cQ.o.2.2.1,cQ.o.2.2.2.1,HU.o,jm.refl _ _,fun i _ _ _ h=>by omega,0,cQ.o.2.2.2.2⟩
    ·
     clear cQ;obtain⟨m,Q,hm,rfl,aB,hL,hX,hO,TL,JR,P6,c,hM⟩:=hrel;have HL:=aa hL;have HX:=aa hX;have HO:=aa hO;have WP:=aa TL;have aU:=aa aB;have HPQ:=aa JR;have HDQ:=aa P6;have hszM:=hM.lt;have hszr2:=aB.size;by_cases gc:m<k
     ·have ml:m<l.length:=by have:=WD.o;omega
      obtain⟨ql',cl',e',_,_,ep⟩:=HP2.o.at;injection e' with e1 e2 e3
      subst e1;clear e2 e3;obtain⟨b1,o1,rfl,h1⟩:=ep m ml;rw[Nat.mul_one]at h1;have c1:=ak aB h1.1;have oh:key m=l[m]:=(HK.o m).trans (aA 0 ml);clear h1 ep;generalize l[m]=x at c1 oh;clear ml;have yK:=DJ (mt:=245) (kt:=3) (vt:=3) Tryz.underlying245 Tryz.underlying3 (fun w=>by kernel_rfl) hM x;have nz:=aa oh;have HM:=aa hM;cases hs:dF key f m x with
      | none=>
       rw[hs]at yK;obtain⟨o,Ld,rK⟩:=uO (mt:=245) (kt:=3) (vt:=3) Tryz.underlying245 Tryz.underlying3 hM x (m:Int);have xo:=aa rK
       have BB:am (∀ y,dF key f (m+1) y=if y=x then some (m:Int) else dF key f m y):=aa (by
        have:=xL (key:=key) (f:=f) (k:=m) (by rw[oh];exact hs);rw[oh,JW.o m]at this
        exact this)
       have vF:am (∀ k,k<m->l.getD k 0≠l.getD m 0):=aa (fun k hk=>by
        have:=BN.1 hs k hk;rw[HK.o k]at this
        rw[<-HK.o m,oh];exact this)
       clear rK hM hL hX hO TL JR P6 hs oh aB
       go_wp2_with fail
       go_roundw
       ·exact⟨m+1,Q,by omega,by go_num,eR (by omega) aU.o,(World.putObj_heap_other (by omega)).trans HL.o,(World.putObj_heap_other (by omega)).trans HX.o,(World.putObj_heap_other (by omega)).trans HO.o,WP.o,HPQ.o,HDQ.o.fresh vF.o,_,xo.o.congr (fun y=>(BB.o y).symm) rfl⟩
       ·simp[intOf];omega
      | some z=>
       rw[hs]at yK;have yO:am (∀ y,dF key f (m+1) y=dF key f m y):=aa (xM (z:=z) (by rw[oh];exact hs));obtain⟨i,hi,_,e2,e3⟩:=ri hs;rw[JW.o i]at e3;subst e3;have HE:am (l.getD i 0=l.getD m 0):=aa (by rw[<-HK.o i,<-HK.o m,e2,oh]);have kK:i<k:=by omega
       clear hM hL hX hO TL JR P6 hs oh aB e2
       go_wp2_with fail
       refine(xV k (B+1) B Q WP.o.par m gc wr (by omega) HX.o HO.o).mono ?_;rintro e w2 ⟨rfl,rP,Q2,q7,CF,LQ⟩;have eO:=aa rP;have kb:=aa q7;have NW:=aa CF;have eH:=aa LQ;clear rP q7 CF LQ;obtain⟨p,hp⟩:∃ p,rootN Q m=p:=⟨_,rfl⟩;rw[hp];have tP:p<k:=by rw[<-hp];exact rC gc
       have HP:=aa hp;clear hp yK
       go_wp2_with fail
       refine(xV k (B+1) B Q2 NW.o i kK w2 (by omega) ((eO.o.same _ (by omega)).trans HX.o) kb.o).mono ?_;rintro e w3 ⟨rfl,ho3,Q3,tz,NQ,LV⟩;obtain⟨q,hq⟩:∃ q,rootN Q2 i=q:=⟨_,rfl⟩;rw[hq];have AA:q<k:=by rw[<-hq];exact rC kK
       have ho:=eO.o.trans ho3;have dP:=fun e=>Rq (l:=l) (m:=m) (j:=i) WP.o NQ (fun x hx=>(LV x hx).trans (eH.o x hx)) HPQ.o HDQ.o gc hi e (HP4.o m i HE.o.symm) HP.o ((eH.o i kK).symm.trans hq)
       have fk:=aa (dP HE.o);have vh:=aa (And.intro ((ho.same _ (by omega)).trans HL.o) (And.intro ((ho.same _ (by omega)).trans HX.o) (HM.o.kept (ho.same M (by omega)))));have dX:=aa (ho.below aU.o (by omega));have yE:=aa tz;have tJ:=NQ.len;have tx:=ab vh.o.2.1 0;simp at tx;have X0:=aa tJ;clear ho3 tz NQ LV hq ho dP tJ
       have N1:∀ oU lo:Nat,oU=max p q->lo=min p q->∃ (m':Nat) (Q':List Int),m'<=k/\Value.int .i64 ((m:Int)+1)=.int .i64 m'/\Below w.heap.size w (w3.setCell ⟨B,oU,none⟩ (.int .i64 lo))/\(w3.setCell ⟨B,oU,none⟩ (.int .i64 lo)).heap[L]?=some (.cells #[.slice qa k ca,.slice qb k cb] 38)/\(w3.setCell ⟨B,oU,none⟩ (.int .i64 lo)).heap[B+1]?=some (.cells #[.slice (some ⟨B,0,none⟩) k k] 38)/\(w3.setCell ⟨B,oU,none⟩ (.int .i64 lo)).heap[B]?=some (.cells (bG Q') 3)/\Uni a b k Q'/\jm k P Q'/\fH l k m' Q'/\∃ c,dr (w3.setCell ⟨B,oU,none⟩ (.int .i64 lo)) M (dF key f m') c:=by
        rintro oU lo rfl rfl;exact⟨m+1,_,by omega,by go_num,dX.o.setCell (by dsimp only;omega) _,aN vh.o.1 (by omega) _ _,aN vh.o.2.1 (by omega) _ _,by rw[aH yE.o,mg],fk.o.1,fk.o.2.1,fk.o.2.2,c,(vh.o.2.2.kept (Below.heap_setCell _ _ _ _ (by dsimp only;omega))).congr (fun y=>(yO.o y).symm) rfl⟩
       have jD:=aa N1;clear N1;rcases Nat.lt_trichotomy p q with LC|LC|LC
       ·have tq:=ab yE.o q;rw[gi _ _ (by have:=X0.o;omega)]at tq;have zq:=aG yE.o q;have hpq':¬ (q:Int)<p:=by omega
        have PW:max (p:Int) (q:Int)=(q:Int):=Int.max_eq_right (by omega);have vQ:min (p:Int) (q:Int)=(p:Int):=Int.min_eq_left (by omega)
        go_wp2_with fail
        go_roundw
        ·exact jD.o q p (by omega) (by omega)
        ·simp[intOf];omega
       ·subst LC;have tq:=ab yE.o p;rw[gi _ _ (by have:=X0.o;omega)]at tq;have zq:=aG yE.o p
        go_wp2_with fail
        go_roundw
        ·exact jD.o p p (by omega) (by omega)
        ·simp[intOf];omega
       ·have tq:=ab yE.o p;rw[gi _ _ (by have:=X0.o;omega)]at tq;have zq:=aG yE.o p;have hpq':¬ (p:Int)<q:=by omega
        have PW:max (p:Int) (q:Int)=(p:Int):=Int.max_eq_left (by omega);have vQ:min (p:Int) (q:Int)=(q:Int):=Int.min_eq_right (by omega)
        go_wp2_with fail
        go_roundw
        ·exact jD.o p q (by omega) (by omega)
        ·simp[intOf];omega
     ·obtain rfl:m=k:=by omega
      clear hM
      go_wp2_with fail
      go_roundw
      ·exact⟨j+1,Q,by omega,by go_num,aB,hL,hX,hO,TL,(HP5.o Q P6 JR).1,(HP5.o Q P6 JR).2⟩
      ·simp[intOf];omega
   ·obtain rfl:j=2:=by omega
    have HX:=aa hX;have HO:=aa hO;have HU:=aa hU;have aU:=aa aB;have yY:=aa (TR (by omega));have Xd:=aa (FN (by omega));have Nr:=aC hL;have Ep:=aB.size;clear hL hX hO hU aB TR FN;obtain⟨f2,FB⟩:∃ f2:Nat->Int,f2=fun i:Nat=>(rootN P i:Int):=⟨_,rfl⟩
    have xb:am (∀ i,f2 i=(rootN P i:Int)):=aa fun i=>by rw[FB]
    have HJ:am (lh ((List.range k).map f2)=kQ a b):=aa (by rw[FB];exact Q6 HNA.o HU.o yY.o Xd.o);clear FB;have gc:=jp f2 k GK
    go_wp2_with fail
    clear gc;refine bF (fun W=>Below w.heap.size w W/\W.heap[B+1]?=some (.cells #[.slice (some ⟨B,0,none⟩) k k] 38)/\W.heap[B]?=some (.cells (bG P) 3)/\W.heap[wr.heap.size]?=some (.cells (fC k f2 0) 3)) ⟨aU.o.alloc Ep _,az _ HX.o,az _ HO.o,aq _ _⟩ (fun W2 fh=>?_);generalize wr.heap.size=R at fh Nr Ep;have cQ:=aa fh;clear fh HX HO aU wr
    go_loopw [88] (fun i wr=>∃ (m:Nat) (Q:List Int),m<=k/\i=.int .i64 m/\Below w.heap.size w wr/\wr.heap[B+1]?=some (.cells #[.slice (some ⟨B,0,none⟩) k k] 38)/\wr.heap[B]?=some (.cells (bG Q) 3)/\Par k Q/\(∀ i,i<k->rootN Q i=rootN P i)/\wr.heap[R]?=some (.cells (fC k f2 m) 3)) (fun i _=>k - (intOf i).toNat)
    ·exact⟨0,P,by omega,rfl,cQ.o.1,cQ.o.2.1,cQ.o.2.2.1,HU.o.par,fun _ _=>rfl,cQ.o.2.2.2⟩
    ·
     clear cQ;obtain⟨m,Q,hm,rfl,aB,hX,hO,hQ,hr,hR⟩:=hrel;by_cases gc:m<k
     ·have HR:=aa hR;have HX:=aa hX;have HO:=aa hO;have aU:=aa aB;have wZ:=aa hr;have HRT:am (rootN Q m=rootN P m):=aa (hr m gc);have hc:=xV k (B+1) B Q hQ m gc wr (by omega) hX hO;rw[HRT.o]at hc;have HC:=aa hc;have HV:=aa (xb.o m);clear hR hX hO aB hr hQ hc;generalize rootN P m=p at HC HV HRT
      go_wp2_with fail
      refine HC.o.mono ?_;rintro e w2 ⟨rfl,rP,Q2,q7,CF,LQ⟩;have cV:=aa (rP.below aU.o (by omega));have fY:=aa ((rP.same _ (by omega)).trans HX.o);have mw:=(rP.same R (by omega)).trans HR.o;have eH:=aa mw;have tq:=ab mw m;rw[mf _ _ _ _ gc]at tq;have zq:=aG mw m;have eO:=aa q7;have NW:=aa CF;have Lu:=aa LQ;clear rP q7 CF LQ mw
      go_wp2_with fail
      go_roundw
      ·(repeat apply Exists.intro);refine⟨?_,rfl⟩;exact⟨m+1,Q2,by omega,by go_num,cV.o.setCell (by dsimp only;omega) _,aN fY.o (by omega) _ _,aN eO.o (by omega) _ _,NW.o,fun i hi=>(Lu.o i hi).trans (wZ.o i hi),by rw[aH eH.o,<-uN _ _ _ gc,HV.o]⟩
      ·simp[intOf];omega
     ·obtain rfl:m=k:=by omega
      rw[qf]at hR
      have HRI:am (aX wr (.slice (some ⟨R,0,none⟩) m m) ((List.range m).map f2)):=aa (rD (by simp) GK hR fun i hi=>by
       rw[show ((List.range m).map f2).getD i 0=f2 i by simp at hi;simp[hi],xb.o];have:=G9 P i;simp at hi
       exact⟨by omega,by omega⟩)
      have aU:=aa aB;clear hR hX hO hQ hr aB
      go_wp2_with fail
      refine(Km _ _ wr HRI.o (by simpa using GK)).mono ?_;rintro e w2 ⟨u,rfl,hu,aY⟩;rw[HJ.o]at hu;have Lv:=aa hu;obtain⟨_,_,rfl,_⟩:=hu.at;clear hu
      go_wp2_with fail
      go_ret2
      exact⟨_,rfl,Lv.o,ae aU.o aY⟩
end Go.Proofs.YtmeaoneaephjeaaGreatDoor
namespace Go.Proofs.YtmeaoneaephjeaaGreatDoor
open Go.RowKit Go Go.Shelf
abbrev z5(p:Pb) (vc vs:Value):Array Value:=#[.int .i64 p.t.n,.int .i64 p.t.ins,.int .i64 p.t.outs,vc,.int .i64 p.a.n,vs,.int .i64 p.rounds]
theorem gD{p:Pb} (h:probE p=0):taskE p.t=0/\advE p.a=0/\p.t.n=p.a.n/\0<=p.rounds/\p.rounds<=6:=by
 unfold probE at h;split at h
 ·rename_i h1;exact absurd h h1
 rename_i h1;split at h
 ·rename_i h2;exact absurd h h2
 rename_i h2;split at h
 ·omega
 split at h
 ·omega
 exact⟨by simpa using h1,by simpa using h2,by omega,by omega,by omega⟩
theorem up_words:Up (mH 7 pn):=zk up_round
def Hy(w:World) (b o:Nat) (x:Vw):Prop:=
 ge w b o x.p/\ge w b (o+1) x.k/\ge w b (o+2) x.i/\ge w b (o+3) x.h0/\ge w b (o+4) x.h1/\ge w b (o+5) x.h2/\ge w b (o+6) x.h3/\ge w b (o+7) x.h4
theorem up_view:Up Hy:=fun _ _ _ _ _ hb ⟨h0,h1,h2,h3,h4,h5,h6,h7⟩=>
 ⟨up_int _ _ _ _ _ hb h0,up_int _ _ _ _ _ hb h1,up_int _ _ _ _ _ hb h2,up_int _ _ _ _ _ hb h3,up_int _ _ _ _ _ hb h4,up_int _ _ _ _ _ hb h5,up_int _ _ _ _ _ hb h6,up_int _ _ _ _ _ hb h7⟩
abbrev m3:=fe 8 Hy
abbrev Vw.c(v:Vw):Array Value:=#[.int .i64 v.p,.int .i64 v.k,.int .i64 v.i,.int .i64 v.h0,.int .i64 v.h1,.int .i64 v.h2,.int .i64 v.h3,.int .i64 v.h4]
abbrev Vw.v(v:Vw):Value:=.agg v.c
def eX(xs:List Vw):List Value:=xs.flatMap fun x=>x.c.toList
theorem E4(a b:List Vw):eX (a++b)=eX a++eX b:=by simp[eX]
theorem E5(xs:List Vw):∀ u∈eX xs,u.oneCell'=true:=by
 intro u hu;obtain⟨x,_,hx⟩:=List.mem_flatMap.1 hu;simp at hx;rcases hx with h|h|h|h|h|h|h|h<;>subst h<;>rfl
def VT(w:World) (b o:Nat) (x:Ex):Prop:=ge w b o x.c/\mH 7 pn w b (o+1) x.word/\uH w b (o+2) x.views
theorem up_ex:Up VT:=fun _ _ _ _ _ hb h=>⟨up_int _ _ _ _ _ hb h.1,up_words _ _ _ _ _ hb h.2.1,up_vecs _ _ _ _ _ hb h.2.2⟩
abbrev zw:=fe 3 VT
abbrev cj(p:Pb) (vc vs:Value) (n:Int) (vt ve:Value):Array Value:=z5 p vc vs++#[.int .i64 n,vt,ve]
abbrev zeroPb:Pb:=⟨⟨0,0,0,[]⟩,⟨0,[]⟩,0⟩
abbrev zeroSys:Array Value:=cj zeroPb (.slice none 0 0) (.slice none 0 0) 0 (.slice none 0 0) (.slice none 0 0)
structure IsSys (w:World) (s:Sys) (vc vs vt ve:Value):Prop where
 cases:bN w vc s.prob.t.cases
 states:bA w vs s.prob.a.states
 tab:m3 w vt s.tab
 ex:zw w ve s.ex
theorem IsSys.up{w w':World} {s:Sys} {vc vs vt ve:Value} (h:IsSys w s vc vs vt ve) (hb:Below w.heap.size w w'):IsSys w' s vc vs vt ve:=⟨h.cases.up up_case hb,h.states.up up_moves hb,h.tab.up up_view hb,h.ex.up up_ex hb⟩
abbrev uT(w:World) (base:Nat) (v:Value) (l:List (List Rd)):Prop:=cB 87 141 7 da w base v l
abbrev cS(w:World) (base:Nat) (v:Value) (l:List (List Int)):Prop:=cB 38 3 1 (fun l=>l.map (Value.int .i64)) w base v l
theorem gE{w:World} {base:Nat} {v:Value} {l:List Int} (h:aI w base 3 1 v l.length (l.map (Value.int .i64))) (hr:∀ x∈l,bT x) (hn:l.length<=17592186044416):aX w v l:=by
 have aS:=fun i (hi:i<l.length)=>h.cell i (.int .i64 l[i]) (by simp[hi])
 rcases h.2 with ⟨rfl,hz⟩|⟨g,cap,cur,fz,rfl,_,hg,_,jI,ja,_,_⟩
 ·refine⟨none,0,by rw[hz],⟨by omega,by omega,fun _=>rfl⟩,hn,fun i x hi=>?_⟩;have:=(List.getElem?_eq_some_iff.1 hi).1;omega
 ·refine⟨some ⟨g,0,none⟩,cap,rfl,⟨jI,by simp only[maxLen]at ja;omega,fun e=>by cases e⟩,hn,fun i x hi=>⟨g,0,rfl,?_⟩⟩;obtain⟨gQ,rfl⟩:=List.getElem?_eq_some_iff.1 hi;obtain⟨g',c',e1,e2⟩:=aS i gQ;have:g=g':=by simp at e1;exact e1.1
  subst this;exact⟨by rw[Nat.mul_one,Nat.zero_add];exact e2,hr _ (List.getElem_mem gQ)⟩
theorem aI.keep{w w':World} {base sz:Nat} {e:TypeId} {v:Value} {n:Nat} {xs:List Value} (h:aI w base e sz v n xs) (hk:∀ (g:Nat) (o:Obj),v.ownBlock=some g->w.heap[g]?=some o->w'.heap[g]?=some o):aI w' base e sz v n xs:=by
 obtain⟨hl,h⟩:=h;refine⟨hl,?_⟩;rcases h with h|⟨g,cap,cur,fz,rfl,h2,h3,h4⟩
 ·exact .inl h
 ·exact .inr ⟨g,cap,cur,fz,rfl,h2,hk g _ rfl h3,h4⟩
theorem uU(p:Pb) (vc vs:Value) (w:World) (hc:bN w vc p.t.cases) (hs:bA w vs p.a.states) (hN:movesN p.a.states<2305843009213693952) :
  Calls Tryz.prog 71 #[nN p vc vs] w fun e w'=>e=.returned (.int .i64 (probE p))/\Below w.heap.size w w':=by
 have GC:=aa hc;have GS:=aa hs;obtain⟨pc,cc,rfl,_⟩:=hc.at;obtain⟨ps,cs,rfl,_⟩:=hs.at;clear hc hs;have HV:am (probE p=if taskE p.t≠0 then taskE p.t else if advE p.a≠0 then advE p.a else if p.t.n≠p.a.n then 22 else if p.rounds<0\/6<p.rounds then 2 else 0):=by exact rfl
 go_enter Tryz.func71,Tryz.ntmps71
 go_wp2_with fail
 refine aQ (fun W=>Below w.heap.size w W/\W.heap[w.heap.size]?=some (.cells (z5 p (.slice pc p.t.cases.length cc) (.slice ps p.a.states.length cs)) 29)) ⟨by go_grown,aq _ _⟩ (fun W0 bh=>?_);obtain⟨aJ,bK⟩:=bh;refine(DG p.t _ W0 (GC.o.up up_case aJ)).mono ?_;rintro e w1 ⟨rfl,aM⟩;have gl:=ae aJ aM;have eN:=af aM bK;have t1:=ab eN;generalize taskE p.t=et at HV;have dN:=aa eN;clear eN bK;by_cases oF:et=0
 case neg=>
  have NU:(et != 0)=true:=by simpa using oF
  go_wp2_with fail
  go_ret
  exact⟨aF (by rw[HV.o,if_pos oF]),gl⟩
 subst oF
 go_wp2_with fail
 refine(Gs p.a _ w1 (GS.o.up up_moves gl) hN).mono ?_;rintro e w2 ⟨rfl,aY⟩;have ku:=ae gl aY;have t2:=ab (af aY dN.o);clear t1;generalize advE p.a=ea at HV;by_cases xd:ea=0
 case neg=>
  have hea':(ea != 0)=true:=by simpa using xd
  go_wp2_with fail
  go_ret
  exact⟨aF (by rw[HV.o,if_neg (by simp),if_pos xd]),ku⟩
 subst xd
 go_wp2_with fail
 all_goals
  go_ret
  refine⟨aF ?_,ku⟩;rw[HV.o]
  go_light
  grind
theorem Kn{p:Pb} (h:probE p=0):∃ n:Nat,p.rounds=n/\n<=6:=⟨p.rounds.toNat,by have:=gD h;omega,by have:=gD h;omega⟩
def numberP(p:Pb):Int:=p.t.cases.length * numberS p.a p.rounds.toNat
theorem Mn(a:Adv) (n:Nat):0<=numberS a n/\numberS a n<=4097:=DH (Hr a n) 0
theorem sH(p:Pb) (vc vs:Value) (w:World) (hc:bN w vc p.t.cases) (hs:bA w vs p.a.states) (hp:probE p=0) :
  Calls Tryz.prog 72 #[nN p vc vs,.int .i64 4096] w fun e w'=>e=.returned (.int .i64 (numberP p))/\Below w.heap.size w w':=by
 obtain⟨ht,ha,y9,_,_⟩:=gD hp;clear y9;obtain⟨h1,h2,_⟩:=hZ ha;have bX:=(fp ht).2.2.2.1;obtain⟨n,hn,hn6⟩:=Kn hp;have HV:am (numberP p=p.t.cases.length * numberS p.a n):=by(have h:numberP p=p.t.cases.length * numberS p.a n:=by(unfold numberP;rw[hn,Int.toNat_natCast]));exact h
 have bW:=aa (fun W (hb:Below w.heap.size w W)=>DI p.a vs n hn6 W (hs.up up_moves hb) h2 h1);have jv:=Mn p.a n;generalize numberS p.a n=nn at bW HV jv;obtain⟨pc,cc,rfl,_⟩:=hc;obtain⟨ps,cs,rfl,_⟩:=hs
 have HM:am (IntKind.i64.wrap ((p.t.cases.length:Int) * nn)=p.t.cases.length * nn):=by
  have h:IntKind.i64.wrap ((p.t.cases.length:Int) * nn)=p.t.cases.length * nn:=by
   have h1:(0:Int)<=(p.t.cases.length:Int) * nn:=Int.mul_nonneg (by omega) (by omega);have h2:(p.t.cases.length:Int) * nn<=1024 * 4097:=Int.mul_le_mul (by omega) (by omega) (by omega) (by omega);exact IntWalk.i64_in _ (by omega)
  exact h
 rw[<-hn]at bW;clear ht ha h1 h2 hp jv hn
 go_enter Tryz.func72,Tryz.ntmps72
 go_wp2_with fail
 refine bF (fun V=>Below w.heap.size w V/\V.heap[w.heap.size]?=some (.cells (z5 p (.slice pc p.t.cases.length cc) (.slice ps p.a.states.length cs)) 29)) ⟨by go_grown,aq _ _⟩ (fun V hV=>?_);obtain⟨aJ,bK⟩:=hV;have qV:=aa (fun x:ExtW V=>Calls.ext_of (bW.o x.val (ae aJ x.ext)));have r1:∀ x:ExtW V,∀ o,x.val.cell? ⟨w.heap.size,o,none⟩=_:=fun x=>ab (af x.ext bK)
 have hM:=HM.o;clear bK;refine aE (by kernel_rfl) (by kernel_rfl) ?_
 repeat (go_big_quiet_step ((go_at_call 116;exact qV.o _)))
 refine wpQuiet_nil ?_;intro _ eD;obtain⟨xq,dg⟩:=eD;subst dg;clear r1 bW hM
 go_wp2_with fail
 go_ret
 exact⟨aF (by rw[HV.o]),ae aJ xq.ext⟩
def fewPB(p:Pb):Bool:=
 if fewTB p.t=false then false else if sB p.a=false then false else if 3<p.t.n/\p.t.n<=5 then false
 else if probE p≠0 then true else decide (numberP p<=60) || decide (4096<numberP p)
theorem Hz(p:Pb) (vc vs:Value) (w:World) (hc:bN w vc p.t.cases) (hs:bA w vs p.a.states) :
  Calls Tryz.prog 34 #[nN p vc vs] w fun e w'=>e=.returned (.bool (fewPB p))/\Below w.heap.size w w':=by
 have GC:=aa hc;have GS:=aa hs;obtain⟨pc,cc,rfl,_⟩:=hc;obtain⟨ps,cs,rfl,_⟩:=hs;have HV:am (fewPB p=if fewTB p.t=false then false else if sB p.a=false then false else if 3<p.t.n/\p.t.n<=5 then false else if probE p≠0 then true else decide (numberP p<=60) || decide (4096<numberP p)):=by exact rfl
 have HF:am (sB p.a=(decide (p.a.states.length<=8)&&decide (movesN p.a.states<=40))):=by exact rfl
 go_enter Tryz.func34,Tryz.ntmps34
 go_wp2_with fail
 refine aQ (fun W=>Below w.heap.size w W/\W.heap[w.heap.size]?=some (.cells (z5 p (.slice pc p.t.cases.length cc) (.slice ps p.a.states.length cs)) 29)) ⟨by go_grown,aq _ _⟩ (fun W0 bh=>?_);obtain⟨aJ,bK⟩:=bh;refine(Hp p.t _ W0 (GC.o.up up_case aJ)).mono ?_;rintro e w1 ⟨rfl,aM⟩;have gl:=ae aJ aM;have dN:=aa (af aM bK);have t1:=ab dN.o;clear bK;generalize fewTB p.t=ft at HV;cases ft with
 | false=>
  go_wp2_with fail
  go_ret
  exact⟨aR (by rw[HV.o];rfl),gl⟩
 | true=>
 go_wp2_with fail
 refine(Ki p.a _ w1 (GS.o.up up_moves gl)).mono ?_;rintro e w2 ⟨rfl,aY⟩;have ku:=ae gl aY;have tV:=aa (af aY dN.o);have t2:=ab tV.o;clear t1;cases C5:sB p.a with
 | false=>
  have yL:=aa C5;clear C5
  go_wp2_with fail
  go_ret
  exact⟨aR (by rw[HV.o,yL.o];rfl),ku⟩
 | true=>
 have Fw:movesN p.a.states<=40:=by
  have h:=HF.o;rw[C5]at h;simp at h;exact h.2
 rw[C5]at HV;clear HF C5;by_cases h3:3<p.t.n/\p.t.n<=5
 ·obtain⟨h31,FH⟩:=h3;have HR:am (fewPB p=false):=by(have h:fewPB p=false:=by(rw[HV.o];simp[h31,FH]));exact h
  go_wp2_with fail
  go_ret
  exact⟨aR HR.o.symm,ku⟩
 have HR:am (fewPB p=if probE p≠0 then true else decide (numberP p<=60) || decide (4096<numberP p)):=by
  have h:fewPB p=if probE p≠0 then true else decide (numberP p<=60) || decide (4096<numberP p):=by
   rw[HV.o,if_neg (by simp),if_neg (by simp),if_neg h3]
  exact h
 clear HV;have UA:¬ 3<p.t.n\/(3<p.t.n/\5<p.t.n):=by omega
 clear h3;have HC:=aa (uU p _ _ w2 (GC.o.up up_case ku) (GS.o.up up_moves ku) (by omega));have HNU:=aa (fun (hp:probE p=0) W (hb:Below w.heap.size w W)=>sH p _ _ W (GC.o.up up_case hb) (GS.o.up up_moves hb) hp);rcases UA with h3|⟨h3,XX⟩
 all_goals
  go_wp2_with fail
  refine HC.o.mono ?_;rintro e w3 ⟨rfl,bH⟩;have Nt:=ae ku bH;have t3:=ab (af bH tV.o);clear t2;by_cases hp:probE p=0
  case neg=>
   generalize probE p=ep at hp HR;have QX:(ep != 0)=true:=by simpa using hp
   go_wp2_with fail
   go_ret
   exact⟨aR (by rw[HR.o,if_pos hp]),Nt⟩
  have rS:=aa (HNU.o hp w3 Nt);rw[hp]at HR ⊢;clear hp HNU
  go_wp2_with fail
  refine rS.o.mono ?_;rintro e w4 ⟨rfl,bR⟩;clear t3;generalize numberP p=nn at HR;by_cases h60:nn<=60
  ·go_wp2_with fail
   go_ret
   exact⟨aR (by rw[HR.o,if_neg (by simp),decide_eq_true h60];rfl),ae Nt bR⟩
  ·have hd:decide (nn<=60)=false:=decide_eq_false h60;have HD:=aa hd
   go_wp2_with fail
   go_ret
   exact⟨aR (by rw[HR.o,if_neg (by simp),HD.o];rfl),ae Nt bR⟩
theorem pU{p:Pb} (h:fewPB p=true):movesN p.a.states<=40:=by
 unfold fewPB at h;split at h
 ·cases h
 split at h
 ·cases h
 ·rename_i h2;have:sB p.a=true:=by simpa using h2
  unfold sB at this;simp at this;exact this.2
end Go.Proofs.YtmeaoneaephjeaaGreatDoor
namespace Go.Proofs.YtmeaoneaephjeaaGreatDoor
instance:Inhabited Ex:=⟨⟨0,[],[]⟩⟩
instance:DecidableEq Ex:=fun a b=>decidable_of_iff (a.c=b.c/\a.word=b.word/\a.views=b.views) (by cases a;cases b;simp)
def verifyE(s:Sys):Int:=if buildE s.prob≠0 then buildE s.prob else if s.n=(aK s.prob).n/\s.tab=(aK s.prob).tab/\s.ex=(aK s.prob).ex then 0 else 3
theorem E6{s:Sys} (h:verifyE s=0):buildE s.prob=0/\s=aK s.prob:=by
 unfold verifyE at h;split at h
 ·rename_i h1;exact absurd h h1
 rename_i h1;split at h
 ·rename_i h2;refine⟨by omega,?_⟩;obtain⟨p,n,t,e⟩:=s;obtain⟨h3,h4,h5⟩:=h2;dsimp only at h3 h4 h5 ⊢;rw[h3,h4,h5];rfl
 ·omega
def maskN(q:Nat->Bool):Nat->Nat
 | 0=>0
 | k+1=>maskN q k+if q k then 2 ^ k else 0
theorem gX(q:Nat->Bool):∀ n,maskN q n<2 ^ n
 | 0=>by simp[maskN]
 | n+1=>by
  have:=gX q n;have h2:(2:Nat) ^ (n+1)=2 ^ n+2 ^ n:=by rw[Nat.pow_succ];omega
  unfold maskN;split<;>omega
theorem dT(q:Nat->Bool):∀ n p,(maskN q n).testBit p=(decide (p<n)&&q p)
 | 0,p=>by simp[maskN]
 | n+1,p=>by
  have aD:=gX q n;rw[maskN];rcases Nat.lt_trichotomy p n with h|h|h
  ·rw[decide_eq_true (show p<n+1 by omega),Bool.true_and];have ih:=dT q n p;rw[decide_eq_true h,Bool.true_and]at ih;split
   ·rw[Nat.add_comm,Nat.testBit_two_pow_add_gt h];exact ih
   ·exact ih
  ·subst h;rw[decide_eq_true (show p<p+1 by omega),Bool.true_and];split
   ·rename_i h1;rw[Nat.add_comm,Nat.testBit_two_pow_add_eq,Nat.testBit_lt_two_pow aD,h1];rfl
   ·rename_i h1;rw[Nat.add_zero,Nat.testBit_lt_two_pow aD];simpa using h1
  ·rw[decide_eq_false (by omega),Bool.false_and];refine Nat.testBit_lt_two_pow (Nat.lt_of_lt_of_le (gX q (n+1)) (Nat.pow_le_pow_right (by omega) (by omega)))
theorem z6{q r:Nat->Bool} {n:Nat} (h:∀ p,p<n->q p=r p):maskN q n=maskN r n:=by
 refine Nat.eq_of_testBit_eq fun p=>?_
 rw[dT,dT];by_cases hp:p<n
 ·rw[h p hp]
 ·rw[decide_eq_false hp];rfl
theorem nO(q:Nat->Bool) (n:Nat):maskN q n=0↔anyLt n q=false:=by
 rw[fR];constructor
 ·intro h k hk;have:=dT q n k;rw[h,decide_eq_true hk]at this;simpa using this.symm
 ·intro h;refine Nat.eq_of_testBit_eq fun p=>?_
  rw[dT,Nat.zero_testBit];by_cases hp:p<n
  ·rw[h p hp,Bool.and_false]
  ·rw[decide_eq_false hp];rfl
theorem OS(q r:Nat->Bool) (n:Nat):maskN q n &&& maskN r n=maskN (fun p=>q p&&r p) n:=by
 refine Nat.eq_of_testBit_eq fun p=>?_
 rw[Nat.testBit_and,dT,dT,dT];cases decide (p<n)<;>simp
theorem Rr(q r:Nat->Bool) (n:Nat):maskN q n ||| maskN r n=maskN (fun p=>q p || r p) n:=by
 refine Nat.eq_of_testBit_eq fun p=>?_
 rw[Nat.testBit_or,dT,dT,dT];cases decide (p<n)<;>simp
theorem OT{n v:Nat} (h:v<n):maskN (fun p=>decide (p=v)) n=2 ^ v:=by
 refine Nat.eq_of_testBit_eq fun p=>?_
 rw[dT,Nat.testBit_two_pow];by_cases e:p=v
 ·subst e;simp[h]
 ·rw[decide_eq_false e,decide_eq_false (show ¬ v=p by omega),Bool.and_false]
theorem Mo(n:Nat):maskN (fun _=>true) n=2 ^ n - 1:=by
 refine Nat.eq_of_testBit_eq fun p=>?_
 rw[dT,Nat.testBit_two_pow_sub_one,Bool.and_true]
theorem xW{q:Nat->Bool} {k:Nat} (h:q k=true):maskN q k ||| 2 ^ k=maskN q (k+1):=by
 refine Nat.eq_of_testBit_eq fun p=>?_
 rw[Nat.testBit_or,dT,dT,Nat.testBit_two_pow];by_cases e:p=k
 ·subst e;simp[h]
 ·rw[decide_eq_false (show ¬ k=p by omega),Bool.or_false,decide_eq_decide.2 (show p<k↔p<k+1 by omega)]
theorem wc{q:Nat->Bool} {k:Nat} (h:q k=false):maskN q k=maskN q (k+1):=by rw[maskN,h];rfl
theorem m5(q:Nat->Bool) (n p:Nat):hasB (maskN q n:Nat) p=(decide (p<n)&&q p):=by
 rw[nM _ (by omega),Int.toNat_natCast,dT]
structure Lk where
 x:Int
 p:Int
instance:Inhabited Lk:=⟨⟨0,0⟩⟩
instance:DecidableEq Lk:=fun a b=>decidable_of_iff (a.x=b.x/\a.p=b.p) (by cases a;cases b;simp)
def cJ(s:Sys) (e:Nat):Ex:=s.ex.getD e default
def fltS(s:Sys) (e:Nat):Int:=zp (cJ s e).word
def nS(s:Sys):Nat:=s.n.toNat
def eS(s:Sys):Nat:=s.ex.length
def finS(s:Sys) (e p:Nat):Int:=((cJ s e).views.getD s.prob.rounds.toNat []).getD p 0
def linkB(s:Sys) (p e f:Nat):Bool:=!hasB (fltS s e) p&&!hasB (fltS s f) p&&decide (finS s e p=finS s f p)
theorem nP(s:Sys) (p e f:Nat):linkB s p e f=linkB s p f e:=by
 unfold linkB;rw[Bool.and_comm (!hasB (fltS s e) p),decide_eq_decide.2 (eq_comm (a:=finS s e p))]
theorem ux{s:Sys} {p e f g:Nat} (h1:linkB s p e f=true) (h2:linkB s p f g=true):linkB s p e g=true:=by
 unfold linkB at *;simp only[Bool.and_eq_true,decide_eq_true_eq]at *;exact⟨⟨h1.1.1,h2.1.2⟩,h1.2.trans h2.2⟩
def eT(s:Sys) (e f:Nat):Bool:=anyLt (nS s) fun p=>linkB s p e f
def byP(s:Sys) (e f:Nat):Int:=firstIx (nS s) fun p=>linkB s p e f
theorem HH(s:Sys) (e f:Nat):eT s e f=eT s f e:=J5 _ _ _ fun p _=>nP s p e f
theorem DN{s:Sys} {e f:Nat} (h:eT s e f=true):0<=byP s e f/\byP s e f<nS s/\linkB s (byP s e f).toNat e f=true:=by
 unfold eT at h;unfold byP;rcases bI (nS s) (fun p=>linkB s p e f) with ⟨_,h1⟩|⟨k,hk,e1,h1,_⟩
 ·rw[eQ _ _ h1]at h;cases h
 ·rw[e1,Int.toNat_natCast];exact⟨by omega,by omega,h1⟩
def classL(s:Sys) (p:Nat):List Int:=im (fun k i=>linkB s p k i) (eS s)
def ed(s:Sys):Nat->List Int
 | 0=>classL s 0
 | k+1=>kQ (ed s k) (classL s (k+1))
def partsS(s:Sys):List Int:=ed s (nS s - 1)
theorem jq(s:Sys) (p:Nat):(classL s p).length=eS s:=pF _ _
theorem gJ(s:Sys):∀ k,(ed s k).length=eS s
 | 0=>jq s 0
 | k+1=>by rw[ed,kQ,pF,gJ s k]
theorem dK(s:Sys):(partsS s).length=eS s:=gJ s _
def oS(s:Sys):Nat:=s.prob.t.outs.toNat
def vecE(s:Sys) (e:Nat):List (List Int):=gg (s.prob.t.cases.getD (cJ s e).c.toNat default) (fltS s e)
def valB(s:Sys) (e v:Nat):Bool:=hasV (vecE s e) (List.replicate (nS s) (v:Int))
def valuesS(s:Sys) (e:Nat):List Int:=((List.range (oS s)).filter (valB s e)).map fun v:Nat=>(v:Int)
def constB(v:List Int):Bool:=!anyLt v.length fun i=>decide (v.getD i 0≠v.getD 0 0)
def agreeB(t:Tk):Bool:=!anyLt t.cases.length fun i=>anyLt (t.cases.getD i default).out.length fun j=>!constB ((t.cases.getD i default).out.getD j [])
def readyE(s:Sys):Int:=if verifyE s≠0 then verifyE s else if agreeB s.prob.t then 0 else 11
def valuesR(s:Sys) (x:Int):List Int × Int:=if readyE s≠0 then([],readyE s) else if x<0\/(eS s:Int)<=x then([],6) else(valuesS s x.toNat,0)
def memL(parts:List Int) (k:Int):List Nat:=(List.range parts.length).filter fun e=>decide (parts.getD e 0=k)
def comB(s:Sys) (l:List Nat):Int:=firstIx (oS s) fun v=>l.all fun e=>valB s e v
def choiceS(s:Sys):List Int:=(List.range (eS s)).map fun e=>comB s (memL (partsS s) ((partsS s).getD e 0))
def choiceR(s:Sys):List Int × Int:=if readyE s≠0 then([],readyE s) else(choiceS s,0)
def go(s:Sys) (e:Nat) (out:List Int):Nat->List Int
 | 0=>out
 | p+1=>if hasB (fltS s e) p then go s e out p else(go s e out p).set (finS s e p).toNat ((choiceS s).getD e 0)
def fT(s:Sys):Nat->List Int
 | 0=>List.replicate s.tab.length (-1)
 | e+1=>go s e (fT s e) (nS s)
def ruleR(s:Sys):List Int × Bool × Int:=if readyE s≠0 then([],false,readyE s) else if -1∈choiceS s then([],false,0) else(fT s (eS s),true,0)
def db(s:Sys) (f:Nat):List Int:=Q5 (eS s) (eT s) f
def gK(s:Sys) (D:List Int) (d e:Nat):Nat:=(firstIx (eS s) fun g=>decide (D.getD g 0=d)&&eT s e g).toNat
def kD(s:Sys) (D:List Int):Nat->Nat->List Lk
 | 0,_=>[]
 | d+1,e=>⟨gK s D d e,byP s e (gK s D d e)⟩ :: kD s D d (gK s D d e)
def kn(s:Sys) (e f:Nat):List Lk:=kD s (db s f) ((db s f).getD e 0).toNat e
def kR(s:Sys):Nat->List Nat->List Lk
 | _,[]=>[]
 | e,m :: r=>kn s e m++kR s m r
def gF(s:Sys):List Nat->List Lk
 | []=>[]
 | a :: r=>⟨a,-1⟩ :: kR s a r
def cF(l:List Lk):List Nat:=l.map fun y=>y.x.toNat
def cM(s:Sys) (l:List Lk):Bool:=decide (comB s (cF l)<0)
def rl(s:Sys) (l:List Lk):Nat:=if firstIx l.length (fun i=>cM s (l.take (i+1)))<0 then l.length else(firstIx l.length fun i=>cM s (l.take (i+1))).toNat+1
def nQ(s:Sys) (l:List Lk):List Lk:=l.take (rl s l)
def lW(s:Sys):Int:=firstIx (eS s) fun e=>decide ((choiceS s).getD e 0<0)
def kE(s:Sys):List Lk:=nQ s (gF s (memL (partsS s) ((partsS s).getD (lW s).toNat 0)))
def findW(s:Sys):List Lk × Bool × Int:=
 if readyE s≠0 then([],false,readyE s) else if lW s<0 then([],false,0) else if 4096<(kE s).length then([],false,17) else(kE s,true,0)
structure Ct where
 kind:Int
 walk:List Lk
 nv:Nat
 nl:Nat
 np:Nat
def fq(s:Sys) (w:List Lk) (i:Nat):Int:=
 if (w.getD i default).x<0\/(eS s:Int)<=(w.getD i default).x then 6
 else if i=0 then(if (w.getD i default).p≠-1 then 3 else 0)
 else if (w.getD i default).p<0\/(nS s:Int)<=(w.getD i default).p then 2
 else if linkB s (w.getD i default).p.toNat (w.getD (i - 1) default).x.toNat (w.getD i default).x.toNat then 0 else 18
def walkE(s:Sys) (w:List Lk):Int:=if w.length=0 then 16 else if 4096<w.length then 5 else bm w.length (fq s w)
def wg(s:Sys) (c:Ct):Int:=
 if c.kind≠1 then 1 else if 0<c.nv\/0<c.nl\/0<c.np then 3
 else if walkE s c.walk≠0 then walkE s c.walk else if cM s c.walk then 0 else 18
def certE(s:Sys) (c:Ct):Int:=if readyE s≠0 then readyE s else wg s c
def wh(s:Sys) (w:List Lk) (i k:Nat):Option (List Lk):=
 if eT s (w.getD i default).x.toNat (w.getD k default).x.toNat then some (w.take (i+1)++⟨(w.getD k default).x,byP s (w.getD i default).x.toNat (w.getD k default).x.toNat⟩ :: w.drop (k+1)) else none
def GG(s:Sys) (w:List Lk) (i:Nat):List (List Lk):=(List.range (w.length - (i+2))).filterMap fun j=>wh s w i (w.length - 1 - j)
def dL(s:Sys) (w:List Lk):List (List Lk):=
 w.dropLast :: ((if 1<w.length then [⟨(w.getD 1 default).x,-1⟩ :: w.drop 2] else [])++(List.range w.length).flatMap (GG s w))
def iY(s:Sys) (w:List Lk):Bool:=decide (0<w.length)&&cM s w
def jN(s:Sys) (w:List Lk):Option (List Lk):=(dL s w).find? (iY s)
def mh(s:Sys):Nat->List Lk->List Lk
 | 0,w=>w
 | k+1,w=>match jN s w with|some c=>mh s k c|none=>w
def iQ(s:Sys) (w:List Lk):List Lk:=mh s w.length w
def shortR(s:Sys) (c:Ct):List Lk × Int:=if certE s c≠0 then([],certE s c) else(iQ s c.walk,0)
structure SysOk (s:Sys):Prop where
 prob:probE s.prob=0
 n:1<=nS s/\nS s<=5/\s.n=nS s/\s.prob.t.n=nS s
 outs:1<=oS s/\oS s<=8/\s.prob.t.outs=oS s
 rounds:0<=s.prob.rounds/\s.prob.rounds<=6
 count:eS s<=4096
 tab:s.tab.length<=8192
 cas:∀ e,e<eS s->0<=(cJ s e).c/\(cJ s e).c.toNat<s.prob.t.cases.length
 word:∀ e,e<eS s->(cJ s e).word.length=s.prob.rounds.toNat
 flt:∀ e,e<eS s->0<=fltS s e/\fltS s e<2 ^ nS s
 views:∀ e,e<eS s->(cJ s e).views.length=s.prob.rounds.toNat+1/\∀ row∈(cJ s e).views,row.length=nS s/\∀ z∈row,0<=z/\z<(s.tab.length:Int)
theorem VU(tb:List Vw) (v:Vw):tb.length<=(putV tb v).1.length/\(putV tb v).2<(putV tb v).1.length:=by
 unfold putV;split
 ·rename_i h;exact⟨Nat.le_refl _,List.idxOf_lt_length_of_mem h⟩
 ·simp
theorem E7(vs:List Vw):∀ st:List Vw × List Int,(∀ z∈st.2,0<=z/\z<(st.1.length:Int))->st.1.length<=(vs.foldl gS st).1.length/\∀ z∈(vs.foldl gS st).2,0<=z/\z<((vs.foldl gS st).1.length:Int):=by
 induction vs with
 | nil=>intro st h;exact⟨Nat.le_refl _,h⟩
 | cons v r ih=>
  intro st h;have hp:=VU st.1 v
  have h2:=ih (gS st v) (by
   intro z hz
   show 0<=z/\z<((putV st.1 v).1.length:Int)
   rcases List.mem_append.1 hz with hz|hz
   ·have:=h z hz;omega
   ·rw[List.mem_singleton]at hz;subst hz;omega)
  exact⟨Nat.le_trans hp.1 h2.1,h2.2⟩
theorem KK(n:Nat) (inp:List Int) (word:List Rd) (tb:List Vw):∀ k,tb.length<=(playTo n inp word tb k).1.length/\(playTo n inp word tb k).2.length=k+1/\∀ row∈(playTo n inp word tb k).2,row.length=n/\∀ z∈row,0<=z/\z<((playTo n inp word tb k).1.length:Int)
 | 0=>by
  have h:=E7 ((List.range n).map (eh inp)) (tb,[]) (fun z hz=>by simp at hz);have hl:=(fM ((List.range n).map (eh inp)) (tb,[])).1;refine⟨h.1,rfl,fun row hr=>?_⟩;have e:row=(addAll tb ((List.range n).map (eh inp))).2:=by simpa[playTo,uM] using hr
  subst e;exact⟨by simpa[addAll] using hl,h.2⟩
 | k+1=>by
  obtain⟨h1,h2,h3⟩:=KK n inp word tb k;have h:=E7 ((List.range n).map (nextV n k (word.getD k default) ((playTo n inp word tb k).2.getLastD []))) ((playTo n inp word tb k).1,[]) (fun z hz=>by simp at hz);have hl:=(fM ((List.range n).map (nextV n k (word.getD k default) ((playTo n inp word tb k).2.getLastD []))) ((playTo n inp word tb k).1,[])).1;have e1:(playTo n inp word tb (k+1)).1=(addAll (playTo n inp word tb k).1 ((List.range n).map (nextV n k (word.getD k default) ((playTo n inp word tb k).2.getLastD [])))).1:=rfl;have e2:(playTo n inp word tb (k+1)).2=(playTo n inp word tb k).2++[(addAll (playTo n inp word tb k).1 ((List.range n).map (nextV n k (word.getD k default) ((playTo n inp word tb k).2.getLastD [])))).2]:=rfl;have h0:(playTo n inp word tb k).1.length<=(playTo n inp word tb (k+1)).1.length:=by rw[e1];exact h.1
  refine⟨by omega,by rw[e2,List.length_append,h2];rfl,fun row hr=>?_⟩;rw[e2]at hr;rcases List.mem_append.1 hr with hr|hr
  ·obtain⟨h4,h5⟩:=h3 row hr;exact⟨h4,fun z hz=>by have:=h5 z hz;omega⟩
  ·rw[List.mem_singleton]at hr;subst hr;rw[e1];exact⟨by simpa[addAll] using hl,h.2⟩
def GH(p:Pb) (words:List (List Rd)) (st:List Vw × List Ex):Prop:=
 ∀ x∈st.2,(∃ c:Nat,x.c=c/\c<p.t.cases.length)/\x.word∈words/\x.views.length=x.word.length+1/\∀ row∈x.views,row.length=p.t.n.toNat/\∀ z∈row,0<=z/\z<(st.1.length:Int)
theorem Mp(p:Pb) (words:List (List Rd)) (st:List Vw × List Ex) (x:Nat × Nat) (h1:x.1<p.t.cases.length) (h2:x.2<words.length) (h:GH p words st):GH p words (ki p words st x):=by
 obtain⟨k1,k2,k3⟩:=KK p.t.n.toNat (p.t.cases.getD x.1 default).inp (words.getD x.2 []) st.1 (words.getD x.2 []).length;intro y hy;rcases List.mem_append.1 hy with hy|hy
 ·obtain⟨a1,a2,a3,a4⟩:=h y hy;refine⟨a1,a2,a3,fun row hr=>⟨(a4 row hr).1,fun z hz=>?_⟩⟩;have:=(a4 row hr).2 z hz
  show 0<=z/\z<((gt p.t.n.toNat (p.t.cases.getD x.1 default).inp (words.getD x.2 []) st.1).1.length:Int)
  unfold gt;omega
 ·rw[List.mem_singleton]at hy;subst hy;refine⟨⟨x.1,rfl,h1⟩,?_,k2,k3⟩
  show words.getD x.2 []∈words
  rw[show words.getD x.2 []=words[x.2] by simp[h2]];exact List.getElem_mem h2
theorem OU(p:Pb) (words:List (List Rd)) (l:List (Nat × Nat)):∀ st,(∀ x∈l,x.1<p.t.cases.length/\x.2<words.length)->GH p words st->GH p words (l.foldl (ki p words) st):=by
 induction l with
 | nil=>intro st _ h;exact h
 | cons a r ih=>intro st hl h;exact ih _ (fun x hx=>hl x (by simp[hx])) (Mp p words st a (hl a (by simp)).1 (hl a (by simp)).2 h)
theorem rG(p:Pb) (words:List (List Rd)) (l:List (Nat × Nat)):∀ st:List Vw × List Ex,(l.foldl (ki p words) st).2.length=st.2.length+l.length:=by
 induction l with
 | nil=>intro st;rfl
 | cons a r ih=>
  intro st;rw[List.foldl_cons,ih];simp[ki];omega
theorem Rt{c n:Nat} {x:Nat × Nat} (h:x∈jl c n):x.1<c/\x.2<n:=by
 unfold jl at h;obtain⟨i,hi,hx⟩:=List.mem_flatMap.1 h;obtain⟨j,hj,rfl⟩:=List.mem_map.1 hx;exact⟨List.mem_range.1 hi,List.mem_range.1 hj⟩
theorem xX(c n:Nat):(jl c n).length=c * n:=by
 unfold jl;induction c with
 | zero=>simp
 | succ c ih=>rw[List.range_succ,List.flatMap_append,List.length_append,ih,Nat.succ_mul];simp
theorem Ru{r:Rd} (h:roundE r=0):0<=r.f/\r.f<2 ^ r.g.n.toNat:=by
 unfold roundE at h;split at h
 ·rename_i h1;exact absurd h h1
 unfold kg at h;split at h
 ·rename_i h1;exact absurd h h1
 split at h
 ·omega
 rename_i h1;refine⟨by omega,?_⟩;have h2:r.f / 2 ^ r.g.n.toNat=0:=by omega
 have h3:(0:Int)<2 ^ r.g.n.toNat:=Int.pow_pos (by decide);have h4:=Int.emod_add_mul_ediv r.f (2 ^ r.g.n.toNat);rw[h2,Int.mul_zero,Int.add_zero]at h4;rw[<-h4];exact Int.emod_lt_of_pos _ h3
theorem Rv{a:Adv} (h:∀ s,s<a.states.length->stateE a (a.states.getD s [])=0) (k:Nat):∀ s,∀ x∈cg a k s,∀ r∈x,0<=r.f/\r.f<2 ^ a.n.toNat:=by
 induction k with
 | zero=>intro s x hx r hr;simp[cg]at hx;subst hx;simp at hr
 | succ k ih=>
  intro s x hx r hr;simp only[cg,List.mem_flatMap,List.mem_map]at hx;obtain⟨m,hm,y,hy,rfl⟩:=hx;rcases List.mem_cons.1 hr with rfl|hr
  ·by_cases hs:s<a.states.length
   ·obtain⟨j,hj,rfl⟩:=List.getElem_of_mem hm;have h1:=h s hs;unfold stateE at h1;rw[if_neg (by omega)]at h1;have h2:=fF h1 j hj;unfold dS at h2;rw[show (a.states.getD s []).getD j default=(a.states.getD s [])[j] by rw[List.getD_eq_getElem?_getD,List.getElem?_eq_getElem hj];rfl]at h2;split at h2
    ·rename_i h3;exact absurd h2 h3
    rename_i h3;split at h2
    ·omega
    rename_i h4;have h5:=Ru (r:=(a.states.getD s [])[j].r) (by simpa using h3);rw[show (a.states.getD s [])[j].r.g.n=a.n by simpa using h4]at h5;exact h5
   ·rw[List.getD_eq_getElem?_getD,List.getElem?_eq_none (by omega)]at hm;simp at hm
  ·exact ih _ y hy r hr
theorem ru{p:Pb} (h:probE p=0):taskE p.t=0/\advE p.a=0/\p.t.n=p.a.n/\0<=p.rounds/\p.rounds<=6:=by
 unfold probE at h;split at h
 ·rename_i h1;exact absurd h h1
 split at h
 ·rename_i h1 h2;exact absurd h h2
 split at h
 ·omega
 split at h
 ·omega
 exact⟨by omega,by omega,by omega,by omega,by omega⟩
theorem iZ{s:Sys} (hv:verifyE s=0):SysOk s:=by
 obtain⟨p,hb,rfl⟩:∃ p,buildE p=0/\s=aK p:=⟨s.prob,E6 hv⟩;clear hv;unfold buildE at hb;split at hb
 ·rename_i h;exact absurd hb h
 rename_i hp;have hp:probE p=0:=by omega
 split at hb
 ·omega
 rename_i hm;split at hb
 ·omega
 rename_i ht;obtain⟨ny,Jj,fA,rU,qz⟩:=ru hp;obtain⟨hn,_,ho,_,_⟩:=fp ny;obtain⟨_,dO,_,_⟩:=hZ Jj;have hE:=OU p (aO p) (jl p.t.cases.length (aO p).length) ([],[]) (fun x hx=>Rt hx) (fun x hx=>by simp at hx);have hL:=rG p (aO p) (jl p.t.cases.length (aO p).length) ([],[]);rw[xX]at hL
 have CV:∀ e,e<eS (aK p)->cJ (aK p) e∈(execsS p (aO p) (jl p.t.cases.length (aO p).length)).2:=fun e he=>by
  unfold cJ;have TN:e<(aK p).ex.length:=he;rw[show (aK p).ex.getD e default=(aK p).ex[e] by rw[List.getD_eq_getElem?_getD,List.getElem?_eq_getElem TN];rfl];exact List.getElem_mem TN
 have JC:∀ e,e<eS (aK p)->(cJ (aK p) e).word.length=p.rounds.toNat:=fun e he=>kh _ _ _ _ (hE _ (CV e he)).2.1
 have FQ:nS (aK p)=p.t.n.toNat:=rfl;refine⟨hp,⟨by rw[FQ];omega,by rw[FQ];omega,by rw[FQ];show p.t.n=_;omega,by rw[FQ];show p.t.n=_;omega⟩,⟨?_,?_,?_⟩,⟨rU,qz⟩,?_,by omega,fun e he=>?_,JC,fun e he=>?_,fun e he=>?_⟩
 ·show 1<=p.t.outs.toNat;omega
 ·show p.t.outs.toNat<=8;omega
 ·show p.t.outs=(p.t.outs.toNat:Int);omega
 ·show (execsS p (aO p) (jl p.t.cases.length (aO p).length)).2.length<=4096
  unfold execsS;rw[hL];simp;omega
 ·obtain⟨⟨c,e1,e2⟩,_⟩:=hE _ (CV e he);rw[e1];exact⟨by omega,by rw[Int.toNat_natCast];exact e2⟩
 ·have h1:=(hE _ (CV e he)).2.1;unfold fltS zp;rw[FQ,fA];split
  ·exact⟨by omega,Int.pow_pos (by decide)⟩
  ·rename_i h2;have h3:(cJ (aK p) e).word.length - 1<(cJ (aK p) e).word.length:=by omega
   rw[show (cJ (aK p) e).word.getD ((cJ (aK p) e).word.length - 1) default=(cJ (aK p) e).word[(cJ (aK p) e).word.length - 1] by rw[List.getD_eq_getElem?_getD,List.getElem?_eq_getElem h3];rfl];exact Rv dO _ _ _ h1 _ (List.getElem_mem h3)
 ·obtain⟨_,_,h3,h4⟩:=hE _ (CV e he);exact⟨by rw[h3,JC e he];rfl,h4⟩
theorem Rw{t:Tk} (h:taskE t=0) {c:Cs} (hc:c∈t.cases):c.out≠[]/\(∀ v∈c.calm,v∈c.out)/\∀ v∈c.out,(v.length:Int)=t.n/\∀ x∈v,0<=x/\x<t.outs:=by
 have hk:=(fp h).2.2.2.2 c hc;refine⟨fun e=>by have:=hk.out1;rw[e]at this;simp at this,hk.calms,fun v hv=>⟨hk.outs v hv,?_⟩⟩;obtain⟨k,qY,rfl⟩:=List.getElem_of_mem hc;unfold taskE at h;split at h
 ·omega
 split at h
 ·omega
 have h3:=fF h k qY;unfold eW at h3;rw[show t.cases.getD k default=t.cases[k] by simp[qY]]at h3;split at h3
 ·omega
 split at h3
 ·omega
 unfold vectorsE at h3;split at h3
 ·omega
 split at h3
 ·omega
 rename_i h6;have h7:=fF (show bm _ _=0 by simpa using h6);obtain⟨i,hi,rfl⟩:=List.getElem_of_mem hv;have h8:=h7 i hi;unfold jf at h8;rw[show (t.cases[k]).out.getD i []=(t.cases[k]).out[i] by simp[hi]]at h8;split at h8
 ·omega
 rename_i h9;have h9:vectorE (t.cases[k]).out[i] t.n t.outs=0:=by simpa using h9
 unfold vectorE at h9;split at h9
 ·omega
 split at h9
 ·omega
 rename_i xh;have IX:=(fR _ _).1 ((Bool.not_eq_true _).mp xh);intro x hx;obtain⟨j,hj,rfl⟩:=List.getElem_of_mem hx;have lS:=IX j hj;rw[show (t.cases[k]).out[i].getD j 0=(t.cases[k]).out[i][j] by simp[hj]]at lS;simp at lS;omega
theorem B2{s:Sys} (h:SysOk s) {e:Nat} (he:e<eS s):vecE s e≠[]/\∀ v∈vecE s e,v.length=nS s/\(∀ x∈v,0<=x/\x<(oS s:Int))/\∃ i j,i<s.prob.t.cases.length/\j<(s.prob.t.cases.getD i default).out.length/\v=(s.prob.t.cases.getD i default).out.getD j []:=by
 obtain⟨ht,_⟩:=ru h.prob;have hc:=(h.cas e he).2
 have hm:s.prob.t.cases.getD (cJ s e).c.toNat default∈s.prob.t.cases:=by
  rw[show s.prob.t.cases.getD (cJ s e).c.toNat default=s.prob.t.cases[(cJ s e).c.toNat] by simp[hc]];exact List.getElem_mem hc
 obtain⟨h1,h2,h3⟩:=Rw ht hm
 have h4:∀ v∈vecE s e,v∈(s.prob.t.cases.getD (cJ s e).c.toNat default).out:=fun v hv=>by
  unfold vecE gg at hv;split at hv
  ·exact h2 v hv
  ·exact hv
 refine⟨?_,fun v hv=>?_⟩
 ·unfold vecE gg;split
  ·rename_i h5;intro h6;rw[h6]at h5;simp at h5
  ·exact h1
 ·obtain⟨h5,h6⟩:=h3 v (h4 v hv);have hn:=h.n;have ho:=h.outs;obtain⟨j,hj,e⟩:=List.getElem_of_mem (h4 v hv);exact⟨by omega,fun x hx=>by have:=h6 x hx;omega,_,j,hc,hj,by rw[<-e];exact(List.getElem_eq_getD []).trans rfl⟩
theorem KL(s:Sys) (e v:Nat):valB s e v=true↔List.replicate (nS s) (v:Int)∈vecE s e:=by
 unfold valB hasV;rw[ld];constructor
 ·rintro⟨k,hk,h⟩;have:=of_decide_eq_true h;rw[show (vecE s e).getD k []=(vecE s e)[k] by simp[hk]]at this;rw[<-this];exact List.getElem_mem hk
 ·intro h;obtain⟨k,hk,e⟩:=List.getElem_of_mem h;exact⟨k,hk,decide_eq_true (by rw[<-e];simp[hk])⟩
theorem OV{s:Sys} (h:SysOk s) {e v:Nat} (he:e<eS s) (hv:valB s e v=true):v<oS s:=by
 have h1:=((B2 h he).2 _ ((KL s e v).1 hv)).2.1 v (by have:=h.n;rw[List.mem_replicate];exact⟨by omega,rfl⟩);omega
theorem OW{v:List Int} (h:constB v=true):v=List.replicate v.length (v.getD 0 0):=by
 unfold constB at h;have h1:=(fR _ _).1 ((Bool.not_eq_true' _).mp h);rw[List.eq_replicate_iff];refine⟨rfl,fun x hx=>?_⟩;obtain⟨j,hj,rfl⟩:=List.getElem_of_mem hx;have:=h1 j hj;rw[show v.getD j 0=v[j] by simp[hj]]at this;simpa using this
theorem qh(t:Tk):agreeB t=true↔∀ i,i<t.cases.length->∀ j,j<(t.cases.getD i default).out.length->constB ((t.cases.getD i default).out.getD j [])=true:=by
 unfold agreeB;rw[Bool.not_eq_true',fR];constructor
 ·intro h i hi j hj;have:=(fR _ _).1 (h i hi) j hj;simpa using this
 ·intro h i hi;rw[fR];intro j hj;rw[h i hi j hj];rfl
def gY(s:Sys) (e:Nat):Nat:=maskN (valB s e) 8
def wj(s:Sys) (l:List Nat) (v:Nat):Bool:=l.all fun e=>valB s e v
def comM(s:Sys) (l:List Nat):Nat:=maskN (wj s l) 8
theorem A5(s:Sys):comM s []=255:=by
 unfold comM;rw[show wj s []=fun _=>true from rfl,Mo]
theorem E8(s:Sys) (l:List Nat) (e:Nat):comM s (l++[e])=comM s l &&& gY s e:=by
 unfold comM gY;rw[OS];congr 1
 funext v
 simp[wj]
theorem z'{n m:Nat} (q:Nat->Bool) (h:n<=m) (hq:∀ v,n<=v->v<m->q v=false):firstIx m q=firstIx n q:=by
 rcases bI n q with ⟨e,h1⟩|⟨k,hk,e,h1,h2⟩
 ·rw[e];refine dH _ _ fun j hj=>?_
  by_cases tm:j<n
  ·exact h1 j tm
  ·exact hq j (by omega) hj
 ·rw[e];exact dB m k q (by omega) h2 h1
theorem KM{s:Sys} (h:SysOk s) {l:List Nat} (hl:∀ e∈l,e<eS s):comB s l=firstIx 8 (wj s l):=by
 have ho:=h.outs;unfold comB;rcases l with _|⟨a,r⟩
 ·rw[dB (oS s) 0 _ (by omega) (fun j hj=>by omega) rfl,dB 8 0 _ (by omega) (fun j hj=>by omega) rfl]
 ·refine(z' _ ho.2.1 fun v hv _=>?_).symm;cases hq:wj s (a :: r) v with
  | false=>exact hq
  | true=>
   unfold wj at hq;rw[List.all_eq_true]at hq;have:=OV h (hl a (by simp)) (hq a (by simp));omega
theorem OX{s:Sys} (h:SysOk s) {l:List Nat} (hl:∀ e∈l,e<eS s):comB s l<0↔comM s l=0:=by
 rw[KM h hl];unfold comM;rw[nO,<-pR];simp
theorem Mq(s:Sys) (l:List Nat):-1<=comB s l/\comB s l<oS s\/oS s=0:=by
 unfold comB;rcases bI (oS s) (fun v=>l.all fun e=>valB s e v) with ⟨e,_⟩|⟨k,hk,e,_⟩<;>omega
theorem OY(s:Sys) (l:List Nat):comB s l<0↔∀ v,v<oS s->∃ e∈l,valB s e v=false:=by
 unfold comB;constructor
 ·intro h v hv;rcases bI (oS s) (fun v=>l.all fun e=>valB s e v) with ⟨_,h1⟩|⟨k,hk,e,_⟩
  ·have:=h1 v hv;rw[List.all_eq_false]at this;obtain⟨e,he,h2⟩:=this;exact⟨e,he,by simpa using h2⟩
  ·omega
 ·intro h;rw[dH]
  ·omega
  ·intro j hj;obtain⟨e,he,h2⟩:=h j hj;rw[List.all_eq_false];exact⟨e,he,by simp[h2]⟩
theorem E9(s:Sys) {l m:List Nat} (h:∀ e∈l,e∈m) (hl:comB s l<0):comB s m<0:=by
 rw[OY]at hl ⊢;intro v hv;obtain⟨e,he,h1⟩:=hl v hv;exact⟨e,h e he,h1⟩
theorem wl(s:Sys) (f:Nat):(db s f).length=eS s:=by simp[db,Q5]
theorem m7(s:Sys) (f e:Nat) (he:e<eS s):(db s f).getD e 0=dQ (eS s) (eT s) f (eS s) e:=by
 simp[db,Q5,he]
theorem lm{s:Sys} {f:Nat} (hf:f<eS s):Dist (eS s) (eT s) f fun e=>(db s f).getD e 0:=by
 have h:=Og (L:=eT s) hf;refine⟨by rw[m7 s f f hf];exact h.zero,fun e he h1=>?_,fun e he=>?_,fun e he d h1=>?_,fun e g he hg h1 h2=>?_⟩
 ·rw[m7 s f e he]at h1;exact h.only e he h1
 ·rw[m7 s f e he];exact h.low e he
 ·rw[m7 s f e he]at h1;obtain⟨g,hg,h2,h3⟩:=h.pred e he d h1;exact⟨g,hg,by rw[m7 s f g hg];exact h2,h3⟩
 ·rw[m7 s f g hg]at h1 ⊢;rw[m7 s f e he];exact h.next e g he hg h1 h2
theorem DO{s:Sys} {f:Nat} (hf:f<eS s) (e:Nat) (he:e<eS s):(db s f).getD e 0<eS s:=by
 rw[m7 s f e he];have hr:=gI (n:=eS s) (L:=eT s) (f:=f) (eS s) e;by_cases h0:0<=dQ (eS s) (eT s) f (eS s) e
 ·have h1:=su (n:=eS s) (L:=eT s) (f:=f) (eS s) e (dQ (eS s) (eT s) f (eS s) e).toNat (by omega) (by omega);have:=G' hf _ e he h1;omega
 ·omega
theorem A6{s:Sys} {f:Nat} (hf:f<eS s) {e d:Nat} (he:e<eS s) (h:(db s f).getD e 0=d+1):gK s (db s f) d e<eS s/\(db s f).getD (gK s (db s f) d e) 0=d/\eT s e (gK s (db s f) d e)=true/\firstIx (eS s) (fun g=>decide ((db s f).getD g 0=d)&&eT s e g)=(gK s (db s f) d e:Nat):=by
 obtain⟨g,hg,h1,h2⟩:=(lm hf).pred e he d h;unfold gK;rcases bI (eS s) (fun g=>decide ((db s f).getD g 0=d)&&eT s e g) with ⟨_,h3⟩|⟨k,hk,e1,h3,_⟩
 ·have h4:=h3 g hg;rw[decide_eq_true h1,h2]at h4;cases h4
 ·rw[e1,Int.toNat_natCast];simp only[Bool.and_eq_true,decide_eq_true_eq]at h3;exact⟨hk,h3.1,h3.2,rfl⟩
def chainB(s:Sys):Nat->List Lk->Prop
 | _,[]=>True
 | e,y :: r=>0<=y.x/\y.x.toNat<eS s/\0<=y.p/\y.p<nS s/\linkB s y.p.toNat e y.x.toNat=true/\chainB s y.x.toNat r
def qM(e:Nat):List Lk->Nat
 | []=>e
 | y :: r=>qM y.x.toNat r
theorem xY{s:Sys}:∀ (l:List Lk) (e:Nat) (m:List Lk),chainB s e l->chainB s (qM e l) m->chainB s e (l++m)
 | [],_,_,_,h=>h
 | _ :: r,_,m,⟨h1,h2,h3,h4,h5,h6⟩,h=>⟨h1,h2,h3,h4,h5,xY r _ m h6 h⟩
theorem xZ{s:Sys} {f:Nat} (hf:f<eS s):∀ (d e:Nat),e<eS s->(db s f).getD e 0=d->chainB s e (kD s (db s f) d e)/\qM e (kD s (db s f) d e)=f/\(kD s (db s f) d e).length=d
 | 0,e,he,h=>⟨trivial,(lm hf).only e he h,rfl⟩
 | d+1,e,he,h=>by
  obtain⟨h1,h2,h3,_⟩:=A6 hf he (by rw[h];rfl);obtain⟨h4,h5,h6⟩:=DN h3;obtain⟨h7,h8,h9⟩:=xZ hf d _ h1 h2;refine⟨⟨by dsimp only;omega,by dsimp only;rw[Int.toNat_natCast];exact h1,h4,h5,?_,?_⟩,?_,?_⟩
  ·dsimp only;rw[Int.toNat_natCast];exact h6
  ·dsimp only;rw[Int.toNat_natCast];exact h7
  ·show qM (gK s (db s f) d e:Int).toNat _=f
   rw[Int.toNat_natCast];exact h8
  ·show (kD s (db s f) d (gK s (db s f) d e)).length+1=d+1
   rw[h9]
def H5(s:Sys) (e f:Nat):Prop:=0<=(db s f).getD e 0
theorem KN{s:Sys} {e f:Nat} (he:e<eS s) (hf:f<eS s) (h:H5 s e f):chainB s e (kn s e f)/\qM e (kn s e f)=f/\(kn s e f).length<eS s:=by
 have h1:=DO hf e he;obtain⟨h2,h3,h4⟩:=xZ hf ((db s f).getD e 0).toNat e he (by unfold H5 at h;omega);exact⟨h2,h3,by unfold kn;rw[h4];omega⟩
theorem end_mem:∀ (l:List Lk) (e:Nat),qM e l∈e :: cF l
 | [],e=>by simp[qM]
 | y :: r,e=>by
  have h:=end_mem r y.x.toNat
  show qM y.x.toNat r∈e :: (y.x.toNat :: cF r)
  exact List.mem_cons_of_mem _ h
theorem wm(l m:List Lk):cF (l++m)=cF l++cF m:=by simp[cF]
theorem KO{s:Sys}:∀ (l:List Nat) (e:Nat),e<eS s->(∀ m∈l,m<eS s)->(∀ a∈e :: l,∀ b∈e :: l,H5 s a b)->chainB s e (kR s e l)/\(∀ m∈l,m∈e :: cF (kR s e l))/\(kR s e l).length<=l.length * (eS s - 1)
 | [],e,_,_,_=>⟨trivial,fun m hm=>by simp at hm,by simp[kR]⟩
 | m :: r,e,he,hl,hn=>by
  have hm:=hl m (by simp);obtain⟨h1,h2,h3⟩:=KN he hm (hn e (by simp) m (by simp));obtain⟨h4,h5,h6⟩:=KO r m hm (fun x hx=>hl x (by simp[hx])) (fun a ha b hb=>hn a (List.mem_cons_of_mem _ ha) b (List.mem_cons_of_mem _ hb));have P8:=end_mem (kn s e m) e;rw[h2]at P8
  have hme2:m∈e :: cF (kR s e (m :: r)):=by
   show m∈e :: cF (kn s e m++kR s m r)
   rw[wm];rcases List.mem_cons.1 P8 with h|h
   ·rw[h];simp
   ·exact List.mem_cons_of_mem _ (List.mem_append_left _ h)
  refine⟨xY _ _ _ h1 (by rw[h2];exact h4),fun x hx=>?_,?_⟩
  ·rcases List.mem_cons.1 hx with rfl|hx
   ·exact hme2
   ·rcases List.mem_cons.1 (h5 x hx) with rfl|h
    ·exact hme2
    ·show x∈e :: cF (kn s e m++kR s m r)
     rw[wm];exact List.mem_cons_of_mem _ (List.mem_append_right _ h)
  ·show (kn s e m++kR s m r).length<=(r.length+1) * (eS s - 1)
   rw[List.length_append,Nat.succ_mul];omega
theorem H6{q:Nat->Nat->Bool} (hs:∀ a b,q a b=q b a) (ht:∀ a b c,q a b=true->q b c=true->q a c=true) (n i k:Nat) (hi:i<n) (hk:k<n):(im q n).getD i 0=(im q n).getD k 0↔i=k\/q i k=true:=by
 have e:im q n=im (fun a b=>decide (a=b) || q a b) n:=nJ fun i _ k hk=>by rw[decide_eq_false (by omega)];rfl
 rw[e,EK (q:=fun a b=>decide (a=b) || q a b) (fun a=>by simp) (fun a b=>by rw[hs,decide_eq_decide.2 (eq_comm (a:=a))]) n (fun a b c _ _ _ h1 h2=>by
  simp only[Bool.or_eq_true,decide_eq_true_eq]at h1 h2 ⊢;rcases h1 with rfl|h1
  ·exact h2
  ·rcases h2 with rfl|h2
   ·exact .inr h1
   ·exact .inr (ht a b c h1 h2)) i k hi hk]
 simp
theorem Aa{s:Sys} (h:SysOk s) {R:Nat->Nat->Prop} (hr:∀ a,R a a) (h0:∀ p a b,p<nS s->a<eS s->b<eS s->linkB s p a b=true->R a b) (h1:∀ a b c,R a b->R b c->R a c):∀ m,m<nS s->∀ i k,i<eS s->k<eS s->(ed s m).getD i 0=(ed s m).getD k 0->R i k
 | 0,hm,i,k,hi,hk,e=>by
  rcases (H6 (nP s 0) (fun a b c=>ux) (eS s) i k hi hk).1 e with rfl|e
  ·exact hr i
  ·exact h0 0 i k hm hi hk e
 | m+1,hm,i,k,hi,hk,e=>by
  have hl:=gJ s m;unfold ed kQ at e;rw[hl]at e;have dy:=mL (nK (ed s m) (classL s (m+1)));rw[EK (fun a=>rz _ _ a a (BM _ _ a)) (fun a b=>dy _ a b) (eS s) (fun a b c _ hb _ h2 h3=>gO _ _ a b c hb h2 h3) i k hi hk]at e
  have key:∀ m' x y,m'<=eS s->x<eS s->y<eS s->ic (dJ (ed s m) (classL s (m+1))) m' x y=true->R x y:=by
   intro m';induction m' with
   | zero=>
    intro x y _ hx hy h2;unfold ic dJ at h2;simp only[Bool.or_eq_true,decide_eq_true_eq]at h2;rcases h2 with h2|h2
    ·exact Aa h hr h0 h1 m (by omega) x y hx hy h2
    ·rcases (H6 (nP s (m+1)) (fun a b c=>ux) (eS s) x y hx hy).1 h2 with rfl|h2
     ·exact hr x
     ·exact h0 (m+1) x y hm hx hy h2
   | succ m' ih=>
    intro x y hm' hx hy h2;rw[ic]at h2;simp only[Bool.or_eq_true,Bool.and_eq_true]at h2;rcases h2 with h2|⟨h2,h3⟩
    ·exact ih x y (by omega) hx hy h2
    ·exact h1 _ _ _ (ih x m' (by omega) hx (by omega) h2) (ih m' y (by omega) (by omega) hy h3)
  exact key _ i k (Nat.le_refl _) hi hk e
theorem B3{s:Sys} (h:SysOk s) (i k:Nat) (hi:i<eS s) (hk:k<eS s) (e:(partsS s).getD i 0=(partsS s).getD k 0):H5 s i k:=by
 have hn:=h.n
 have hR:=Aa h (R:=fun a b=>∀ c,c<eS s->(0<=(db s c).getD a 0↔0<=(db s c).getD b 0)) (fun a c _=>Iff.rfl) (fun p a b hp ha hb hl c hc=>by
  have hd:=lm hc;have gH:eT s a b=true:=eo _ p _ hp hl
  exact⟨fun h1=>(hd.next b a hb ha h1 (by rw[HH];exact gH)).1,fun h1=>(hd.next a b ha hb h1 gH).1⟩) (fun a b c h1 h2 x hx=>(h1 x hx).trans (h2 x hx)) (nS s - 1) (by omega) i k hi hk e
 unfold H5;rw[hR k hk];have:=(lm hk).zero;omega
theorem lp{parts:List Int} {k:Int} {e:Nat}:e∈memL parts k↔e<parts.length/\parts.getD e 0=k:=by simp[memL]
theorem OZ{s:Sys} (h:SysOk s) (k:Int) (a:Nat) (r:List Nat) (e:memL (partsS s) k=a :: r):a<eS s/\chainB s a (kR s a r)/\(∀ m∈a :: r,m∈cF (gF s (a :: r)))/\(gF s (a :: r)).length<=1+r.length * (eS s - 1)/\r.length<eS s:=by
 have hm:∀ m∈a :: r,m<eS s/\(partsS s).getD m 0=k:=fun m hm=>by
  rw[<-e,lp,dK]at hm;exact hm
 have ha:=(hm a (by simp)).1;obtain⟨h1,h2,h3⟩:=KO r a ha (fun m h=>(hm m (by simp[h])).1) (fun x hx y hy=>B3 h x y (hm x hx).1 (hm y hy).1 (by rw[(hm x hx).2,(hm y hy).2]));refine⟨ha,h1,fun m h4=>?_,?_,?_⟩
 ·have ev:cF (gF s (a :: r))=a :: cF (kR s a r):=by simp[cF,gF]
  rw[ev];rcases List.mem_cons.1 h4 with rfl|h4
  ·simp
  ·exact h2 m h4
 ·simp only[gF,List.length_cons];omega
 ·have h4:=congrArg List.length e
  have h5:(memL (partsS s) k).length<=eS s:=by
   exact Nat.le_trans (List.length_filter_le _ _) (by rw[List.length_range,dK];exact Nat.le_refl _)
  rw[List.length_cons]at h4;omega
theorem Ab(s:Sys) (p:Lk) (l:List Lk) (i:Nat):fq s (p :: l) (i+2)=fq s l (i+1):=by
 unfold fq;simp only[List.getD_cons_succ,Nat.add_sub_cancel,show i+2 - 1=i+1 by omega];rw[if_neg (show ¬ (i+2=0) by omega),if_neg (show ¬ (i+1=0) by omega)]
theorem O1(s:Sys) (p y:Lk) (r:List Lk):fq s (p :: y :: r) 1=0↔0<=y.x/\y.x.toNat<eS s/\0<=y.p/\y.p<nS s/\linkB s y.p.toNat p.x.toNat y.x.toNat=true:=by
 unfold fq;rw[show (p :: y :: r).getD 1 default=y from rfl,show (p :: y :: r).getD (1 - 1) default=p from rfl,if_neg (show ¬ (1=0) by omega)];constructor
 ·intro h;split at h
  ·omega
  split at h
  ·omega
  split at h
  ·rename_i h3;exact⟨by omega,by omega,by omega,by omega,h3⟩
  ·omega
 ·rintro⟨h1,h2,h3,h4,h5⟩;rw[if_neg (by omega),if_neg (by omega),if_pos h5]
theorem sI(s:Sys):∀ (l:List Lk) (p:Lk),chainB s p.x.toNat l↔∀ i,i<l.length->fq s (p :: l) (i+1)=0
 | [],p=>⟨fun _ i hi=>by simp at hi,fun _=>trivial⟩
 | y :: r,p=>by
  have ih:=sI s r y;have h1:=O1 s p y r;constructor
  ·rintro⟨a1,a2,a3,a4,a5,a6⟩ i hi;cases i with
   | zero=>exact h1.2 ⟨a1,a2,a3,a4,a5⟩
   | succ i=>rw[Ab];exact ih.1 a6 i (by simpa using hi)
  ·intro h;obtain⟨a1,a2,a3,a4,a5⟩:=h1.1 (h 0 (by simp));exact⟨a1,a2,a3,a4,a5,ih.2 fun i hi=>by rw[<-Ab s p];exact h (i+1) (by simpa using hi)⟩
theorem mP(s:Sys) (w:List Lk):walkE s w=0↔∃ a:Nat,∃ r,w=⟨a,-1⟩ :: r/\a<eS s/\chainB s a r/\w.length<=4096:=by
 constructor
 ·intro h;unfold walkE at h;split at h
  ·omega
  rename_i h1;split at h
  ·omega
  rename_i h2;have h3:=fF h
  match w,h1,h2,h3 with
  | y :: r,_,h2,h3=>
   have h4:=h3 0 (by simp);unfold fq at h4;rw[List.getD_cons_zero]at h4;split at h4
   ·omega
   rename_i h5;rw[if_pos rfl]at h4;split at h4
   ·omega
   rename_i h6;refine⟨y.x.toNat,r,?_,by omega,(sI s r y).2 fun i hi=>h3 (i+1) (by simpa using hi),by omega⟩;obtain⟨x,p⟩:=y;dsimp only at h5 h6 ⊢;rw[show p=-1 by omega,show ((x.toNat:Nat):Int)=x by omega]
 ·rintro⟨a,r,rfl,h1,h2,h3⟩;unfold walkE;rw[if_neg (by simp),if_neg (by omega),cT];intro j hj;cases j with
  | zero=>
   unfold fq;rw[List.getD_cons_zero,if_neg (by dsimp only;omega),if_pos rfl,if_neg (by simp)]
  | succ j=>exact(sI s r ⟨a,-1⟩).1 (by dsimp only;rw[Int.toNat_natCast];exact h2) j (by simpa using hj)
theorem rm{s:Sys}:∀ (l:List Lk) (e i:Nat),chainB s e l->chainB s e (l.take i)
 | [],_,i,_=>by simp[chainB]
 | y :: r,e,0,_=>trivial
 | y :: r,e,i+1,⟨h1,h2,h3,h4,h5,h6⟩=>⟨h1,h2,h3,h4,h5,rm r _ i h6⟩
theorem B4{s:Sys}:∀ (l:List Lk) (e i:Nat),chainB s e l->chainB s (qM e (l.take i)) (l.drop i)
 | [],_,i,_=>by simp[chainB]
 | y :: r,e,0,h=>h
 | y :: r,e,i+1,⟨_,_,_,_,_,h6⟩=>B4 r _ i h6
theorem end_at:∀ (l:List Lk) (a:Nat) (i:Nat),i<=l.length->qM a (l.take i)=(((⟨a,-1⟩:Lk) :: l).getD i default).x.toNat
 | l,a,0,_=>by simp[qM]
 | [],a,i+1,h=>by simp at h
 | y :: r,a,i+1,h=>by
  have ih:=end_at r y.x.toNat i (by simpa using h);rw[List.getD_cons_succ,List.take_succ_cons]
  show qM y.x.toNat (r.take i)=_
  rw[ih];cases i with
  | zero=>simp;omega
  | succ i=>rw[List.getD_cons_succ,List.getD_cons_succ]
structure Less (s:Sys) (w c:List Lk):Prop where
 walk:walkE s w=0->walkE s c=0
 len:c.length<w.length
 vis:∀ e∈cF c,e∈cF w
theorem E'(w:List Lk) (i:Nat) (hi:i<w.length):(w.getD i default).x.toNat∈cF w:=by
 unfold cF;rw[show w.getD i default=w[i] by simp[hi]];exact List.mem_map_of_mem (List.getElem_mem hi)
theorem ro{w c:List Lk} (h:∀ y∈c,y∈w):∀ e∈cF c,e∈cF w:=fun e he=>by
 unfold cF at he ⊢;obtain⟨y,hy,rfl⟩:=List.mem_map.1 he;exact List.mem_map_of_mem (h y hy)
theorem Fa{s:Sys} {w c:List Lk} (hc:c∈dL s w) (h0:0<c.length):Less s w c:=by
 unfold dL at hc;rcases List.mem_cons.1 hc with rfl|hc
 ·have hl:w.dropLast.length=w.length - 1:=List.length_dropLast;refine⟨fun h=>?_,by omega,ro fun y hy=>(List.dropLast_sublist w).subset hy⟩;obtain⟨a,r,rfl,h1,h2,h3⟩:=(mP s w).1 h;rw[List.length_cons]at hl h3;have hr:r≠[]:=fun e=>by rw[e]at hl;simp at hl;rw[e]at h0;simp at h0
  refine(mP s _).2 ⟨a,r.dropLast,List.dropLast_cons_of_ne_nil hr,h1,?_,by rw[hl];omega⟩;rw[List.dropLast_eq_take];exact rm _ _ _ h2
 rcases List.mem_append.1 hc with hc|hc
 ·split at hc
  ·rename_i h4;rw[List.mem_singleton]at hc
   match w,h4 with
   | y :: z :: r,h4=>
    have hc:c=⟨z.x,-1⟩ :: r:=by rw[hc];rfl
    subst hc;refine⟨fun h=>?_,by simp,?_⟩
    ·obtain⟨a,r',e,h1,h2,h3⟩:=(mP s _).1 h;injection e with e1 e2
     subst e2;obtain⟨a1,a2,_,_,_,a6⟩:=h2;exact(mP s _).2 ⟨z.x.toNat,r,by rw[show ((z.x.toNat:Nat):Int)=z.x by omega],a2,a6,by simp at h3 ⊢;omega⟩
    ·intro e he;simp only[cF,List.map_cons,List.mem_cons]at he ⊢;exact .inr he
  ·simp at hc
 ·obtain⟨i,hi,hc⟩:=List.mem_flatMap.1 hc;obtain⟨j,hj,hc⟩:=List.mem_filterMap.1 hc;have hi:=List.mem_range.1 hi;have hj:=List.mem_range.1 hj;have yQ:w.length - 1 - j<w.length:=by omega
  have kK:i+2<=w.length - 1 - j:=by omega
  generalize w.length - 1 - j=k at hc yQ kK;clear hj;unfold wh at hc;split at hc
  ·rename_i gH;injection hc with hc
   subst hc;refine⟨fun h=>?_,by simp;omega,fun e he=>?_⟩
   ·obtain⟨a,r,rfl,h1,h2,h3⟩:=(mP s w).1 h;obtain⟨b1,b2,b3⟩:=DN gH;have fU:k<=r.length:=by simp at yQ;omega
    have Qf:i<=r.length:=by omega
    have e1:=end_at r a i Qf;have e2:=end_at r a k fU
    have dq:0<=(((⟨a,-1⟩:Lk) :: r).getD k default).x/\(((⟨a,-1⟩:Lk) :: r).getD k default).x.toNat<eS s:=by
     obtain⟨k',rfl⟩:∃ k',k=k'+1:=⟨k - 1,by omega⟩;have h4:=(sI s r ⟨a,-1⟩).1 (by dsimp only;rw[Int.toNat_natCast];exact h2) k' (by omega);unfold fq at h4;split at h4
     ·omega
     ·omega
    refine(mP s _).2 ⟨a,r.take i++⟨(((⟨a,-1⟩:Lk) :: r).getD k default).x,byP s (((⟨a,-1⟩:Lk) :: r).getD i default).x.toNat (((⟨a,-1⟩:Lk) :: r).getD k default).x.toNat⟩ :: r.drop k,rfl,h1,?_,by simp at h3 yQ ⊢;omega⟩;refine xY _ _ _ (rm _ _ _ h2) ⟨dq.1,dq.2,b1,b2,?_,?_⟩
    ·rw[e1];exact b3
    ·have h5:=B4 r a k h2;rw[e2]at h5;exact h5
   ·unfold cF at he;rw[List.map_append,List.map_cons]at he;rcases List.mem_append.1 he with he|he
    ·exact ro (c:=w.take (i+1)) (fun y hy=>List.mem_of_mem_take hy) e he
    ·rcases List.mem_cons.1 he with rfl|he
     ·exact E' w k yQ
     ·exact ro (c:=w.drop (k+1)) (fun y hy=>List.mem_of_mem_drop hy) e he
  ·cases hc
theorem sJ{s:Sys} {w c:List Lk} (h:jN s w=some c):c∈dL s w/\0<c.length/\cM s c=true/\Less s w c:=by
 have h1:=List.mem_of_find?_eq_some h;have h2:=List.find?_some h;unfold iY at h2;simp only[Bool.and_eq_true,decide_eq_true_eq]at h2;exact⟨h1,h2.1,h2.2,Fa h1 h2.1⟩
theorem Ac(s:Sys):∀ (k:Nat) (w:List Lk),w.length<=k->mh s (k+1) w=mh s k w
 | 0,w,h=>by
  show (match jN s w with|some c=>mh s 0 c|none=>w)=w
  cases hn:jN s w with
  | none=>rfl
  | some c=>have:=(sJ hn).2.2.2.len;omega
 | k+1,w,h=>by
  show (match jN s w with|some c=>mh s (k+1) c|none=>w)=match jN s w with|some c=>mh s k c|none=>w
  cases hn:jN s w with
  | none=>rfl
  | some c=>exact Ac s k c (by have:=(sJ hn).2.2.2.len;omega)
theorem O2(s:Sys) (w:List Lk) (k:Nat) (h:w.length<=k):mh s k w=iQ s w:=by
 obtain⟨d,rfl⟩:∃ d,k=w.length+d:=⟨k - w.length,by omega⟩;clear h;induction d with
 | zero=>rfl
 | succ d ih=>rw[<-ih];exact Ac s (w.length+d) w (by omega)
theorem Mr{s:Sys} {w:List Lk} (h:jN s w=none):iQ s w=w:=by
 unfold iQ;cases w.length with
 | zero=>rfl
 | succ k=>rw[mh,h]
theorem Ms{s:Sys} {w c:List Lk} (h:jN s w=some c):iQ s w=iQ s c:=by
 have hl:=(sJ h).2.2.2.len;unfold iQ;obtain⟨k,hk⟩:∃ k,w.length=k+1:=⟨w.length - 1,by omega⟩;rw[hk,mh,h];exact O2 s c k (by omega)
theorem ip(s:Sys) (w:List Lk) (i:Nat):fq s w i=0↔0<=(w.getD i default).x/\(w.getD i default).x.toNat<eS s/\(i=0->(w.getD i default).p=-1)/\(0<i->0<=(w.getD i default).p/\(w.getD i default).p<nS s/\linkB s (w.getD i default).p.toNat (w.getD (i - 1) default).x.toNat (w.getD i default).x.toNat=true):=by
 unfold fq;generalize w.getD i default=y;generalize w.getD (i - 1) default=z;constructor
 ·intro h;split at h
  ·omega
  split at h
  ·split at h
   ·omega
   ·exact⟨by omega,by omega,fun _=>by omega,fun h'=>by omega⟩
  ·split at h
   ·omega
   split at h
   ·rename_i h1;exact⟨by omega,by omega,fun h'=>by omega,fun _=>⟨by omega,by omega,h1⟩⟩
   ·omega
 ·rintro⟨h1,h2,h3,h4⟩;rw[if_neg (by omega)];split
  ·rename_i h5;rw[if_neg (by have:=h3 h5;omega)]
  ·rename_i h5;obtain⟨h6,h7,h8⟩:=h4 (by omega);rw[if_neg (by omega),if_pos h8]
theorem ir(s:Sys) (w:List Lk):walkE s w=0↔0<w.length/\w.length<=4096/\∀ i,i<w.length->fq s w i=0:=by
 unfold walkE;constructor
 ·intro h;split at h
  ·omega
  split at h
  ·omega
  ·exact⟨by omega,by omega,fF h⟩
 ·rintro⟨h1,h2,h3⟩;rw[if_neg (by omega),if_neg (by omega),cT _ _ h3]
def jr(w:List Lk):List Lk:=(List.range w.length).map fun j=>⟨(w.getD (w.length - 1 - j) default).x,if j=0 then -1 else(w.getD (w.length - j) default).p⟩
theorem lq(w:List Lk):(jr w).length=w.length:=by simp[jr]
theorem wn(w:List Lk) (j:Nat) (hj:j<w.length):(jr w).getD j default=⟨(w.getD (w.length - 1 - j) default).x,if j=0 then -1 else(w.getD (w.length - j) default).p⟩:=by simp[jr,hj]
theorem B5(s:Sys) {w c:List Lk} (h:∀ e∈cF w,e∈cF c) (hw:cM s w=true):cM s c=true:=by
 unfold cM at hw ⊢;exact decide_eq_true (E9 s h (of_decide_eq_true hw))
theorem Rx(w:List Lk):∀ e∈cF w,e∈cF (jr w):=fun e he=>by
 unfold cF at he;obtain⟨y,hy,rfl⟩:=List.mem_map.1 he;obtain⟨i,hi,rfl⟩:=List.getElem_of_mem hy;have h:=E' (jr w) (w.length - 1 - i) (by rw[lq];omega);rw[wn w _ (by omega)]at h;rw[show w.length - 1 - (w.length - 1 - i)=i by omega,show w.getD i default=w[i] by simp[hi]]at h;exact h
theorem KP{s:Sys} {w:List Lk} (h:walkE s w=0) (hc:cM s w=true):walkE s (jr w)=0/\cM s (jr w)=true:=by
 refine⟨?_,B5 s (Rx w) hc⟩;obtain⟨h1,h2,h3⟩:=(ir s w).1 h;refine(ir s _).2 ⟨by rw[lq];exact h1,by rw[lq];exact h2,fun j hj=>?_⟩;rw[lq]at hj;rw[ip,wn w j hj];dsimp only;have h4:=(ip s w _).1 (h3 (w.length - 1 - j) (by omega));refine⟨h4.1,h4.2.1,fun e=>if_pos e,fun h0=>?_⟩;rw[if_neg (by omega),wn w (j - 1) (by omega)];dsimp only;obtain⟨h5,h6,h7⟩:=((ip s w _).1 (h3 (w.length - j) (by omega))).2.2.2 (by omega);rw[show w.length - 1 - (j - 1)=w.length - j by omega];rw[show w.length - j - 1=w.length - 1 - j by omega]at h7;exact⟨h5,h6,by rw[nP];exact h7⟩
def qi(w:List Lk) (q:Nat):List Lk:=w++[⟨(w.getD (w.length - 1) default).x,q⟩]
theorem GI(w:List Lk) (q i:Nat) (hi:i<w.length):(qi w q).getD i default=w.getD i default:=by
 unfold qi;rw[List.getD_eq_getElem?_getD,List.getElem?_append_left hi,<-List.getD_eq_getElem?_getD]
theorem KQ(w:List Lk) (q:Nat):(qi w q).getD w.length default=⟨(w.getD (w.length - 1) default).x,q⟩:=by
 unfold qi;rw[List.getD_eq_getElem?_getD,List.getElem?_append_right (Nat.le_refl _)];simp
theorem KR{s:Sys} {w:List Lk} (q i:Nat) (hi:i<w.length):fq s (qi w q) i=fq s w i:=by
 unfold fq;rw[GI w q i hi,GI w q (i - 1) (by omega)]
theorem Yj{s:Sys} {w:List Lk} (h:walkE s w=0) (hc:cM s w=true) (hl:w.length<4096) (q:Nat) (hq:q<nS s):(hasB (fltS s (w.getD (w.length - 1) default).x.toNat) q=false->walkE s (qi w q)=0/\cM s (qi w q)=true)/\(hasB (fltS s (w.getD (w.length - 1) default).x.toNat) q=true->walkE s (qi w q)=18):=by
 obtain⟨h1,h2,h3⟩:=(ir s w).1 h;have cN:(qi w q).length=w.length+1:=by simp[qi]
 have h4:=(ip s w _).1 (h3 (w.length - 1) (by omega));constructor
 ·intro hb;refine⟨(ir s _).2 ⟨by omega,by omega,fun i hi=>?_⟩,B5 s (ro fun y hy=>by unfold qi;simp[hy]) hc⟩;by_cases e:i<w.length
  ·rw[KR q i e];exact h3 i e
  ·obtain rfl:i=w.length:=by omega
   rw[ip,KQ,GI w q _ (by omega)];dsimp only;refine⟨h4.1,h4.2.1,fun e=>by omega,fun _=>⟨by omega,by omega,?_⟩⟩;rw[Int.toNat_natCast];unfold linkB;rw[hb];simp
 ·intro hb;unfold walkE;rw[if_neg (by omega),if_neg (by omega)]
  have he:fq s (qi w q) w.length=18:=by
   unfold fq;rw[KQ,GI w q _ (by omega)];dsimp only;rw[if_neg (by omega),if_neg (by omega),if_neg (by omega),if_neg];rw[Int.toNat_natCast];unfold linkB;rw[hb];simp
  rw[BF _ w.length _ (by omega) (fun j hj=>by rw[KR q j hj];exact h3 j hj) (by rw[he];omega),he]
theorem VV{s:Sys} {l:List Lk} (h0:0<l.length) (h:cM s l=true):cM s (nQ s l)=true/\0<rl s l/\rl s l<=l.length:=by
 unfold nQ rl;rcases bI l.length (fun i=>cM s (l.take (i+1))) with ⟨e,h1⟩|⟨k,hk,e,h1,_⟩
 ·have:=h1 (l.length - 1) (by omega);rw[show l.length - 1+1=l.length by omega,List.take_length,h]at this;cases this
 ·rw[e,if_neg (by omega),Int.toNat_natCast];exact⟨h1,by omega,by omega⟩
theorem nR(s:Sys) (e:Nat) (he:e<eS s):(choiceS s).getD e 0=comB s (memL (partsS s) ((partsS s).getD e 0)):=by simp[choiceS,he]
theorem Ry{s:Sys} (h:SysOk s) (hb:¬ lW s<0):cM s (kE s)=true/\(kE s).length<=1+(eS s - 1) * (eS s - 1)/\((kE s).length<=4096->walkE s (kE s)=0):=by
 unfold lW at hb;rcases bI (eS s) (fun e=>decide ((choiceS s).getD e 0<0)) with ⟨e,_⟩|⟨k,hk,e,h1,_⟩
 ·omega
 have eb:lW s=k:=e;unfold kE;rw[eb,Int.toNat_natCast];rw[decide_eq_true_eq,nR s k hk]at h1;have kO:k∈memL (partsS s) ((partsS s).getD k 0):=lp.2 ⟨by rw[dK];exact hk,rfl⟩;cases hl:memL (partsS s) ((partsS s).getD k 0) with
 | nil=>rw[hl]at kO;simp at kO
 | cons a r=>
  obtain⟨w1,w2,w3,w4,w5⟩:=OZ h _ a r hl;have h0:0<(gF s (a :: r)).length:=by simp[gF]
  have hc:cM s (gF s (a :: r))=true:=by
   unfold cM;rw[hl]at h1;exact decide_eq_true (E9 s w3 h1)
  obtain⟨c1,c2,c3⟩:=VV h0 hc;refine⟨c1,?_,fun h5=>?_⟩
  ·have:(nQ s (gF s (a :: r))).length=rl s (gF s (a :: r)):=by unfold nQ;rw[List.length_take];omega
   have h6:r.length * (eS s - 1)<=(eS s - 1) * (eS s - 1):=Nat.mul_le_mul_right _ (by omega);omega
  ·obtain⟨j,hj⟩:∃ j,rl s (gF s (a :: r))=j+1:=⟨_,(Nat.succ_pred_eq_of_pos c2).symm⟩;have e1:nQ s (gF s (a :: r))=⟨a,-1⟩ :: (kR s a r).take j:=by unfold nQ;rw[hj];rfl
   rw[e1]at h5 ⊢;exact(mP s _).2 ⟨a,_,rfl,w1,rm _ _ _ w2,h5⟩
def gT(s:Sys) (w:List Lk) (i j:Nat):List (List Lk):=(List.range' j (w.length - (i+2) - j)).filterMap fun j=>wh s w i (w.length - 1 - j)
def gu(s:Sys) (w:List Lk) (i:Nat):List (List Lk):=(List.range' i (w.length - i)).flatMap (GG s w)
theorem O3(s:Sys) (w:List Lk):gu s w 0=(List.range w.length).flatMap (GG s w):=by
 unfold gu;rw[List.range_eq_range',Nat.sub_zero]
theorem O4(s:Sys) (w:List Lk):gu s w w.length=[]:=by
 unfold gu;rw[Nat.sub_self];rfl
theorem Mt(s:Sys) (w:List Lk) (i:Nat) (hi:i<w.length):gu s w i=gT s w i 0++gu s w (i+1):=by
 unfold gu gT;rw[show w.length - i=(w.length - (i+1))+1 by omega,List.range'_succ,List.flatMap_cons,Nat.sub_zero];unfold GG;rw[List.range_eq_range']
theorem O5(s:Sys) (w:List Lk) (i j:Nat) (h:w.length<=i+2+j):gT s w i j=[]:=by
 unfold gT;rw[show w.length - (i+2) - j=0 by omega];rfl
theorem Mu(s:Sys) (w:List Lk) (i j:Nat) (h:i+2+j<w.length) {c:List Lk} (hc:wh s w i (w.length - 1 - j)=some c):gT s w i j=c :: gT s w i (j+1):=by
 unfold gT;rw[show w.length - (i+2) - j=(w.length - (i+2) - (j+1))+1 by omega,List.range'_succ,List.filterMap_cons,hc]
theorem Mw(s:Sys) (w:List Lk) (i j:Nat) (h:i+2+j<w.length) (hc:wh s w i (w.length - 1 - j)=none):gT s w i j=gT s w i (j+1):=by
 unfold gT;rw[show w.length - (i+2) - j=(w.length - (i+2) - (j+1))+1 by omega,List.range'_succ,List.filterMap_cons,hc]
theorem A7(s:Sys) (w:List Lk):dL s w=w.dropLast :: ((if 1<w.length then [⟨(w.getD 1 default).x,-1⟩ :: w.drop 2] else [])++gu s w 0):=by
 rw[O3];rfl
theorem KS{α:Type} {L d r:List α} {c x:α} (h:L=d++c :: r):d.length<L.length/\L.getD d.length x=c/\L=(d++[c])++r/\(d++[c]).length=d.length+1:=by
 subst h;refine⟨by simp,?_,by simp,by simp⟩;rw[List.getD_eq_getElem?_getD,List.getElem?_append_right (Nat.le_refl _)];simp
theorem Rz{s:Sys} {w c:List Lk} {d r:List (List Lk)} (h:dL s w=d++c :: r) (hd:∀ x∈d,iY s x=false) (hc:iY s c=true):jN s w=some c:=by
 unfold jN;rw[h,List.find?_append,List.find?_eq_none.2 (fun x hx=>by rw[hd x hx];simp)];simp[hc]
theorem O6{s:Sys} {w:List Lk} {d:List (List Lk)} (h:dL s w=d) (hd:∀ x∈d,iY s x=false):jN s w=none:=by
 unfold jN;rw[h];exact List.find?_eq_none.2 (fun x hx=>by rw[hd x hx];simp)
theorem KT{α:Type} {p q:Prop} [Decidable p] [Decidable q] (h:p↔q) (a b:α):(if p then a else b)=if q then a else b:=by
 by_cases hp:p
 ·rw[if_pos hp,if_pos (h.1 hp)]
 ·rw[if_neg hp,if_neg fun hq=>hp (h.2 hq)]
def chQ(s:Sys) (k i:Nat):List Int:=(List.range (eS s)).map fun e=>if (partsS s).getD e 0<k\/e∈(memL (partsS s) k).take i then(choiceS s).getD e 0 else 0
theorem m8(s:Sys) (k i:Nat):(chQ s k i).length=eS s:=by simp[chQ]
theorem uV(s:Sys) (k i e:Nat) (he:e<eS s):(chQ s k i).getD e 0=if (partsS s).getD e 0<k\/e∈(memL (partsS s) k).take i then(choiceS s).getD e 0 else 0:=by simp[chQ,he]
theorem sK(s:Sys):l7 (partsS s):=by
 unfold partsS;cases nS s - 1 with
 | zero=>exact pG _ _
 | succ k=>exact pG _ _
theorem sL{a b:List Int} {n:Nat} (ha:a.length=n) (hb:b.length=n) (h:∀ i,i<n->a.getD i 0=b.getD i 0):a=b:=by
 refine List.ext_getElem (by omega) fun i h1 h2=>?_
 have:=h i (by omega)
 rwa [List.getD_eq_getElem?_getD,List.getD_eq_getElem?_getD,List.getElem?_eq_getElem h1,List.getElem?_eq_getElem h2]at this
theorem RA(s:Sys):chQ s 0 0=List.replicate (eS s) 0:=by
 refine sL (m8 _ _ _) (by simp) fun e he=>?_
 have h1:=(l8 (sK s) e (by rw[dK];exact he)).1
 rw[uV _ _ _ _ he,if_neg (by rw[List.take_zero];rintro(h|h);· omega
                             ·cases h)]
 simp[he]
theorem RB{s:Sys} {k i:Nat} (hi:i<(memL (partsS s) k).length):chQ s k (i+1)=(chQ s k i).set ((memL (partsS s) k).getD i 0) (comB s (memL (partsS s) k)):=by
 have hm:(memL (partsS s) k).getD i 0=(memL (partsS s) k)[i]:=by simp[hi]
 obtain⟨hl,hp⟩:=lp.1 (List.getElem_mem hi);rw[<-hm]at hl hp;rw[dK]at hl;refine sL (m8 _ _ _) (by rw[List.length_set,m8]) fun e he=>?_
 have ht:e∈(memL (partsS s) k).take (i+1)↔e∈(memL (partsS s) k).take i\/e=(memL (partsS s) k).getD i 0:=by rw[List.take_succ_eq_append_getElem hi,hm,List.mem_append,List.mem_singleton]
 rw[uV _ _ _ _ he];by_cases h:e=(memL (partsS s) k).getD i 0
 ·rw[if_pos (.inr (ht.2 (.inr h)))];subst h;rw[nR _ _ he,hp,List.getD_eq_getElem?_getD (l:=(chQ s k i).set _ _),List.getElem?_set_self (by rw[m8];exact hl)];rfl
 ·have h2:((chQ s k i).set ((memL (partsS s) k).getD i 0) (comB s (memL (partsS s) k))).getD e 0=(chQ s k i).getD e 0:=by
   rw[List.getD_eq_getElem?_getD,List.getElem?_set_ne (by omega),<-List.getD_eq_getElem?_getD]
  rw[h2,uV _ _ _ _ he];refine KT ?_ _ _;rw[ht];exact⟨fun q=>by rcases q with q|q|q<;>first|exact .inl q|exact .inr q|exact absurd q h,fun q=>by rcases q with q|q;exact .inl q;exact .inr (.inl q)⟩
theorem RC(s:Sys) (k:Nat):chQ s k (memL (partsS s) k).length=chQ s (k+1) 0:=by
 refine sL (m8 _ _ _) (m8 _ _ _) fun e he=>?_
 rw[uV _ _ _ _ he,uV _ _ _ _ he];refine KT ?_ _ _;rw[List.take_length,lp,dK,List.take_zero];simp only[List.not_mem_nil,or_false];constructor
 ·rintro(h|h)
  ·omega
  ·omega
 ·intro h;by_cases h2:(partsS s).getD e 0<k
  ·exact .inl h2
  ·exact .inr ⟨he,by omega⟩
theorem H7{s:Sys} {k:Nat} (h:∀ e,e<eS s->(partsS s).getD e 0<k):chQ s k 0=choiceS s:=by
 refine sL (m8 _ _ _) (by simp[choiceS]) fun e he=>?_
 rw[uV _ _ _ _ he,if_pos (.inl (h e he))]
theorem RD{s:Sys} {k:Nat} (h:(memL (partsS s) k).length=0):chQ s k 0=choiceS s:=H7 fun e he=>by
 have hn:∀ x,x<eS s->(partsS s).getD x 0≠k:=fun x hx e2=>by
  have:x∈memL (partsS s) k:=lp.2 ⟨by rw[dK];exact hx,e2⟩;rw[List.eq_nil_of_length_eq_zero h]at this;cases this
 have h1:=hn e he;by_cases h2:(partsS s).getD e 0<k
 ·exact h2
 ·obtain⟨j,hj,e3⟩:=vU (sK s) e (by rw[dK];exact he) k (by omega) (by omega);exact absurd e3 (hn j (by omega))
theorem U2(s:Sys):chQ s (eS s) 0=choiceS s:=H7 fun e he=>by
 have h1:=l8 (sK s) e (by rw[dK];exact he);omega
def Tt(h:Int × Int):Rd:=⟨⟨2,h.1,h.2,0,0,0⟩,0⟩
def ckCs:List Cs:=[⟨[0,0],[[0,0]],[]⟩,⟨[0,1],[[0,0],[1,1]],[]⟩,⟨[1,1],[[1,1]],[]⟩]
def qT(rounds:Int) (gs:List (Int × Int)):Pb:=⟨⟨2,2,2,ckCs⟩,⟨2,[gs.map fun h=>⟨Tt h,0⟩]⟩,rounds⟩
def ck1:Sys:=aK (qT 1 [(1,3),(3,3)])
def ck2:Sys:=aK (qT 0 [(3,3)])
def ck3:Sys:=aK (qT 1 [(1,3),(3,2),(3,3)])
def ckW:List Lk:=[⟨0,-1⟩,⟨1,0⟩,⟨2,1⟩]
structure CkB (p:Pb):Prop where
 few:buildE p=0
 ready:readyE (aK p)=0
 size:eS (aK p)<=256
 moves:movesN p.a.states<1099511627776
theorem ck1_b:CkB (qT 1 [(1,3),(3,3)]):=⟨by decide +kernel,by decide +kernel,by decide +kernel,by decide +kernel⟩
theorem ck2_b:CkB (qT 0 [(3,3)]):=⟨by decide +kernel,by decide +kernel,by decide +kernel,by decide +kernel⟩
theorem ck3_b:CkB (qT 1 [(1,3),(3,2),(3,3)]):=⟨by decide +kernel,by decide +kernel,by decide +kernel,by decide +kernel⟩
theorem ck1_vals:valuesR ck1 3=([0,1],0):=by decide +kernel
theorem ck1_choice:choiceR ck1=([0,0,0,0,1,1],0):=by decide +kernel
theorem ck1_rule:(ruleR ck1).2=(true,0):=by decide +kernel
theorem ck2_find:findW ck2=(ckW,true,0):=by decide +kernel
theorem ck2_cert:certE ck2 ⟨1,ckW,0,0,0⟩=0:=by decide +kernel
theorem ck2_short:shortR ck2 ⟨1,ckW,0,0,0⟩=(ckW,0):=by decide +kernel
theorem ck2_not:certE ck2 ⟨1,ckW.take 2,0,0,0⟩=18:=by decide +kernel
theorem ck3_choice:choiceR ck3=(List.replicate 9 (-1),0):=by decide +kernel
def DP(r:Rd):List Rd->List Rd
 | []=>[r]
 | x :: l=>if roundC r x<0 then r :: x :: l else if roundC r x=0 then x :: l else x :: DP r l
def A8(a:Adv):List Rd:=(a.states.flatMap fun l=>l.map (·.r)).foldr DP []
theorem RE(a:List Int):∀ b,ordV a b=0↔a=b:=by
 induction a with
 | nil=>intro b;cases b<;>simp[ordV]
 | cons x r ih=>
  intro b;cases b with
  | nil=>simp[ordV]
  | cons y s=>
   rw[ordV];have:=ih s;rw[List.cons.injEq]
   grind
theorem RF{a b:Rd} (h:a.list=b.list):a=b:=by
 obtain⟨⟨_,_,_,_,_,_⟩,_⟩:=a;obtain⟨⟨_,_,_,_,_,_⟩,_⟩:=b;simp[Rd.list]at h;simp[h]
theorem Mx(a b:Rd):roundC a b=0↔a=b:=by
 rw[J8,RE];exact⟨RF,fun h=>by rw[h]⟩
theorem RG(r x:Rd) (l:List Rd):x∈DP r l↔x=r\/x∈l:=by
 induction l with
 | nil=>simp[DP]
 | cons y l ih=>
  unfold DP;by_cases h1:roundC r y<0
  ·simp[h1]
  ·by_cases h2:roundC r y=0
   ·have:=(Mx r y).1 h2;subst this;simp[h2]
   ·simp only[if_neg h1,if_neg h2,List.mem_cons,ih]
    grind
theorem Ad(a:Adv) (x:Rd):x∈A8 a↔∃ l∈a.states,∃ m∈l,m.r=x:=by
 unfold A8
 have key:∀ l:List Rd,x∈l.foldr DP []↔x∈l:=by
  intro l;induction l with
  | nil=>simp
  | cons y l ih=>rw[List.foldr_cons,RG,ih,List.mem_cons]
 rw[key];simp
structure OkR (n:Int) (r:Rd):Prop where
 gn:r.g.n=n
 h:∀ q,q<5->0<=r.g.hear q/\r.g.hear q<32
 z:∀ q:Nat,n<=q->q<5->r.g.hear q=0
 n1:1<=n/\n<=5
 f:0<=r.f/\r.f<32
theorem RH{g:Gr} (h:gN g=0):(∀ q,q<5->0<=g.hear q/\g.hear q<32)/\(∀ q:Nat,g.n<=q->q<5->g.hear q=0)/\1<=g.n/\g.n<=5:=by
 unfold gN at h;split at h
 ·omega
 rename_i h1;have h2:=fF h;have hn:g.n=1\/g.n=2\/g.n=3\/g.n=4\/g.n=5:=by omega
 have key:∀ q,q<5->(0<=g.hear q/\g.hear q<32)/\(g.n<=(q:Int)->g.hear q=0):=fun q hq=>by
  have h3:=h2 q hq;unfold mz at h3;split at h3
  ·split at h3
   ·omega
   ·rename_i h4;exact⟨by omega,fun _=>by omega⟩
  ·split at h3
   ·omega
   ·rename_i h4 h5;refine⟨?_,fun e=>absurd e h4⟩;rcases hn with e|e|e|e|e<;>rw[e]at h5<;>simp at h5<;>omega
 exact⟨fun q hq=>(key q hq).1,fun q hn hq=>(key q hq).2 hn,by omega,by omega⟩
theorem O7{a:Adv} (ha:advE a=0) {r:Rd} (h:r∈A8 a):OkR a.n r:=by
 obtain⟨l,hl,m,hm,rfl⟩:=(Ad a r).1 h;obtain⟨s,hs,rfl⟩:=List.getElem_of_mem hl;obtain⟨j,hj,rfl⟩:=List.getElem_of_mem hm;have h1:=(hZ ha).2.1 s hs;rw[show a.states.getD s []=a.states[s] by simp[hs]]at h1;unfold stateE at h1;rw[if_neg (by omega)]at h1;have h2:=fF h1 j hj;have hf:=(Dz h2).1;unfold dS at h2;rw[show a.states[s].getD j default=a.states[s][j] by simp[hj]]at h2 hf;split at h2
 ·rename_i h3;exact absurd h2 h3
 rename_i h3;split at h2
 ·omega
 rename_i h4;have h5:roundE a.states[s][j].r=0:=by simpa using h3
 unfold roundE at h5;split at h5
 ·rename_i h6;exact absurd h5 h6
 rename_i h6;obtain⟨g1,g2,g3,g4⟩:=RH (by simpa using h6);have hn:a.states[s][j].r.g.n=a.n:=by simpa using h4
 rw[hn]at g2 g3 g4;exact⟨hn,g1,g2,⟨g3,g4⟩,hf⟩
theorem O8{s:Sys} (h:readyE s=0):verifyE s=0/\agreeB s.prob.t=true:=by
 unfold readyE at h;split at h
 ·rename_i h1;exact absurd h h1
 ·split at h
  ·rename_i h1 h2;exact⟨by omega,h2⟩
  ·omega
theorem My{s:Sys} (h:readyE s=0) (hE:eS s<=60):∃ ls fb,findW s=(ls,fb,0)/\(fb=true->walkE s ls=0/\cM s ls=true/\ls.length<=3482):=by
 unfold findW;rw[if_neg (by omega)];by_cases hb:lW s<0
 ·rw[if_pos hb];exact⟨[],false,rfl,fun h=>by cases h⟩
 ·rw[if_neg hb];obtain⟨h1,h2,h3⟩:=Ry (iZ (O8 h).1) hb;have h4:(eS s - 1) * (eS s - 1)<=59 * 59:=Nat.mul_le_mul (by omega) (by omega);rw[if_neg (by omega)];exact⟨kE s,true,rfl,fun _=>⟨h3 (by omega),h1,by omega⟩⟩
theorem H'{s:Sys} (h:readyE s=0) (l:List Lk):certE s ⟨1,l,0,0,0⟩=if walkE s l≠0 then walkE s l else if cM s l then 0 else 18:=by
 unfold certE wg;rw[if_neg (by omega),if_neg (by simp),if_neg (by simp)]
theorem DQ{s:Sys} (h:readyE s=0) {l:List Lk} (h1:walkE s l=0) (h2:cM s l=true):certE s ⟨1,l,0,0,0⟩=0:=by
 rw[H' h,if_neg (by omega),if_pos h2]
theorem U3{s:Sys} (h:readyE s=0) {l:List Lk} (h1:walkE s l=18):certE s ⟨1,l,0,0,0⟩=18:=by
 rw[H' h,if_pos (by omega),h1]
theorem Ia{s:Sys} {l:List Lk} (h:walkE s l=0):0<l.length/\∀ y∈l,0<=y.x/\y.x.toNat<eS s/\-1<=y.p/\y.p<nS s:=by
 obtain⟨h0,_,h1⟩:=(ir s l).1 h;refine⟨h0,fun y hy=>?_⟩;obtain⟨i,hi,rfl⟩:=List.getElem_of_mem hy;obtain⟨h2,h3,h4,h5⟩:=(ip s l i).1 (h1 i hi);rw[show l.getD i default=l[i] by simp[hi]]at h2 h3 h4 h5;refine⟨h2,h3,?_⟩;rcases Nat.eq_zero_or_pos i with h6|h6
 ·have:=h4 h6;omega
 ·have:=h5 h6;omega
theorem RI{s:Sys} {l:List Lk} (h:∀ y∈l,0<=y.x/\y.x.toNat<eS s/\-1<=y.p/\y.p<nS s):∀ y∈jr l,0<=y.x/\y.x.toNat<eS s/\-1<=y.p/\y.p<nS s:=fun y hy=>by
 obtain⟨j,hj,rfl⟩:=List.mem_map.1 hy;have hj:=List.mem_range.1 hj;have h1:=h _ (List.getElem_mem (show l.length - 1 - j<l.length by omega));rw[show l.getD (l.length - 1 - j) default=l[l.length - 1 - j]'(by omega) by rw[List.getD_eq_getElem?_getD,List.getElem?_eq_getElem (by omega)];rfl];refine⟨h1.1,h1.2.1,?_⟩;dsimp only;by_cases h0:j=0
 ·rw[if_pos h0];have:=h1.2.2;omega
 ·have h2:=h _ (List.getElem_mem (show l.length - j<l.length by omega));rw[if_neg h0,show l.getD (l.length - j) default=l[l.length - j]'(by omega) by rw[List.getD_eq_getElem?_getD,List.getElem?_eq_getElem (by omega)];rfl];exact h2.2.2
end Go.Proofs.YtmeaoneaephjeaaGreatDoor
namespace Go.Proofs.YtmeaoneaephjeaaGreatDoor
open Go.RowKit Go Go.Shelf
attribute [local go_sem] Oper.semAt_some
theorem DR(d:Nat) (a b:Vw) (w:World):(Op.equalIn (d+3) 190 a.v b.v).run Tryz.prog w=.ok (decide (a=b)) w:=by
 have hS:Tryz.prog.underlying 190=some (.struct (Tryz.prog.fieldsOf 190)):=by kernel_rfl
 have hp:Tryz.prog.stoodInHeld 190=false:=by kernel_rfl
 rw[run_equalIn_struct w (d+2) 190 _ _ hS hp];have ag:=Tryz.isAgg3;have ah:=Tryz.isAgg137;have zh:=Tryz.sizeOf137;have u3:=Tryz.underlying3;simp only[Program.fieldsOf,Tryz.underlying190];simp[Op.eqFields,part,ag,ah,zh,run_equalIn_int w (d+1) 3 _ .i64 _ _ u3,Hh d];obtain⟨n,k,j,h0,h1,h2,h3,h4⟩:=a;obtain⟨m,l,i,g0,g1,g2,g3,g4⟩:=b;by_cases hn:n=m
 case neg=>simp[hn]
 by_cases hk:k=l
 case neg=>simp[hn,hk]
 by_cases hj:j=i
 case neg=>simp[hn,hk,hj]
 by_cases hh:h0=g0/\h1=g1/\h2=g2/\h3=g3/\h4=g4<;>simp[hn,hk,hj,hh]
theorem kit_vw:KeyKit Tryz.prog 190 Vw.v:=
 ⟨fun a b w=>DR 9997 a b w,fun em a w=>by kernel_rfl,⟨_,Tryz.underlying190⟩⟩
theorem Tryz.infoView:(Tryz.prog.info? 190).map (fun i=>(i.zero,i.size,i.bytes))=some (some (.agg #[.int .i64 0,.int .i64 0,.int .i64 0,.int .i64 0,.int .i64 0,.int .i64 0,.int .i64 0,.int .i64 0]),8,64):=by kernel_rfl
abbrev silV:Value:=.agg #[.int .i64 (-1),.int .i64 (-1),.int .i64 (-1),.int .i64 (-1),.int .i64 (-1)]
theorem Ae(w:World):Calls Tryz.prog 201 #[] w fun e w'=>e=.returned silV/\Below w.heap.size w w':=by
 go_enter Tryz.func201,Tryz.ntmps201
 go_wp2_with fail
 refine bF (fun W=>Below w.heap.size w W/\W.heap[w.heap.size]?=some (.cells (hC (fun _=>-1) 0) 137)/\W.heap[w.heap.size+1]?=some (.cells (hC (fun _=>-1) 0) 137)) ⟨by go_grown,by rw[DL];exact az _ (aq _ _),by rw[DL];exact bz _ _ _⟩ (fun W0 bh=>?_);obtain⟨aJ,gq,gU⟩:=bh
 go_loopw [3] (fun i wr=>∃ q:Nat,q<=5/\i=.int .i64 q/\Below w.heap.size w wr/\wr.heap[w.heap.size]?=some (.cells (hC (fun _=>-1) 0) 137)/\wr.heap[w.heap.size+1]?=some (.cells (hC (fun _=>-1) q) 137)) (fun i _=>5 - (intOf i).toNat)
 ·exact⟨0,by omega,rfl,aJ,gq,gU⟩
 ·
  clear aJ gq gU;obtain⟨q,hq,rfl,aB,hR,hO⟩:=hrel;by_cases aD:q<5
  ·have zq:=aG hO q;have tq:=ab hO q;rw[Hu _ _ _ aD]at tq;have HR:=aa hR;have HO:=aa hO;clear hR hO;have kN:(q:Int)<5:=by omega
   go_wp2_with fail
   go_roundw
   ·exact⟨q+1,by omega,by go_num,aB.setCell (by dsimp only;omega) _,aN HR.o (by omega) _ _,by rw[aH HO.o,<-VQ (fun _=>-1) q aD]⟩
   ·simp[intOf];omega
  ·obtain rfl:q=5:=by omega
   have tq:=ab hO;have HR:=aa hR;have HO:=aa hO;have zq:=fun o=>aG hR o
   have tq0:=ab hR;rw[UZ]at tq;simp[DL]at tq0;clear hR hO
   go_wp2_with fail
   have h5:=aH (aH (aH (aH (aH HR.o 0 (.int .i64 (-1))) 1 (.int .i64 (-1))) 2 (.int .i64 (-1))) 3 (.int .i64 (-1))) 4 (.int .i64 (-1));refine bodyPost_ret (Kj _ _ 0 rfl w.heap.size _ (-1) (-1) (-1) (-1) (-1) 137 rfl (h5.trans rfl)) rfl ⟨rfl,?_⟩;exact((((aB.setCell (by dsimp only;omega) _).setCell (by dsimp only;omega) _).setCell (by dsimp only;omega) _).setCell (by dsimp only;omega) _).setCell (by dsimp only;omega) _
abbrev bldT:List TypeId:=[190,234]
structure BldIs (base b mb n:Nat) (tab:List Vw) (W:World):Prop where
 lo:base<=b
 ex:∃ vs,W.heap[b]?=some (.cells #[.int .i64 n,vs,.map (some mb)] 234)/\base<=mb/\aI W base 190 8 vs tab.length (eX tab)/\l9 Vw.v W mb (uu tab)
theorem BldIs.up{base b mb n:Nat} {tab:List Vw} {W W':World} (h:BldIs base b mb n tab W) (hb:Below W.heap.size W W'):BldIs base b mb n tab W':=by
 obtain⟨vs,h1,h2,h3,h4⟩:=h.ex;exact⟨h.lo,vs,af hb h1,h2,h3.up hb,h4.up hb⟩
theorem Mz(v:Vw):∀ u∈v.c.toList,u.oneCell'=true:=fun u hu=>E5 [v] u (by simpa[eX] using hu)
theorem U4(tb:List Vw) (v:Vw):(putV tb v).2<=tb.length:=by
 unfold putV;split
 ·exact List.idxOf_le_length
 ·exact Nat.le_refl _
theorem KU(base b mb n:Nat) (tab:List Vw) (v:Vw) (w:World) (hB:BldIs base b mb n tab w) (hl:tab.length<=100000) :
  Calls Tryz.prog 200 #[.pointer (some ⟨b,0,none⟩),v.v] w fun e w'=>e=.returned (.int .i64 (putV tab v).2)/\BldIs base b mb n (putV tab v).1 w'/\KeepT bldT [mb] base w w':=by
 have xB:=hB.lo;obtain⟨vs,h1,h2,h3,h4⟩:=hB.ex;have dx:=aC h1;obtain⟨av,cv,rfl⟩:=h3.slice;have H1:=aa h1;have H3:=aa h3;have H4:=aa h4;clear h1 h3 h4 hB
 go_enter Tryz.func200,Tryz.ntmps200
 go_wp2_with fail
 refine bF (fun W=>Below w.heap.size w W/\W.heap[w.heap.size]?=some (.cells v.c 190)) ⟨by go_grown,aq _ _⟩ (fun W0 bh=>?_);obtain⟨aJ,XE⟩:=bh;have CE:=aa XE;have k1:∀ x:ExtW W0,∀ o,x.val.cell? ⟨w.heap.size,o,none⟩=_:=fun x=>ab (af x.ext XE)
 have k2:∀ x:ExtW W0,∀ o,x.val.cell? ⟨b,o,none⟩=_:=fun x=>ab (af (ae aJ x.ext) H1.o)
 have PW:∀ x:ExtW W0,l9 Vw.v x.val mb (uu tab):=fun x=>H4.o.up (ae aJ x.ext)
 have jJ:=aa PW;have qO:=Ri tab v;clear XE PW;by_cases hm:v∈tab
 ·have HP:am (putV tab v=(tab,tab.idxOf v)):=aa (by unfold putV;rw[if_pos hm]);rw[if_pos hm]at qO
  have k3:∀ x:ExtW W0,(Instr.lookup 232 (.map (some mb)) v.v true).run Tryz.prog x.val=.ok (.tuple #[.int .i64 (tab.idxOf v:Nat),.bool true]) x.val:=fun x=>by
   have:=Hl kit_vw (mt:=232) (vt:=3) (z:=.int .i64 0) Tryz.underlying232 (fun w=>by kernel_rfl) (jJ.o x) v;rw[qO]at this;exact this
  clear qO;refine aE (by kernel_rfl) (by kernel_rfl) ?_
  repeat (go_big_quiet_step (fail))
  refine wpQuiet_nil ?_;intro _ eD;obtain⟨xq,dg⟩:=eD;subst dg;clear k1 k2 k3
  go_wp2_with fail
  go_ret
  rw[HP.o];have hx:=ae aJ xq.ext;exact⟨rfl,⟨xB,_,af hx H1.o,h2,H3.o.up hx,H4.o.up hx⟩,KeepT.of_below _ hx (by omega)⟩
 ·have HP:am (putV tab v=(tab++[v],tab.length)):=aa (by unfold putV;rw[if_neg hm]);rw[if_neg hm]at qO
  have k3:∀ x:ExtW W0,(Instr.lookup 232 (.map (some mb)) v.v true).run Tryz.prog x.val=.ok (.tuple #[.int .i64 0,.bool false]) x.val:=fun x=>by
   have:=Hl kit_vw (mt:=232) (vt:=3) (z:=.int .i64 0) Tryz.underlying232 (fun w=>by kernel_rfl) (jJ.o x) v;rw[qO]at this;exact this
  have HGET:=aa qO;clear qO;refine aE (by kernel_rfl) (by kernel_rfl) ?_
  repeat (go_big_quiet_step (fail))
  refine wpQuiet_nil ?_;intro _ eD;obtain⟨xq,dg⟩:=eD;subst dg;clear k1 k2 k3;have hx:=ae aJ xq.ext;have Aw:=af xq.ext CE.o;generalize xq.val=W1 at hx Aw;have HX:=aa hx;have QB:=aa Aw;have t1:=ab (af hx H1.o);have tv:=ab Aw;obtain⟨o,Ld,hG2⟩:=UU kit_vw (mt:=232) (vt:=3) Tryz.underlying232 (w:=W1.drew) (b:=mb) (f:=uu tab) (H4.o.up hx.drew) v (.int .i64 (tab.length:Nat)) HGET.o;have rX:=aa hG2;clear hx Aw hG2
  go_wp2_with fail
  go_still_tail 6,(by kernel_rfl)
  change wpList _ _ _ _ _ W1.drew
  go_wp2_with fail
  have lE:∃ o2,W1.drew.heap[mb]?=some o2/\o2.isCells=false:=by
   obtain⟨es,ck,p1,_⟩:=H4.o.up HX.o.drew;exact⟨_,p1,rfl⟩
  obtain⟨o2,lE,rP⟩:=lE;have F3:b≠mb:=fun e=>by rw[<-e,(af HX.o.drew H1.o)]at lE;cases lE;cases rP
  have hvn:w.heap.size≠mb:=fun e=>by
   have h9:W1.drew.heap[w.heap.size]?=some (.cells v.c 190):=QB.o;rw[e,lE]at h9;cases h9;cases rP
  refine bF (fun W=>W.heap[b]?=some (.cells #[.int .i64 n,.slice av tab.length cv,.map (some mb)] 234)/\aI W base 190 8 (.slice av tab.length cv) tab.length (eX tab)/\l9 Vw.v W mb (uu (tab++[v]))/\W.heap[w.heap.size]?=some (.cells v.c 190)/\KeepT bldT [mb] base w W/\w.heap.size<W.heap.size)
   ⟨(World.putObj_heap_other F3).trans (af HX.o.drew H1.o),(H3.o.up HX.o.drew).keepT fun g o' e1 e2=>(World.putObj_heap_other (fun e=>(H3.o.up HX.o.drew).isCells (B:=mb) lE rP (by rw[e1,e]))).trans e2,by rw[Or];exact rX.o,(World.putObj_heap_other hvn).trans QB.o,(KeepT.of_below _ HX.o.drew (by omega)).put lE rP h2 (by simp),by have:=aC QB.o;simpa using this⟩ (fun W2 fh=>?_)
  obtain⟨g1,g3,g4,g5,g6,g7⟩:=fh;have G1:=aa g1;have G3:=aa g3;have G4:=aa g4;have G5:=aa g5;have G6:=aa g6;clear g1 g3 g4 g5 g6 lE rP Ld t1 tv;obtain⟨i0,cY,cC,bY,cD⟩:=info_parts Tryz.infoView
  refine mK 8 [29,30,31,32,33,34,35,36] [some (.pointer (some ⟨b,0,none⟩)),
   some (.pointer (some ⟨b,0,none⟩)),
   some (.pointer (some ⟨b,0,none⟩)),
   some (.pointer (some ⟨b,1,none⟩)),
   some (.slice av tab.length cv),
   some (v.v),
   none,
   none] (CAppS W2 W2 base 190 8 (.slice av tab.length cv) tab.length 1 (eX tab) v.c.toList 6 7) (by kernel_rfl) rfl (by decide) rfl (by kernel_rfl) (by kernel_rfl) (by kernel_rfl) (fun _=>CAppS.start (by omega) (KeepT.refl _ _ _).drew (Nat.le_refl _) (fun _ _ h _=>h) G3.o) ?step ?tail
  case step=>
   intro x W D i o s F hi ho hs hD cP bX ar hv aP hF;have fO:i=0\/i=1\/i=2\/i=3\/i=4\/i=5\/i=6\/i=7:=by omega
   rcases fO with rfl|rfl|rfl|rfl|rfl|rfl|rfl|rfl
   all_goals (have dM:=cP _ _ hs hD;obtain rfl:=dp ho.symm;obtain rfl:=dp hs.symm)
   ·clear ar hi hv;have e0:F.getD 0 undef=.pointer (some ⟨b,0,none⟩):=lP hF (by decide) rfl;clear cP bX;clear hF dM;have e0':=dE e0;have HD:=aa hD;have bC:=aa aP;clear hD aP
    go_wp2_with fail
    refine cf.mk _ fS ?_ rfl;exact bC.o.other _ (by decide) (by decide)
   ·clear ar hi hv;have e0:F.getD 0 undef=.pointer (some ⟨b,0,none⟩):=lP hF (by decide) rfl;clear cP bX;clear hF dM;have e0':=dE e0;have HD:=aa hD;have bC:=aa aP;clear hD aP
    go_wp2_with fail
    refine cf.mk _ fS ?_ rfl;exact bC.o.other _ (by decide) (by decide)
   ·have g1:=ar ⟨1,.data⟩ (by simp) rfl;have d1:=hv 1 _ (by omega) g1 rfl;clear ar hi hv;have e30:=fB hF 1 30 (by decide) rfl (by kernel_rfl) d1;clear cP bX;clear hF dM d1;have e30':=dE e30;have HD:=aa hD;have bC:=aa aP;clear hD aP;clear g1
    go_wp2_with fail
    refine cf.mk _ fS ?_ rfl;exact bC.o.other _ (by decide) (by decide)
   ·have g2:=ar ⟨2,.data⟩ (by simp) rfl;have d2:=hv 2 _ (by omega) g2 rfl;clear ar hi hv;have e31:=fB hF 2 31 (by decide) rfl (by kernel_rfl) d2;clear cP bX;clear hF dM d2;have e31':=dE e31;have HD:=aa hD;have bC:=aa aP;clear hD aP;clear g2
    go_wp2_with fail
    refine cf.mk _ fS ?_ rfl;exact bC.o.other _ (by decide) (by decide)
   ·have g3:=ar ⟨3,.data⟩ (by simp) rfl;have d3:=hv 3 _ (by omega) g3 rfl;clear ar hi hv;have e32:=fB hF 3 32 (by decide) rfl (by kernel_rfl) d3;clear cP bX;clear hF dM d3;have t1:=ab (aP.kept _ _ G1.o (fun e=>G3.o.ne G1.o (by decide) _ e rfl)) 1;simp at t1;have e32':=dE e32;have HD:=aa hD;have bC:=aa aP;clear hD aP;clear g3
    go_wp2_with fail
    refine cf.mk _ fS ?_ rfl;exact bC.o.other _ (by decide) (by decide)
   ·clear ar hi hv;have e3:F.getD 3 undef=.pointer (some ⟨w.heap.size,0,none⟩):=lP hF (by decide) rfl;clear cP bX;clear hF dM;have t1:=ab (aP.kept _ _ G5.o (fun e=>by have:=(H3.o.lt _ e).2;omega));have e3':=dE e3;have HD:=aa hD;have bC:=aa aP;clear hD aP
    go_wp2_with fail
    refine cf.mk _ fS ?_ rfl;exact bC.o.other _ (by decide) (by decide)
   ·have g5:=ar ⟨5,.data⟩ (by simp) rfl;have d5:=hv 5 _ (by omega) g5 rfl;clear ar hi hv;have e34:=fB hF 5 34 (by decide) rfl (by kernel_rfl) d5;clear cP bX;clear hF dM d5;have e34':=dE e34;have HD:=aa hD;have bC:=aa aP;clear hD aP;clear g5
    go_wp2_with fail
    refine cf.mk _ (fun c hc=>by cases hc) ?_ rfl;exact bC.o.build (by decide)
   ·have g4:=ar ⟨4,.data⟩ (by simp) rfl;have d4:=hv 4 _ (by omega) g4 rfl;have g6:=ar ⟨6,.data⟩ (by simp) rfl;clear ar hi hv;have e33:=fB hF 4 33 (by decide) rfl (by kernel_rfl) d4;have e35:=fB hF 6 35 (by decide) rfl (by kernel_rfl) rfl;clear cP bX;clear hF dM d4;obtain⟨gb,qx,nB,_⟩:=aP.sb g6 hD;rw[qx]at e35;have cA:=aP.rd;rw[hD]at cA;have Dc:=aa (show aI W base 190 8 (.slice av tab.length cv) tab.length (eX tab) from cA)
    have bS:∀ j u',v.c.toList[j]?=some u'->W.cell? (Addr.add ⟨gb,0,none⟩ j)=some u':=fun j u' hj=>by
     have e1:(Addr.add ⟨gb,0,none⟩ j)=⟨gb,j,none⟩:=by unfold Addr.add;split<;>simp_all
     rw[e1,ab nB];simpa using hj
    have bE:=aa bS;have ie:=aP.old.old.size;clear bS cA nB qx;have e33':=dE e33;have e35':=dE e35;have HD:=aa hD;have bC:=aa aP;clear hD aP;clear g4;clear g6;refine aZ W rfl (.tmp 33) (.tmp 35) 30 rfl base 190 i0 _ 8 64 Tryz.underlying30 cY cC bY cD rfl (by decide) _ tab.length (eX tab) e33 Dc.o ⟨gb,0,none⟩ 1 1 v.c.toList e35 rfl bE.o (Mz v) (by unfold maxLen;omega) (by omega) (by omega) ?_;intro v9 w3 oB j7 _;refine cf.mk v9 (fun c hc=>by cases hc) ?_ rfl;exact bC.o.app HD.o oB j7
  case tail=>
   intro x W' D F aS hv aP hF;have x0:=hv 0 _ (by omega) rfl;have x1:=hv 1 _ (by omega) rfl;have x2:=hv 2 _ (by omega) rfl;have x3:=hv 3 _ (by omega) rfl;have x4:=hv 4 _ (by omega) rfl;have x5:=hv 5 _ (by omega) rfl;have LN:=aP.rd;rw[aS 7 (by omega)]at LN;have NZ:aI W' base 190 8 (x 7) (tab.length+1) (eX tab++v.c.toList):=LN;obtain⟨g9,c9,q9⟩:=NZ.slice;rw[q9]at NZ;have FP:=aa NZ;have eC:=aP.kept _ _ G1.o (fun e=>G3.o.ne G1.o (by decide) _ e rfl)
   have hm9:l9 Vw.v W' mb (uu (tab++[v])):=by
    obtain⟨es,ck,p1,p2⟩:=G4.o;exact⟨es,ck,aP.kept _ _ p1 (fun e=>G3.o.isCells p1 rfl e.symm),p2⟩
   have HM9:=aa hm9;have ff:=aa eC;have qA:=aa aP.old;have t1:=ab eC 1;have z1:=aG eC 1;simp only[bD,cX,List.setIfInBounds_toArray,List.set_cons_succ,List.set_cons_zero,Nat.reduceAdd,x0,x1,x2,x3,x4,x5,q9]at hF;generalize x 6=y6 at hF;subst hF;clear hv aS aP LN NZ q9 eC hm9 x0 x1 x2 x3 x4 x5;simp only[List.drop_succ_cons,List.drop_zero]
   go_wp2_with fail
   go_ret
   rw[HP.o];have bP:∀ g,Value.ownBlock (.slice g9 (tab.length+1) c9)=some g->g≠b:=fun g e=>FP.o.ne ff.o (by decide) g e
   refine⟨rfl,⟨xB,_,aH ff.o 1 _,h2,?_,?_⟩,?_⟩
   ·rw[List.length_append,List.length_singleton,E4];exact FP.o.put bP _ _
   ·obtain⟨es,ck,p1,p2⟩:=HM9.o;exact⟨es,ck,aN p1 (fun e=>by rw[e,ff.o]at p1;cases p1) _ _,p2⟩
   ·exact(G6.o.trans (qA.o.mono (by simp) (by simp))).set ff.o (by simp) xB _
end Go.Proofs.YtmeaoneaephjeaaGreatDoor
