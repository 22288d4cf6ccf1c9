/-
  A part of the proof: lemmas and contracts that the parts behind it use. Each one's conditions are its own premises.
-/
import Derived.Laws.Tables
import Derived.Laws.CopyOwn
import Derived.Test.YtmeaoneaephjeaaGreatDoorT7
set_option maxRecDepth 100000
set_option maxHeartbeats 8000000
set_option linter.unusedVariables false
set_option linter.unusedSimpArgs false
namespace Go.Proofs.YtmeaoneaephjeaaGreatDoor
open Go.RowKit Go Go.Shelf
attribute [local go_sem] Oper.semAt_some
structure BEnd (p:Pb) (w wd:World) (uc us vt ve:Value) (xs:List Value) (st:List Vw × List Ex) (D:Nat) (X:World):Prop where
 old:Below wd.heap.size wd X
 r2:X.heap[w.heap.size+1]?=some (.cells zeroSys 35)
 r3:X.heap[w.heap.size+1+1]?=some (.cells #[.int .i64 0] 39)
 s:X.heap[wd.heap.size]?=some (.cells (cj p uc us p.t.n vt ve) 35)
 tab:aI X wd.heap.size 190 8 vt st.1.length (eX st.1)
 ex:aI X wd.heap.size 89 3 ve st.2.length xs
 els:∀ i (hi:i<st.2.length),zx X wd.heap.size xs i st.2[i]
 d:X.heap[D]?=some (.deferred (some []))
theorem Pr{w X:World} {D:Nat} {T:Array Value} {R:Ending->World->Prop} (hb:Below w.heap.size w X) (hR:X.heap[w.heap.size+1]?=some (.cells zeroSys 35)) (hE:X.heap[w.heap.size+1+1]?=some (.cells #[.int .i64 0] 39)) (hd:X.heap[D]?=some (.deferred (some []))) (hD:w.heap.size+1+1<D)
  (c0 c1 c2 c3 c4 c5 c6 c7 c8 c9:Value) (h2:T[2]?.getD undef=.pointer (some ⟨w.heap.size+1,0,none⟩)) (h3:T[3]?.getD undef=.pointer (some ⟨w.heap.size+1+1,0,none⟩))
  (hK:∀ Wf:World,Below w.heap.size w Wf->(∀ k,k≠w.heap.size+1->k≠w.heap.size+1+1->k≠D->Wf.heap[k]?=X.heap[k]?)->R (.returned (.tuple #[.agg #[c0,c1,c2,c3,c4,c5,c6,c7,c8,c9],.int .i64 0])) Wf) :
  bodyPostM Fence.wide 0 Tryz.prog Tryz.f120 R .ret { tmps:=T,defers:=[hH D] } (((((((((((X.setCell ⟨w.heap.size+1,0,none⟩ c0).setCell ⟨w.heap.size+1,1,none⟩ c1).setCell ⟨w.heap.size+1,2,none⟩ c2).setCell ⟨w.heap.size+1,3,none⟩ c3).setCell ⟨w.heap.size+1,4,none⟩ c4).setCell ⟨w.heap.size+1,5,none⟩ c5).setCell ⟨w.heap.size+1,6,none⟩ c6).setCell ⟨w.heap.size+1,7,none⟩ c7).setCell ⟨w.heap.size+1,8,none⟩ c8).setCell ⟨w.heap.size+1,9,none⟩ c9).setCell ⟨w.heap.size+1+1,0,none⟩ (.int .i64 0)).drew:=by
 obtain⟨q1,q2,q3,q4⟩:=sO (B:=w.heap.size+1) hb (by omega) hR rfl hE c0 c1 c2 c3 c4 c5 c6 c7 c8 c9 0
 revert q1 q2 q3 q4
 generalize (((((((((((X.setCell ⟨w.heap.size+1,0,none⟩ c0).setCell ⟨w.heap.size+1,1,none⟩ c1).setCell ⟨w.heap.size+1,2,none⟩ c2).setCell ⟨w.heap.size+1,3,none⟩ c3).setCell ⟨w.heap.size+1,4,none⟩ c4).setCell ⟨w.heap.size+1,5,none⟩ c5).setCell ⟨w.heap.size+1,6,none⟩ c6).setCell ⟨w.heap.size+1,7,none⟩ c7).setCell ⟨w.heap.size+1,8,none⟩ c8).setCell ⟨w.heap.size+1,9,none⟩ c9).setCell ⟨w.heap.size+1+1,0,none⟩ (.int .i64 0))=Y;intro q1 q2 q3 q4;have q1':Y.drew.heap[w.heap.size+1]?=_:=q1;have q2':Y.drew.heap[w.heap.size+1+1]?=_:=q2;have q4':∀ k,k≠w.heap.size+1->k≠w.heap.size+1+1->Y.drew.heap[k]?=X.heap[k]?:=q4;have q3':=q3.drew;generalize Y.drew=Z at q1' q2' q3' q4' ⊢;refine iz ((q4' D (by omega) (by omega)).trans hd) (pV T (w.heap.size+1) _ c0 c1 c2 c3 c4 c5 c6 c7 c8 c9 0 h2 h3 ((World.putObj_heap_other (by omega)).trans q1') ((World.putObj_heap_other (by omega)).trans q2')) ?_;exact hK _ (eR (by omega) q3') (fun k a b c=>(World.putObj_heap_other c).trans (q4' k a b))
theorem Vh{p:Pb} {w w2 wd X Wf:World} {D:Nat} {uc us vt ve:Value} {xs:List Value} {st:List Vw × List Ex} (h:BEnd p w wd uc us vt ve xs st D X)
  (Dw:∀ W':World,(∀ k o,w2.heap.size<=k->wd.heap[k]?=some o->W'.heap[k]?=some o)->bN W' uc p.t.cases/\bA W' us p.a.states) (vJ:w.heap.size+1+1<w2.heap.size) (hDd:wd.heap.size<=D)
  (hg:(∀ v∈st.1,jS v)/\∀ x∈st.2,ExGood x) (ij:st.1.length<=8192) (nm:st.2.length<=4096) (hf:∀ k,k≠w.heap.size+1->k≠w.heap.size+1+1->k≠D->Wf.heap[k]?=X.heap[k]?):IsSys Wf ⟨p,p.t.n,st.1,st.2⟩ uc us vt ve:=by
 have tr:∀ {b:Nat} {e:TypeId} {k:Nat} {v:Value} {n:Nat} {ys:List Value},aI X b e k v n ys->e≠35->e≠39->aI Wf b e k v n ys:=fun {b e k v n ys} ho h1 h2=>ho.keepT fun g o e1 e2=>
  (hf g (fun e'=>ho.ne h.r2 h1 g e1 e') (fun e'=>ho.ne h.r3 h2 g e1 e') (fun e'=>ho.isCells h.d rfl (by rw[e1,e']))).trans e2
 obtain⟨k1,k2⟩:=Dw Wf (fun k o hk ho=>by
  have aD:=aC ho;rw[hf k (by omega) (by omega) (by omega)]
  exact(h.old.block k aD).trans ho)
 refine⟨k1,k2,yq (tr h.tab (by decide) (by decide)) hg.1 (show st.1.length<=17592186044416 by omega),KY (tr h.ex (by decide) (by decide)) (fun i hi=>?_) hg.2 (show st.2.length<=17592186044416 by omega)⟩;obtain⟨a,d,p1,p2,p3,p4,ys,p5,p6⟩:=h.els i hi;exact⟨a,d,p1,p2,p3,tr p4 (by decide) (by decide),ys,tr p5 (by decide) (by decide),fun j hj=>by obtain⟨y,r1,r2⟩:=p6 j hj;exact⟨y,r1,tr r2 (by decide) (by decide)⟩⟩
theorem Ps(p:Pb) (vc vs:Value) (w:World) (hc:bN w vc p.t.cases) (hs:bA w vs p.a.states) (hN:movesN p.a.states<1099511627776) :
  Calls Tryz.prog 120 #[nN p vc vs] w fun e w'=>∃ c,e=.returned (.tuple #[.agg c,.int .i64 (buildE p)])/\(buildE p=0->∃ uc us vt ve,c=cj p uc us p.t.n vt ve/\IsSys w' (aK p) uc us vt ve)/\(buildE p≠0->c=zeroSys)/\Below w.heap.size w w':=by
 have GC:=aa hc;have GS:=aa hs;obtain⟨pc,cc,rfl,lc1,lc2,ec⟩:=hc.at;obtain⟨ps,cs,rfl,_⟩:=hs.at;have EC:=aa ec;clear hc hs ec;refine gd Tryz.func120 rfl ?_;simp only[Tryz.ntmps120,List.size_toArray,List.length_cons,List.length_nil,Nat.reduceAdd,Nat.reduceSub,Array.replicate_succ,Array.replicate_zero,List.push_toArray,List.append_toArray,List.nil_append,List.cons_append]
 go_wp2_with fail
 refine aQ (fun W=>Below w.heap.size w W/\W.heap[w.heap.size]?=some (.cells #[.int .i64 p.t.n,.int .i64 p.t.ins,.int .i64 p.t.outs,.slice pc p.t.cases.length cc,.int .i64 p.a.n,.slice ps p.a.states.length cs,.int .i64 p.rounds] 29)/\W.heap[w.heap.size+1]?=some (.cells zeroSys 35)/\W.heap[w.heap.size+1+1]?=some (.cells #[.int .i64 0] 39)) ⟨by go_grown,az _ (az _ (aq _ _)),az _ (bz _ _ _),eA _ _ _ _⟩ (fun W0 bh=>?_);obtain⟨aJ,bK,gq,hE0⟩:=bh;refine(Gx p _ _ W0 (GC.o.up up_case aJ) (GS.o.up up_moves aJ) hN (fun h=>by have:=(fp (gD h).1).2.2.2.1;omega)).mono ?_;rintro e w1 ⟨rfl,aM⟩;have jj:=ae aJ aM;have dN:=aa (af aM bK);have dd:=aa (af aM gq);have oe:=aa (af aM hE0);have bY:=aM.size;have hzE:=aC oe.o;clear bK gq hE0
 have fO:((dU p).2=buildE p/\buildE p≠0)\/((dU p).2=0/\probE p=0/\(dU p).1=((p.t.cases.length * (aO p).length:Nat):Int)):=by
  by_cases hp:probE p=0
  ·obtain⟨h1,h2⟩:=Ko hp;by_cases h3:(dU p).2=0
   ·exact .inr ⟨h3,hp,h2 h3⟩
   ·obtain⟨h4,h5⟩:=h1 h3;have:buildE p=17:=by unfold buildE;rw[if_neg (by simpa using hp),if_pos h5]
    exact .inl ⟨by rw[h4,this],by rw[this];decide⟩
  ·have:buildE p=probE p:=by unfold buildE;rw[if_pos hp]
   exact .inl ⟨by rw[this];unfold dU;rw[if_pos hp],by rw[this];exact hp⟩
 rcases fO with ⟨he,bP⟩|⟨he,hp,lG⟩
 ·obtain⟨eb,nB⟩:∃ x,x=buildE p:=⟨_,rfl⟩;rw[he];rw[<-nB]at bP ⊢;have iG:=aa bP;have QS:=aa nB;clear nB;have TN:(eb != 0)=true:=by simpa using bP
  have cR:=ab dd.o;have zR:=fun o=>aG dd.o o
  have cE:=ab oe.o 0;have zE:=aG oe.o 0;simp at cE;clear he bP
  go_wp2_with fail
  obtain⟨q1,q2,q3,_⟩:=sO jj (by omega) dd.o rfl oe.o (.int .i64 0) (.int .i64 0) (.int .i64 0) (.slice none 0 0) (.int .i64 0) (.slice none 0 0) (.int .i64 0) (.int .i64 0) (.slice none 0 0) (.slice none 0 0) eb;refine ik (pV _ (w.heap.size+1) _ _ _ _ _ _ _ _ _ _ _ eb rfl rfl q1 q2) ?_;rw[<-QS.o];exact⟨_,rfl,fun e=>absurd e iG.o,fun _=>rfl,q3⟩
 rw[he,lG];obtain⟨ht,ha,fA,rU,qz⟩:=gD hp;obtain⟨⟨htn1,htn5⟩,_,_,⟨wJ,bX⟩,fL⟩:=fp ht;have ng:=aa fA;have dI:=aa fL;clear fA fL;by_cases Dg:4096<p.t.cases.length * (aO p).length
 ·have QS:am (buildE p=17):=aa (by unfold buildE;rw[if_neg (by simpa using hp),if_pos Dg]);have Xf:(4096:Int)<((p.t.cases.length * (aO p).length:Nat):Int):=by omega
  have cR:=ab dd.o;have zR:=fun o=>aG dd.o o
  have cE:=ab oe.o 0;have zE:=aG oe.o 0;simp at cE;generalize ((p.t.cases.length * (aO p).length:Nat):Int)=nI at Xf;clear he lG Dg hp ht ha rU qz
  go_wp2_with fail
  obtain⟨q1,q2,q3,_⟩:=sO jj (by omega) dd.o rfl oe.o (.int .i64 0) (.int .i64 0) (.int .i64 0) (.slice none 0 0) (.int .i64 0) (.slice none 0 0) (.int .i64 0) (.int .i64 0) (.slice none 0 0) (.slice none 0 0) 17;refine ik (pV _ (w.heap.size+1) _ _ _ _ _ _ _ _ _ _ _ 17 rfl rfl q1 q2) ?_;rw[QS.o];exact⟨_,rfl,fun e=>absurd e (by decide),fun _=>rfl,q3⟩
 have Dq:=aa (Kp hp Dg);have Xf:¬ (4096:Int)<((p.t.cases.length * (aO p).length:Nat):Int):=by omega
 generalize hnI:((p.t.cases.length * (aO p).length:Nat):Int)=nI at Xf;have tA:=ab dN.o;have HP:=aa hp;clear he lG
 go_wp2_with fail
 refine(OO p.a _ p.rounds w1 (GS.o.up up_moves jj) hN).mono ?_;rintro e w2 ⟨u,rfl,hu,hulo,aY⟩;rw[Dq.o]at hu ⊢;dsimp only at hu ⊢;have rN:=ae jj aY;have Lv:=aa hu;have HULO:=aa hulo;clear hulo;obtain⟨pw,cw,rfl,lw1,lw2,_⟩:=hu.at;clear hu tA;have tA:=ab (af aY dN.o)
 go_wp2_with fail
 refine(DU p _ _ w2 (GC.o.up up_case rN) (GS.o.up up_moves rN) ht ha (VX HP.o)).mono ?_;rintro e wd ⟨uc,us,rfl,Dw,bH⟩;have HCP:=aa Dw;obtain⟨WY,XY⟩:=Dw wd (fun _ _ _ h=>h);clear Dw;have cD:=rN.size;have Dp:=bH.size;have Xi:=aC dN.o;have Sp:=ae rN bH;have hzb2:=aY.size;have hltd:w.heap.size<wd.heap.size:=by omega
 have HUC:=aa WY;have HUS:=aa XY;obtain⟨pu,cu,rfl,_⟩:=WY.at;obtain⟨pv,cv,rfl,_⟩:=XY.at;have WZ:=aa (af (ae aY bH) dN.o);have HRd:=aa (af (ae aY bH) dd.o);have HEd:=aa (af (ae aY bH) oe.o);have HUd:=aa (Lv.o.up up_words bH);have HCd:=aa (GC.o.up up_case Sp);have CQ:=fun w=>GF Tryz.prog 232 w
 clear WY XY tA;have tA:=ab WZ.o;have tA4:∀ o1 o2 o3 o4 o,((((wd.alloc o1).alloc o2).alloc o3).alloc o4).cell? ⟨w.heap.size,o,none⟩=_:=fun o1 o2 o3 o4=>ab (az _ (az _ (az _ (az _ WZ.o))))
 go_wp2_with fail
 refine aQ (fun W=>BInv p (.slice pu p.t.cases.length cu) (.slice pv p.a.states.length cv) wd wd.heap.size (wd.heap.size+1+1+1) (wd.heap.size+1+1) (wd.heap.size+1) [] [] W) ?_ (fun W4 hI4=>?_)
 ·refine⟨by go_grown,Nat.le_refl _,MG _ _ _ _ _,⟨_,[],az _ (az _ (az _ (aq _ _))),aI.nil _ _ _ _,fun i hi=>by simp at hi⟩,⟨by omega,_,?_,by omega,aI.nil _ _ _ _,#[],0,az _ (az _ (bz _ _ _)),rfl⟩⟩;rw[Int.toNat_of_nonneg (by omega)];exact az _ (eA _ _ _ _)
 refine(DV p _ _ _ _ _ _ _ _ _ W4).mono ?_;rintro e w5 ⟨rfl,rfl⟩;have HI4:=aa hI4;have QN:=hI4.old.size;have hzb:=aC hI4.bx;clear hI4 tA tA4 CQ
 go_wp2_with fail
 refine bF (fun W=>BInv p (.slice pu p.t.cases.length cu) (.slice pv p.a.states.length cv) wd wd.heap.size (wd.heap.size+1+1+1) (wd.heap.size+1+1) (wd.heap.size+1) [] [] W/\W.heap[W4.heap.size]?=some (.cells #[.int .i64 p.t.n,.int .i64 p.t.ins,.int .i64 p.t.outs,.slice pc p.t.cases.length cc,.int .i64 p.a.n,.slice ps p.a.states.length cs,.int .i64 p.rounds] 29)/\W.heap[W4.heap.size+1]?=some (.cells #[.slice pw (aO p).length cw] 221)/\W4.heap.size+1<W.heap.size) ⟨HI4.o.up (by go_grown),az _ (aq _ _),bz _ _ _,by simp⟩ (fun W5 hW5=>?_);obtain⟨TC,IU,Lw,hz5⟩:=hW5;obtain⟨ws,hwsl,aw,capw,ew,eK⟩:=U' HUd.o;cases ew
 have dj:=Ca wd p.t.cases.length (aO p).length pw cw ws (by have:=Nat.mul_le_mul_right (aO p).length wJ;omega) (by omega) (fun j hj=>by
  obtain⟨b,o,h1,h2,h3⟩:=eK j hj;obtain⟨a',c',e',_⟩:=h3.at
  exact⟨b,o,h1,fo h2,h2,a',_,c',e'⟩) ⟨lw1,by obtain⟨a9,c9,e9,⟨_,h9,_⟩,_⟩:=HUd.o;cases e9;exact h9⟩ W5 TC.old W4.heap.size (W4.heap.size+1) _ _ _ _ _ _ _ _ IU Lw
 have GQ:=aa eK;have GL:=aa Dg
 have Xk:am (∀ ad,pw=some ad->w1.heap.size<=ad.block/\ad.block<wd.heap.size):=aa (fun ad e=>by
  subst e;refine⟨HULO.o ad _ _ rfl,?_⟩
  have hWl:0<(aO p).length:=by
   have h9:=Fc (hZ ha).2.1 (by have:=(hZ ha).1;omega) p.rounds.toNat 0 (by have:=(hZ ha).1;omega);exact h9
  obtain⟨b,o,h1,h2,_⟩:=eK 0 hWl;cases h1
  exact fo h2)
 have hzI:=TC.old.size;clear eK Dg
 refine mI (gf:=199) (lb:=#[.pointer (some ⟨W4.heap.size,0,none⟩),.pointer (some ⟨W4.heap.size+1,0,none⟩)]) rfl (enters_of Tryz.func199 (by kernel_rfl) rfl) dj (Below.refl _ _) (fun k hk=>by
   rcases hk with hk|⟨ad,e1,rfl⟩
   ·omega
   ·have:=Xk.o ad e1;omega) (fun i=>rfl)
  (fun i W=>BInv p (.slice pu p.t.cases.length cu) (.slice pv p.a.states.length cv) wd wd.heap.size (wd.heap.size+1+1+1) (wd.heap.size+1+1) (wd.heap.size+1) (stP p i).1 (stP p i).2 W/\W.heap[W4.heap.size+1]?=some (.cells #[.slice pw (aO p).length cw] 221)/\(stP p i).1.length<=8192)
  (fun c _ W=>c=.ret/\buildE p=17/\Below w.heap.size w W/\W.heap[w.heap.size+1]?=some (.cells zeroSys 35)/\W.heap[w.heap.size+1+1]?=some (.cells #[.int .i64 17] 39))
  (fun i=>(BInv.sta (by omega) (by omega)).and (cK.cells.and cK.pure)) (fun c i=>cK.pure.and (cK.pure.and ((cK.below (by omega)).and (cK.cells.and cK.cells)))) ⟨TC,Lw,by simp[stP,execsS]⟩ ?round ?done ?stop
 case stop=>
  rintro D c i W hD hi ⟨rfl,la,hb,q1,q2⟩ hK;have h1:(W.putObj D (.deferred none)).heap[w.heap.size+1]?=_:=(World.putObj_heap_other (by omega)).trans q1;have h2:(W.putObj D (.deferred none)).heap[w.heap.size+1+1]?=_:=(World.putObj_heap_other (by omega)).trans q2
  go_wp2_with fail
  refine iz hK (pV _ (w.heap.size+1) _ _ _ _ _ _ _ _ _ _ _ 17 (by rfl) (by rfl) h1 h2) ?_;rw[la];exact⟨_,rfl,fun e=>absurd e (by decide),fun _=>rfl,eR (by omega) hb⟩
 case done=>
  intro D W hD hI hK;obtain⟨aV,T4,zg⟩:=hI
  have aS:stP p (p.t.cases.length * (aO p).length)=execsS p (aO p) (fj p):=by
   unfold stP;rw[List.take_of_length_le (by rw[iu];exact Nat.le_refl _)]
  have GP:=Be HP.o (fun c hc=>(wu GC.o c hc).1) (fun x hx=>v8 p.a (sG GS.o) _ _ x hx) (by rw[<-aS];exact zg) _ (Nat.le_refl _);have GM:=sN p (aO p) (fj p) ([],[]);have Gh:=iu p
  have QS:am (buildE p=0):=aa (by
   unfold buildE;have h3:(aK p).tab=(execsS p (aO p) (fj p)).1:=rfl
   rw[if_neg (by simpa using HP.o),if_neg GL.o,if_neg (by rw[h3,<-aS];omega)])
  have gm:am (aK p=⟨p,p.t.n,(execsS p (aO p) (fj p)).1,(execsS p (aO p) (fj p)).2⟩):=aa rfl;change (execsS p (aO p) (fj p)).2.length=_ at GM;rw[aS]at GP aV zg;generalize execsS p (aO p) (fj p)=st at GP aV zg gm GM;have zG:=aa GP;have hlx:st.2.length<=4096:=by have:=GL.o;simp at GM;omega
  clear aS GP GM Gh;obtain⟨ve,xs,fV,iT,nj⟩:=aV.s;obtain⟨vs9,b1',b2',b3',b4'⟩:=aV.bld.ex;obtain⟨av,cve,rfl⟩:=iT.slice;obtain⟨a7,c7,rfl⟩:=b3'.slice;have qN:=aa aV;have vm:=aa fV;have qG:=aa iT;have Ap:=aa nj;have rM:=aa b3';rw[Int.toNat_of_nonneg (by omega)]at b1';have tb:=ab b1';have tx:=ab aV.bx 0;have ts7:=ab (show W.drew.heap[wd.heap.size]?=_ from fV) 7;have ts8:=ab (show W.drew.heap[wd.heap.size]?=_ from fV) 8;have zs7:=aG (show W.drew.heap[wd.heap.size]?=_ from fV) 7;have zs8:=aG (show W.drew.heap[wd.heap.size]?=_ from fV) 8;simp at tx ts7 ts8;have Xi:=aV.old.size;clear aV fV iT nj b1' b2' b3' b4' dj TC T4 IU Lw
  go_wp2_with fail
  go_still_tail 9,(by kernel_rfl)
  change wpList _ _ _ _ _ W.drew;clear tb tx;have hQ:=aH (aH (show W.drew.heap[wd.heap.size]?=_ from vm.o) 7 (.int .i64 p.t.n)) 8 (.slice a7 st.1.length c7)
  have hI:BEnd p w wd (.slice pu p.t.cases.length cu) (.slice pv p.a.states.length cv) (.slice a7 st.1.length c7) (.slice av st.2.length cve) xs st D ((W.drew.setCell ⟨wd.heap.size,7,none⟩ (.int .i64 p.t.n)).setCell ⟨wd.heap.size,8,none⟩ (.slice a7 st.1.length c7)):=by
   have hwd1:(W.drew.setCell ⟨wd.heap.size,7,none⟩ (.int .i64 p.t.n)).heap[wd.heap.size]?=_:=aH (show W.drew.heap[wd.heap.size]?=_ from vm.o) 7 (.int .i64 p.t.n);have kt:KeepT [35] [] wd.heap.size W ((W.drew.setCell ⟨wd.heap.size,7,none⟩ (.int .i64 p.t.n)).setCell ⟨wd.heap.size,8,none⟩ (.slice a7 st.1.length c7)):=((KeepT.refl _ _ _).drew.set (show W.drew.heap[wd.heap.size]?=_ from vm.o) (by simp) (Nat.le_refl _) _).set hwd1 (by simp) (Nat.le_refl _) _;have dD:=KeepT.below9 qN.o.old (KeepT.refl (ms:=[]) [] _ W) kt;refine⟨dD,af dD HRd.o,af dD HEd.o,hQ,kt.own rM.o (by decide),kt.own qG.o (by decide),fun i hi=>?_,kt.oth _ _ hK rfl (by simp)⟩;obtain⟨a,d,p1,p2,p3,p4,p5⟩:=Ap.o i hi;exact⟨a,d,p1,p2,p3,kt.own p4 (by decide),kt.fresh p5 (by decide) (by decide)⟩
  have lR:BEnd p w wd (.slice pu p.t.cases.length cu) (.slice pv p.a.states.length cv) (.slice a7 st.1.length c7) (.slice av st.2.length cve) xs st D (((W.setCell ⟨wd.heap.size,7,none⟩ (.int .i64 p.t.n)).setCell ⟨wd.heap.size,8,none⟩ (.slice a7 st.1.length c7))).drew:=hI;have ji:=aa lR;have fV:(((W.setCell ⟨wd.heap.size,7,none⟩ (.int .i64 p.t.n)).setCell ⟨wd.heap.size,8,none⟩ (.slice a7 st.1.length c7))).heap[wd.heap.size]?=_:=lR.s;have iT:(((W.setCell ⟨wd.heap.size,7,none⟩ (.int .i64 p.t.n)).setCell ⟨wd.heap.size,8,none⟩ (.slice a7 st.1.length c7))).heap[w.heap.size+1]?=_:=lR.r2;have nj:(((W.setCell ⟨wd.heap.size,7,none⟩ (.int .i64 p.t.n)).setCell ⟨wd.heap.size,8,none⟩ (.slice a7 st.1.length c7))).heap[w.heap.size+1+1]?=_:=lR.r3;have tQ:=ab fV;have cR:=ab iT;have zR:=fun o=>aG iT o
  have cE:=ab nj;have zE:=fun o=>aG nj o
  have tQd:=ab lR.s;have cRd:=ab lR.r2;have zRd:=fun o=>aG lR.r2 o
  have cEd:=ab lR.r3;have zEd:=fun o=>aG lR.r3 o
  have X3:(W.setCell ⟨wd.heap.size,7,none⟩ (.int .i64 p.t.n)).heap[wd.heap.size]?=_:=aH vm.o 7 _;have zs8a:=aG X3 8;have zs8b:=aG (show (W.setCell ⟨wd.heap.size,7,none⟩ (.int .i64 p.t.n)).drew.heap[wd.heap.size]?=_ from X3) 8;have LO:BEnd p w wd (.slice pu p.t.cases.length cu) (.slice pv p.a.states.length cv) (.slice a7 st.1.length c7) (.slice av st.2.length cve) xs st D ((W.setCell ⟨wd.heap.size,7,none⟩ (.int .i64 p.t.n)).setCell ⟨wd.heap.size,8,none⟩ (.slice a7 st.1.length c7)):=⟨⟨lR.old.os,lR.old.tape,lR.old.output,lR.old.size,lR.old.block⟩,lR.r2,lR.r3,lR.s,lR.tab,lR.ex,lR.els,lR.d⟩;have iS:=aa (And.intro (ae Sp LO.old) (And.intro LO.r2 (And.intro LO.r3 (And.intro LO.d LO))));clear hQ hI lR LO fV iT nj X3
  go_wp2_with fail
  refine Pr (X:=((W.setCell ⟨wd.heap.size,7,none⟩ (.int .i64 p.t.n)).setCell ⟨wd.heap.size,8,none⟩ (.slice a7 st.1.length c7))) iS.o.1 iS.o.2.1 iS.o.2.2.1 iS.o.2.2.2.1 (by omega) _ _ _ _ _ _ _ _ _ _ rfl rfl (fun Wf CI hff=>?_);rw[QS.o,gm.o];exact⟨_,rfl,fun _=>⟨_,_,_,_,rfl,Vh iS.o.2.2.2.2 HCP.o (by omega) (by omega) zG.o zg hlx hff⟩,fun e=>absurd rfl e,CI⟩
 case round=>
  intro yl i W hi hl hI;obtain⟨aV,T4,zg⟩:=hI;have dO:=ww p i hi;have HOVER:=aa (MF HP.o GL.o (i+1))
  have oJ:0<(aO p).length:=by
   rcases Nat.eq_zero_or_pos (aO p).length with h|h
   ·rw[h]at hi;simp at hi
   ·exact h
  have hc:i / (aO p).length<p.t.cases.length:=by rw[Nat.div_lt_iff_lt_mul oJ];exact hi
  have hj:i % (aO p).length<(aO p).length:=Nat.mod_lt _ oJ;obtain⟨_,_,hpw,_,CO⟩:=GQ.o _ hj;clear hpw;unfold RN
  have hwl6:((aO p)[i % (aO p).length]).length<=6:=by
   have:=kh p.a p.rounds.toNat 0 _ (List.getElem_mem (l:=aO p) hj);omega
  obtain⟨pc',cc',ec',_,_,ecc⟩:=HCd.o.at;cases ec';obtain⟨b1,o1,ec1,⟨vi,dvi,vN⟩,_,_⟩:=ecc _ hc
  have gQ:p.t.n.toNat<=(p.t.cases[i / (aO p).length]).inp.length:=by
   have:=(dI.o _ (List.getElem_mem hc)).inp;omega
  unfold ki at dO;dsimp only at dO;rw[aA default hc,aA [] hj]at dO;generalize p.t.cases[i / (aO p).length]=cs0 at vN gQ dO;generalize (aO p)[i % (aO p).length]=word at CO hwl6 dO;generalize ws.getD (i % (aO p).length) undef=wv at CO ⊢;generalize i / (aO p).length=ci at hc dvi dO ⊢
  have Jr:(stP p i).2.length<=4096:=by
   have h9:=sN p (aO p) ((fj p).take i) ([],[]);have h8:=iu p;have h7:=GL.o;change (stP p i).2.length=_ at h9;simp at h9;omega
  generalize stP p i=st at aV zg dO Jr;have fk:=aa dO;have iH:=aa CO;have XR:=aa vN;obtain⟨pwv,cwv,rfl,_⟩:=CO.at;obtain⟨pvi,cvi,rfl,_⟩:=vN.at;subst ec1;clear dO CO vN ecc;dsimp only
  gi_wp2
  refine⟨Bod.refl _ _ _,(fun X=>BInv p (.slice pu p.t.cases.length cu) (.slice pv p.a.states.length cv) wd wd.heap.size (wd.heap.size+1+1+1) (wd.heap.size+1+1) (wd.heap.size+1) st.1 st.2 X/\X.heap[W4.heap.size+1]?=some (.cells #[.slice pw (aO p).length cw] 221)),(BInv.sta (by omega) (by omega)).and cK.cells,⟨aV,T4⟩,fun V hV _=>?_⟩;obtain⟨pZ,vJ⟩:=hV;clear aV T4;obtain⟨ve,xs,fV,iT,nj⟩:=pZ.s;obtain⟨av,cve,rfl⟩:=iT.slice;have qN:=aa pZ;have vm:=aa fV;have qG:=aa iT;have Ap:=aa nj;have cQ:=aa vJ;have hzV:=pZ.old.size;clear pZ fV iT nj vJ;obtain⟨i0,cY,jb,jt,iJ⟩:=info_parts Tryz.infoExec
  gi_wp2
  refine xF 17 [49,50,51,52,53,54,55,56,57,58,59,60,61,62,63,64,65] [some (.pointer (some ⟨wd.heap.size,9,none⟩)),
   some (.slice av st.2.length cve),
   some (.int .i64 (ci:Int)),
   some (.slice pwv word.length cwv),
   none,
   some (.pointer (some ⟨wd.heap.size+1+1,0,none⟩)),
   some (.pointer (some ⟨w.heap.size,0,none⟩)),
   some (.pointer (some ⟨w.heap.size,3,none⟩)),
   some (.slice (some ⟨b1,o1,none⟩) p.t.cases.length cc),
   some (.int .i64 (ci:Int)),
   some (.pointer (some ⟨b1,o1+ci * 3,none⟩)),
   some (.pointer (some ⟨b1,o1+ci * 3,none⟩)),
   some (.slice pvi cs0.inp.length cvi),
   some (.slice pwv word.length cwv),
   none,
   none,
   none] (BCore wd.heap.size (wd.heap.size+1+1) (wd.heap.size+1) p.t.n.toNat st.1 (gt p.t.n.toNat cs0.inp word st.1).1 ci word (gt p.t.n.toNat cs0.inp word st.1).2 V) (by kernel_rfl) rfl (by decide) rfl (by kernel_rfl) (by kernel_rfl) (by kernel_rfl) (fun ⟨_,_,h⟩=>h) (by kernel_rfl) (fun _=>⟨hzV,(KeepT.refl _ _ _).drew,qN.o.bld.up (Below.refl _ _).drew,nofun,nofun,nofun,nofun⟩) ?step ?tail
  case step=>
   intro x W D i o s F hi ho hs hD cP bX ar hv aP hF;have fO:i=0\/i=1\/i=2\/i=3\/i=4\/i=5\/i=6\/i=7\/i=8\/i=9\/i=10\/i=11\/i=12\/i=13\/i=14\/i=15\/i=16:=by omega
   rcases fO with rfl|rfl|rfl|rfl|rfl|rfl|rfl|rfl|rfl|rfl|rfl|rfl|rfl|rfl|rfl|rfl|rfl
   all_goals (have dM:=cP _ _ hs hD;obtain rfl:=dp ho.symm;obtain rfl:=dp hs.symm)
   ·clear ar hi hv;have e7:F.getD 7 undef=.pointer (some ⟨wd.heap.size,0,none⟩):=lP hF (by decide) rfl;clear cP bX;clear hF dM;have e7':=dE e7;have HD:=aa hD;have bC:=aa aP;clear hD aP
    go_wp2_with fail
    refine cf.mk _ fS ?_ rfl;exact bC.o.other _ (by decide) (by decide) (by decide) (by decide)
   ·have g0:=ar ⟨0,.data⟩ (by simp) rfl;have d0:=hv 0 _ (by omega) g0 rfl;clear ar hi hv;have e49:=fB hF 0 49 (by decide) rfl (by kernel_rfl) d0;clear cP bX;clear hF dM d0;have t1:=ab (aP.keep.keep _ _ _ _ vm.o (by decide)) 9;simp at t1;have e49':=dE e49;have HD:=aa hD;have bC:=aa aP;clear hD aP;clear g0
    go_wp2_with fail
    refine cf.mk _ fS ?_ rfl;exact bC.o.other _ (by decide) (by decide) (by decide) (by decide)
   ·clear ar hi hv;have e9:F.getD 9 undef=.int .i64 (ci:Int):=lP hF (by decide) rfl;clear cP bX;clear hF dM;have e9':=dE e9;have HD:=aa hD;have bC:=aa aP;clear hD aP
    go_wp2_with fail
    refine cf.mk _ fS ?_ rfl;exact bC.o.other _ (by decide) (by decide) (by decide) (by decide)
   ·clear ar hi hv;have e10:F.getD 10 undef=.slice pwv word.length cwv:=lP hF (by decide) rfl;clear cP bX;clear hF dM;have e10':=dE e10;have HD:=aa hD;have bC:=aa aP;clear hD aP
    go_wp2_with fail
    refine cf.mk _ fS ?_ rfl;exact bC.o.other _ (by decide) (by decide) (by decide) (by decide)
   ·have g3:=ar ⟨3,.data⟩ (by simp) rfl;have d3:=hv 3 _ (by omega) g3 rfl;clear ar hi hv;have e52:=fB hF 3 52 (by decide) rfl (by kernel_rfl) d3;clear cP bX;clear hF dM d3;have dD:=KeepT.below9 qN.o.old (KeepT.refl (ms:=[]) [] _ V) aP.keep;have eY:=aa dD;clear dD;have e52':=dE e52;have HD:=aa hD;have bC:=aa aP;clear hD aP;clear g3
    go_wp2_with fail
    refine(uQ _ word W (iH.o.up up_round eY.o) (by omega)).mono ?_;rintro e w9 ⟨u9,rfl,jB,eC⟩;have nC:=aa (jB.base (base':=wd.heap.size) eY.o.size);have ff:=aa eC;clear jB eC
    go_wp2_with fail
    refine cf.mk _ (fun c hc=>by cases hc) ?_ rfl;exact bC.o.clone HD.o ff.o nC.o
   ·clear ar hi hv;have e8:F.getD 8 undef=.pointer (some ⟨wd.heap.size+1+1+1,0,none⟩):=lP hF (by decide) rfl;clear cP bX;clear hF dM;have t1:=ab (aP.keep.keep _ _ _ _ qN.o.bx (by decide)) 0;simp at t1;have e8':=dE e8;have HD:=aa hD;have bC:=aa aP;clear hD aP
    go_wp2_with fail
    refine cf.mk _ fS ?_ rfl;exact bC.o.other _ (by decide) (by decide) (by decide) (by decide)
   ·clear ar hi hv;have e1:F.getD 1 undef=.pointer (some ⟨w.heap.size,0,none⟩):=lP hF (by decide) rfl;clear cP bX;clear hF dM;have e1':=dE e1;have HD:=aa hD;have bC:=aa aP;clear hD aP
    go_wp2_with fail
    refine cf.mk _ fS ?_ rfl;exact bC.o.other _ (by decide) (by decide) (by decide) (by decide)
   ·have g6:=ar ⟨6,.data⟩ (by simp) rfl;have d6:=hv 6 _ (by omega) g6 rfl;clear ar hi hv;have e55:=fB hF 6 55 (by decide) rfl (by kernel_rfl) d6;clear cP bX;clear hF dM d6;have e55':=dE e55;have HD:=aa hD;have bC:=aa aP;clear hD aP;clear g6
    go_wp2_with fail
    refine cf.mk _ fS ?_ rfl;exact bC.o.other _ (by decide) (by decide) (by decide) (by decide)
   ·have g7:=ar ⟨7,.data⟩ (by simp) rfl;have d7:=hv 7 _ (by omega) g7 rfl;clear ar hi hv;have e56:=fB hF 7 56 (by decide) rfl (by kernel_rfl) d7;clear cP bX;clear hF dM d7;have dD:=KeepT.below9 qN.o.old (KeepT.refl (ms:=[]) [] _ V) aP.keep;have t1:=ab (af dD WZ.o) 3;simp at t1;clear dD;have e56':=dE e56;have HD:=aa hD;have bC:=aa aP;clear hD aP;clear g7
    go_wp2_with fail
    refine cf.mk _ fS ?_ rfl;exact bC.o.other _ (by decide) (by decide) (by decide) (by decide)
   ·clear ar hi hv;have e9:F.getD 9 undef=.int .i64 (ci:Int):=lP hF (by decide) rfl;clear cP bX;clear hF dM;have e9':=dE e9;have HD:=aa hD;have bC:=aa aP;clear hD aP
    go_wp2_with fail
    refine cf.mk _ fS ?_ rfl;exact bC.o.other _ (by decide) (by decide) (by decide) (by decide)
   ·have g8:=ar ⟨8,.data⟩ (by simp) rfl;have d8:=hv 8 _ (by omega) g8 rfl;have g9:=ar ⟨9,.data⟩ (by simp) rfl;have d9:=hv 9 _ (by omega) g9 rfl;clear ar hi hv;have e57:=fB hF 8 57 (by decide) rfl (by kernel_rfl) d8;have e58:=fB hF 9 58 (by decide) rfl (by kernel_rfl) d9;clear cP bX;clear hF dM d8 d9;have e57':=dE e57;have e58':=dE e58;have HD:=aa hD;have bC:=aa aP;clear hD aP;clear g8;clear g9
    go_wp2_with fail
    refine cf.mk _ fS ?_ rfl;exact bC.o.other _ (by decide) (by decide) (by decide) (by decide)
   ·have g10:=ar ⟨10,.data⟩ (by simp) rfl;have d10:=hv 10 _ (by omega) g10 rfl;clear ar hi hv;have e59:=fB hF 10 59 (by decide) rfl (by kernel_rfl) d10;clear cP bX;clear hF dM d10;have e59':=dE e59;have HD:=aa hD;have bC:=aa aP;clear hD aP;clear g10
    go_wp2_with fail
    refine cf.mk _ fS ?_ rfl;exact bC.o.other _ (by decide) (by decide) (by decide) (by decide)
   ·have g11:=ar ⟨11,.data⟩ (by simp) rfl;have d11:=hv 11 _ (by omega) g11 rfl;clear ar hi hv;have e60:=fB hF 11 60 (by decide) rfl (by kernel_rfl) d11;clear cP bX;clear hF dM d11;have dD:=KeepT.below9 qN.o.old (KeepT.refl (ms:=[]) [] _ V) aP.keep;have t1:=ak dD dvi;clear dD;have e60':=dE e60;have HD:=aa hD;have bC:=aa aP;clear hD aP;clear g11
    go_wp2_with fail
    refine cf.mk _ fS ?_ rfl;exact bC.o.other _ (by decide) (by decide) (by decide) (by decide)
   ·clear ar hi hv;have e10:F.getD 10 undef=.slice pwv word.length cwv:=lP hF (by decide) rfl;clear cP bX;clear hF dM;have e10':=dE e10;have HD:=aa hD;have bC:=aa aP;clear hD aP
    go_wp2_with fail
    refine cf.mk _ fS ?_ rfl;exact bC.o.other _ (by decide) (by decide) (by decide) (by decide)
   ·have g5:=ar ⟨5,.data⟩ (by simp) rfl;have d5:=hv 5 _ (by omega) g5 rfl;have g12:=ar ⟨12,.data⟩ (by simp) rfl;have d12:=hv 12 _ (by omega) g12 rfl;have g13:=ar ⟨13,.data⟩ (by simp) rfl;have d13:=hv 13 _ (by omega) g13 rfl;clear ar hi hv;have e54:=fB hF 5 54 (by decide) rfl (by kernel_rfl) d5;have e61:=fB hF 12 61 (by decide) rfl (by kernel_rfl) d12;have e62:=fB hF 13 62 (by decide) rfl (by kernel_rfl) d13;clear cP bX;clear hF dM d5 d12 d13;have dD:=KeepT.below9 qN.o.old (KeepT.refl (ms:=[]) [] _ V) aP.keep;have eY:=aa dD;clear dD;have lQ:=aP.bld;rw[hD]at lQ;have CC:=aa (show BldIs wd.heap.size (wd.heap.size+1+1) (wd.heap.size+1) p.t.n.toNat st.1 W from lQ);clear lQ;have e54':=dE e54;have e61':=dE e61;have e62':=dE e62;have HD:=aa hD;have bC:=aa aP;clear hD aP;clear g5;clear g12;clear g13
    go_wp2_with fail
    refine(O9 wd (wd.heap.size+1+1) (wd.heap.size+1) p.t.n.toNat (by omega) st.1 _ _ cs0.inp word W eY.o XR.o iH.o gQ hwl6 (by omega) CC.o).mono ?_;rintro e w9 ⟨u9,rfl,hf9,eC,vp⟩;have HF9:=aa (cB.lower9 hf9 eY.o.size);have ff:=aa eC;have qA:=aa vp;clear hf9 eC vp
    go_wp2_with fail
    refine cf.mk _ (fun c hc=>by cases hc) ?_ rfl;exact bC.o.play HD.o qA.o ff.o HF9.o
   ·have g2:=ar ⟨2,.data⟩ (by simp) rfl;have d2:=hv 2 _ (by omega) g2 rfl;have g4:=ar ⟨4,.data⟩ (by simp) rfl;have g14:=ar ⟨14,.data⟩ (by simp) rfl;clear ar hi hv;have e51:=fB hF 2 51 (by decide) rfl (by kernel_rfl) d2;have e53:=fB hF 4 53 (by decide) rfl (by kernel_rfl) rfl;have e63:=fB hF 14 63 (by decide) rfl (by kernel_rfl) rfl;clear cP bX;clear hF dM d2;obtain⟨a4,c4,q4⟩:=(aP.x4 g4).slice;obtain⟨a14,c14,q14⟩:=(aP.x14 g14).slice;rw[q4]at e53;rw[q14]at e63;have HG:=aa (And.intro g4 (And.intro g14 (And.intro q4 q14)));clear q4 q14;have e51':=dE e51;have e53':=dE e53;have e63':=dE e63;have HD:=aa hD;have bC:=aa aP;clear hD aP;clear g2;clear g4;clear g14
    go_wp2_with fail
    refine cf.mk _ (fun c hc=>by cases hc) ?_ rfl;exact bC.o.made HG.o.1 HG.o.2.1 (by rw[HG.o.2.2.1,HG.o.2.2.2])
   ·have g15:=ar ⟨15,.data⟩ (by simp) rfl;clear ar hi hv;have e64:=fB hF 15 64 (by decide) rfl (by kernel_rfl) rfl;clear cP bX;clear hF dM;obtain⟨g4,g14,q15⟩:=aP.x15 g15;obtain⟨a4,c4,q4⟩:=(aP.x4 g4).slice;obtain⟨a14,c14,q14⟩:=(aP.x14 g14).slice;rw[q15,q4,q14]at e64;have HG:=aa (And.intro g4 (And.intro g14 (And.intro q4 q14)));clear q4 q14 q15 g4 g14;have e64':=dE e64;have HD:=aa hD;have bC:=aa aP;clear hD aP;clear g15
    go_wp2_with fail
    refine cf.mk _ (fun c hc=>by cases hc) ?_ rfl;exact bC.o.row HG.o.1 HG.o.2.1 HG.o.2.2.1 HG.o.2.2.2
  case tail=>
   intro x W' D F aS hv aP hF;have x0:=hv 0 _ (by omega) rfl;have x1:=hv 1 _ (by omega) rfl;have x2:=hv 2 _ (by omega) rfl;have x3:=hv 3 _ (by omega) rfl;have x5:=hv 5 _ (by omega) rfl;have x6:=hv 6 _ (by omega) rfl;have x7:=hv 7 _ (by omega) rfl;have x8:=hv 8 _ (by omega) rfl;have x9:=hv 9 _ (by omega) rfl;have x10:=hv 10 _ (by omega) rfl;have x11:=hv 11 _ (by omega) rfl;have x12:=hv 12 _ (by omega) rfl;have x13:=hv 13 _ (by omega) rfl;obtain⟨g4,g14,gb,q16,nB⟩:=aP.x16 (aS 16 (by omega));have xg:=aP.x4 g4;have Nx:=aP.x14 g14;have lQ:=aP.bld;rw[g14]at lQ;obtain⟨a4,c4,q4⟩:=xg.slice;obtain⟨a14,c14,q14⟩:=Nx.slice;rw[q4]at xg;rw[q14]at Nx;rw[q4,q14]at nB;simp only[bD,cX,List.setIfInBounds_toArray,List.set_cons_succ,List.set_cons_zero,Nat.reduceAdd,x0,x1,x2,x3,x5,x6,x7,x8,x9,x10,x11,x12,x13,q4,q14,q16]at hF;generalize x 15=y15 at hF;subst hF;have qA:=aa aP.keep;have CC:=aa (show BldIs wd.heap.size (wd.heap.size+1+1) (wd.heap.size+1) p.t.n.toNat (gt p.t.n.toNat cs0.inp word st.1).1 W' from lQ);have Ql:=aa xg;have HF14:=aa Nx;have HGB:=aa nB;have HS9:=aa (qA.o.keep _ _ _ _ vm.o (by decide));have sd:=aa (qA.o.own qG.o (by decide));clear hv aS aP xg Nx lQ nB g4 g14 q4 q14 q16 x0 x1 x2 x3 x5 x6 x7 x8 x9 x10 x11 x12 x13;simp only[List.drop_succ_cons,List.drop_zero];have hzW':=qA.o.old.size
   have bS:∀ j u',[Value.int .i64 (ci:Int),Value.slice a4 word.length c4,Value.slice a14 (gt p.t.n.toNat cs0.inp word st.1).2.length c14][j]?=some u'->W'.cell? (Addr.add ⟨gb,0,none⟩ j)=some u':=fun j u' hj=>by
    have e1:(Addr.add ⟨gb,0,none⟩ j)=⟨gb,j,none⟩:=by unfold Addr.add;split<;>simp_all
    rw[e1,ab HGB.o];simpa using hj
   have bE:=aa bS;clear bS;refine aZ W' rfl (.tmp 50) (.tmp 65) 33 rfl wd.heap.size 89 i0 _ 3 56 Tryz.underlying33 cY jb jt iJ rfl (by decide) _ st.2.length xs rfl sd.o ⟨gb,0,none⟩ 1 1 [Value.int .i64 (ci:Int),Value.slice a4 word.length c4,Value.slice a14 (gt p.t.n.toNat cs0.inp word st.1).2.length c14] rfl rfl bE.o (by simp[Value.oneCell']) (by unfold maxLen;omega) (by omega) (by omega) ?_;intro v9 w9 eP dk _;have sh:=gh dk HS9.o (fun e=>sd.o.ne HS9.o (by decide) _ e rfl);have t9:=ab sh 9;have z9:=aG sh 9;simp at t9;obtain⟨a9,c9,rfl⟩:=eP.slice;have HOWN9:=aa eP;have Jd:=aa dk;have N2:=aa sh;clear eP dk sh
   go_wp2_with fail
   refine RP (fun X=>BInv p (.slice pu p.t.cases.length cu) (.slice pv p.a.states.length cv) wd wd.heap.size (wd.heap.size+1+1+1) (wd.heap.size+1+1) (wd.heap.size+1) (gt p.t.n.toNat cs0.inp word st.1).1 (st.2++[⟨ci,word,(gt p.t.n.toNat cs0.inp word st.1).2⟩]) X/\KeepT (bldT++[89,35]) [wd.heap.size+1] wd.heap.size V X) ?_ (fun X hX=>?_)
   ·have kk:KeepT [89,35] [] wd.heap.size W' (w9.setCell ⟨wd.heap.size,9,none⟩ (.slice a9 (st.2.length+1) c9)):=((KeepT.refl _ _ _).grown sd.o (by simp) (Nat.le_refl _) (by omega) Jd.o).set N2.o (by simp) (Nat.le_refl _) _;have kt:KeepT (bldT++[89,35]) [wd.heap.size+1] wd.heap.size V (w9.setCell ⟨wd.heap.size,9,none⟩ (.slice a9 (st.2.length+1) c9)):=(qA.o.mono (fun t h=>List.mem_append_left _ h) (fun _ h=>h)).trans (kk.mono (fun t h=>List.mem_append_right _ h) (by simp));have iF:xs.length=st.2.length * 3:=sd.o.1;refine⟨⟨KeepT.below9 qN.o.old (KeepT.refl (ms:=[]) [] _ V) kt,Nat.le_refl _,kt.keep _ _ _ _ qN.o.bx (by decide),⟨.slice a9 (st.2.length+1) c9,xs++[Value.int .i64 (ci:Int),Value.slice a4 word.length c4,Value.slice a14 (gt p.t.n.toNat cs0.inp word st.1).2.length c14],by rw[aH N2.o];rfl,by rw[List.length_append,List.length_singleton];exact HOWN9.o.put (fun g e=>HOWN9.o.ne N2.o (by decide) g e) _ _,fun i TG=>?_⟩,(CC.o.grown sd.o (by decide) Jd.o).set N2.o (by decide) _⟩,kt⟩;rw[List.length_append,List.length_singleton]at TG;by_cases aD:i<st.2.length
    ·rw[List.getElem_append_left aD];obtain⟨a,d,p1,p2,p3,p4,p5⟩:=Ap.o i aD;exact⟨a,d,by rw[List.getElem?_append_left (by omega)];exact p1,by rw[List.getElem?_append_left (by omega)];exact p2,by rw[List.getElem?_append_left (by omega)];exact p3,kk.own (qA.o.own p4 (by decide)) (by decide),kk.fresh (qA.o.fresh p5 (by decide) (by decide)) (by decide) (by decide)⟩
    ·obtain rfl:i=st.2.length:=by omega
     have e9:(st.2++[(⟨ci,word,(gt p.t.n.toNat cs0.inp word st.1).2⟩:Ex)])[st.2.length]'(by simp)=⟨ci,word,(gt p.t.n.toNat cs0.inp word st.1).2⟩:=by simp
     rw[e9];refine⟨.slice a4 word.length c4,.slice a14 (gt p.t.n.toNat cs0.inp word st.1).2.length c14,?_,?_,?_,kk.own Ql.o (by decide),kk.fresh HF14.o (by decide) (by decide)⟩
     ·rw[List.getElem?_append_right (by omega),iF,Nat.sub_self];rfl
     ·rw[List.getElem?_append_right (by omega),iF,Nat.add_sub_cancel_left];rfl
     ·rw[List.getElem?_append_right (by omega),iF,Nat.add_sub_cancel_left];rfl
   obtain⟨GO,hkX⟩:=hX;have qr:=aa GO;have nz:=aa hkX;obtain⟨vs9,b1',b2',b3',b4'⟩:=GO.bld.ex;obtain⟨a7,c7,rfl⟩:=b3'.slice;have tb:=ab b1' 1;have tx:=ab GO.bx 0;simp at tb tx;clear GO hkX b1' b2' b3' b4' t9 z9;have FT:=qr.o.old;have Qi:=af FT HRd.o;have PY:=af FT HEd.o;by_cases JI:8192<(gt p.t.n.toNat cs0.inp word st.1).1.length
   ·have hovI:(8192:Int)<((gt p.t.n.toNat cs0.inp word st.1).1.length:Int):=by omega
    have cR:=ab Qi;have zR:=fun o=>aG Qi o
    have cE:=ab PY 0;have zE:=aG PY 0;simp at cE;have Qy:am (buildE p=17):=aa (HOVER.o (by rw[fk.o];exact JI));have HRX:=aa Qi;have FO:=aa PY;have bV:=aa FT;clear Qi PY FT JI
    gi_wp2
    obtain⟨q1,q2,q3,q4⟩:=sO (ae Sp bV.o) (by omega) HRX.o rfl FO.o (.int .i64 0) (.int .i64 0) (.int .i64 0) (.slice none 0 0) (.int .i64 0) (.slice none 0 0) (.int .i64 0) (.int .i64 0) (.slice none 0 0) (.slice none 0 0) 17;refine⟨⟨?_,fun k hk=>?_,fun k o hB ho hc=>?_⟩,rfl,Qy.o,q3,q1,q2⟩
    ·have:=nz.o.old.size;simpa using this
    ·rcases hk with rfl|⟨ad,e1,rfl⟩
     ·exact(q4 _ (by omega) (by omega)).trans ((nz.o.keep _ _ _ _ cQ.o (by decide)).trans cQ.o.symm)
     ·have h9:=Xk.o ad e1;exact(q4 _ (by omega) (by omega)).trans (nz.o.old.block _ h9.2)
    ·exact(q4 _ (by omega) (by omega)).trans (nz.o.oth k o ho hc (by simp;omega))
   ·have hovI:¬ (8192:Int)<((gt p.t.n.toNat cs0.inp word st.1).1.length:Int):=by omega
    clear Qi PY FT
    gi_wp2
    refine⟨⟨nz.o.old.size,fun k hk=>?_,fun k o hB ho hc=>nz.o.oth k o ho hc (by simp;omega)⟩,?_⟩
    ·rcases hk with rfl|⟨ad,e1,rfl⟩
     ·exact(nz.o.keep _ _ _ _ cQ.o (by decide)).trans cQ.o.symm
     ·exact nz.o.old.block _ (Xk.o ad e1).2
    ·show BInv p (.slice pu p.t.cases.length cu) (.slice pv p.a.states.length cv) wd wd.heap.size (wd.heap.size+1+1+1) (wd.heap.size+1+1) (wd.heap.size+1) (stP p (i+1)).1 (stP p (i+1)).2 X/\X.heap[W4.heap.size+1]?=some (.cells #[.slice pw (aO p).length cw] 221)/\(stP p (i+1)).1.length<=8192
     rw[fk.o];exact⟨qr.o,nz.o.keep _ _ _ _ cQ.o (by decide),Nat.le_of_not_lt JI⟩
theorem Pt(a b:Vw) (w:World):(binOp .neq 190 a.v b.v).run Tryz.prog w=.ok (.bool (!decide (a=b))) w:=by
 rw[run_neq_struct,DR 9997];rfl
theorem DZ(va vb:Value) (a b:List Vw) (w:World) (ha:m3 w va a) (hb:m3 w vb b) :
  Calls Tryz.prog 121 #[va,vb] w fun e w'=>e=.returned (.bool (decide (a=b)))/\Below w.heap.size w w':=by
 obtain⟨pa,ca,rfl,la1,la2,ea⟩:=ha.at;obtain⟨pb,cb,rfl,lb1,lb2,eb⟩:=hb.at;clear ha hb;have EA:=aa ea;clear ea;have EB:=aa eb;clear eb;generalize oM:decide (a=b)=res;have jE:=aa oM;clear oM;by_cases hl:a.length=b.length
 case neg=>
  have ij:((a.length:Int) != (b.length:Int))=true:=by simp;omega
  have HR:am (res=false):=aa (by rw[<-jE.o];simp;intro h;exact hl (by rw[h]));clear hl
  go_enter Tryz.func121,Tryz.ntmps121
  go_wp2
  go_ret
  exact⟨aR HR.o.symm,Below.refl _ _⟩
 have ij:((a.length:Int) != (b.length:Int))=false:=by simp[hl]
 have HL:=aa hl;clear hl
 go_enter Tryz.func121,Tryz.ntmps121
 go_wp2
 clear ij
 go_loopw [13] (fun i wr=>Below w.heap.size w wr/\∃ k:Nat,k<=a.length/\i=.int .i64 k/\∀ j,j<k->a.getD j default=b.getD j default) (fun i _=>a.length - (intOf i).toNat)
 ·exact⟨Below.refl _ _,0,by omega,rfl,by simp⟩
 ·
  obtain⟨aB,k,hk,rfl,aV⟩:=hrel;have H:=aa aV;clear aV;by_cases aD:k<a.length
  ·have iy:k<b.length:=by have:=HL.o;omega
   obtain⟨b1,o1,rfl,⟨⟨c0,_⟩,⟨c1,_⟩,⟨c2,_⟩,⟨c3,_⟩,⟨c4,_⟩,⟨c5,_⟩,⟨c6,_⟩,⟨c7,_⟩⟩⟩:=EA.o k aD;obtain⟨b2,o2,rfl,⟨⟨e0,_⟩,⟨e1,_⟩,⟨e2,_⟩,⟨e3,_⟩,⟨e4,_⟩,⟨e5,_⟩,⟨e6,_⟩,⟨e7,_⟩⟩⟩:=EB.o k iy;have c0':∀ y:ExtW wr,y.val.cell? ⟨b1,o1+k * 8,none⟩=_:=fun y=>y.cell (ak aB c0)
   have c1':∀ y:ExtW wr,y.val.cell? ⟨b1,o1+k * 8+1,none⟩=_:=fun y=>y.cell (ak aB c1)
   have c2':∀ y:ExtW wr,y.val.cell? ⟨b1,o1+k * 8+2,none⟩=_:=fun y=>y.cell (ak aB c2)
   have c3':∀ y:ExtW wr,y.val.cell? ⟨b1,o1+k * 8+3,none⟩=_:=fun y=>y.cell (ak aB c3)
   have c4':∀ y:ExtW wr,y.val.cell? ⟨b1,o1+k * 8+4,none⟩=_:=fun y=>y.cell (ak aB c4)
   have c5':∀ y:ExtW wr,y.val.cell? ⟨b1,o1+k * 8+5,none⟩=_:=fun y=>y.cell (ak aB c5)
   have c6':∀ y:ExtW wr,y.val.cell? ⟨b1,o1+k * 8+6,none⟩=_:=fun y=>y.cell (ak aB c6)
   have c7':∀ y:ExtW wr,y.val.cell? ⟨b1,o1+k * 8+7,none⟩=_:=fun y=>y.cell (ak aB c7)
   have e0':∀ y:ExtW wr,y.val.cell? ⟨b2,o2+k * 8,none⟩=_:=fun y=>y.cell (ak aB e0)
   have e1':∀ y:ExtW wr,y.val.cell? ⟨b2,o2+k * 8+1,none⟩=_:=fun y=>y.cell (ak aB e1)
   have e2':∀ y:ExtW wr,y.val.cell? ⟨b2,o2+k * 8+2,none⟩=_:=fun y=>y.cell (ak aB e2)
   have e3':∀ y:ExtW wr,y.val.cell? ⟨b2,o2+k * 8+3,none⟩=_:=fun y=>y.cell (ak aB e3)
   have e4':∀ y:ExtW wr,y.val.cell? ⟨b2,o2+k * 8+4,none⟩=_:=fun y=>y.cell (ak aB e4)
   have e5':∀ y:ExtW wr,y.val.cell? ⟨b2,o2+k * 8+5,none⟩=_:=fun y=>y.cell (ak aB e5)
   have e6':∀ y:ExtW wr,y.val.cell? ⟨b2,o2+k * 8+6,none⟩=_:=fun y=>y.cell (ak aB e6)
   have e7':∀ y:ExtW wr,y.val.cell? ⟨b2,o2+k * 8+7,none⟩=_:=fun y=>y.cell (ak aB e7)
   have HX:=aa (aA default aD);have HY:=aa (aA default iy);clear c0 c1 c2 c3 c4 c5 c6 c7 e0 e1 e2 e3 e4 e5 e6 e7;generalize a[k]=x at c0' c1' c2' c3' c4' c5' c6' c7' HX;generalize b[k]=y at e0' e1' e2' e3' e4' e5' e6' e7' HY;have bP:=fun w=>Pt x y w
   go_wp2
   by_cases cG:x=y
   ·have hd:decide (x=y)=true:=by simpa using cG
    have oG:am (a.getD k default=b.getD k default):=aa (by rw[HX.o,HY.o,cG]);rw[hd]at bP;clear cG hd;refine aE (by kernel_rfl) (by kernel_rfl) ?_
    repeat (go_big_quiet_step (fail))
    refine wpQuiet_nil ?_;rintro _ ⟨xq,rfl⟩;clear c0' c1' c2' c3' c4' c5' c6' c7' e0' e1' e2' e3' e4' e5' e6' e7' bP
    go_wp2
    go_roundw
    ·exact⟨ae aB xq.ext,k+1,by omega,by go_num,aW H.o oG.o⟩
    ·simp[intOf];omega
   ·have hd:decide (x=y)=false:=by simpa using cG
    have HR:am (res=false):=aa (by rw[<-jE.o];simp;intro h;subst h;rw[HX.o]at HY;exact cG HY.o);rw[hd]at bP;clear cG hd;refine aE (by kernel_rfl) (by kernel_rfl) ?_
    repeat (go_big_quiet_step (fail))
    refine wpQuiet_nil ?_;rintro _ ⟨xq,rfl⟩;clear c0' c1' c2' c3' c4' c5' c6' c7' e0' e1' e2' e3' e4' e5' e6' e7' bP
    go_wp2
    go_ret
    exact⟨aR HR.o.symm,ae aB xq.ext⟩
  ·have HR:am (res=true):=aa (by rw[<-jE.o];simp;exact fm default HL.o fun j hj=>H.o j (by omega))
   go_wp2
   go_ret
   exact⟨aR HR.o.symm,aB⟩
theorem D5(va vb:Value) (a b:List (List Int)) (w:World) (ha:ef w va a) (hb:ef w vb b) :
  Calls Tryz.prog 168 #[va,vb,.func (.func 15) #[] #[]] w fun e w'=>e=.returned (.bool (decide (a=b)))/\Below w.heap.size w w':=by
 obtain⟨pa,ca,rfl,la1,la2,ea⟩:=ha.at;obtain⟨pb,cb,rfl,lb1,lb2,eb⟩:=hb.at;clear ha hb;have EA:=aa ea;clear ea;have EB:=aa eb;clear eb;generalize oM:decide (a=b)=res;have jE:=aa oM;clear oM;have g1:=enters_of Tryz.func15 (P:=Tryz.prog) (by kernel_rfl) rfl;by_cases hl:a.length=b.length
 case neg=>
  have ij:((a.length:Int) != (b.length:Int))=true:=by simp;omega
  have HR:am (res=false):=aa (by rw[<-jE.o];simp;intro h;exact hl (by rw[h]));clear hl
  go_enter Tryz.func168,Tryz.ntmps168
  go_wp2
  go_ret
  exact⟨aR HR.o.symm,Below.refl _ _⟩
 have ij:((a.length:Int) != (b.length:Int))=false:=by simp[hl]
 have HL:=aa hl;clear hl
 go_enter Tryz.func168,Tryz.ntmps168
 go_wp2
 clear ij
 go_loopw [17] (fun i wr=>Below w.heap.size w wr/\∃ k:Nat,k<=a.length/\i=.int .i64 k/\∀ j,j<k->a.getD j []=b.getD j []) (fun i _=>a.length - (intOf i).toNat)
 ·exact⟨Below.refl _ _,0,by omega,rfl,by simp⟩
 ·
  obtain⟨aB,k,hk,rfl,aV⟩:=hrel;have H:=aa aV;clear aV;by_cases aD:k<a.length
  ·have iy:k<b.length:=by have:=HL.o;omega
   obtain⟨b1,o1,rfl,x,c1,hx⟩:=EA.o k aD;obtain⟨b2,o2,rfl,y,c2,hy⟩:=EB.o k iy;rw[Nat.mul_one]at c1 c2;have d1:=ak aB c1;have d2:=ak aB c2;have HC:=aa (jo x y a[k] b[k] wr (hx.up up_int aB) (hy.up up_int aB));have HX:=aa (aA [] aD);have HY:=aa (aA [] iy);obtain⟨px,qx,rfl,_⟩:=hx.at;obtain⟨py,qy,rfl,_⟩:=hy.at;clear hx hy c1 c2;have HE:am (eqV a[k] b[k]=decide (a[k]=b[k])):=aa rfl;generalize eqV a[k] b[k]=eb at HC HE
   go_wp2_with fail
   refine HC.o.mono ?_;rintro e w1 ⟨rfl,aM⟩;clear d1 d2;cases eb with
   | true=>
    have oG:am (a.getD k []=b.getD k []):=aa (by have h:=HE.o;simp at h;rw[HX.o,HY.o,h])
    go_wp2_with fail
    go_roundw
    ·exact⟨ae aB aM,k+1,by omega,by go_num,aW H.o oG.o⟩
    ·simp[intOf];omega
   | false=>
    have HR:am (res=false):=aa (by rw[<-jE.o];simp;intro h;subst h;have h:=HE.o;simp at h)
    go_wp2_with fail
    go_ret
    exact⟨aR HR.o.symm,ae aB aM⟩
  ·have HR:am (res=true):=aa (by rw[<-jE.o];simp;exact fm [] HL.o fun j hj=>H.o j (by omega))
   go_wp2
   go_ret
   exact⟨aR HR.o.symm,aB⟩
abbrev In(c:Int) (u v:Value):Array Value:=#[.int .i64 c,u,v]
theorem Yl(a b:Ex):decide (a=b)=(decide (a.c=b.c)&&decide (a.word=b.word)&&decide (a.views=b.views)):=by
 obtain⟨c,u,v⟩:=a;obtain⟨d,x,y⟩:=b;simp only[Ex.mk.injEq];by_cases h1:c=d<;>by_cases h2:u=x<;>by_cases h3:v=y<;>simp[h1,h2,h3]
theorem Io(a b:Ex) (ua va ub vb:Value) (w:World) (h1:ky w ua a.word) (h2:ef w va a.views) (h3:ky w ub b.word) (h4:ef w vb b.views) :
  Calls Tryz.prog 123 #[.agg (In a.c ua va),.agg (In b.c ub vb)] w fun e w'=>e=.returned (.bool (decide (a=b)))/\Below w.heap.size w w':=by
 have H1:=aa h1;have H2:=aa h2;have H3:=aa h3;have H4:=aa h4;obtain⟨_,_,rfl,_⟩:=h1.at;obtain⟨_,_,rfl,_⟩:=h2.at;obtain⟨_,_,rfl,_⟩:=h3.at;obtain⟨_,_,rfl,_⟩:=h4.at;clear h1 h2 h3 h4;have HV:=aa (Yl a b);generalize decide (a=b)=res at HV;generalize a.c=x1 at *;generalize b.c=x2 at *
 go_enter Tryz.func123,Tryz.ntmps123
 by_cases hc:x1=x2
 ·subst hc
  go_wp2_with fail
  refine aQ (fun W=>Below w.heap.size w W/\(∃ c,W.heap[w.heap.size]?=some (.cells c 89)/\c=In x1 _ _)/\∃ c,W.heap[w.heap.size+1]?=some (.cells c 89)/\c=In x1 _ _) ⟨by go_grown,⟨_,az _ (aq _ _),rfl⟩,_,bz _ _ _,rfl⟩ (fun W0 bh=>?_);obtain⟨aJ,⟨_,hA,rfl⟩,⟨_,hB,rfl⟩⟩:=bh;refine(BX _ _ a.word b.word W0 (H1.o.up up_round aJ) (H3.o.up up_round aJ)).mono ?_;rintro e w1 ⟨rfl,aM⟩;have dx:=ae aJ aM;have tA:=ab (af aM hA);have tB:=ab (af aM hB);clear hA hB;cases hw:decide (a.word=b.word) with
  | false=>
   have HR:am (res=false):=aa (by rw[HV.o,hw];simp);clear hw
   go_wp2_with fail
   go_ret
   exact⟨aR HR.o.symm,dx⟩
  | true=>
   have HR:am (res=decide (a.views=b.views)):=aa (by rw[HV.o,hw];simp);clear hw
   go_wp2_with fail
   refine(D5 _ _ a.views b.views w1 (H2.o.up up_ints dx) (H4.o.up up_ints dx)).mono ?_;rintro e w2 ⟨rfl,aY⟩;clear tA tB
   go_wp2_with fail
   go_ret
   exact⟨aR HR.o.symm,ae dx aY⟩
 ·have hd:decide (x1=x2)=false:=decide_eq_false hc;have HR:am (res=false):=aa (by rw[HV.o,hd];simp)
  go_wp2_with fail
  go_ret
  exact⟨aR HR.o.symm,by go_grown⟩
theorem D6(va vb:Value) (a b:List Ex) (w:World) (ha:zw w va a) (hb:zw w vb b) :
  Calls Tryz.prog 122 #[va,vb,.func (.func 123) #[] #[]] w fun e w'=>e=.returned (.bool (decide (a=b)))/\Below w.heap.size w w':=by
 obtain⟨pa,ca,rfl,la1,la2,ea⟩:=ha.at;obtain⟨pb,cb,rfl,lb1,lb2,eb⟩:=hb.at;clear ha hb;have EA:=aa ea;clear ea;have EB:=aa eb;clear eb;generalize oM:decide (a=b)=res;have jE:=aa oM;clear oM;have g1:=enters_of Tryz.func123 (P:=Tryz.prog) (by kernel_rfl) rfl;by_cases hl:a.length=b.length
 case neg=>
  have ij:((a.length:Int) != (b.length:Int))=true:=by simp;omega
  have HR:am (res=false):=aa (by rw[<-jE.o];simp;intro h;exact hl (by rw[h]));clear hl
  go_enter Tryz.func122,Tryz.ntmps122
  go_wp2
  go_ret
  exact⟨aR HR.o.symm,Below.refl _ _⟩
 have ij:((a.length:Int) != (b.length:Int))=false:=by simp[hl]
 have HL:=aa hl;clear hl
 go_enter Tryz.func122,Tryz.ntmps122
 go_wp2
 clear ij
 go_loopw [17] (fun i wr=>Below w.heap.size w wr/\∃ k:Nat,k<=a.length/\i=.int .i64 k/\∀ j,j<k->a.getD j default=b.getD j default) (fun i _=>a.length - (intOf i).toNat)
 ·exact⟨Below.refl _ _,0,by omega,rfl,by simp⟩
 ·
  obtain⟨aB,k,hk,rfl,aV⟩:=hrel;have H:=aa aV;clear aV;by_cases aD:k<a.length
  ·have iy:k<b.length:=by have:=HL.o;omega
   obtain⟨b1,o1,rfl,⟨c1,_⟩,⟨u1,c2,h2⟩,⟨v1,c3,h3⟩⟩:=EA.o k aD;obtain⟨b2,o2,rfl,⟨d1,_⟩,⟨u2,d2,k2⟩,⟨v2,d3,k3⟩⟩:=EB.o k iy;have c1':=ak aB c1;have c2':=ak aB c2;have c3':=ak aB c3;have hA:Below wr.heap.size wr (wr.alloc (.cells (In a[k].c u1 v1) 89)):=by go_grown
   have d1':=ak hA (ak aB d1);have d2':=ak hA (ak aB d2);have d3':=ak hA (ak aB d3);have H2:=aa (h2.up up_round aB);have H3:=aa (h3.up up_ints aB);have K2:=aa (k2.up up_round aB);have K3:=aa (k3.up up_ints aB);obtain⟨_,_,rfl,_⟩:=h2.at;obtain⟨_,_,rfl,_⟩:=h3.at;obtain⟨_,_,rfl,_⟩:=k2.at;obtain⟨_,_,rfl,_⟩:=k3.at;have HX:=aa (aA default aD);have HY:=aa (aA default iy);clear h2 h3 k2 k3 c1 c2 c3 d1 d2 d3 hA;generalize a[k]=x at *;generalize b[k]=y at *
   go_wp2_with fail
   refine aQ (fun W=>Below wr.heap.size wr W) (by go_grown) (fun W0 bh=>?_);refine(Io x y _ _ _ _ W0 (H2.o.up up_round bh) (H3.o.up up_ints bh) (K2.o.up up_round bh) (K3.o.up up_ints bh)).mono ?_;rintro e w1 ⟨rfl,aM⟩;have dx:=ae aB (ae bh aM);clear c1' c2' c3' d1' d2' d3';cases cG:decide (x=y) with
   | true=>
    have oG:am (a.getD k default=b.getD k default):=aa (by rw[HX.o,HY.o,of_decide_eq_true cG]);clear cG
    go_wp2_with fail
    go_roundw
    ·exact⟨dx,k+1,by omega,by go_num,aW H.o oG.o⟩
    ·simp[intOf];omega
   | false=>
    have HR:am (res=false):=aa (by rw[<-jE.o];simp;intro h;subst h;rw[HX.o]at HY;exact of_decide_eq_false cG HY.o);clear cG
    go_wp2_with fail
    go_ret
    exact⟨aR HR.o.symm,dx⟩
  ·have HR:am (res=true):=aa (by rw[<-jE.o];simp;exact fm default HL.o fun j hj=>H.o j (by omega))
   go_wp2
   go_ret
   exact⟨aR HR.o.symm,aB⟩
theorem gL{P:Program} {ops:Array Oper} {Q:Exit->Act->World->Prop} {l:List Oper} {a:Act} {W:World} (I:World->Prop) (h:I W) (k:∀ W0,I W0->wpList P ops Q l a W0):wpList P ops Q l a W:=k W h
theorem bM{w:World} {s:Sys} {vc vs vt ve:Value} (h:IsSys w s vc vs vt ve):(∃ a c,vc=.slice a s.prob.t.cases.length c)/\(∃ a c,vs=.slice a s.prob.a.states.length c)/\(∃ a c,vt=.slice a s.tab.length c)/\∃ a c,ve=.slice a s.ex.length c:=by
 obtain⟨a1,c1,e1,_⟩:=h.cases.at;obtain⟨a2,c2,e2,_⟩:=h.states.at;obtain⟨a3,c3,e3,_⟩:=h.tab.at;obtain⟨a4,c4,e4,_⟩:=h.ex.at;exact⟨⟨a1,c1,e1⟩,⟨a2,c2,e2⟩,⟨a3,c3,e3⟩,a4,c4,e4⟩
theorem pM(s:Sys) (vc vs vt ve:Value) (w:World) (hs:IsSys w s vc vs vt ve) (hN:movesN s.prob.a.states<1099511627776) :
  Calls Tryz.prog 75 #[.agg (cj s.prob vc vs s.n vt ve)] w fun e w'=>e=.returned (.int .i64 (verifyE s))/\Below w.heap.size w w':=by
 have HS:=aa hs;obtain⟨⟨pc,cc,rfl⟩,⟨ps,cs,rfl⟩,⟨pt,ct,rfl⟩,⟨pe,ce,rfl⟩⟩:=bM hs;clear hs;have HV:am (verifyE s=if buildE s.prob≠0 then buildE s.prob else if s.n=(aK s.prob).n/\s.tab=(aK s.prob).tab/\s.ex=(aK s.prob).ex then 0 else 3):=aa rfl;have HT:=aa HS.o.tab;have HE:=aa HS.o.ex;have HC:=aa (fun W (hb:Below w.heap.size w W)=>Ps s.prob (.slice pc s.prob.t.cases.length cc) (.slice ps s.prob.a.states.length cs) W (HS.o.cases.up up_case hb) (HS.o.states.up up_moves hb) hN);clear HS
 go_enter Tryz.func75,Tryz.ntmps75
 go_wp2_with fail
 refine aQ (fun W=>Below w.heap.size w W/\∃ c,W.heap[w.heap.size]?=some (.cells c 35)/\c=cj s.prob _ _ s.n _ _) ⟨by go_grown,_,aq _ _,rfl⟩ (fun W0 bh=>?_);obtain⟨aJ,_,hA,rfl⟩:=bh;refine(HC.o W0 aJ).mono ?_;rintro e w1 ⟨c,rfl,h0,h1,aM⟩;have dx:=ae aJ aM;have eN:=af aM hA;have dN:=aa eN;have eY:=aa dx;have fV:=dx.size;have iT:=aC eN;clear hA eN aJ aM HC;by_cases la:buildE s.prob=0
 case neg=>
  obtain rfl:=h1 la;clear h0 h1;have HR:am (verifyE s=buildE s.prob):=aa (by rw[HV.o,if_pos la]);generalize buildE s.prob=be at la HR;have hbe':(be != 0)=true:=by simpa using la
  clear HV la
  go_wp2_with ((refine wpList_store_row rfl 35 (.tmp 3) (.tmp 9) rfl w1.heap.size zeroSys rfl rfl 35 _ (aq w1 (.cells zeroSys 35)) (by kernel_rfl) rfl (by simp[Value.oneCell']) (gL (fun W=>Below w.heap.size w W) (below_setRow (eY.o.alloc fV _) fV _) ?_);intro W2 fh;have cQ:=aa fh;clear fh))
  go_ret
  exact⟨aF HR.o.symm,cQ.o⟩
 obtain⟨uc,us,vt,ve,rfl,Sm⟩:=h0 la;have HR:am (verifyE s=if s.n=s.prob.t.n/\s.tab=(aK s.prob).tab/\s.ex=(aK s.prob).ex then 0 else 3):=aa (by rw[HV.o,if_neg (by omega)];rfl);have zi:=aa Sm;obtain⟨⟨qc,dc,e1⟩,⟨qs,ds,e2⟩,⟨qt,dt,e3⟩,⟨qe,de,e4⟩⟩:=bM Sm;clear h1 Sm HV;rw[la];clear la;generalize ud:(aK s.prob).tab=bt at *;generalize jH:(aK s.prob).ex=bx at *;have CD:am (m3 w1 vt bt):=aa (by rw[<-ud];exact zi.o.tab);have nr:am (zw w1 ve bx):=aa (by rw[<-jH];exact zi.o.ex);clear ud jH zi;subst e1 e2 e3 e4;have hone:(cj s.prob (.slice qc (aK s.prob).prob.t.cases.length dc) (.slice qs (aK s.prob).prob.a.states.length ds) s.prob.t.n (.slice qt bt.length dt) (.slice qe bx.length de)).all (·.oneCell')=true:=by simp[Value.oneCell']
 by_cases hn:s.n=s.prob.t.n
 case neg=>
  have yR:(s.n != s.prob.t.n)=true:=by simpa using hn
  have eH:am (verifyE s=3):=aa (by rw[HR.o,if_neg (fun h=>hn h.1)]);clear hn HR
  go_wp2_with ((refine wpList_store_row rfl 35 (.tmp 3) (.tmp 9) rfl w1.heap.size (cj s.prob (.slice qc (aK s.prob).prob.t.cases.length dc) (.slice qs (aK s.prob).prob.a.states.length ds) s.prob.t.n (.slice qt bt.length dt) (.slice qe bx.length de)) rfl rfl 35 _ (aq w1 (.cells zeroSys 35)) (by kernel_rfl) rfl hone (gL (fun W=>Below w.heap.size w W/\Below w1.heap.size w1 W/\∃ c,W.heap[w1.heap.size]?=some (.cells c 35)/\c=cj s.prob _ _ s.prob.t.n _ _) ⟨below_setRow (eY.o.alloc fV _) fV _,below_setRow ((Below.refl _ w1).alloc (Nat.le_refl _) _) (Nat.le_refl _) _,_,setRow_heap _ _ _ _ _ _ (aq w1 _),rfl⟩ ?_);intro W2 fh;obtain⟨g1,g2,c2,g3,ja⟩:=fh;subst ja;have tS:=ab (af g2 dN.o);have tT:=ab g3;have G1:=aa g1;have G2:=aa g2;have G3:=aa g3;clear g1 g2 g3))
  go_ret
  exact⟨aF eH.o.symm,G1.o⟩
 have yR:(s.n != s.prob.t.n)=false:=by simpa using hn
 have rS:=aa hn;clear hn
 go_wp2_with ((refine wpList_store_row rfl 35 (.tmp 3) (.tmp 9) rfl w1.heap.size (cj s.prob (.slice qc (aK s.prob).prob.t.cases.length dc) (.slice qs (aK s.prob).prob.a.states.length ds) s.prob.t.n (.slice qt bt.length dt) (.slice qe bx.length de)) rfl rfl 35 _ (aq w1 (.cells zeroSys 35)) (by kernel_rfl) rfl hone (gL (fun W=>Below w.heap.size w W/\Below w1.heap.size w1 W/\∃ c,W.heap[w1.heap.size]?=some (.cells c 35)/\c=cj s.prob _ _ s.prob.t.n _ _) ⟨below_setRow (eY.o.alloc fV _) fV _,below_setRow ((Below.refl _ w1).alloc (Nat.le_refl _) _) (Nat.le_refl _) _,_,setRow_heap _ _ _ _ _ _ (aq w1 _),rfl⟩ ?_);intro W2 fh;obtain⟨g1,g2,c2,g3,ja⟩:=fh;subst ja;have tS:=ab (af g2 dN.o);have tT:=ab g3;have G1:=aa g1;have G2:=aa g2;have G3:=aa g3;clear g1 g2 g3))
 refine(DZ _ _ s.tab bt W2 (HT.o.up up_view G1.o) (CD.o.up up_view G2.o)).mono ?_;rintro e w3 ⟨rfl,bH⟩;clear tS tT;have tS:=ab (af bH (af G2.o dN.o));have tT:=ab (af bH G3.o);have uG:=ae G1.o bH;have hbw4:=ae G2.o bH;cases ht:decide (s.tab=bt) with
 | false=>
  have eH:am (verifyE s=3):=aa (by rw[HR.o,if_neg (fun h=>of_decide_eq_false ht h.2.1)]);clear ht HR
  go_wp2_with fail
  go_ret
  exact⟨aF eH.o.symm,uG⟩
 | true=>
  have eH:am (verifyE s=if s.ex=bx then 0 else 3):=aa (by
   rw[HR.o];by_cases h:s.ex=bx
   ·rw[if_pos ⟨rS.o,of_decide_eq_true ht,h⟩,if_pos h]
   ·rw[if_neg (fun h'=>h h'.2.2),if_neg h])
  clear ht HR
  go_wp2_with fail
  refine(D6 _ _ s.ex bx w3 (HE.o.up up_ex uG) (nr.o.up up_ex hbw4)).mono ?_;rintro e w4 ⟨rfl,bR⟩;clear tS tT;cases ht:decide (s.ex=bx) with
  | false=>
   have gk:am (verifyE s=3):=aa (by rw[eH.o,if_neg (of_decide_eq_false ht)]);clear ht eH
   go_wp2_with fail
   go_ret
   exact⟨aF gk.o.symm,ae uG bR⟩
  | true=>
   have gk:am (verifyE s=0):=aa (by rw[eH.o,if_pos (of_decide_eq_true ht)]);clear ht eH
   go_wp2_with fail
   go_ret
   exact⟨aF gk.o.symm,ae uG bR⟩
theorem Ff{w:World} {B:Nat} {cs:Array Value} {t:TypeId} {fz:Nat × Nat} (h:w.heap[B]?=some (.cells cs t fz)) (o:Nat) (hf:¬ (fz.1<=o/\o<fz.2)):w.frozen? ⟨B,o,none⟩=false:=by
 simp[World.frozen?,h];simpa using hf
def lr(n:Nat) (f r:Nat->Int) (q:Nat):List Value:=(List.range n).map fun j=>Value.int .i64 (if j<q then f j else r j)
theorem Ip(n:Nat) (f r:Nat->Int) (q:Nat):(lr n f r q).length=n:=by simp[lr]
theorem RS(n:Nat) (f r:Nat->Int) (q:Nat):(lr n f r q).set q (.int .i64 (f q))=lr n f r (q+1):=by
 refine List.ext_getElem (by simp[lr]) fun i h1 h2=>?_
 rw[List.getElem_set];simp only[lr,List.getElem_map,List.getElem_range];by_cases e:q=i
 ·subst e;rw[if_pos rfl,if_pos (by omega)]
 ·rw[if_neg e];by_cases h:i<q
  ·rw[if_pos h,if_pos (by omega)]
  ·rw[if_neg h,if_neg (by omega)]
theorem Fg(n:Nat) (f r:Nat->Int) (q:Nat) (h:f q=r q):lr n f r (q+1)=lr n f r q:=by
 unfold lr;refine List.map_congr_left fun j _=>?_
 by_cases e:j=q
 ·subst e;rw[if_pos (by omega),if_neg (by omega),h]
 ·by_cases h:j<q
  ·rw[if_pos (by omega),if_pos h]
  ·rw[if_neg (by omega),if_neg h]
theorem V4(p:Nat):hasB 0 p=false:=by simp[hasB]
theorem List.set_take'{α:Type} (l:List α) (i n:Nat) (a:α):(l.take n).set i a=(l.set i a).take n:=by rw[List.take_set]
theorem Vi{s:Sys} (h:SysOk s):∀ x∈rH s,∀ y∈x,bT y:=fun x hx y hy=>by
 obtain⟨e,he,rfl⟩:=List.mem_map.1 hx;obtain⟨p,hp,rfl⟩:=List.mem_map.1 hy;have h1:=lO h (List.mem_range.1 he) (List.mem_range.1 hp);have h2:=h.tab;split
 ·exact⟨by omega,by omega⟩
 ·exact⟨by omega,by omega⟩
theorem RT{w:World} {pr:Option Addr} {n cr:Nat} {l:List Int} (h:aX w (.slice pr n cr) l) (hl:l.length=n):mQ w 1 (.slice pr n cr) n (l.map (Value.int .i64)):=by
 obtain⟨a,cap,e,⟨h1,h2,h3⟩,h4,h5⟩:=h;injection e with e1 e2 e3
 subst e1 e3;refine⟨pr,cr,rfl,fun e=>⟨by have:=h3 e;omega,h3 e⟩,by simp[hl],fun j u hj=>?_,fun u hu=>by obtain⟨x,_,rfl⟩:=List.mem_map.1 hu;rfl⟩;rw[List.getElem?_map]at hj;cases hx:l[j]? with
 | none=>rw[hx]at hj;cases hj
 | some x=>
  rw[hx]at hj;obtain⟨b,o,e,h6,_⟩:=h5 j x hx;rw[Nat.mul_one]at h6;exact⟨b,o,e,by rw[h6];exact hj⟩
theorem aI.block{w:World} {base n:Nat} {e:TypeId} {v:Value} {xs:List Value} (h:aI w base e 1 v n xs) (hn:0<n):∃ g cap cur fz,v=.slice (some ⟨g,0,none⟩) n cap/\base<=g/\w.heap[g]?=some (.cells cur e fz)/\(∀ i,i<cur.size->¬ (fz.1<=i/\i<fz.2))/\n<=cap/\cap<=maxLen/\cur.size=cap/\cur.toList.take n=xs/\v.ownBlock=some g:=by
 rcases h.2 with ⟨_,h0⟩|⟨g,cap,cur,fz,rfl,h1,h2,h3,h4,h5,h6,h7⟩
 ·omega
 ·exact⟨g,cap,cur,fz,rfl,h1,h2,h3,h4,h5,by omega,by rw[Nat.mul_one]at h7;exact h7,rfl⟩
theorem iD{w:World} {s:Sys} (hs:SysOk s) {ve:Value} (h:zw w ve s.ex) {k:Nat} (hk:k<eS s):∃ b o pe ce,ve=.slice (some ⟨b,o,none⟩) (eS s) ce/\pe=some (⟨b,o,none⟩:Addr)/\∃ pw nw cw pv cv,w.cell? ⟨b,o+k * 3,none⟩=some (.int .i64 (cJ s k).c)/\w.cell? ⟨b,o+k * 3+1,none⟩=some (.slice pw nw cw)/\w.cell? ⟨b,o+k * 3+2,none⟩=some (.slice pv (s.prob.rounds.toNat+1) cv)/\nw=s.prob.rounds.toNat ∧
  (0<nw->∃ b1 o1,pw=some ⟨b1,o1,none⟩/\w.cell? ⟨b1,o1+(nw - 1) * 7+6,none⟩=some (.int .i64 (fltS s k)))/\(nw=0->fltS s k=0) ∧
  ∃ b2 o2 pr cr,pv=some ⟨b2,o2,none⟩/\w.cell? ⟨b2,o2+s.prob.rounds.toNat,none⟩=some (.slice pr (nS s) cr)/\aX w (.slice pr (nS s) cr) ((List.range (nS s)).map (finS s k)):=by
 obtain⟨a,ce,e0,_,_,ep⟩:=h.at;obtain⟨b,o,rfl,⟨c1,_⟩,⟨uw,c2,h2⟩,⟨uv,c3,h3⟩⟩:=ep k hk;have hx:s.ex[k]=cJ s k:=by unfold cJ;exact(aA default hk).symm
 rw[hx]at c1 h2 h3;have JC:=hs.word k hk;obtain⟨xm,hvr⟩:=hs.views k hk;obtain⟨pw,cw,rfl,_,_,ew⟩:=h2.at;obtain⟨pv,cv,rfl,_,_,ev⟩:=h3.at;obtain⟨b2,o2,e2,vr,cr',hr⟩:=ev s.prob.rounds.toNat (by omega);rw[Nat.mul_one]at cr'
 have cA:(cJ s k).views[s.prob.rounds.toNat]'(by omega)=(List.range (nS s)).map (finS s k):=by
  have cN:=(hvr _ (List.getElem_mem (l:=(cJ s k).views) (show s.prob.rounds.toNat<(cJ s k).views.length by omega))).1;refine List.ext_getElem (by simp[cN]) fun i h1 h2=>?_
  simp only[List.getElem_map,List.getElem_range];unfold finS;rw[aA [] (show s.prob.rounds.toNat<(cJ s k).views.length by omega),aA 0 h1]
 rw[cA]at hr;obtain⟨pr,cr,rfl,_⟩:=hr.at;rw[show ((List.range (nS s)).map (finS s k)).length=nS s by simp]at cr' hr;refine⟨b,o,_,ce,e0,rfl,pw,_,cw,pv,cv,c1,c2,by rw[xm]at c3;exact c3,JC,fun h0=>?_,fun h0=>?_,b2,o2,pr,cr,e2,cr',hr⟩
 ·obtain⟨b1,o1,e1,_,_,_,_,_,_,c6,_⟩:=ew ((cJ s k).word.length - 1) (by omega);refine⟨b1,o1,e1,?_⟩;rw[c6];unfold fltS zp;rw[if_neg (by omega),aA default (show (cJ s k).word.length - 1<(cJ s k).word.length by omega)]
 ·unfold fltS zp;rw[if_pos h0]
def gP(w:World) (base B:Nat) (s:Sys):Prop:=base<=B/\∃ vl,w.heap[B]?=some (.cells #[.int .i64 (nS s),vl] 201)/\cS w base vl (rH s)
theorem gP.at{w:World} {base B:Nat} {s:Sys} (h:gP w base B s) (hs:SysOk s):FinAt w B s:=by
 obtain⟨_,vl,h1,h2⟩:=h;exact⟨vl,h1,nT h2 (Vi hs) (by rw[A9];have:=hs.count;omega) (fun x hx=>by obtain⟨e,_,rfl⟩:=List.mem_map.1 hx;rw[lN];have:=hs.n.2.1;omega)⟩
theorem aI.keepB{w V:World} {base k n:Nat} {e:TypeId} {v:Value} {xs:List Value} (h:aI w base e k v n xs) (hk:∀ g,base<=g->g<w.heap.size->V.heap[g]?=w.heap[g]?):aI V base e k v n xs:=by
 obtain⟨hl,h⟩:=h;refine⟨hl,?_⟩;rcases h with h|⟨g,cap,cur,fz,h1,h2,h3,h4⟩
 ·exact .inl h
 ·exact .inr ⟨g,cap,cur,fz,h1,h2,(hk g h2 (aC h3)).trans h3,h4⟩
theorem aI.baseB{w:World} {base b k n:Nat} {e:TypeId} {v:Value} {xs:List Value} (h:aI w base e k v n xs) (hb:b<=base):aI w b e k v n xs:=by
 obtain⟨hl,h⟩:=h;refine⟨hl,?_⟩;rcases h with h|⟨g,cap,cur,fz,h1,h2,h3,h4⟩
 ·exact .inl h
 ·exact .inr ⟨g,cap,cur,fz,h1,Nat.le_trans hb h2,h3,h4⟩
theorem gP.keep{w V:World} {base B:Nat} {s:Sys} (h:gP w base B s) (hk:∀ g,base<=g->g<w.heap.size->V.heap[g]?=w.heap[g]?):gP V base B s:=by
 obtain⟨h0,vl,h1,xs,h2,h3⟩:=h;exact⟨h0,vl,(hk B h0 (aC h1)).trans h1,xs,h2.keepB hk,fun i hi=>by obtain⟨x,q1,q2⟩:=h3 i hi;exact⟨x,q1,q2.keepB hk⟩⟩
theorem gP.mono{w:World} {base b B:Nat} {s:Sys} (h:gP w base B s) (hb:b<=base):gP w b B s:=by
 obtain⟨h0,vl,h1,xs,h2,h3⟩:=h;exact⟨Nat.le_trans hb h0,vl,h1,xs,h2.baseB hb,fun i hi=>by obtain⟨x,q1,q2⟩:=h3 i hi;exact⟨x,q1,q2.baseB hb⟩⟩
theorem gP.up{w V:World} {base B:Nat} {s:Sys} (h:gP w base B s) (hb:Below w.heap.size w V):gP V base B s:=h.keep fun g _ hg=>hb.block g hg
theorem D7(s:Sys) (vc vs vt ve:Value) (w:World) (hs:IsSys w s vc vs vt ve) (hN:movesN s.prob.a.states<1099511627776) :
  Calls Tryz.prog 128 #[.agg (cj s.prob vc vs s.n vt ve)] w fun e w'=>∃ v,e=.returned (.tuple #[v,.int .i64 (verifyE s)])/\Below w.heap.size w w'/\(verifyE s≠0->v=.pointer none)/\(verifyE s=0->∃ B,v=.pointer (some ⟨B,0,none⟩)/\FinAt w' B s/\gP w' w.heap.size B s):=by
 have HS:=aa hs;obtain⟨⟨pc,cc,rfl⟩,⟨ps,cs,rfl⟩,⟨pt,ct,rfl⟩,⟨pe,ce,rfl⟩⟩:=bM hs;clear hs;have HC:=aa (fun W (hb:Below w.heap.size w W)=>pM s _ _ _ _ W (HS.o.up hb) hN);obtain⟨i0,cY,cC,bY,cD⟩:=info_parts Tryz.infoInt;obtain⟨j0,kX,jb,jt,iJ⟩:=info_parts Tryz.infoInts
 go_enter Tryz.func128,Tryz.ntmps128
 go_wp2_with fail
 refine aQ (fun W=>Below w.heap.size w W/\∃ c,W.heap[w.heap.size]?=some (.cells c 35)/\c=cj s.prob _ _ s.n _ _) ⟨by go_grown,_,aq _ _,rfl⟩ (fun W0 bh=>?_);obtain⟨aJ,_,hA,rfl⟩:=bh;refine(HC.o W0 aJ).mono ?_;rintro e w1 ⟨rfl,aM⟩;have dx:=ae aJ aM;have eN:=af aM hA;have tS:=ab eN;have dN:=aa eN;have eY:=aa dx;have fV:=dx.size;have iT:=aC eN;clear hA eN aJ aM HC dx;by_cases hv:verifyE s=0
 case neg=>
  have HV:=aa hv;obtain⟨ev,mq⟩:∃ ev,verifyE s=ev:=⟨_,rfl⟩;rw[mq]at hv ⊢;have HE:=aa mq;have Jv:(ev != 0)=true:=by simpa using hv
  clear hv mq
  go_wp2_with fail
  go_ret2
  exact⟨_,by rw[HE.o];rfl,eY.o,fun _=>rfl,fun h=>absurd h HV.o⟩
 have CE:=aa hv;have fL:=iZ hv;have dI:=aa fL;rw[hv];clear hv;have fA:=fL.n;have FO:=aa (HS.o.ex);have HK:am (∀ k,k<eS s->_):=aa (fun k (hk:k<eS s)=>iD fL FO.o hk);have jY:s.ex.length=eS s:=rfl;rw[jY]at tS HK dN;clear jY;obtain⟨n,hn⟩:∃ n,nS s=n:=⟨_,rfl⟩;obtain⟨m,hm⟩:∃ m,eS s=m:=⟨_,rfl⟩;have CT:s.prob.t.n=(n:Int):=by omega
 have hm4:m<=4096:=by have:=fL.count;omega
 have ju:1<=n/\n<=5:=by omega
 have qz:=fL.rounds;obtain⟨r,hr⟩:∃ r,s.prob.rounds.toNat=r:=⟨_,rfl⟩;have Wz:r<=6:=by omega
 have Ji:=aa fL.flt;rw[hn,hm,hr]at HK;rw[hm]at tS dN Ji;have t0:w1.cell? ⟨w.heap.size,0,none⟩=some (.int .i64 n):=by rw[tS 0,<-CT];rfl
 have t9:∀ o,(w1.alloc o).cell? ⟨w.heap.size,9,none⟩=some (.slice pe m ce):=fun o=>(ab (az o dN.o) 9).trans rfl
 clear tS
 go_wp2_with fail
 clear t0 t9;refine bF (fun W=>Below w.heap.size w W/\W.heap[w1.heap.size]?=some (.cells #[.int .i64 n,.slice none 0 0] 201)) ⟨eY.o.alloc fV _,aq _ _⟩ (fun W2 fh=>?_);generalize w1.heap.size=B at fh fV iT;have cQ:=aa fh;clear fh eY dN;obtain⟨L,hL⟩:∃ L:Nat->List (List Int),L=fun k=>(List.range k).map (fy s):=⟨_,rfl⟩
 have HL:am (L 0=[]/\(∀ k,L (k+1)=L k++[fy s k])/\L m=rH s/\∀ k,(L k).length=k):=aa (by
  subst hL;refine⟨rfl,fun k=>by simp[List.range_succ],?_,fun k=>by simp⟩
  unfold rH;rw[hm])
 clear hL;have ng:=aa hn;have HMM:=aa hm;clear hn hm fL fA hr qz CT
 go_loopw [26] (fun i wr=>∃ k:Nat,k<=m/\i=.int .i64 k/\Below w.heap.size w wr/\∃ lv,wr.heap[B]?=some (.cells #[.int .i64 n,lv] 201)/\cS wr w.heap.size lv (L k)) (fun i _=>m - (intOf i).toNat)
 ·exact⟨0,by omega,rfl,cQ.o.1,_,cQ.o.2,by rw[HL.o.1];exact cB.nil _ _⟩
 ·
  clear cQ;obtain⟨k,hk,rfl,aB,lv,hB,xs,bg,jY⟩:=hrel;obtain⟨al,cl,rfl⟩:=bg.slice;have HB:=aa hB;have bO:=aa bg;have CN:=aa jY;have aU:=aa aB;have vB:=aC hB;have AF:=aB.size;clear bg jY;by_cases aD:k<m
  ·obtain⟨b,o,_,ce',e0,rfl,pw,nw,cw,pv,cv,c1,c2,c3,mi,fQ,gR,b2,o2,pr,cr,e2,c4,cA⟩:=HK.o k aD;injection e0 with e0 e8 e9
   clear e8 e9;subst e0 e2 mi;have d1:=ak aB c1;have d2:=ak aB c2;have d3:=ak aB c3;have hA:Below wr.heap.size wr (wr.alloc (.cells #[.int .i64 (cJ s k).c,.slice pw nw cw,.slice (some ⟨b2,o2,none⟩) (nw+1) cv] 89)):=by go_grown
   have Wm:=ae aB hA;have d4:=ak Wm c4;have kx:=aa (cA.up up_int Wm);have ol:=Ji.o k aD;obtain⟨fl,SJ⟩:∃ fl,fltS s k=fl:=⟨_,rfl⟩;rw[SJ]at fQ gR ol;have JN:=aa SJ
   have Ti:am (mQ (wr.alloc (.cells #[.int .i64 (cJ s k).c,.slice pw nw cw,.slice (some ⟨b2,o2,none⟩) (nw+1) cv] 89)) 1 (.slice pr n cr) n ((List.range n).map fun j=>Value.int .i64 (finS s k j))):=aa (by
    have h:=RT kx.o (by simp);rw[List.map_map]at h
    exact h)
   have WN:wr.heap.size<(wr.alloc (.cells #[.int .i64 (cJ s k).c,.slice pw nw cw,.slice (some ⟨b2,o2,none⟩) (nw+1) cv] 89)).heap.size:=by simp
   have Xt:=aa hA;have jV:0<n:=by omega
   have tX:=ab (aq wr (.cells #[.int .i64 (cJ s k).c,.slice pw nw cw,.slice (some ⟨b2,o2,none⟩) (nw+1) cv] 89));clear c1 c2 c3 c4 cA hA SJ hB aB;by_cases hw:nw=0
   ·obtain rfl:=gR hw;subst hw;simp only[Nat.zero_add,Nat.add_zero]at d3 d4 tX WN Ti Xt
    go_wp2_with (at_builtin;(refine kS _ rfl (.const (.slice none 0 0)) (.tmp 49) 38 rfl wr.heap.size 3 i0 _ 1 8 Tryz.underlying38 cY cC bY cD rfl (by decide) (.slice none 0 0) 0 [] rfl (aI.nil _ _ _ _) _ n ((List.range n).map fun j=>Value.int .i64 (finS s k j)) rfl Ti.o (by unfold maxLen;omega) (by omega) (by simp) ?_;intro v2 w2 fP dz _;rw[Nat.zero_add,List.nil_append]at fP;have cV:=aa (Below.grown Xt.o dz (Nat.le_of_lt WN) (fun g h=>by cases h));obtain⟨g,cap,cur,fz,kV,hg,nB,nh,iI,qn,jK,ny,_⟩:=fP.block jV;subst kV;have HG:=aa (And.intro nB (And.intro nh (And.intro jK ny)));clear fP dz nB nh jK ny))
    clear tX;obtain⟨wrA,Bv⟩:∃ x,x=wr:=⟨_,rfl⟩;subst Bv;have hgw:=aC HG.o.1
    go_loopw [53] (fun i wi=>∃ (p:Nat) (cu:Array Value),p<=n/\i=.int .i64 p/\Only g w2 wi/\wi.heap[g]?=some (.cells cu 3 fz)/\cu.size=cap/\cu.toList.take n=lr n (fun p=>if hasB (fltS s k) p then -1 else finS s k p) (finS s k) p) (fun i _=>n - (intOf i).toNat)
    ·exact⟨0,cur,by omega,rfl,Only.refl _ _,HG.o.1,HG.o.2.2.1,by rw[HG.o.2.2.2];simp[lr]⟩
    ·
     obtain⟨p,cu,hp,rfl,ho,rQ,TV,Dn⟩:=hrel;by_cases CT:p<n
     ·have HO:=aa ho;have T0:=aa rQ;have oE:=aa Dn;have tq:=ab rQ p;rw[Array.getElem?_eq_getElem (show p<cu.size by omega)]at tq;have zq:=Ff rQ p (HG.o.2.1 p (by have:=HG.o.2.2.1;omega));clear ho rQ Dn;have HS:am ((if hasB (fltS s k) p then -1 else finS s k p)=finS s k p):=aa (by rw[JN.o,V4];rfl);clear tq zq
      go_wp2_with fail
      go_roundw
      ·exact⟨p+1,cu,by omega,by go_num,HO.o,T0.o,TV,by rw[Fg _ _ _ _ HS.o];exact oE.o⟩
      ·simp[intOf];omega
     ·obtain rfl:p=n:=by omega
      have kI:=ho.below cV.o (by omega);have IK:=af kI HB.o;have tB:=ab IK 1
      have sW:aI wr w.heap.size 3 1 (.slice (some ⟨g,0,none⟩) p cap) (fy s k).length ((fy s k).map (Value.int .i64)):=by
       rw[lN,ng.o]
       have e:(fy s k).map (Value.int .i64)=lr p (fun p=>if hasB (fltS s k) p then -1 else finS s k p) (finS s k) p:=by
        unfold fy lr;rw[ng.o,List.map_map];refine List.map_congr_left fun j hj=>?_
        rw[if_pos (List.mem_range.1 hj)];rfl
       rw[e];exact⟨by rw[Ip];omega,.inr ⟨g,cap,cu,fz,rfl,by omega,rQ,fun i hi=>HG.o.2.1 i (by have:=HG.o.2.2.1;omega),iI,qn,by omega,by rw[Nat.mul_one];exact Dn⟩⟩
      have du:=aa ((bO.o.up kI).up ((Below.refl _ wr).alloc (Nat.le_refl _) (.cells #[.slice (some ⟨g,0,none⟩) p cap] 38)));have bE:=aa (dR wr [.slice (some ⟨g,0,none⟩) p cap] 38)
      have SE:am (∀ i (hi:i<(L k).length),∃ x,xs[i]?=some x/\aI (wr.alloc (.cells #[.slice (some ⟨g,0,none⟩) p cap] 38)) w.heap.size 3 1 x (L k)[i].length ((L k)[i].map (Value.int .i64))):=aa (fun i hi=>by
       obtain⟨x,q1,q2⟩:=CN.o i hi
       exact⟨x,q1,(q2.up kI).up ((Below.refl _ wr).alloc (Nat.le_refl _) _)⟩)
      have zH:=aa (sW.up ((Below.refl _ wr).alloc (Nat.le_refl _) (.cells #[.slice (some ⟨g,0,none⟩) p cap] 38)));have Dh:=aa IK;have jw:=aa (ae aU.o kI);have WR:=HL.o.2.2.2 k;have hLk2:(L k).length<=4096:=by omega
      have Az:=jw.o.size;clear WR ho rQ Dn kI IK sW
      go_wp2_with (at_builtin;(refine aZ _ rfl (.tmp 69) (.tmp 71) 56 rfl w.heap.size 38 j0 _ 1 24 Tryz.underlying56 kX jb jt iJ rfl (by decide) _ (L k).length xs rfl du.o ⟨wr.heap.size,0,none⟩ 1 1 [.slice (some ⟨g,0,none⟩) p cap] rfl rfl bE.o (by simp[Value.oneCell']) (by unfold maxLen;omega) (by omega) (by simp;omega) ?_;intro v3 w3 oB j7 _;obtain⟨av3,cv3,rfl⟩:=oB.slice;have vz:=gW du.o j7 Dh.o (by decide);have c3:=ab vz 1;have f3:=aG vz 1;have dX:=aa vz;have I4:am (cS w3 w.heap.size (.slice av3 ((L k).length+1) cv3) (L k++[fy s k])):=aa (cB.snoc (l:=L k) du.o SE.o (by decide) zH.o j7 oB);have Jn:=aa (eI jw.o (Nat.le_refl _) du.o j7);clear oB j7 vz))
      go_roundw
      ·
       refine⟨k+1,by omega,by go_num,Jn.o.setCell (by dsimp only;omega) _,.slice av3 ((L k).length+1) cv3,?_,?_⟩
       ·rw[aH dX.o];rfl
       ·rw[HL.o.2.1 k];exact((KeepT.refl [201] w.heap.size w3 (ms:=[])).set dX.o (by simp) (by omega) _).fresh I4.o (by decide) (by decide)
      ·simp[intOf];omega
   ·obtain⟨q,rfl⟩:∃ q,nw=q+1:=⟨nw - 1,by omega⟩;obtain⟨b1,o1,rfl,c5⟩:=fQ (by omega);have d5:=ak Wm c5;rw[Nat.add_sub_cancel]at d5;clear c5 fQ gR
    go_wp2_with (at_builtin;(refine kS _ rfl (.const (.slice none 0 0)) (.tmp 49) 38 rfl wr.heap.size 3 i0 _ 1 8 Tryz.underlying38 cY cC bY cD rfl (by decide) (.slice none 0 0) 0 [] rfl (aI.nil _ _ _ _) _ n ((List.range n).map fun j=>Value.int .i64 (finS s k j)) rfl Ti.o (by unfold maxLen;omega) (by omega) (by simp) ?_;intro v2 w2 fP dz _;rw[Nat.zero_add,List.nil_append]at fP;have cV:=aa (Below.grown Xt.o dz (Nat.le_of_lt WN) (fun g h=>by cases h));obtain⟨g,cap,cur,fz,kV,hg,nB,nh,iI,qn,jK,ny,_⟩:=fP.block jV;subst kV;have HG:=aa (And.intro nB (And.intro nh (And.intro jK ny)));clear fP dz nB nh jK ny))
    clear tX;obtain⟨wrA,Bv⟩:∃ x,x=wr:=⟨_,rfl⟩;subst Bv;have hgw:=aC HG.o.1
    go_loopw [53] (fun i wi=>∃ (p:Nat) (cu:Array Value),p<=n/\i=.int .i64 p/\Only g w2 wi/\wi.heap[g]?=some (.cells cu 3 fz)/\cu.size=cap/\cu.toList.take n=lr n (fun p=>if hasB (fltS s k) p then -1 else finS s k p) (finS s k) p) (fun i _=>n - (intOf i).toNat)
    ·exact⟨0,cur,by omega,rfl,Only.refl _ _,HG.o.1,HG.o.2.2.1,by rw[HG.o.2.2.2];simp[lr]⟩
    ·
     obtain⟨p,cu,hp,rfl,ho,rQ,TV,Dn⟩:=hrel;by_cases CT:p<n
     ·have HO:=aa ho;have T0:=aa rQ;have oE:=aa Dn;have tq:=ab rQ p;rw[Array.getElem?_eq_getElem (show p<cu.size by omega)]at tq;have zq:=Ff rQ p (HG.o.2.1 p (by have:=HG.o.2.2.1;omega));clear ho rQ Dn;have fK:=rj fl p;cases hb:hasB fl p with
      | true=>
       rw[hb]at fK;have HS:am ((if hasB (fltS s k) p then -1 else finS s k p)=-1):=aa (by rw[JN.o,hb];rfl);clear hb
       go_wp2_with fail
       go_roundw
       ·
        refine⟨p+1,_,by omega,by go_num,HO.o.setCell p _,aH T0.o p _,by simpa using TV,?_⟩;rw[Array.toList_setIfInBounds,<-List.set_take',oE.o,<-RS n (fun p=>if hasB (fltS s k) p then -1 else finS s k p) (finS s k) p,HS.o]
       ·simp[intOf];omega
      | false=>
       rw[hb]at fK;have HS:am ((if hasB (fltS s k) p then -1 else finS s k p)=finS s k p):=aa (by rw[JN.o,hb];rfl);clear hb tq zq
       go_wp2_with fail
       go_roundw
       ·exact⟨p+1,cu,by omega,by go_num,HO.o,T0.o,TV,by rw[Fg _ _ _ _ HS.o];exact oE.o⟩
       ·simp[intOf];omega
     ·obtain rfl:p=n:=by omega
      have kI:=ho.below cV.o (by omega);have IK:=af kI HB.o;have tB:=ab IK 1
      have sW:aI wr w.heap.size 3 1 (.slice (some ⟨g,0,none⟩) p cap) (fy s k).length ((fy s k).map (Value.int .i64)):=by
       rw[lN,ng.o]
       have e:(fy s k).map (Value.int .i64)=lr p (fun p=>if hasB (fltS s k) p then -1 else finS s k p) (finS s k) p:=by
        unfold fy lr;rw[ng.o,List.map_map];refine List.map_congr_left fun j hj=>?_
        rw[if_pos (List.mem_range.1 hj)];rfl
       rw[e];exact⟨by rw[Ip];omega,.inr ⟨g,cap,cu,fz,rfl,by omega,rQ,fun i hi=>HG.o.2.1 i (by have:=HG.o.2.2.1;omega),iI,qn,by omega,by rw[Nat.mul_one];exact Dn⟩⟩
      have du:=aa ((bO.o.up kI).up ((Below.refl _ wr).alloc (Nat.le_refl _) (.cells #[.slice (some ⟨g,0,none⟩) p cap] 38)));have bE:=aa (dR wr [.slice (some ⟨g,0,none⟩) p cap] 38)
      have SE:am (∀ i (hi:i<(L k).length),∃ x,xs[i]?=some x/\aI (wr.alloc (.cells #[.slice (some ⟨g,0,none⟩) p cap] 38)) w.heap.size 3 1 x (L k)[i].length ((L k)[i].map (Value.int .i64))):=aa (fun i hi=>by
       obtain⟨x,q1,q2⟩:=CN.o i hi
       exact⟨x,q1,(q2.up kI).up ((Below.refl _ wr).alloc (Nat.le_refl _) _)⟩)
      have zH:=aa (sW.up ((Below.refl _ wr).alloc (Nat.le_refl _) (.cells #[.slice (some ⟨g,0,none⟩) p cap] 38)));have Dh:=aa IK;have jw:=aa (ae aU.o kI);have WR:=HL.o.2.2.2 k;have hLk2:(L k).length<=4096:=by omega
      have Az:=jw.o.size;clear WR ho rQ Dn kI IK sW
      go_wp2_with (at_builtin;(refine aZ _ rfl (.tmp 69) (.tmp 71) 56 rfl w.heap.size 38 j0 _ 1 24 Tryz.underlying56 kX jb jt iJ rfl (by decide) _ (L k).length xs rfl du.o ⟨wr.heap.size,0,none⟩ 1 1 [.slice (some ⟨g,0,none⟩) p cap] rfl rfl bE.o (by simp[Value.oneCell']) (by unfold maxLen;omega) (by omega) (by simp;omega) ?_;intro v3 w3 oB j7 _;obtain⟨av3,cv3,rfl⟩:=oB.slice;have vz:=gW du.o j7 Dh.o (by decide);have c3:=ab vz 1;have f3:=aG vz 1;have dX:=aa vz;have I4:am (cS w3 w.heap.size (.slice av3 ((L k).length+1) cv3) (L k++[fy s k])):=aa (cB.snoc (l:=L k) du.o SE.o (by decide) zH.o j7 oB);have Jn:=aa (eI jw.o (Nat.le_refl _) du.o j7);clear oB j7 vz))
      go_roundw
      ·
       refine⟨k+1,by omega,by go_num,Jn.o.setCell (by dsimp only;omega) _,.slice av3 ((L k).length+1) cv3,?_,?_⟩
       ·rw[aH dX.o];rfl
       ·rw[HL.o.2.1 k];exact((KeepT.refl [201] w.heap.size w3 (ms:=[])).set dX.o (by simp) (by omega) _).fresh I4.o (by decide) (by decide)
      ·simp[intOf];omega
  ·obtain rfl:k=m:=by omega
   have tB:=ab hB 1;clear hB aB
   go_wp2_with fail
   go_ret2
   refine⟨_,by rw[CE.o];rfl,aU.o,fun h=>absurd CE.o h,fun _=>⟨B,rfl,?_⟩⟩
   have qZ:cS wr w.heap.size (.slice al (L k).length cl) (rH s):=by
    have h3:=HL.o.2.2.1;rw[<-h3];exact⟨xs,bO.o,CN.o⟩
   have hfo:gP wr w.heap.size B s:=⟨by omega,_,by rw[ng.o];exact HB.o,qZ⟩;exact⟨hfo.at dI.o,hfo⟩
def oblM(s:Sys) (e:Nat):Nat:=maskN (fun p=>!hasB (fltS s e) p) (nS s)
theorem andNot_mask:∀ n:Fin 6,∀ f:Fin 32,bits .andNot .i64 (((2 ^ n.val - 1:Nat):Int)) (f.val:Int)=((maskN (fun p=>!hasB (f.val:Int) p) n.val:Nat):Int):=by decide +kernel
theorem shl_one:∀ n:Fin 6,wrap64 (wrap64 ((2:Int) ^ n.val) - 1)=((2 ^ n.val - 1:Nat):Int):=by decide +kernel
theorem Pu(s:Sys) (hs:SysOk s) (e:Nat) (he:e<eS s) (vc vs:Value) (pt:Option Addr) (nt ct:Nat) (pe:Option Addr) (ne ce:Nat) (pw:Option Addr) (nw cw:Nat) (vv:Value) (w:World) (mi:nw<=6)
  (fQ:0<nw->∃ b1 o1,pw=some ⟨b1,o1,none⟩/\w.cell? ⟨b1,o1+(nw - 1) * 7+6,none⟩=some (.int .i64 (fltS s e))) (gR:nw=0->fltS s e=0) :
  Calls Tryz.prog 87 #[.agg (cj s.prob vc vs s.n (.slice pt nt ct) (.slice pe ne ce)),.agg #[.int .i64 (cJ s e).c,.slice pw nw cw,vv]] w fun r w'=>r=.returned (.int .i64 (oblM s e:Nat))/\Below w.heap.size w w':=by
 have hn:=hs.n;have ol:=hs.flt e he;obtain⟨f,hf⟩:∃ f:Nat,fltS s e=f:=⟨(fltS s e).toNat,by omega⟩
 have FH:f<32:=by
  have h1:((2:Nat) ^ nS s:Int)<=((2 ^ 5:Nat):Int):=by exact_mod_cast Nat.pow_le_pow_right (show 0<2 by omega) hn.2.1
  have h2:=ol.2;rw[hf]at h2;have h3:((2:Int) ^ nS s)=(((2:Nat) ^ nS s:Nat):Int):=by simp
  rw[h3]at h2;have h4:(2:Nat) ^ nS s<=2 ^ 5:=Nat.pow_le_pow_right (by omega) hn.2.1;omega
 have HAN:am (bits .andNot .i64 (((2 ^ nS s - 1:Nat):Int)) (f:Int)=(oblM s e:Nat)):=aa (by
  unfold oblM;rw[hf]
  exact andNot_mask ⟨nS s,by omega⟩ ⟨f,FH⟩)
 have HSH:am (wrap64 (wrap64 ((2:Int) ^ nS s) - 1)=((2 ^ nS s - 1:Nat):Int)):=aa (shl_one ⟨nS s,by omega⟩)
 have HZ:am (f=0->((2 ^ nS s - 1:Nat):Int)=(oblM s e:Nat)):=aa fun h=>by
  subst h;have key:∀ n:Fin 6,((2 ^ n.val - 1:Nat):Int)=bits .andNot .i64 (((2 ^ n.val - 1:Nat):Int)) 0:=by decide +kernel
  exact(key ⟨nS s,by omega⟩).trans HAN.o
 rw[hf]at fQ gR;have fA:s.n=(nS s:Int):=hn.2.2.1;have ju:=hn.2.1;rw[fA];generalize nS s=n at *;generalize oblM s e=ob at *;clear hn ol hf hs fA;have HW:am (∀ x:Int,wrap64 ((2:Int) ^ n)=x->wrap64 (x - 1)=((2 ^ n - 1:Nat):Int)):=aa fun x hx=>by rw[<-hx];exact HSH.o
 obtain⟨pw2,hpw2⟩:∃ pw2:Int,wrap64 ((2:Int) ^ n)=pw2:=⟨_,rfl⟩;have vJ:=HW.o pw2 hpw2;by_cases hw:nw=0
 ·have hz:=gR hw;subst hw;have HR:=aa (HZ.o (by omega));clear gR fQ hz
  go_enter Tryz.func87,Tryz.ntmps87
  go_wp2_with fail
  go_ret
  exact⟨aF (vJ.trans HR.o),by go_grown⟩
 ·obtain⟨q,rfl⟩:∃ q,nw=q+1:=⟨nw - 1,by omega⟩;obtain⟨b1,o1,rfl,c5⟩:=fQ (by omega);rw[Nat.add_sub_cancel]at c5;have d5:∀ o1' o2',((w.alloc o1').alloc o2').cell? ⟨b1,o1+q * 7+6,none⟩=some (.int .i64 f):=fun o1' o2'=>ak (by go_grown) c5
  have lZ:=HAN.o;clear c5 fQ gR
  go_enter Tryz.func87,Tryz.ntmps87
  go_wp2_with fail
  go_ret
  exact⟨rfl,by go_grown⟩
theorem RU(s:Sys) (hv:verifyE s=0) (e:Nat) (he:e<eS s) (vc vs vt ve:Value) (w:World) (hs:IsSys w s vc vs vt ve) (hN:movesN s.prob.a.states<1099511627776) :
  Calls Tryz.prog 43 #[.agg (cj s.prob vc vs s.n vt ve),.int .i64 e] w fun r w'=>r=.returned (.tuple #[.int .i64 (oblM s e:Nat),.int .i64 0])/\Below w.heap.size w w':=by
 have HS:=aa hs;obtain⟨⟨pc,cc,rfl⟩,⟨ps,cs,rfl⟩,⟨pt,ct,rfl⟩,⟨pe,ce,rfl⟩⟩:=bM hs;clear hs;have HC:=aa (fun W (hb:Below w.heap.size w W)=>pM s _ _ _ _ W (HS.o.up hb) hN);have dI:=aa (iZ hv);have HV:=aa hv;obtain⟨b,o,_,ce',e0,rfl,pw,nw,cw,pv,cv,c1,c2,c3,mi,fQ,gR,-⟩:=iD dI.o HS.o.ex he;injection e0 with e01 e02 e03
 subst e01;have Bq:nw<=6:=by have:=dI.o.rounds;omega
 clear e02 e03 hv mi;obtain⟨m,hm⟩:∃ m,s.ex.length=m:=⟨_,rfl⟩;have vR:e<m:=by rw[<-hm];exact he
 have gB:decide ((m:Int)<=(e:Int))=false:=decide_eq_false (by omega);have qD:decide (m<=e)=false:=decide_eq_false (by omega);have qV:=aa (fun W (hb:Below w.heap.size w W)=>Pu s dI.o e he (.slice pc s.prob.t.cases.length cc) (.slice ps s.prob.a.states.length cs) pt s.tab.length ct (some ⟨b,o,none⟩) s.ex.length ce pw nw cw (.slice pv (s.prob.rounds.toNat+1) cv) W Bq (fun h=>by obtain⟨b1,o1,q1,q2⟩:=fQ h;exact⟨b1,o1,q1,ak hb q2⟩) gR);rw[hm]at HC qV ⊢;have HM:=aa hm;clear fQ gR hm
 go_enter Tryz.func43,Tryz.ntmps43
 go_wp2_with fail
 refine aQ (fun W=>Below w.heap.size w W/\∃ c,W.heap[w.heap.size]?=some (.cells c 35)/\c=cj s.prob (.slice pc s.prob.t.cases.length cc) (.slice ps s.prob.a.states.length cs) s.n (.slice pt s.tab.length ct) (.slice (some ⟨b,o,none⟩) m ce)) ⟨by go_grown,_,aq _ _,rfl⟩ (fun W0 bh=>?_);obtain⟨aJ,_,hA,rfl⟩:=bh;refine(HC.o W0 aJ).mono ?_;rintro r w1 ⟨rfl,aM⟩;have eN:=af aM hA;have dN:=aa eN;have dx:=ae aJ aM;have bL:=aa dx;rw[HV.o];have tS:=ab eN;have yS:∀ z:ExtW w1,∀ j,z.val.cell? ⟨w.heap.size,j,none⟩=_:=fun z=>ab (af z.ext dN.o)
 have y1:∀ z:ExtW w1,z.val.cell? ⟨b,o+e * 3,none⟩=_:=fun z=>ak (ae bL.o z.ext) c1
 have y2:∀ z:ExtW w1,z.val.cell? ⟨b,o+e * 3+1,none⟩=_:=fun z=>ak (ae bL.o z.ext) c2
 have y3:∀ z:ExtW w1,z.val.cell? ⟨b,o+e * 3+2,none⟩=_:=fun z=>ak (ae bL.o z.ext) c3
 have bW:am (∀ y:ExtW w1,Calls Tryz.prog 87 #[.agg (cj s.prob (.slice pc s.prob.t.cases.length cc) (.slice ps s.prob.a.states.length cs) s.n (.slice pt s.tab.length ct) (.slice (some ⟨b,o,none⟩) m ce)),.agg #[.int .i64 (cJ s e).c,.slice pw nw cw,.slice pv (s.prob.rounds.toNat+1) cv]] y.val fun r w''=>r=.returned (.int .i64 (oblM s e:Nat))/\∃ z:ExtW w1,w''=z.val):=aa (fun y=>Calls.ext_of (qV.o y.val (ae bL.o y.ext)));clear hA eN aJ aM HC qV c1 c2 c3 dx
 go_wp2_with fail
 refine aE (by kernel_rfl) (by kernel_rfl) ?_
 repeat (go_big_quiet_step ((go_at_call 87;exact bW.o _)))
 refine wpQuiet_nil ?_;rintro _ ⟨xq,rfl⟩;clear tS yS y1 y2 y3
 go_wp2_with fail
 go_ret2
 exact⟨by simp,ae bL.o xq.ext⟩
theorem Ah(c f:Int) (pw:Option Addr) (nw cw:Nat) (vv:Value) (w:World) (mi:nw<=6) (fQ:0<nw->∃ b1 o1,pw=some ⟨b1,o1,none⟩/\w.cell? ⟨b1,o1+(nw - 1) * 7+6,none⟩=some (.int .i64 f)) (gR:nw=0->f=0) :
  Calls Tryz.prog 61 #[.agg #[.int .i64 c,.slice pw nw cw,vv]] w fun r w'=>r=.returned (.int .i64 f)/\Below w.heap.size w w':=by
 by_cases hw:nw=0
 ·obtain rfl:=gR hw;subst hw;clear gR fQ
  go_enter Tryz.func61,Tryz.ntmps61
  go_wp2_with fail
  go_ret
  exact⟨rfl,by go_grown⟩
 ·obtain⟨q,rfl⟩:∃ q,nw=q+1:=⟨nw - 1,by omega⟩;obtain⟨b1,o1,rfl,c5⟩:=fQ (by omega);rw[Nat.add_sub_cancel]at c5;have d5:∀ o1',(w.alloc o1').cell? ⟨b1,o1+q * 7+6,none⟩=some (.int .i64 f):=fun o1'=>ak (by go_grown) c5
  clear c5 fQ gR
  go_enter Tryz.func61,Tryz.ntmps61
  go_wp2_with fail
  go_ret
  exact⟨rfl,by go_grown⟩
theorem Vj{s:Sys} (hs:SysOk s) {e:Nat} (he:e<eS s):bits .andNot .i64 ((2:Int) ^ nS s - 1) (fltS s e)=(oblM s e:Nat):=by
 have hn:=hs.n;have ol:=hs.flt e he;obtain⟨f,hf⟩:∃ f:Nat,fltS s e=f:=⟨(fltS s e).toNat,by omega⟩
 have FH:f<32:=by
  have h2:=ol.2;rw[hf]at h2;have h3:((2:Int) ^ nS s)=(((2:Nat) ^ nS s:Nat):Int):=by simp
  rw[h3]at h2;have h4:(2:Nat) ^ nS s<=2 ^ 5:=Nat.pow_le_pow_right (by omega) hn.2.1;omega
 have key:∀ n:Fin 6,((2:Int) ^ n.val - 1)=((2 ^ n.val - 1:Nat):Int):=by decide +kernel
 rw[key ⟨nS s,by omega⟩];unfold oblM;rw[hf];exact andNot_mask ⟨nS s,by omega⟩ ⟨f,FH⟩
theorem yr(s:Sys) (hs:SysOk s) (e:Nat) (he:e<eS s) (vc vs vt ve:Value) (w:World) (dy:IsSys w s vc vs vt ve) :
  Calls Tryz.prog 28 #[.agg (cj s.prob vc vs s.n vt ve),.int .i64 e] w fun r w'=>r=.returned (.int .i64 (oblM s e:Nat))/\Below w.heap.size w w':=by
 have HS:=aa dy;obtain⟨⟨pc,cc,rfl⟩,⟨ps,cs,rfl⟩,⟨pt,ct,rfl⟩,⟨pe,ce,rfl⟩⟩:=bM dy;clear dy;obtain⟨b,o,_,ce',e0,rfl,pw,nw,cw,pv,cv,c1,c2,c3,mi,fQ,gR,-⟩:=iD hs HS.o.ex he;injection e0 with e01 e02 e03
 subst e01;have Bq:nw<=6:=by have:=hs.rounds;omega
 clear e02 e03 mi;have lZ:=Vj hs he;have yL:=aa (fun W (hb:Below w.heap.size w W)=>Ah (cJ s e).c (fltS s e) pw nw cw (.slice pv (s.prob.rounds.toNat+1) cv) W Bq (fun h=>by obtain⟨b1,o1,q1,q2⟩:=fQ h;exact⟨b1,o1,q1,ak hb q2⟩) gR);have hn:=hs.n;have AQ:=aa (fun W=>EQ (nS s) (by omega) W);obtain⟨m,hm⟩:∃ m,s.ex.length=m:=⟨_,rfl⟩;have vR:e<m:=by rw[<-hm];exact he
 obtain⟨sn,JL⟩:∃ sn,s.n=sn:=⟨_,rfl⟩;have fA:sn=(nS s:Int):=by rw[<-JL];exact hn.2.2.1
 rw[hm,JL];subst fA;generalize fltS s e=f at lZ yL;generalize oblM s e=ob at lZ ⊢;obtain⟨n,FQ⟩:∃ n,nS s=n:=⟨_,rfl⟩;rw[FQ]at lZ AQ ⊢;clear fQ gR hm JL hn FQ
 go_enter Tryz.func28,Tryz.ntmps28
 go_wp2_with fail
 refine bF (fun W=>Below w.heap.size w W/\∃ c,W.heap[w.heap.size]?=some (.cells c 35)/\c=cj s.prob (.slice pc s.prob.t.cases.length cc) (.slice ps s.prob.a.states.length cs) (n:Int) (.slice pt s.tab.length ct) (.slice (some ⟨b,o,none⟩) m ce)) ⟨by go_grown,_,aq _ _,rfl⟩ (fun W0 bh=>?_);obtain⟨aJ,_,hA,rfl⟩:=bh;have fE:=aa aJ;have HA:=aa hA;have yS:∀ z:ExtW W0,∀ j,z.val.cell? ⟨w.heap.size,j,none⟩=_:=fun z=>ab (af z.ext HA.o)
 have y1:∀ z:ExtW W0,z.val.cell? ⟨b,o+e * 3,none⟩=_:=fun z=>ak (ae fE.o z.ext) c1
 have y2:∀ z:ExtW W0,z.val.cell? ⟨b,o+e * 3+1,none⟩=_:=fun z=>ak (ae fE.o z.ext) c2
 have y3:∀ z:ExtW W0,z.val.cell? ⟨b,o+e * 3+2,none⟩=_:=fun z=>ak (ae fE.o z.ext) c3
 have Lx:am (∀ y:ExtW W0,Calls Tryz.prog 60 #[.int .i64 (n:Int)] y.val fun r w''=>r=.returned (.int .i64 (2 ^ n - 1))/\∃ z:ExtW W0,w''=z.val):=aa (fun y=>Calls.ext_of ((AQ.o y.val).mono fun r w' ⟨h1,h2⟩=>⟨h1,h2 ▸ Below.refl _ _⟩));have xb:am (∀ y:ExtW W0,Calls Tryz.prog 61 #[.agg #[.int .i64 (cJ s e).c,.slice pw nw cw,.slice pv (s.prob.rounds.toNat+1) cv]] y.val fun r w''=>r=.returned (.int .i64 f)/\∃ z:ExtW W0,w''=z.val):=aa (fun y=>Calls.ext_of (yL.o y.val (ae fE.o y.ext)));clear aJ hA AQ yL c1 c2 c3;refine aE (by kernel_rfl) (by kernel_rfl) ?_
 repeat (go_big_quiet_step (first|(go_at_call 60;with_reducible exact Lx.o _)|(go_at_call 61;with_reducible exact xb.o _)))
 refine wpQuiet_nil ?_;rintro _ ⟨xq,rfl⟩;clear yS y1 y2 y3
 go_wp2_with fail
 go_ret
 exact⟨rfl,ae fE.o xq.ext⟩
theorem Cj(s:Sys) (e rr:Nat) (hr:s.prob.rounds=rr) (vc vs vt:Value) (b o ne ce:Nat) (he:e<ne) (b2 o2 nv cv:Nat) (hv:rr<nv) (u:Value) (hu:∃ a n c,u=.slice a n c) (w:World) (c3:w.cell? ⟨b,o+e * 3+2,none⟩=some (.slice (some ⟨b2,o2,none⟩) nv cv)) (c4:w.cell? ⟨b2,o2+rr,none⟩=some u) :
  Calls Tryz.prog 46 #[.agg (cj s.prob vc vs s.n vt (.slice (some ⟨b,o,none⟩) ne ce)),.int .i64 e] w fun r w'=>r=.returned u/\Below w.heap.size w w':=by
 obtain⟨ua,un,uc,rfl⟩:=hu;have Av:cj s.prob vc vs s.n vt (.slice (some ⟨b,o,none⟩) ne ce)=#[.int .i64 s.prob.t.n,.int .i64 s.prob.t.ins,.int .i64 s.prob.t.outs,vc,.int .i64 s.prob.a.n,vs,.int .i64 (rr:Int),.int .i64 s.n,vt,.slice (some ⟨b,o,none⟩) ne ce]:=by rw[<-hr];rfl
 rw[Av];clear hr Av
 go_enter Tryz.func46,Tryz.ntmps46
 go_wp2_with fail
 refine bF (fun W=>Below w.heap.size w W/\∃ c,W.heap[w.heap.size]?=some (.cells c 35)/\c=#[.int .i64 s.prob.t.n,.int .i64 s.prob.t.ins,.int .i64 s.prob.t.outs,vc,.int .i64 s.prob.a.n,vs,.int .i64 (rr:Int),.int .i64 s.n,vt,.slice (some ⟨b,o,none⟩) ne ce]) ⟨by go_grown,_,aq _ _,rfl⟩ (fun W0 bh=>?_);obtain⟨aJ,_,hA,rfl⟩:=bh;have fE:=aa aJ;have HA:=aa hA;have yS:∀ z:ExtW W0,∀ j,z.val.cell? ⟨w.heap.size,j,none⟩=_:=fun z=>ab (af z.ext HA.o)
 have y3:∀ z:ExtW W0,z.val.cell? ⟨b,o+e * 3+2,none⟩=_:=fun z=>ak (ae fE.o z.ext) c3
 have y4:∀ z:ExtW W0,z.val.cell? ⟨b2,o2+rr,none⟩=_:=fun z=>ak (ae fE.o z.ext) c4
 clear aJ hA c3 c4;refine aE (by kernel_rfl) (by kernel_rfl) ?_
 repeat (go_big_quiet_step (fail))
 refine wpQuiet_nil ?_;rintro _ ⟨xq,rfl⟩;clear yS y3 y4
 go_wp2_with fail
 go_ret
 exact⟨rfl,ae fE.o xq.ext⟩
theorem MJ(s:Sys) (hv:verifyE s=0) (vc vs vt ve vl:Value) (l:List Int) (w:World) (hs:IsSys w s vc vs vt ve) (hN:movesN s.prob.a.states<1099511627776) (hl:aX w vl l) (hr:∀ k,k<l.length->0<=l.getD k 0/\l.getD k 0<(eS s:Int)) :
  Calls Tryz.prog 136 #[.agg (cj s.prob vc vs s.n vt ve),vl] w fun e w'=>∃ B,e=.returned (.tuple #[.pointer (some ⟨B,0,none⟩),.int .i64 0])/\Below w.heap.size w w'/\FinAt w' B s/\gP w' w.heap.size B s:=by
 have HS:=aa hs;have HL:=aa hl;have HR:=aa hr;obtain⟨⟨pc,cc,rfl⟩,⟨ps,cs,rfl⟩,⟨pt,ct,rfl⟩,⟨pe,ce,rfl⟩⟩:=bM hs;obtain⟨pl,cl,rfl,_,_,el⟩:=hl.at;have EL:=aa el;clear hs hl hr el;have HC:=aa (fun W (hb:Below w.heap.size w W)=>D7 s _ _ _ _ W (HS.o.up hb) hN);have HV:=aa hv;clear hv
 go_enter Tryz.func136,Tryz.ntmps136
 go_wp2_with fail
 refine aQ (fun W=>Below w.heap.size w W) (by go_grown) (fun W0 aJ=>?_);refine(HC.o W0 aJ).mono ?_;rintro e w1 ⟨v,rfl,aM,_,h2⟩;obtain⟨B,rfl,hF,hO⟩:=h2 HV.o;have HO:=aa (hO.mono aJ.size);rw[HV.o];have dx:=ae aJ aM;have eY:=aa dx;have HF:=aa hF;clear aJ aM h2 hF hO dx HC
 go_wp2_with fail
 go_loopw [20] (fun i wr=>∃ k:Nat,k<=l.length/\i=.int .i64 k/\Below w.heap.size w wr/\FinAt wr B s/\gP wr w.heap.size B s) (fun i _=>l.length - (intOf i).toNat)
 ·exact⟨0,by omega,rfl,eY.o,HF.o,HO.o⟩
 ·
  clear eY HF HO;obtain⟨k,hk,rfl,aB,hF,hO⟩:=hrel;have aU:=aa aB;have HF:=aa hF;have HO:=aa hO;clear hO;by_cases aD:k<l.length
  ·obtain⟨b1,o1,rfl,h1⟩:=EL.o k aD;rw[Nat.mul_one]at h1;have c1:=ak aB h1.1;have hx:=HR.o k aD;rw[aA 0 aD]at hx;clear h1 aB hF;generalize l[k]=x at c1 hx;obtain⟨dq,dA⟩:=hx;have HT:=aa (Cg s B x wr HF.o);rw[decide_eq_true dq,decide_eq_true dA]at HT;clear dq dA
   go_wp2_with fail
   refine HT.o.mono ?_;rintro e w2 ⟨rfl,aY⟩;clear c1
   go_wp2_with fail
   go_roundw
   ·exact⟨k+1,by omega,by go_num,ae aU.o aY,HF.o.up aY,HO.o.up aY⟩
   ·simp[intOf];omega
  ·clear aB hF
   go_wp2_with fail
   go_ret2
   exact⟨B,rfl,aU.o,HF.o,HO.o⟩
theorem wz(s:Sys):∀ k,l7 (ed s k)
 | 0=>pG _ _
 | _+1=>pG _ _
theorem Ck(s:Sys) (hv:verifyE s=0) (hE:eS s<=256) (vc vs vt ve:Value) (w:World) (hs:IsSys w s vc vs vt ve) (hN:movesN s.prob.a.states<1099511627776) :
  Calls Tryz.prog 78 #[.agg (cj s.prob vc vs s.n vt ve)] w fun e w'=>∃ u,e=.returned (.tuple #[u,.int .i64 0])/\aX w' u (partsS s)/\Below w.heap.size w w':=by
 have HS:=aa hs;obtain⟨⟨pc,cc,rfl⟩,⟨ps,cs,rfl⟩,⟨pt,ct,rfl⟩,⟨pe,ce,rfl⟩⟩:=bM hs;clear hs;have HC:=aa (fun W (hb:Below w.heap.size w W)=>D7 s _ _ _ _ W (HS.o.up hb) hN);have fL:=iZ hv;have HV:=aa hv;have dI:=aa fL;have jV:=fL.n.1;have ju:=fL.n.2.1;clear hv fL
 go_enter Tryz.func78,Tryz.ntmps78
 go_wp2_with fail
 refine aQ (fun W=>Below w.heap.size w W) (by go_grown) (fun W0 aJ=>?_);refine(HC.o W0 aJ).mono ?_;rintro e w1 ⟨v,rfl,aM,_,h2⟩;obtain⟨B,rfl,hF,-⟩:=h2 HV.o;rw[HV.o];have dx:=ae aJ aM;have eY:=aa dx;have HF:=aa hF;clear aJ aM h2 hF dx HC
 go_wp2_with fail
 have Sx:=yo s dI.o hE B 0 (by omega) w1 HF.o;rw[show ((0:Nat):Int)=0 from rfl]at Sx;refine Sx.mono ?_;clear Sx;rintro e w2 ⟨u,rfl,hu,aY⟩;have HU:=aa hu;obtain⟨au,cu,rfl,_⟩:=hu.at;rw[jq]at HU;have cV:=aa aY;clear hu aY
 go_wp2_with fail
 go_loopw [6,7] (fun o i wr=>∃ k:Nat,k<nS s/\i=.int .i64 ((k:Int)+1)/\Below w1.heap.size w1 wr/\∃ a c,o=.slice a (eS s) c/\aX wr (.slice a (eS s) c) (ed s k)) (fun _ i _=>nS s+1 - (intOf i).toNat)
 ·exact⟨0,by omega,rfl,cV.o,_,_,by rw[jq],by exact HU.o⟩
 ·
  clear HU cV;obtain⟨k,hk,rfl,aB,a,c,rfl,hu⟩:=hrel;have aU:=aa aB;have HU:=aa hu;have hF:=HF.o.up aB;obtain⟨pl,cl,h1,_⟩:=hF.open;have t1:=ab h1 0;simp at t1;have vF:=aa hF;clear aB hu hF h1;by_cases aD:k+1<nS s
  ·have kN:(k:Int)+1<(nS s:Int):=by omega
   go_wp2_with fail
   have bX:=yo s dI.o hE B (k+1) aD wr vF.o;rw[show ((k+1:Nat):Int)=(k:Int)+1 by omega]at bX;refine bX.mono ?_;rintro e w3 ⟨u2,rfl,za,bH⟩;have Lv:=aa za;obtain⟨a2,c2,rfl,_⟩:=za.at;have dX:=aa bH;clear za bH t1 bX;rw[jq]at Lv ⊢
   go_wp2_with fail
   refine(OR _ _ (ed s k) (classL s (k+1)) w3 (HU.o.up up_int dX.o) Lv.o (wz s k) (pG _ _) (by rw[jq,gJ]) (by rw[gJ];exact hE)).mono ?_;rintro e w4 ⟨u4,rfl,mm,bR⟩;have vO:=aa mm;obtain⟨a4,c4,rfl,_⟩:=mm.at;have fJ:(kQ (ed s k) (classL s (k+1))).length=eS s:=gJ s (k+1);rw[fJ]at vO ⊢;have eU:=aa bR;clear mm bR fJ
   go_wp2_with fail
   go_roundw
   ·exact⟨k+1,aD,by go_num,ae aU.o (ae dX.o eU.o),a4,c4,rfl,vO.o⟩
   ·simp[intOf];omega
  ·have kN:¬ (k:Int)+1<(nS s:Int):=by omega
   have HK:am (partsS s=ed s k):=aa (by unfold partsS;rw[show nS s - 1=k by omega])
   go_wp2_with fail
   go_ret2
   exact⟨_,rfl,by rw[HK.o];exact HU.o,ae eY.o aU.o⟩
abbrev V5(s:Sys) (vc vs vt ve vv vl:Value):Array Value:=cj s.prob vc vs s.n vt ve++#[vv,vl]
theorem RV{w:World} {v:Value} {l:List Int} (h:aX w v l) {B o:Nat} {c:Array Value} {ty:TypeId} {fz:Nat × Nat} (hB:w.heap[B]?=some (.cells c ty fz)) (hy:∀ x:Int,c[o]?≠some (.int .i64 x)) (x:Value):aX (w.setCell ⟨B,o,none⟩ x) v l:=by
 obtain⟨a,cap,e,h1,h2,h3⟩:=h;refine⟨a,cap,e,h1,h2,fun i z hi=>?_⟩;obtain⟨b,o',e1,h4,h5⟩:=h3 i z hi;refine⟨b,o',e1,?_,h5⟩;have h4:w.cell? ⟨b,o'+i * 1,none⟩=some (.int .i64 z):=h4;by_cases hb:b=B
 ·subst hb;rw[ab hB]at h4;rw[ab (aH hB o x),Array.getElem?_setIfInBounds];split
  ·rename_i h6;rw[<-h6]at h4;exact absurd h4 (hy z)
  ·exact h4
 ·have:(w.setCell ⟨B,o,none⟩ x).cell? ⟨b,o'+i * 1,none⟩=w.cell? ⟨b,o'+i * 1,none⟩:=by
   unfold World.cell?;rw[Below.heap_setCell _ _ _ _ hb]
  exact this.trans h4
theorem Kv(a:Bool):uW 0 a=.tuple #[.bool a,.int .i64 0]:=by simp[uW]
theorem nV(s:Sys) (hE:eS s<=256) (vc vs vt ve:Value) (w:World) (hs:IsSys w s vc vs vt ve) (hN:movesN s.prob.a.states<1099511627776) :
  Calls Tryz.prog 38 #[.agg (cj s.prob vc vs s.n vt ve)] w fun r w'=>∃ v,r=.returned (.tuple #[v,.int .i64 (readyE s)])/\Below w.heap.size w w'/\(readyE s≠0->v=.pointer none)/\(readyE s=0->∃ B,v=.pointer (some ⟨B,0,none⟩)/\w.heap.size<=B/\ScAt w' B s):=by
 have HS:=aa hs;obtain⟨⟨pc,cc,rfl⟩,⟨ps,cs,rfl⟩,⟨pt,ct,rfl⟩,⟨pe,ce,rfl⟩⟩:=bM hs;clear hs;have HC:=aa (fun W (hb:Below w.heap.size w W)=>pM s _ _ _ _ W (HS.o.up hb) hN);have FD:=aa (fun W (hb:Below w.heap.size w W)=>Gz s.prob.t _ W (HS.o.up hb).cases);have Wp:=aa (fun (hv:verifyE s=0) W (hb:Below w.heap.size w W)=>Ck s hv hE _ _ _ _ W (HS.o.up hb) hN);obtain⟨i0,cY,cC,bY,cD⟩:=info_parts Tryz.infoInt;have bZ:=aa (And.intro cY (And.intro cC (And.intro bY cD)));have dd:am (verifyE s≠0->readyE s=verifyE s):=aa fun h=>by unfold readyE;rw[if_pos h]
 have eH:am (verifyE s=0->agreeB s.prob.t=false->readyE s=11):=aa fun h h2=>by unfold readyE;rw[if_neg (by omega),h2];rfl
 have gk:am (verifyE s=0->agreeB s.prob.t=true->readyE s=0):=aa fun h h2=>by unfold readyE;rw[if_neg (by omega),h2];rfl
 have jy:am (verifyE s=0->taskE s.prob.t=0):=aa fun h=>(ru (iZ h).prob).1
 obtain⟨re,ka⟩:∃ re,readyE s=re:=⟨_,rfl⟩;rw[ka]at dd eH gk ⊢;clear ka cY cC bY cD
 go_enter Tryz.func38,Tryz.ntmps38
 go_wp2_with fail
 refine aQ (fun W=>Below w.heap.size w W/\∃ c,W.heap[w.heap.size]?=some (.cells c 35)/\c=cj s.prob _ _ s.n _ _) ⟨by go_grown,_,aq _ _,rfl⟩ (fun W0 bh=>?_);obtain⟨aJ,_,hA,rfl⟩:=bh;refine(HC.o W0 aJ).mono ?_;rintro e w1 ⟨rfl,aM⟩;have eN:=af aM hA;have dN:=aa eN;have bL:=aa (ae aJ aM);have fV:=bL.o.size;have iT:=aC eN;clear hA eN aJ aM HC;by_cases hv:verifyE s=0
 case neg=>
  have HV:=aa (dd.o hv);obtain⟨ev,mq⟩:∃ ev,verifyE s=ev:=⟨_,rfl⟩;rw[mq]at hv HV ⊢;have Jv:(ev != 0)=true:=by simpa using hv
  have iG:=aa hv;clear hv mq
  go_wp2_with fail
  go_ret2
  exact⟨_,by rw[HV.o];rfl,bL.o,fun _=>rfl,fun h=>absurd (HV.o.symm.trans h) iG.o⟩
 have HV:=aa hv;have Xe:=aa (jy.o hv);have dI:=aa (iZ hv);rw[hv];clear hv;have tS:=ab dN.o
 go_wp2_with fail
 clear tS;refine(FD.o w1 bL.o).mono ?_;rintro e w2 ⟨rfl,aY⟩;rw[Xe.o,Kv];have cV:=aa (ae bL.o aY);have tV:=aa (af aY dN.o);have nj:=aY.size;clear aY dN;cases Av:agreeB s.prob.t with
 | false=>
  have df:=aa (eH.o HV.o Av);clear Av
  go_wp2_with fail
  go_ret2
  exact⟨_,by rw[df.o];rfl,cV.o,fun _=>rfl,fun h=>by have:=df.o;omega⟩
 | true=>
  have df:=aa (gk.o HV.o Av);have sX:=aa (fun e (he:e<eS s) pw nw cw vv W (hb:Below w.heap.size w W)=>RQ s dI.o Av e he _ pw nw cw vv W (HS.o.up hb).cases);have FO:=aa HS.o.ex;have HK:am (∀ k,k<eS s->_):=aa (fun k (hk:k<eS s)=>iD dI.o FO.o hk)
  have jd:am (∀ k,k<=eS s->∀ x∈(List.range k).map (fun e=>((gY s e:Nat):Int)),bT x):=aa (fun k _ x hx=>by
   obtain⟨e,_,rfl⟩:=List.mem_map.1 hx;have:=gX (valB s e) 8;unfold gY
   exact⟨by omega,by omega⟩)
  obtain⟨L,hL⟩:∃ L:Nat->List Int,L=fun k=>(List.range k).map (fun e=>((gY s e:Nat):Int)):=⟨_,rfl⟩
  have HL:am (L 0=[]/\(∀ k,L (k+1)=L k++[((gY s k:Nat):Int)])/\L (eS s)=DW s/\(∀ k,(L k).length=k)/\∀ k,k<=eS s->∀ x∈L k,bT x):=aa (by
   subst hL
   exact⟨rfl,fun k=>by simp[List.range_succ],rfl,fun k=>by simp,jd.o⟩)
  clear hL Av;obtain⟨m,hm⟩:∃ m,eS s=m:=⟨_,rfl⟩;have HM:=aa hm;have jY:s.ex.length=m:=hm;have tS:=ab tV.o;have t9:∀ o,(w2.alloc o).cell? ⟨w.heap.size,9,none⟩=some (.slice pe m ce):=fun o=>(ab (az o tV.o) 9).trans (by rw[<-jY];rfl)
  rw[hm]at hE HK HL;clear hm jY
  go_wp2_with fail
  clear tS t9;refine bF (fun W=>Below w2.heap.size w2 W/\∃ c,W.heap[w2.heap.size]?=some (.cells c 98)/\c=V5 s (.slice pc s.prob.t.cases.length cc) (.slice ps s.prob.a.states.length cs) (.slice pt s.tab.length ct) (.slice pe s.ex.length ce) (.slice none 0 0) (.slice none 0 0)) ⟨by go_grown,_,aq _ _,rfl⟩ (fun W3 mn=>?_);obtain⟨bH,_,vz,rfl⟩:=mn;have QI:w.heap.size<w2.heap.size:=aC tV.o;obtain⟨B,XP⟩:∃ B,w2.heap.size=B:=⟨_,rfl⟩;rw[XP]at vz QI ⊢;have Qy:=aa XP;have Jn:=aa (And.intro bH vz);clear bH vz XP
  go_loopw [37] (fun i wr=>∃ k:Nat,k<=m/\i=.int .i64 k/\Below w2.heap.size w2 wr/\∃ lv,wr.heap[B]?=some (.cells (V5 s (.slice pc s.prob.t.cases.length cc) (.slice ps s.prob.a.states.length cs) (.slice pt s.tab.length ct) (.slice pe s.ex.length ce) lv (.slice none 0 0)) 98)/\aI wr w2.heap.size 3 1 lv k ((L k).map (Value.int .i64))) (fun i _=>m - (intOf i).toNat)
  ·exact⟨0,by omega,rfl,Jn.o.1,_,Jn.o.2,by rw[HL.o.1];exact aI.nil _ _ _ _⟩
  ·
   clear Jn;obtain⟨k,hk,rfl,aB,lv,hB,bg⟩:=hrel;obtain⟨al,cl,rfl⟩:=bg.slice;have HB:=aa hB;have bO:=aa bg;have aU:=aa aB;have tK:=af aB tV.o;have WU:=aa tK;have dx:=ae cV.o aB;have eY:=aa dx;have AF:=aB.size;have vB:=aC hB;by_cases aD:k<m
   ·obtain⟨b,o,_,ce',e0,rfl,pw,nw,cw,pv,cv,c1,c2,c3,mi,fQ,gR,-⟩:=HK.o k aD;injection e0 with e01 e02 e03
    subst e01;have Bq:nw<=6:=by have:=dI.o.rounds;omega
    clear e02 e03;have d1:=ak dx c1;have d2:=ak dx c2;have d3:=ak dx c3;have tA:∀ o' j,(wr.alloc o').cell? ⟨w.heap.size,j,none⟩=(cj s.prob (.slice pc s.prob.t.cases.length cc) (.slice ps s.prob.a.states.length cs) s.n (.slice pt s.tab.length ct) (.slice (some ⟨b,o,none⟩) s.ex.length ce))[j]?:=fun o' j=>ab (az o' tK) j
    have oE:=aa (fun W (hb:Below w.heap.size w W)=>sX.o k (by rw[HM.o];exact aD) pw nw cw (.slice pv (s.prob.rounds.toNat+1) cv) W hb Bq (fun h=>by obtain⟨b1,o1,q1,q2⟩:=fQ h;exact⟨b1,o1,q1,ak hb q2⟩) gR);clear bg aB tK dx c1 c2 c3 mi fQ gR hB
    go_wp2_with fail
    refine aQ (fun W=>Below wr.heap.size wr W) (by go_grown) (fun W4 bR=>?_);refine(oE.o W4 (ae eY.o bR)).mono ?_;rintro r w5 ⟨rfl,dG⟩;have jL:=ae bR dG;have lC:=aa (af jL HB.o);have tB:w5.cell? ⟨B,10,none⟩=some (.slice al k cl):=(ab lC.o 10).trans rfl;have C7:=aa ((bO.o.up jL).up ((Below.refl _ w5).alloc (Nat.le_refl _) (.cells #[.int .i64 ((gY s k:Nat):Int)] 3)));have bE:=aa (dR w5 [.int .i64 ((gY s k:Nat):Int)] 3);have vH:=aa (ae aU.o jL);have jJ:am (k+1<=maxLen):=aa (by unfold maxLen;omega);have eV:am ((k+1) * 8<=140737488355328):=aa (by omega);have gm:am (w2.heap.size<=(w5.alloc (.cells #[.int .i64 ((gY s k:Nat):Int)] 3)).heap.size):=aa (by have:=vH.o.size;simp;omega);clear bR dG jL tA d1 d2 d3 oE
    go_wp2_with (at_builtin;(refine aZ _ rfl (.tmp 56) (.tmp 58) 38 rfl w2.heap.size 3 i0 _ 1 8 Tryz.underlying38 bZ.o.1 bZ.o.2.1 bZ.o.2.2.1 bZ.o.2.2.2 rfl (by decide) _ k _ rfl C7.o ⟨w5.heap.size,0,none⟩ 1 1 [.int .i64 ((gY s k:Nat):Int)] rfl rfl bE.o (by simp[Value.oneCell']) jJ.o eV.o gm.o ?_;intro v6 w6 fr eJ _;obtain⟨av6,cv6,rfl⟩:=fr.slice;have Uq:=gW C7.o eJ lC.o (by decide);have c6:w6.cell? ⟨B,10,none⟩=some _:=(ab Uq 10).trans rfl;have f6:=aG Uq 10))
    go_roundw
    ·
     refine⟨k+1,by omega,by go_num,(BV vH.o vH.o.size (Nat.le_refl _) C7.o eJ).setCell (by dsimp only;rw[Qy.o];exact Nat.le_refl _) _,.slice av6 (k+1) cv6,?_,?_⟩
     ·rw[aH Uq];rfl
     ·rw[HL.o.2.1 k,List.map_append];exact fr.put (fr.ne Uq (by decide)) _ _
    ·simp[intOf];omega
   ·obtain rfl:k=m:=by omega
    have tA:∀ j,wr.cell? ⟨w.heap.size,j,none⟩=_:=fun j=>ab tK j
    clear bg aB tK dx hB
    go_wp2_with fail
    refine(Wp.o HV.o wr eY.o).mono ?_;rintro r w4 ⟨u,rfl,hu,bR⟩;have vA:=af bR HB.o;have c4:w4.cell? ⟨B,11,none⟩=some _:=(ab vA 11).trans rfl;have f4:=aG vA 11;obtain⟨au,cu,rfl,_⟩:=hu.at;have HU:=aa hu;have eU:=aa vA;have jw:=aa bR;clear tA hu vA bR
    go_wp2_with fail
    go_ret2
    have CI:Below w.heap.size w (w4.setCell ⟨B,11,none⟩ (.slice au (partsS s).length cu)):=(ae eY.o jw.o).setCell (by dsimp only;omega) _;refine⟨_,by rw[df.o];rfl,CI,fun h=>absurd df.o h,fun _=>⟨B,rfl,by omega,⟨.slice pc s.prob.t.cases.length cc,.slice ps s.prob.a.states.length cs,.slice pt s.tab.length ct,.slice pe s.ex.length ce,.slice al k cl,.slice au (partsS s).length cu,(aH eU.o 11 (.slice au (partsS s).length cu)).trans rfl,HS.o.up CI,?_,?_⟩⟩⟩
    ·have h1:=(bO.o.up jw.o).put ((bO.o.up jw.o).ne eU.o (by decide)) 11 (.slice au (partsS s).length cu);have h2:=HL.o.2.2.1;have h3:=HL.o.2.2.2.1 k;rw[h2]at h1 h3;exact gE (l:=DW s) (base:=w2.heap.size) (by rw[h3];exact h1) (by rw[<-h2];exact HL.o.2.2.2.2 k (Nat.le_refl _)) (by omega)
    ·exact RV HU.o eU.o (by intro x;simp) _
def sP(s:Sys) (e f:Nat):Bool:=eT s e f&&decide (f≠e)
def fX(s:Sys) (e k:Nat):List Nat:=(List.range k).filter (sP s e)
def dV(s:Sys) (e:Nat):List Nat:=fX s e (eS s)
theorem wA{s:Sys} {e k:Nat} (h:sP s e k=true):fX s e (k+1)=fX s e k++[k]:=by
 unfold fX;rw[List.range_succ,List.filter_append];simp[h]
theorem zy{s:Sys} {e k:Nat} (h:sP s e k=false):fX s e (k+1)=fX s e k:=by
 unfold fX;rw[List.range_succ,List.filter_append];simp[h]
theorem RW{s:Sys} {e:Nat}:∀ {k m:Nat},k<=m->fX s e k <+: fX s e m:=fun {k m} h=>by
 induction m with
 | zero=>obtain rfl:k=0:=by omega
         exact List.prefix_refl _
 | succ m ih=>
  by_cases e1:k=m+1
  ·subst e1;exact List.prefix_refl _
  ·refine(ih (by omega)).trans ?_;cases hb:sP s e m with
   | true=>rw[wA hb];exact List.prefix_append _ _
   | false=>rw[zy hb];exact List.prefix_refl _
theorem V6{s:Sys} {e k:Nat} (hk:k<eS s) (h:sP s e k=true):(fX s e k).length<(dV s e).length/\(dV s e).getD (fX s e k).length 0=k:=by
 have h1:fX s e (k+1) <+: dV s e:=RW (by omega);rw[wA h]at h1;obtain⟨t,ht⟩:=h1;rw[<-ht];refine⟨by simp,?_⟩;rw[List.append_assoc,List.getD_eq_getElem?_getD,List.getElem?_append_right (Nat.le_refl _)];simp
theorem rx{s:Sys} {e f:Nat}:f∈dV s e↔f<eS s/\eT s e f=true/\f≠e:=by
 simp[dV,fX,sP]
def Iq(s:Sys) (e:Nat) (i:Nat):Array Value:=#[.int .i64 ((dV s e).getD i 0:Nat),.int .i64 (byP s e ((dV s e).getD i 0))]
theorem uY(B e:Nat) (w:World) :
  Calls Tryz.prog 138 #[.pointer (some ⟨B,0,none⟩),.int .i64 e] w fun r w'=>r=.returned (.func (.func 179) #[] #[.pointer (some ⟨w.heap.size,0,none⟩),.pointer (some ⟨w.heap.size+1,0,none⟩)])/\w'=(w.alloc (.cells #[.pointer (some ⟨B,0,none⟩)] 196)).alloc (.cells #[.int .i64 e] 3):=by
 go_enter Tryz.func138,Tryz.ntmps138
 go_wp2
 go_ret
 exact⟨rfl,rfl⟩
def gw(S:Nat->Prop) (w w':World):Prop:=∀ k,S k->w'.heap[k]?=w.heap[k]?
theorem gw.trans{S:Nat->Prop} {a b c:World} (h:gw S a b) (k:gw S b c):gw S a c:=fun i hi=>(k i hi).trans (h i hi)
theorem gw.cell{S:Nat->Prop} {w w':World} (h:gw S w w') {b:Nat} (hb:S b) {o:Nat}:w'.cell? ⟨b,o,none⟩=w.cell? ⟨b,o,none⟩:=by
 have:=h b hb;unfold World.cell?;rw[this]
theorem sQ(s:Sys) (hs:SysOk s) (B e bx be:Nat) (he:e<eS s) (base:Nat) (w0:World) (h:gP w0 base B s) (w:World) (aJ:∀ k,base<=k->k<w0.heap.size->w.heap[k]?=w0.heap[k]?) (mU:w0.heap.size<=w.heap.size) (hx:w.cell? ⟨bx,0,none⟩=some (.pointer (some ⟨B,0,none⟩))) (hy:w.cell? ⟨be,0,none⟩=some (.int .i64 e)) :
  so Tryz.prog 179 #[.pointer (some ⟨bx,0,none⟩),.pointer (some ⟨be,0,none⟩)] (Iq s e) (dV s e).length (fun k=>(base<=k/\k<w0.heap.size)\/k=bx\/k=be) w:=by
 intro yl J Jx W hW hJ oC hY h0;have jH:=fo hx;have la:=fo hy;have eZ:gw (fun k=>(base<=k/\k<w0.heap.size)\/k=bx\/k=be) w W:=fun k hk=>hW.block k (by rcases hk with hk|rfl|rfl<;>first|omega|assumption)
 obtain⟨pl,cl,h1,-⟩:=(h.at hs).open;have QI:=h.1;have H1:=aa h1;have HX:=aa hx;have Ua:=aa hy;have jD:=aa h;have HJ:=aa hJ;have Jc:=aa oC;have HY:=aa hY;have H0:=aa h0;have ig:am (∀ (W:World) (f:Nat),f<eS s->FinAt W B s->_):=aa fun W f (hf:f<eS s) (h:FinAt W B s)=>Af s hs B e f he hf W h
 have HKF:am (∀ W:World,gw (fun k=>(base<=k/\k<w0.heap.size)\/k=bx\/k=be) w W->FinAt W B s):=aa (fun W yT=>by exact(h.keep fun k h1 h2=>(yT k (.inl ⟨h1,h2⟩)).trans (aJ k h1 h2)).at hs);have tx:=(eZ.cell (.inr (.inl rfl))).trans hx;have tF:W.cell? ⟨B,1,none⟩=some (.slice pl (eS s) cl):=(ab ((eZ B (.inl ⟨QI,aC h1⟩)).trans ((aJ B QI (aC h1)).trans h1)) 1).trans rfl;have uh:=aa eZ;have HN:am (∀ k,k<eS s->sP s e k=true->(fX s e k).length<(dV s e).length/\(dV s e).getD (fX s e k).length 0=k):=aa fun k hk h=>V6 hk h
 have ji:am ((fX s e (eS s)).length=(dV s e).length):=aa rfl;have ju:=hs.n.2.1
 have eV:am (∀ f,eT s e f=true->0<=byP s e f/\byP s e f<nS s/\(∀ j,j<(byP s e f).toNat->linkB s j e f=false)/\linkB s (byP s e f).toNat e f=true):=aa (fun f hf=>by
  obtain⟨g1,g2,g3⟩:=DN hf;refine⟨g1,g2,fun j hj=>?_,g3⟩;unfold byP at hj;rcases bI (nS s) (fun p=>linkB s p e f) with ⟨e1,_⟩|⟨k,hk,e1,_,h2⟩
  ·rw[e1]at hj;simp at hj
  ·rw[e1,Int.toNat_natCast]at hj;exact h2 j hj)
 have C9:=hs;clear h1 hx hy h aJ jH la mU QI hJ oC hY h0 eZ hs;obtain⟨m,hm⟩:∃ m,eS s=m:=⟨_,rfl⟩;have hcount:=C9.count;rw[hm]at HN ji he tF ig hcount;clear hm C9;refine(callsIn_wide (n:=0)).1 ?_;refine callsIn_of_wp Tryz.func179 rfl trivial ?_ rfl;simp only[Tryz.ntmps179,List.size_toArray,List.length_cons,List.length_nil,Nat.reduceAdd,Nat.reduceSub,Array.replicate_succ,Array.replicate_zero,List.push_toArray,List.append_toArray,List.nil_append,List.cons_append]
 gi_wp2
 clear tx tF
 gi_loopw [12] (fun i wr=>∃ k:Nat,k<=m/\i=.int .i64 k/\gw (fun k=>(base<=k/\k<w0.heap.size)\/k=bx\/k=be) w wr/\J (fX s e k).length wr) (fun i _=>m - (intOf i).toNat)
 ·exact⟨0,by omega,rfl,uh.o,H0.o⟩
 ·
  obtain⟨k,hk,rfl,fU,hj⟩:=hrel;have j9:=aa fU;have je:=aa hj;clear hj;by_cases aD:k<m
  ·have tx:=(fU.cell (.inr (.inl rfl))).trans HX.o;have ty:=(fU.cell (.inr (.inr rfl))).trans Ua.o;have HL:=aa (ig.o wr k aD (HKF.o wr fU));obtain⟨set,ly⟩:∃ set,maskN (fun p=>linkB s p e k) (nS s)=set:=⟨_,rfl⟩;rw[ly]at HL;have fk:=aa ly;have hz:set=0↔eT s e k=false:=by rw[<-ly,nO];rfl
   clear fU ly
   gi_wp2
   refine⟨trivial,rfl,callsIn_wide.2 (HL.o.mono ?_)⟩;rintro r w1 ⟨rfl,rfl⟩;by_cases hb:eT s e k=true
   ·have Nq:¬ ((set:Int)=0):=fun h=>by have:=hz.1 (by omega);rw[hb]at this;cases this
    have C9:((set:Int) == 0)=false:=by simpa using Nq
    by_cases tU:e=k
    ·have fZ:am ((fX s e (k+1)).length=(fX s e k).length):=aa (by rw[zy (by unfold sP;rw[decide_eq_false (show ¬ (k≠e) from fun h=>h tU.symm),Bool.and_false])]);have Tb:((e:Int) == (k:Int))=true:=by rw[tU];simp
     clear hz Nq tU hb
     gi_wp2
     go_roundw
     ·exact⟨k+1,by omega,by go_num,j9.o,by rw[fZ.o];exact je.o⟩
     ·simp[intOf];omega
    ·have iK:sP s e k=true:=by unfold sP;rw[hb,decide_eq_true (show k≠e from fun h=>tU h.symm)];rfl
     have jT:am ((fX s e (k+1)).length=(fX s e k).length+1):=aa (by rw[wA iK];simp);obtain⟨jV,oz⟩:=HN.o k aD iK;have Tb:((e:Int) == (k:Int))=false:=by simp;omega
     obtain⟨g1,g2,g3,g4⟩:=eV.o k hb;obtain⟨p0,vL⟩:∃ p0:Nat,byP s e k=p0:=⟨(byP s e k).toNat,by omega⟩;rw[vL,Int.toNat_natCast]at g3 g4;have fE:am (∀ p,p<p0->hasB (set:Nat) p=false):=aa (fun p hp=>by rw[<-fk.o,m5,g3 p hp,Bool.and_false]);have bL:am (hasB (set:Nat) p0=true):=aa (by rw[<-fk.o,m5,g4,decide_eq_true (by omega)];rfl);have BC:am (Iq s e (fX s e k).length=#[.int .i64 k,.int .i64 p0]):=aa (by unfold Iq;rw[oz,vL]);have IU:p0<5:=by omega
     obtain⟨c,hc⟩:∃ c,(fX s e k).length=c:=⟨_,rfl⟩;rw[hc]at jV BC jT je;clear hz Nq tU hb iK oz g1 g2 g3 g4 vL hc
     gi_wp2
     gi_loop [6] (fun x=>∃ p:Nat,p<=p0/\x=.int .i64 p) (fun x=>p0 - (intOf x).toNat)
     ·exact⟨0,by omega,rfl⟩
     ·
      obtain⟨p,hp,rfl⟩:=hrel;have fK:=sv (set:Nat) p;by_cases hpp:p=p0
      ·subst hpp;rw[bL.o]at fK;obtain⟨fn,tmps,assign,body,oP,hR⟩:=HY.o c wr jV je.o;rw[BC.o]at oP;have HR:=aa hR;clear hR
       gi_wp2
       refine⟨rfl,HR.o.mono ?_⟩;rintro e W3 (⟨rfl,Cy,Dp,ii⟩|⟨rfl,rO⟩)
       ·gi_wp2
        go_roundw
        ·exact⟨k+1,by omega,by go_num,gw.trans j9.o ii,by rw[jT.o];exact Cy⟩
        ·simp[intOf];omega
       ·gi_wp2
        refine bodyPost_ret (results_none rfl _ _ _) rfl ?_;exact⟨⟨_,rfl⟩,.inr ⟨_,by omega,rO⟩⟩
      ·rw[fE.o p (by omega)]at fK
       gi_wp2
       go_round
       ·exact⟨p+1,by omega,by go_num⟩
       ·simp[intOf];omega
   ·have gp:eT s e k=false:=by simpa using hb
    obtain rfl:=hz.2 gp;have fZ:am ((fX s e (k+1)).length=(fX s e k).length):=aa (by rw[zy (by unfold sP;rw[gp];rfl)]);clear hz hb gp
    gi_wp2
    go_roundw
    ·exact⟨k+1,by omega,by go_num,j9.o,by rw[fZ.o];exact je.o⟩
    ·simp[intOf];omega
  ·obtain rfl:k=m:=by omega
   gi_wp2
   go_end0
   exact⟨⟨_,rfl⟩,.inl (by rw[<-ji.o];exact je.o)⟩
def gx(parts:List Int) (label:Int) (k:Nat):List Nat:=(List.range k).filter fun e=>decide (parts.getD e 0=label)
theorem sR{p:List Int} {x:Int} {k:Nat} (h:p.getD k 0=x):gx p x (k+1)=gx p x k++[k]:=by
 unfold gx;rw[List.range_succ,List.filter_append];simpa using h
theorem Bg{p:List Int} {x:Int} {k:Nat} (h:p.getD k 0≠x):gx p x (k+1)=gx p x k:=by
 unfold gx;rw[List.range_succ,List.filter_append];simpa using h
theorem Pv{p:List Int} {x:Int}:∀ {k m:Nat},k<=m->gx p x k <+: gx p x m:=fun {k m} h=>by
 induction m with
 | zero=>obtain rfl:k=0:=by omega
         exact List.prefix_refl _
 | succ m ih=>
  by_cases e1:k=m+1
  ·subst e1;exact List.prefix_refl _
  ·refine(ih (by omega)).trans ?_;by_cases hb:p.getD m 0=x
   ·rw[sR hb];exact List.prefix_append _ _
   ·rw[Bg hb];exact List.prefix_refl _
theorem Vl{p:List Int} {x:Int} {k:Nat} (hk:k<p.length) (h:p.getD k 0=x):(gx p x k).length<(memL p x).length/\(memL p x).getD (gx p x k).length 0=k:=by
 have h1:gx p x (k+1) <+: memL p x:=Pv (by omega);rw[sR h]at h1;obtain⟨t,ht⟩:=h1;rw[<-ht];refine⟨by simp,?_⟩;rw[List.append_assoc,List.getD_eq_getElem?_getD,List.getElem?_append_right (Nat.le_refl _)];simp
def wB(l:List Nat) (i:Nat):Array Value:=#[.int .i64 (l.getD i 0:Nat)]
theorem wV(B:Nat) (x:Int) (w:World) :
  Calls Tryz.prog 85 #[.pointer (some ⟨B,0,none⟩),.int .i64 x] w fun r w'=>r=.returned (.func (.func 135) #[] #[.pointer (some ⟨w.heap.size,0,none⟩),.pointer (some ⟨w.heap.size+1,0,none⟩)])/\w'=(w.alloc (.cells #[.pointer (some ⟨B,0,none⟩)] 94)).alloc (.cells #[.int .i64 x] 3):=by
 go_enter Tryz.func85,Tryz.ntmps85
 go_wp2
 go_ret
 exact⟨rfl,rfl⟩
theorem uZ(s:Sys) (B bx be:Nat) (x:Int) (w0:World) (h:ScAt w0 B s) (w:World) (aJ:Below w0.heap.size w0 w) (hx:w.cell? ⟨bx,0,none⟩=some (.pointer (some ⟨B,0,none⟩))) (hy:w.cell? ⟨be,0,none⟩=some (.int .i64 x)) :
  so Tryz.prog 135 #[.pointer (some ⟨bx,0,none⟩),.pointer (some ⟨be,0,none⟩)] (wB (memL (partsS s) x)) (memL (partsS s) x).length (fun k=>k<w0.heap.size\/k=bx\/k=be) w:=by
 intro yl J Jx W hW hJ oC hY h0;have jH:=fo hx;have la:=fo hy;have mU:=aJ.size;have eZ:gw (fun k=>k<w0.heap.size\/k=bx\/k=be) w W:=fun k hk=>hW.block k (by rcases hk with hk|rfl|rfl<;>first|omega|assumption)
 obtain⟨vc,vs,vt,ve,vv,vl,h1,_,_,h2⟩:=h.ex;obtain⟨pl,cl,rfl,lt1,lt2,el⟩:=h2.at;have H1:=aa h1;have HX:=aa hx;have Ua:=aa hy;have HJ:=aa hJ;have Jc:=aa oC;have HY:=aa hY;have H0:=aa h0;have tx:=(eZ.cell (.inr (.inl rfl))).trans hx;have zj:∀ k,k<w0.heap.size->w.heap[k]?=w0.heap[k]?:=fun k hk=>aJ.block k hk
 have LH:=aa zj;have tF:W.cell? ⟨B,11,none⟩=some (.slice pl (partsS s).length cl):=(ab ((eZ B (.inl (aC h1))).trans ((aJ.block B (aC h1)).trans h1)) 11).trans rfl;have uh:=aa eZ;have C6:am (∀ k,k<(partsS s).length->(partsS s).getD k 0=x->(gx (partsS s) x k).length<(memL (partsS s) x).length/\(memL (partsS s) x).getD (gx (partsS s) x k).length 0=k):=aa fun k hk h=>Vl hk h
 have jT:am (∀ k,(partsS s).getD k 0=x->(gx (partsS s) x (k+1)).length=(gx (partsS s) x k).length+1):=aa fun k h=>by rw[sR h];simp
 have fZ:am (∀ k,(partsS s).getD k 0≠x->(gx (partsS s) x (k+1)).length=(gx (partsS s) x k).length):=aa fun k h=>by rw[Bg h]
 have ji:am ((gx (partsS s) x (partsS s).length).length=(memL (partsS s) x).length):=aa rfl
 have EL:am (∀ (V:World),gw (fun k=>k<w0.heap.size\/k=bx\/k=be) w V->∀ i,i<(partsS s).length->∃ b o,pl=some ⟨b,o,none⟩/\V.cell? ⟨b,o+i,none⟩=some (.int .i64 ((partsS s).getD i 0))):=aa (fun V hV i hi=>by
  obtain⟨b,o,e1,c1,_⟩:=el i hi;rw[Nat.mul_one,<-aA 0 hi]at c1;have aD:=fo c1;refine⟨b,o,e1,?_⟩;rw[hV.cell (.inl aD),<-c1];unfold World.cell?
  rw[zj b aD])
 clear h1 hx hy h aJ jH la mU hJ oC hY h0 eZ h2 el zj;obtain⟨n,hn⟩:∃ n,(partsS s).length=n:=⟨_,rfl⟩;rw[hn]at C6 ji EL lt1 lt2 tF;clear hn;refine(callsIn_wide (n:=0)).1 ?_;refine callsIn_of_wp Tryz.func135 rfl trivial ?_ rfl;simp only[Tryz.ntmps135,List.size_toArray,List.length_cons,List.length_nil,Nat.reduceAdd,Nat.reduceSub,Array.replicate_succ,Array.replicate_zero,List.push_toArray,List.append_toArray,List.nil_append,List.cons_append]
 gi_wp2
 clear tx tF
 gi_loopw [11] (fun i wr=>∃ k:Nat,k<=n/\i=.int .i64 k/\gw (fun k=>k<w0.heap.size\/k=bx\/k=be) w wr/\J (gx (partsS s) x k).length wr) (fun i _=>n - (intOf i).toNat)
 ·exact⟨0,by omega,rfl,uh.o,H0.o⟩
 ·
  obtain⟨k,hk,rfl,fU,hj⟩:=hrel;have j9:=aa fU;have je:=aa hj;clear hj;by_cases aD:k<n
  ·obtain⟨b1,o1,rfl,c1⟩:=EL.o wr fU k aD;have ty:=(fU.cell (.inr (.inr rfl))).trans Ua.o;clear fU;by_cases hx:(partsS s).getD k 0=x
   ·have QL:=aa (jT.o k hx);obtain⟨jV,oz⟩:=C6.o k aD hx;have BC:am (wB (memL (partsS s) x) (gx (partsS s) x k).length=#[.int .i64 k]):=aa (by unfold wB;rw[oz]);rw[hx]at c1;obtain⟨c,hc⟩:∃ c,(gx (partsS s) x k).length=c:=⟨_,rfl⟩;rw[hc]at jV BC QL je;clear oz hx hc;have lF:(x == x)=true:=by simp
    obtain⟨fn,tmps,assign,body,oP,hR⟩:=HY.o c wr jV je.o;rw[BC.o]at oP;have HR:=aa hR;clear hR
    gi_wp2
    refine⟨rfl,HR.o.mono ?_⟩;rintro e W3 (⟨rfl,Cy,Dp,ii⟩|⟨rfl,rO⟩)
    ·gi_wp2
     go_roundw
     ·exact⟨k+1,by omega,by go_num,gw.trans j9.o ii,by rw[QL.o];exact Cy⟩
     ·simp[intOf];omega
    ·gi_wp2
     refine bodyPost_ret (results_none rfl _ _ _) rfl ?_;exact⟨⟨_,rfl⟩,.inr ⟨_,by omega,rO⟩⟩
   ·have qo:=aa (fZ.o k hx);have lF:((partsS s).getD k 0 == x)=false:=beq_eq_false_iff_ne.2 hx;generalize (partsS s).getD k 0=y at c1 lF;clear hx
    gi_wp2
    refine⟨fun f hf=>(by cases hf),?_⟩
    gi_wp2
    go_roundw
    ·exact⟨k+1,by omega,by go_num,j9.o,by rw[qo.o];exact je.o⟩
    ·simp[intOf];omega
  ·obtain rfl:k=n:=by omega
   clear fU
   gi_wp2
   go_end0
   exact⟨⟨_,rfl⟩,.inl (by rw[<-ji.o];exact je.o)⟩
end Go.Proofs.YtmeaoneaephjeaaGreatDoor
