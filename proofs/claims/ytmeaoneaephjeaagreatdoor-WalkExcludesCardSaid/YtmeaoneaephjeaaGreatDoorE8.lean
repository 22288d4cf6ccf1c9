/-
  A part of the proof: lemmas and contracts that the parts behind it use. Each one's conditions are its own premises.
-/
import Derived.Laws.Tables
import Derived.Laws.CopyOwn
import Derived.Test.YtmeaoneaephjeaaGreatDoorE7
set_option maxRecDepth 100000
set_option maxHeartbeats 8000000
set_option linter.unusedVariables false
set_option linter.unusedSimpArgs false
namespace Go.Proofs.YtmeaoneaephjeaaGreatDoor
open Go.RowKit Go Go.Shelf
attribute [local go_sem] Oper.semAt_some
structure BEnd (p:Pb) (w wd:World) (uc us vt ve:Value) (xs:List Value) (st:List Vw × List Ex) (D:Nat) (X:World):Prop where
 old:Below wd.heap.size wd X
 r2:X.heap[w.heap.size+1]?=some (.cells zeroSys 35)
 r3:X.heap[w.heap.size+1+1]?=some (.cells #[.int .i64 0] 39)
 s:X.heap[wd.heap.size]?=some (.cells (bL p uc us p.t.n vt ve) 35)
 tab:aJ X wd.heap.size 190 8 vt st.1.length (fe st.1)
 ex:aJ X wd.heap.size 89 3 ve st.2.length xs
 els:∀ i (hi:i<st.2.length),Ab X wd.heap.size xs i st.2[i]
 d:X.heap[D]?=some (.deferred (some []))
theorem PO{w X:World} {D:Nat} {T:Array Value} {R:Ending->World->Prop} (hb:Below w.heap.size w X) (hR:X.heap[w.heap.size+1]?=some (.cells zeroSys 35)) (hE:X.heap[w.heap.size+1+1]?=some (.cells #[.int .i64 0] 39)) (hd:X.heap[D]?=some (.deferred (some []))) (hD:w.heap.size+1+1<D)
  (c0 c1 c2 c3 c4 c5 c6 c7 c8 c9:Value) (h2:T[2]?.getD undef=.pointer (some ⟨w.heap.size+1,0,none⟩)) (h3:T[3]?.getD undef=.pointer (some ⟨w.heap.size+1+1,0,none⟩))
  (hK:∀ Wf:World,Below w.heap.size w Wf->(∀ k,k≠w.heap.size+1->k≠w.heap.size+1+1->k≠D->Wf.heap[k]?=X.heap[k]?)->R (.returned (.tuple #[.agg #[c0,c1,c2,c3,c4,c5,c6,c7,c8,c9],.int .i64 0])) Wf) :
  bodyPostM Fence.wide 0 Tryz.prog Tryz.f120 R .ret { tmps:=T,defers:=[io D] } (((((((((((X.setCell ⟨w.heap.size+1,0,none⟩ c0).setCell ⟨w.heap.size+1,1,none⟩ c1).setCell ⟨w.heap.size+1,2,none⟩ c2).setCell ⟨w.heap.size+1,3,none⟩ c3).setCell ⟨w.heap.size+1,4,none⟩ c4).setCell ⟨w.heap.size+1,5,none⟩ c5).setCell ⟨w.heap.size+1,6,none⟩ c6).setCell ⟨w.heap.size+1,7,none⟩ c7).setCell ⟨w.heap.size+1,8,none⟩ c8).setCell ⟨w.heap.size+1,9,none⟩ c9).setCell ⟨w.heap.size+1+1,0,none⟩ (.int .i64 0)).drew:=by
 obtain⟨q1,q2,q3,q4⟩:=tj (B:=w.heap.size+1) hb (by omega) hR rfl hE c0 c1 c2 c3 c4 c5 c6 c7 c8 c9 0
 revert q1 q2 q3 q4
 generalize (((((((((((X.setCell ⟨w.heap.size+1,0,none⟩ c0).setCell ⟨w.heap.size+1,1,none⟩ c1).setCell ⟨w.heap.size+1,2,none⟩ c2).setCell ⟨w.heap.size+1,3,none⟩ c3).setCell ⟨w.heap.size+1,4,none⟩ c4).setCell ⟨w.heap.size+1,5,none⟩ c5).setCell ⟨w.heap.size+1,6,none⟩ c6).setCell ⟨w.heap.size+1,7,none⟩ c7).setCell ⟨w.heap.size+1,8,none⟩ c8).setCell ⟨w.heap.size+1,9,none⟩ c9).setCell ⟨w.heap.size+1+1,0,none⟩ (.int .i64 0))=Y;intro q1 q2 q3 q4;have q1':Y.drew.heap[w.heap.size+1]?=_:=q1;have q2':Y.drew.heap[w.heap.size+1+1]?=_:=q2;have q4':∀ k,k≠w.heap.size+1->k≠w.heap.size+1+1->Y.drew.heap[k]?=X.heap[k]?:=q4;have q3':=q3.drew;generalize Y.drew=Z at q1' q2' q3' q4' ⊢;refine iK ((q4' D (by omega) (by omega)).trans hd) (qh T (w.heap.size+1) _ c0 c1 c2 c3 c4 c5 c6 c7 c8 c9 0 h2 h3 ((World.putObj_heap_other (by omega)).trans q1') ((World.putObj_heap_other (by omega)).trans q2')) ?_;exact hK _ (eY (by omega) q3') (fun k a b c=>(World.putObj_heap_other c).trans (q4' k a b))
theorem VI{p:Pb} {w w2 wd X Wf:World} {D:Nat} {uc us vt ve:Value} {xs:List Value} {st:List Vw × List Ex} (h:BEnd p w wd uc us vt ve xs st D X)
  (DJ:∀ W':World,(∀ k o,w2.heap.size<=k->wd.heap[k]?=some o->W'.heap[k]?=some o)->bM W' uc p.t.cases/\bu W' us p.a.states) (zB:w.heap.size+1+1<w2.heap.size) (hDd:wd.heap.size<=D)
  (hg:(∀ v∈st.1,j7 v)/\∀ x∈st.2,ExGood x) (iz:st.1.length<=8192) (nA:st.2.length<=4096) (hf:∀ k,k≠w.heap.size+1->k≠w.heap.size+1+1->k≠D->Wf.heap[k]?=X.heap[k]?):IsSys Wf ⟨p,p.t.n,st.1,st.2⟩ uc us vt ve:=by
 have tr:∀ {b:Nat} {e:TypeId} {k:Nat} {v:Value} {n:Nat} {ys:List Value},aJ X b e k v n ys->e≠35->e≠39->aJ Wf b e k v n ys:=fun {b e k v n ys} ho h1 h2=>ho.keepT fun g o e1 e2=>
  (hf g (fun e'=>ho.ne h.r2 h1 g e1 e') (fun e'=>ho.ne h.r3 h2 g e1 e') (fun e'=>ho.isCells h.d rfl (by rw[e1,e']))).trans e2
 obtain⟨k1,k2⟩:=DJ Wf (fun k o hk ho=>by
  have aC:=aD ho;rw[hf k (by omega) (by omega) (by omega)]
  exact(h.old.block k aC).trans ho)
 refine⟨k1,k2,yU (tr h.tab (by decide) (by decide)) hg.1 (show st.1.length<=17592186044416 by omega),Ll (tr h.ex (by decide) (by decide)) (fun i hi=>?_) hg.2 (show st.2.length<=17592186044416 by omega)⟩;obtain⟨a,d,p1,p2,p3,p4,ys,p5,p6⟩:=h.els i hi;exact⟨a,d,p1,p2,p3,tr p4 (by decide) (by decide),ys,tr p5 (by decide) (by decide),fun j hj=>by obtain⟨y,r1,r2⟩:=p6 j hj;exact⟨y,r1,tr r2 (by decide) (by decide)⟩⟩
theorem PP(p:Pb) (vc vs:Value) (w:World) (hc:bM w vc p.t.cases) (hs:bu w vs p.a.states) (hN:movesN p.a.states<1099511627776) :
  Calls Tryz.prog 120 #[nX p vc vs] w fun e w'=>∃ c,e=.returned (.tuple #[.agg c,.int .i64 (buildE p)])/\(buildE p=0->∃ uc us vt ve,c=bL p uc us p.t.n vt ve/\IsSys w' (aF p) uc us vt ve)/\(buildE p≠0->c=zeroSys)/\Below w.heap.size w w':=by
 have GC:=aa hc;have GS:=aa hs;obtain⟨pc,cc,rfl,lc1,lc2,ec⟩:=hc.at;obtain⟨ps,cs,rfl,_⟩:=hs.at;have EC:=aa ec;clear hc hs ec;refine gi Tryz.func120 rfl ?_;simp only[Tryz.ntmps120,List.size_toArray,List.length_cons,List.length_nil,Nat.reduceAdd,Nat.reduceSub,Array.replicate_succ,Array.replicate_zero,List.push_toArray,List.append_toArray,List.nil_append,List.cons_append]
 go_wp2_with fail
 refine aO (fun W=>Below w.heap.size w W/\W.heap[w.heap.size]?=some (.cells #[.int .i64 p.t.n,.int .i64 p.t.ins,.int .i64 p.t.outs,.slice pc p.t.cases.length cc,.int .i64 p.a.n,.slice ps p.a.states.length cs,.int .i64 p.rounds] 29)/\W.heap[w.heap.size+1]?=some (.cells zeroSys 35)/\W.heap[w.heap.size+1+1]?=some (.cells #[.int .i64 0] 39)) ⟨by go_grown,ar _ (ar _ (ap _ _)),ar _ (aZ _ _ _),dZ _ _ _ _⟩ (fun W0 aX=>?_);obtain⟨aG,bB,eB,hE0⟩:=aX;refine(G7 p _ _ W0 (GC.o.up up_case aG) (GS.o.up up_moves aG) hN (fun h=>by have:=(fy (gP h).1).2.2.2.1;omega)).mono ?_;rintro e w1 ⟨rfl,aK⟩;have jt:=ae aG aK;have du:=aa (af aK bB);have cO:=aa (af aK eB);have rk:=aa (af aK hE0);have bX:=aK.size;have hzE:=aD rk.o;clear bB eB hE0
 have fR:((ed p).2=buildE p/\buildE p≠0)\/((ed p).2=0/\probE p=0/\(ed p).1=((p.t.cases.length * (aN p).length:Nat):Int)):=by
  by_cases hp:probE p=0
  ·obtain⟨h1,h2⟩:=KM hp;by_cases h3:(ed p).2=0
   ·exact .inr ⟨h3,hp,h2 h3⟩
   ·obtain⟨h4,h5⟩:=h1 h3;have:buildE p=17:=by unfold buildE;rw[if_neg (by simpa using hp),if_pos h5]
    exact .inl ⟨by rw[h4,this],by rw[this];decide⟩
  ·have:buildE p=probE p:=by unfold buildE;rw[if_pos hp]
   exact .inl ⟨by rw[this];unfold ed;rw[if_pos hp],by rw[this];exact hp⟩
 rcases fR with ⟨he,bK⟩|⟨he,hp,lE⟩
 ·obtain⟨eb,nJ⟩:∃ x,x=buildE p:=⟨_,rfl⟩;rw[he];rw[<-nJ]at bK ⊢;have iO:=aa bK;have Rm:=aa nJ;clear nJ;have L8:(eb != 0)=true:=by simpa using bK
  have cR:=ab cO.o;have zR:=fun o=>aH cO.o o
  have cE:=ab rk.o 0;have zE:=aH rk.o 0;simp at cE;clear he bK
  go_wp2_with fail
  obtain⟨q1,q2,q3,_⟩:=tj jt (by omega) cO.o rfl rk.o (.int .i64 0) (.int .i64 0) (.int .i64 0) (.slice none 0 0) (.int .i64 0) (.slice none 0 0) (.int .i64 0) (.int .i64 0) (.slice none 0 0) (.slice none 0 0) eb;refine iA (qh _ (w.heap.size+1) _ _ _ _ _ _ _ _ _ _ _ eb rfl rfl q1 q2) ?_;rw[<-Rm.o];exact⟨_,rfl,fun e=>absurd e iO.o,fun _=>rfl,q3⟩
 rw[he,lE];obtain⟨ht,ha,fE,sr,pg⟩:=gP hp;obtain⟨⟨htn1,htn5⟩,_,_,⟨xg,bW⟩,eN⟩:=fy ht;have lH:=aa fE;have dD:=aa eN;clear fE eN;by_cases DQ:4096<p.t.cases.length * (aN p).length
 ·have Rm:am (buildE p=17):=aa (by unfold buildE;rw[if_neg (by simpa using hp),if_pos DQ]);have YB:(4096:Int)<((p.t.cases.length * (aN p).length:Nat):Int):=by omega
  have cR:=ab cO.o;have zR:=fun o=>aH cO.o o
  have cE:=ab rk.o 0;have zE:=aH rk.o 0;simp at cE;generalize ((p.t.cases.length * (aN p).length:Nat):Int)=nI at YB;clear he lE DQ hp ht ha sr pg
  go_wp2_with fail
  obtain⟨q1,q2,q3,_⟩:=tj jt (by omega) cO.o rfl rk.o (.int .i64 0) (.int .i64 0) (.int .i64 0) (.slice none 0 0) (.int .i64 0) (.slice none 0 0) (.int .i64 0) (.int .i64 0) (.slice none 0 0) (.slice none 0 0) 17;refine iA (qh _ (w.heap.size+1) _ _ _ _ _ _ _ _ _ _ _ 17 rfl rfl q1 q2) ?_;rw[Rm.o];exact⟨_,rfl,fun e=>absurd e (by decide),fun _=>rfl,q3⟩
 have Dm:=aa (KN hp DQ);have YB:¬ (4096:Int)<((p.t.cases.length * (aN p).length:Nat):Int):=by omega
 generalize hnI:((p.t.cases.length * (aN p).length:Nat):Int)=nI at YB;have tA:=ab du.o;have HP:=aa hp;clear he lE
 go_wp2_with fail
 refine(Pp p.a _ p.rounds w1 (GS.o.up up_moves jt) hN).mono ?_;rintro e w2 ⟨u,rfl,hu,hulo,aT⟩;rw[Dm.o]at hu ⊢;dsimp only at hu ⊢;have rU:=ae jt aT;have LM:=aa hu;have HULO:=aa hulo;clear hulo;obtain⟨pw,cw,rfl,lw1,lw2,_⟩:=hu.at;clear hu tA;have tA:=ab (af aT du.o)
 go_wp2_with fail
 refine(Et p _ _ w2 (GC.o.up up_case rU) (GS.o.up up_moves rU) ht ha (Wx HP.o)).mono ?_;rintro e wd ⟨uc,us,rfl,DJ,bG⟩;have HCP:=aa DJ;obtain⟨YA,YD⟩:=DJ wd (fun _ _ _ h=>h);clear DJ;have cF:=rU.size;have DC:=bG.size;have Yh:=aD du.o;have S3:=ae rU bG;have hzb2:=aT.size;have hltd:w.heap.size<wd.heap.size:=by omega
 have HUC:=aa YA;have HUS:=aa YD;obtain⟨pu,cu,rfl,_⟩:=YA.at;obtain⟨pv,cv,rfl,_⟩:=YD.at;have Yc:=aa (af (ae aT bG) du.o);have HRd:=aa (af (ae aT bG) cO.o);have HEd:=aa (af (ae aT bG) rk.o);have HUd:=aa (LM.o.up up_words bG);have HCd:=aa (GC.o.up up_case S3);have vL:=fun w=>He Tryz.prog 232 w
 clear YA YD tA;have tA:=ab Yc.o;have tA4:∀ o1 o2 o3 o4 o,((((wd.alloc o1).alloc o2).alloc o3).alloc o4).cell? ⟨w.heap.size,o,none⟩=_:=fun o1 o2 o3 o4=>ab (ar _ (ar _ (ar _ (ar _ Yc.o))))
 go_wp2_with fail
 refine aO (fun W=>BInv p (.slice pu p.t.cases.length cu) (.slice pv p.a.states.length cv) wd wd.heap.size (wd.heap.size+1+1+1) (wd.heap.size+1+1) (wd.heap.size+1) [] [] W) ?_ (fun W4 hI4=>?_)
 ·refine⟨by go_grown,Nat.le_refl _,MV _ _ _ _ _,⟨_,[],ar _ (ar _ (ar _ (ap _ _))),aJ.nil _ _ _ _,fun i hi=>by simp at hi⟩,⟨by omega,_,?_,by omega,aJ.nil _ _ _ _,#[],0,ar _ (ar _ (aZ _ _ _)),rfl⟩⟩;rw[Int.toNat_of_nonneg (by omega)];exact ar _ (dZ _ _ _ _)
 refine(Eu p _ _ _ _ _ _ _ _ _ W4).mono ?_;rintro e w5 ⟨rfl,rfl⟩;have HI4:=aa hI4;have Q6:=hI4.old.size;have hzb:=aD hI4.bx;clear hI4 tA tA4 vL
 go_wp2_with fail
 refine bC (fun W=>BInv p (.slice pu p.t.cases.length cu) (.slice pv p.a.states.length cv) wd wd.heap.size (wd.heap.size+1+1+1) (wd.heap.size+1+1) (wd.heap.size+1) [] [] W/\W.heap[W4.heap.size]?=some (.cells #[.int .i64 p.t.n,.int .i64 p.t.ins,.int .i64 p.t.outs,.slice pc p.t.cases.length cc,.int .i64 p.a.n,.slice ps p.a.states.length cs,.int .i64 p.rounds] 29)/\W.heap[W4.heap.size+1]?=some (.cells #[.slice pw (aN p).length cw] 221)/\W4.heap.size+1<W.heap.size) ⟨HI4.o.up (by go_grown),ar _ (ap _ _),aZ _ _ _,by simp⟩ (fun W5 hW5=>?_);obtain⟨T4,zu,Rj,hz5⟩:=hW5;obtain⟨ws,hwsl,aw,capw,ew,eP⟩:=VB HUd.o;cases ew
 have dg:=CG wd p.t.cases.length (aN p).length pw cw ws (by have:=Nat.mul_le_mul_right (aN p).length xg;omega) (by omega) (fun j hj=>by
  obtain⟨b,o,h1,h2,h3⟩:=eP j hj;obtain⟨a',c',e',_⟩:=h3.at
  exact⟨b,o,h1,fx h2,h2,a',_,c',e'⟩) ⟨lw1,by obtain⟨a9,c9,e9,⟨_,h9,_⟩,_⟩:=HUd.o;cases e9;exact h9⟩ W5 T4.old W4.heap.size (W4.heap.size+1) _ _ _ _ _ _ _ _ zu Rj
 have Hm:=aa eP;have Hi:=aa DQ
 have Yi:am (∀ ad,pw=some ad->w1.heap.size<=ad.block/\ad.block<wd.heap.size):=aa (fun ad e=>by
  subst e;refine⟨HULO.o ad _ _ rfl,?_⟩
  have hWl:0<(aN p).length:=by
   have h9:=FH (ip ha).2.1 (by have:=(ip ha).1;omega) p.rounds.toNat 0 (by have:=(ip ha).1;omega);exact h9
  obtain⟨b,o,h1,h2,_⟩:=eP 0 hWl;cases h1
  exact fx h2)
 have hzI:=T4.old.size;clear eP DQ
 refine mL (gf:=199) (lb:=#[.pointer (some ⟨W4.heap.size,0,none⟩),.pointer (some ⟨W4.heap.size+1,0,none⟩)]) rfl (enters_of Tryz.func199 (by kernel_rfl) rfl) dg (Below.refl _ _) (fun k hk=>by
   rcases hk with hk|⟨ad,e1,rfl⟩
   ·omega
   ·have:=Yi.o ad e1;omega) (fun i=>rfl)
  (fun i W=>BInv p (.slice pu p.t.cases.length cu) (.slice pv p.a.states.length cv) wd wd.heap.size (wd.heap.size+1+1+1) (wd.heap.size+1+1) (wd.heap.size+1) (stP p i).1 (stP p i).2 W/\W.heap[W4.heap.size+1]?=some (.cells #[.slice pw (aN p).length cw] 221)/\(stP p i).1.length<=8192)
  (fun c _ W=>c=.ret/\buildE p=17/\Below w.heap.size w W/\W.heap[w.heap.size+1]?=some (.cells zeroSys 35)/\W.heap[w.heap.size+1+1]?=some (.cells #[.int .i64 17] 39))
  (fun i=>(BInv.sta (by omega) (by omega)).and (cI.cells.and cI.pure)) (fun c i=>cI.pure.and (cI.pure.and ((cI.below (by omega)).and (cI.cells.and cI.cells)))) ⟨T4,Rj,by simp[stP,execsS]⟩ ?round ?done ?stop
 case stop=>
  rintro D c i W hD hi ⟨rfl,jm,hb,q1,q2⟩ hK;have h1:(W.putObj D (.deferred none)).heap[w.heap.size+1]?=_:=(World.putObj_heap_other (by omega)).trans q1;have h2:(W.putObj D (.deferred none)).heap[w.heap.size+1+1]?=_:=(World.putObj_heap_other (by omega)).trans q2
  go_wp2_with fail
  refine iK hK (qh _ (w.heap.size+1) _ _ _ _ _ _ _ _ _ _ _ 17 (by rfl) (by rfl) h1 h2) ?_;rw[jm];exact⟨_,rfl,fun e=>absurd e (by decide),fun _=>rfl,eY (by omega) hb⟩
 case done=>
  intro D W hD hI hK;obtain⟨aW,Ud,zP⟩:=hI
  have aU:stP p (p.t.cases.length * (aN p).length)=execsS p (aN p) (fp p):=by
   unfold stP;rw[List.take_of_length_le (by rw[iI];exact Nat.le_refl _)]
  have Hf:=BR HP.o (fun c hc=>(wT GC.o c hc).1) (fun x hx=>wR p.a (sY GS.o) _ _ x hx) (by rw[<-aU];exact zP) _ (Nat.le_refl _);have Hh:=tg p (aN p) (fp p) ([],[]);have vZ:=iI p
  have Rm:am (buildE p=0):=aa (by
   unfold buildE;have h3:(aF p).tab=(execsS p (aN p) (fp p)).1:=rfl
   rw[if_neg (by simpa using HP.o),if_neg Hi.o,if_neg (by rw[h3,<-aU];omega)])
  have gu:am (aF p=⟨p,p.t.n,(execsS p (aN p) (fp p)).1,(execsS p (aN p) (fp p)).2⟩):=aa rfl;change (execsS p (aN p) (fp p)).2.length=_ at Hh;rw[aU]at Hf aW zP;generalize execsS p (aN p) (fp p)=st at Hf aW zP gu Hh;have Aj:=aa Hf;have hlx:st.2.length<=4096:=by have:=Hi.o;simp at Hh;omega
  clear aU Hf Hh vZ;obtain⟨ve,xs,fZ,je,nK⟩:=aW.s;obtain⟨vs9,b1',b2',b3',b4'⟩:=aW.bld.ex;obtain⟨av,cve,rfl⟩:=je.slice;obtain⟨a7,c7,rfl⟩:=b3'.slice;have qU:=aa aW;have vY:=aa fZ;have kx:=aa je;have rj:=aa nK;have sa:=aa b3';rw[Int.toNat_of_nonneg (by omega)]at b1';have tb:=ab b1';have tx:=ab aW.bx 0;have ts7:=ab (show W.drew.heap[wd.heap.size]?=_ from fZ) 7;have ts8:=ab (show W.drew.heap[wd.heap.size]?=_ from fZ) 8;have zs7:=aH (show W.drew.heap[wd.heap.size]?=_ from fZ) 7;have zs8:=aH (show W.drew.heap[wd.heap.size]?=_ from fZ) 8;simp at tx ts7 ts8;have Yh:=aW.old.size;clear aW fZ je nK b1' b2' b3' b4' dg T4 Ud zu Rj
  go_wp2_with fail
  go_still_tail 9,(by kernel_rfl)
  change wpList _ _ _ _ _ W.drew;clear tb tx;have hQ:=aI (aI (show W.drew.heap[wd.heap.size]?=_ from vY.o) 7 (.int .i64 p.t.n)) 8 (.slice a7 st.1.length c7)
  have hI:BEnd p w wd (.slice pu p.t.cases.length cu) (.slice pv p.a.states.length cv) (.slice a7 st.1.length c7) (.slice av st.2.length cve) xs st D ((W.drew.setCell ⟨wd.heap.size,7,none⟩ (.int .i64 p.t.n)).setCell ⟨wd.heap.size,8,none⟩ (.slice a7 st.1.length c7)):=by
   have hwd1:(W.drew.setCell ⟨wd.heap.size,7,none⟩ (.int .i64 p.t.n)).heap[wd.heap.size]?=_:=aI (show W.drew.heap[wd.heap.size]?=_ from vY.o) 7 (.int .i64 p.t.n);have kt:KeepT [35] [] wd.heap.size W ((W.drew.setCell ⟨wd.heap.size,7,none⟩ (.int .i64 p.t.n)).setCell ⟨wd.heap.size,8,none⟩ (.slice a7 st.1.length c7)):=((KeepT.refl _ _ _).drew.set (show W.drew.heap[wd.heap.size]?=_ from vY.o) (by simp) (Nat.le_refl _) _).set hwd1 (by simp) (Nat.le_refl _) _;have dF:=KeepT.below9 qU.o.old (KeepT.refl (ms:=[]) [] _ W) kt;refine⟨dF,af dF HRd.o,af dF HEd.o,hQ,kt.own sa.o (by decide),kt.own kx.o (by decide),fun i hi=>?_,kt.oth _ _ hK rfl (by simp)⟩;obtain⟨a,d,p1,p2,p3,p4,p5⟩:=rj.o i hi;exact⟨a,d,p1,p2,p3,kt.own p4 (by decide),kt.fresh p5 (by decide) (by decide)⟩
  have lX:BEnd p w wd (.slice pu p.t.cases.length cu) (.slice pv p.a.states.length cv) (.slice a7 st.1.length c7) (.slice av st.2.length cve) xs st D (((W.setCell ⟨wd.heap.size,7,none⟩ (.int .i64 p.t.n)).setCell ⟨wd.heap.size,8,none⟩ (.slice a7 st.1.length c7))).drew:=hI;have jv:=aa lX;have fZ:(((W.setCell ⟨wd.heap.size,7,none⟩ (.int .i64 p.t.n)).setCell ⟨wd.heap.size,8,none⟩ (.slice a7 st.1.length c7))).heap[wd.heap.size]?=_:=lX.s;have je:(((W.setCell ⟨wd.heap.size,7,none⟩ (.int .i64 p.t.n)).setCell ⟨wd.heap.size,8,none⟩ (.slice a7 st.1.length c7))).heap[w.heap.size+1]?=_:=lX.r2;have nK:(((W.setCell ⟨wd.heap.size,7,none⟩ (.int .i64 p.t.n)).setCell ⟨wd.heap.size,8,none⟩ (.slice a7 st.1.length c7))).heap[w.heap.size+1+1]?=_:=lX.r3;have tQ:=ab fZ;have cR:=ab je;have zR:=fun o=>aH je o
  have cE:=ab nK;have zE:=fun o=>aH nK o
  have tQd:=ab lX.s;have cRd:=ab lX.r2;have zRd:=fun o=>aH lX.r2 o
  have cEd:=ab lX.r3;have zEd:=fun o=>aH lX.r3 o
  have Ye:(W.setCell ⟨wd.heap.size,7,none⟩ (.int .i64 p.t.n)).heap[wd.heap.size]?=_:=aI vY.o 7 _;have zs8a:=aH Ye 8;have zs8b:=aH (show (W.setCell ⟨wd.heap.size,7,none⟩ (.int .i64 p.t.n)).drew.heap[wd.heap.size]?=_ from Ye) 8;have Lz:BEnd p w wd (.slice pu p.t.cases.length cu) (.slice pv p.a.states.length cv) (.slice a7 st.1.length c7) (.slice av st.2.length cve) xs st D ((W.setCell ⟨wd.heap.size,7,none⟩ (.int .i64 p.t.n)).setCell ⟨wd.heap.size,8,none⟩ (.slice a7 st.1.length c7)):=⟨⟨lX.old.os,lX.old.tape,lX.old.output,lX.old.size,lX.old.block⟩,lX.r2,lX.r3,lX.s,lX.tab,lX.ex,lX.els,lX.d⟩;have jb:=aa (And.intro (ae S3 Lz.old) (And.intro Lz.r2 (And.intro Lz.r3 (And.intro Lz.d Lz))));clear hQ hI lX Lz fZ je nK Ye
  go_wp2_with fail
  refine PO (X:=((W.setCell ⟨wd.heap.size,7,none⟩ (.int .i64 p.t.n)).setCell ⟨wd.heap.size,8,none⟩ (.slice a7 st.1.length c7))) jb.o.1 jb.o.2.1 jb.o.2.2.1 jb.o.2.2.2.1 (by omega) _ _ _ _ _ _ _ _ _ _ rfl rfl (fun Wf Dn hff=>?_);rw[Rm.o,gu.o];exact⟨_,rfl,fun _=>⟨_,_,_,_,rfl,VI jb.o.2.2.2.2 HCP.o (by omega) (by omega) Aj.o zP hlx hff⟩,fun e=>absurd rfl e,Dn⟩
 case round=>
  intro yl i W hi hl hI;obtain⟨aW,Ud,zP⟩:=hI;have eD:=wU p i hi;have HOVER:=aa (MU HP.o Hi.o (i+1))
  have pA:0<(aN p).length:=by
   rcases Nat.eq_zero_or_pos (aN p).length with h|h
   ·rw[h]at hi;simp at hi
   ·exact h
  have hc:i / (aN p).length<p.t.cases.length:=by rw[Nat.div_lt_iff_lt_mul pA];exact hi
  have hj:i % (aN p).length<(aN p).length:=Nat.mod_lt _ pA;obtain⟨_,_,hpw,_,DO⟩:=Hm.o _ hj;clear hpw;unfold R5
  have hwl6:((aN p)[i % (aN p).length]).length<=6:=by
   have:=kA p.a p.rounds.toNat 0 _ (List.getElem_mem (l:=aN p) hj);omega
  obtain⟨pc',cc',ec',_,_,ecc⟩:=HCd.o.at;cases ec';obtain⟨b1,o1,ec1,⟨vi,dvi,wu⟩,_,_⟩:=ecc _ hc
  have gL:p.t.n.toNat<=(p.t.cases[i / (aN p).length]).inp.length:=by
   have:=(dD.o _ (List.getElem_mem hc)).inp;omega
  unfold jx at eD;dsimp only at eD;rw[az default hc,az [] hj]at eD;generalize p.t.cases[i / (aN p).length]=cs0 at wu gL eD;generalize (aN p)[i % (aN p).length]=word at DO hwl6 eD;generalize ws.getD (i % (aN p).length) undef=wv at DO ⊢;generalize i / (aN p).length=ci at hc dvi eD ⊢
  have J':(stP p i).2.length<=4096:=by
   have h9:=tg p (aN p) ((fp p).take i) ([],[]);have h8:=iI p;have h7:=Hi.o;change (stP p i).2.length=_ at h9;simp at h9;omega
  generalize stP p i=st at aW zP eD J';have dr:=aa eD;have iR:=aa DO;have Yb:=aa wu;obtain⟨pwv,cwv,rfl,_⟩:=DO.at;obtain⟨pvi,cvi,rfl,_⟩:=wu.at;subst ec1;clear eD DO wu ecc;dsimp only
  gi_wp2
  refine⟨Bod.refl _ _ _,(fun X=>BInv p (.slice pu p.t.cases.length cu) (.slice pv p.a.states.length cv) wd wd.heap.size (wd.heap.size+1+1+1) (wd.heap.size+1+1) (wd.heap.size+1) st.1 st.2 X/\X.heap[W4.heap.size+1]?=some (.cells #[.slice pw (aN p).length cw] 221)),(BInv.sta (by omega) (by omega)).and cI.cells,⟨aW,Ud⟩,fun V hV _=>?_⟩;obtain⟨qk,zB⟩:=hV;clear aW Ud;obtain⟨ve,xs,fZ,je,nK⟩:=qk.s;obtain⟨av,cve,rfl⟩:=je.slice;have qU:=aa qk;have vY:=aa fZ;have kx:=aa je;have rj:=aa nK;have cP:=aa zB;have hzV:=qk.old.size;clear qk fZ je nK zB;obtain⟨i0,cX,fM,jK,iN⟩:=info_parts Tryz.infoExec
  gi_wp2
  refine xY 17 [49,50,51,52,53,54,55,56,57,58,59,60,61,62,63,64,65] [some (.pointer (some ⟨wd.heap.size,9,none⟩)),
   some (.slice av st.2.length cve),
   some (.int .i64 (ci:Int)),
   some (.slice pwv word.length cwv),
   none,
   some (.pointer (some ⟨wd.heap.size+1+1,0,none⟩)),
   some (.pointer (some ⟨w.heap.size,0,none⟩)),
   some (.pointer (some ⟨w.heap.size,3,none⟩)),
   some (.slice (some ⟨b1,o1,none⟩) p.t.cases.length cc),
   some (.int .i64 (ci:Int)),
   some (.pointer (some ⟨b1,o1+ci * 3,none⟩)),
   some (.pointer (some ⟨b1,o1+ci * 3,none⟩)),
   some (.slice pvi cs0.inp.length cvi),
   some (.slice pwv word.length cwv),
   none,
   none,
   none] (BCore wd.heap.size (wd.heap.size+1+1) (wd.heap.size+1) p.t.n.toNat st.1 (gC p.t.n.toNat cs0.inp word st.1).1 ci word (gC p.t.n.toNat cs0.inp word st.1).2 V) (by kernel_rfl) rfl (by decide) rfl (by kernel_rfl) (by kernel_rfl) (by kernel_rfl) (fun ⟨_,_,h⟩=>h) (by kernel_rfl) (fun _=>⟨hzV,(KeepT.refl _ _ _).drew,qU.o.bld.up (Below.refl _ _).drew,nofun,nofun,nofun,nofun⟩) ?step ?tail
  case step=>
   intro x W D i o s F hi ho hs hD cN bW aq hv aP hF;have fR:i=0\/i=1\/i=2\/i=3\/i=4\/i=5\/i=6\/i=7\/i=8\/i=9\/i=10\/i=11\/i=12\/i=13\/i=14\/i=15\/i=16:=by omega
   rcases fR with rfl|rfl|rfl|rfl|rfl|rfl|rfl|rfl|rfl|rfl|rfl|rfl|rfl|rfl|rfl|rfl|rfl
   all_goals (have dR:=cN _ _ hs hD;obtain rfl:=dy ho.symm;obtain rfl:=dy hs.symm)
   ·clear aq hi hv;have e7:F.getD 7 undef=.pointer (some ⟨wd.heap.size,0,none⟩):=lT hF (by decide) rfl;clear cN bW;clear hF dR;have e7':=dH e7;have HD:=aa hD;have bz:=aa aP;clear hD aP
    go_wp2_with fail
    refine bY.mk _ fV ?_ rfl;exact bz.o.other _ (by decide) (by decide) (by decide) (by decide)
   ·have g0:=aq ⟨0,.data⟩ (by simp) rfl;have d0:=hv 0 _ (by omega) g0 rfl;clear aq hi hv;have e49:=fG hF 0 49 (by decide) rfl (by kernel_rfl) d0;clear cN bW;clear hF dR d0;have t1:=ab (aP.keep.keep _ _ _ _ vY.o (by decide)) 9;simp at t1;have e49':=dH e49;have HD:=aa hD;have bz:=aa aP;clear hD aP;clear g0
    go_wp2_with fail
    refine bY.mk _ fV ?_ rfl;exact bz.o.other _ (by decide) (by decide) (by decide) (by decide)
   ·clear aq hi hv;have e9:F.getD 9 undef=.int .i64 (ci:Int):=lT hF (by decide) rfl;clear cN bW;clear hF dR;have e9':=dH e9;have HD:=aa hD;have bz:=aa aP;clear hD aP
    go_wp2_with fail
    refine bY.mk _ fV ?_ rfl;exact bz.o.other _ (by decide) (by decide) (by decide) (by decide)
   ·clear aq hi hv;have e10:F.getD 10 undef=.slice pwv word.length cwv:=lT hF (by decide) rfl;clear cN bW;clear hF dR;have e10':=dH e10;have HD:=aa hD;have bz:=aa aP;clear hD aP
    go_wp2_with fail
    refine bY.mk _ fV ?_ rfl;exact bz.o.other _ (by decide) (by decide) (by decide) (by decide)
   ·have g3:=aq ⟨3,.data⟩ (by simp) rfl;have d3:=hv 3 _ (by omega) g3 rfl;clear aq hi hv;have e52:=fG hF 3 52 (by decide) rfl (by kernel_rfl) d3;clear cN bW;clear hF dR d3;have dF:=KeepT.below9 qU.o.old (KeepT.refl (ms:=[]) [] _ V) aP.keep;have dz:=aa dF;clear dF;have e52':=dH e52;have HD:=aa hD;have bz:=aa aP;clear hD aP;clear g3
    go_wp2_with fail
    refine(vu _ word W (iR.o.up up_round dz.o) (by omega)).mono ?_;rintro e w9 ⟨u9,rfl,jJ,dU⟩;have ny:=aa (jJ.base (base':=wd.heap.size) dz.o.size);have fr:=aa dU;clear jJ dU
    go_wp2_with fail
    refine bY.mk _ (fun c hc=>by cases hc) ?_ rfl;exact bz.o.clone HD.o fr.o ny.o
   ·clear aq hi hv;have e8:F.getD 8 undef=.pointer (some ⟨wd.heap.size+1+1+1,0,none⟩):=lT hF (by decide) rfl;clear cN bW;clear hF dR;have t1:=ab (aP.keep.keep _ _ _ _ qU.o.bx (by decide)) 0;simp at t1;have e8':=dH e8;have HD:=aa hD;have bz:=aa aP;clear hD aP
    go_wp2_with fail
    refine bY.mk _ fV ?_ rfl;exact bz.o.other _ (by decide) (by decide) (by decide) (by decide)
   ·clear aq hi hv;have e1:F.getD 1 undef=.pointer (some ⟨w.heap.size,0,none⟩):=lT hF (by decide) rfl;clear cN bW;clear hF dR;have e1':=dH e1;have HD:=aa hD;have bz:=aa aP;clear hD aP
    go_wp2_with fail
    refine bY.mk _ fV ?_ rfl;exact bz.o.other _ (by decide) (by decide) (by decide) (by decide)
   ·have g6:=aq ⟨6,.data⟩ (by simp) rfl;have d6:=hv 6 _ (by omega) g6 rfl;clear aq hi hv;have e55:=fG hF 6 55 (by decide) rfl (by kernel_rfl) d6;clear cN bW;clear hF dR d6;have e55':=dH e55;have HD:=aa hD;have bz:=aa aP;clear hD aP;clear g6
    go_wp2_with fail
    refine bY.mk _ fV ?_ rfl;exact bz.o.other _ (by decide) (by decide) (by decide) (by decide)
   ·have g7:=aq ⟨7,.data⟩ (by simp) rfl;have d7:=hv 7 _ (by omega) g7 rfl;clear aq hi hv;have e56:=fG hF 7 56 (by decide) rfl (by kernel_rfl) d7;clear cN bW;clear hF dR d7;have dF:=KeepT.below9 qU.o.old (KeepT.refl (ms:=[]) [] _ V) aP.keep;have t1:=ab (af dF Yc.o) 3;simp at t1;clear dF;have e56':=dH e56;have HD:=aa hD;have bz:=aa aP;clear hD aP;clear g7
    go_wp2_with fail
    refine bY.mk _ fV ?_ rfl;exact bz.o.other _ (by decide) (by decide) (by decide) (by decide)
   ·clear aq hi hv;have e9:F.getD 9 undef=.int .i64 (ci:Int):=lT hF (by decide) rfl;clear cN bW;clear hF dR;have e9':=dH e9;have HD:=aa hD;have bz:=aa aP;clear hD aP
    go_wp2_with fail
    refine bY.mk _ fV ?_ rfl;exact bz.o.other _ (by decide) (by decide) (by decide) (by decide)
   ·have g8:=aq ⟨8,.data⟩ (by simp) rfl;have d8:=hv 8 _ (by omega) g8 rfl;have g9:=aq ⟨9,.data⟩ (by simp) rfl;have d9:=hv 9 _ (by omega) g9 rfl;clear aq hi hv;have e57:=fG hF 8 57 (by decide) rfl (by kernel_rfl) d8;have e58:=fG hF 9 58 (by decide) rfl (by kernel_rfl) d9;clear cN bW;clear hF dR d8 d9;have e57':=dH e57;have e58':=dH e58;have HD:=aa hD;have bz:=aa aP;clear hD aP;clear g8;clear g9
    go_wp2_with fail
    refine bY.mk _ fV ?_ rfl;exact bz.o.other _ (by decide) (by decide) (by decide) (by decide)
   ·have g10:=aq ⟨10,.data⟩ (by simp) rfl;have d10:=hv 10 _ (by omega) g10 rfl;clear aq hi hv;have e59:=fG hF 10 59 (by decide) rfl (by kernel_rfl) d10;clear cN bW;clear hF dR d10;have e59':=dH e59;have HD:=aa hD;have bz:=aa aP;clear hD aP;clear g10
    go_wp2_with fail
    refine bY.mk _ fV ?_ rfl;exact bz.o.other _ (by decide) (by decide) (by decide) (by decide)
   ·have g11:=aq ⟨11,.data⟩ (by simp) rfl;have d11:=hv 11 _ (by omega) g11 rfl;clear aq hi hv;have e60:=fG hF 11 60 (by decide) rfl (by kernel_rfl) d11;clear cN bW;clear hF dR d11;have dF:=KeepT.below9 qU.o.old (KeepT.refl (ms:=[]) [] _ V) aP.keep;have t1:=ak dF dvi;clear dF;have e60':=dH e60;have HD:=aa hD;have bz:=aa aP;clear hD aP;clear g11
    go_wp2_with fail
    refine bY.mk _ fV ?_ rfl;exact bz.o.other _ (by decide) (by decide) (by decide) (by decide)
   ·clear aq hi hv;have e10:F.getD 10 undef=.slice pwv word.length cwv:=lT hF (by decide) rfl;clear cN bW;clear hF dR;have e10':=dH e10;have HD:=aa hD;have bz:=aa aP;clear hD aP
    go_wp2_with fail
    refine bY.mk _ fV ?_ rfl;exact bz.o.other _ (by decide) (by decide) (by decide) (by decide)
   ·have g5:=aq ⟨5,.data⟩ (by simp) rfl;have d5:=hv 5 _ (by omega) g5 rfl;have g12:=aq ⟨12,.data⟩ (by simp) rfl;have d12:=hv 12 _ (by omega) g12 rfl;have g13:=aq ⟨13,.data⟩ (by simp) rfl;have d13:=hv 13 _ (by omega) g13 rfl;clear aq hi hv;have e54:=fG hF 5 54 (by decide) rfl (by kernel_rfl) d5;have e61:=fG hF 12 61 (by decide) rfl (by kernel_rfl) d12;have e62:=fG hF 13 62 (by decide) rfl (by kernel_rfl) d13;clear cN bW;clear hF dR d5 d12 d13;have dF:=KeepT.below9 qU.o.old (KeepT.refl (ms:=[]) [] _ V) aP.keep;have dz:=aa dF;clear dF;have ox:=aP.bld;rw[hD]at ox;have Dy:=aa (show BldIs wd.heap.size (wd.heap.size+1+1) (wd.heap.size+1) p.t.n.toNat st.1 W from ox);clear ox;have e54':=dH e54;have e61':=dH e61;have e62':=dH e62;have HD:=aa hD;have bz:=aa aP;clear hD aP;clear g5;clear g12;clear g13
    go_wp2_with fail
    refine(Pu wd (wd.heap.size+1+1) (wd.heap.size+1) p.t.n.toNat (by omega) st.1 _ _ cs0.inp word W dz.o Yb.o iR.o gL hwl6 (by omega) Dy.o).mono ?_;rintro e w9 ⟨u9,rfl,hf9,dU,zI⟩;have HF9:=aa (cj.lower9 hf9 dz.o.size);have fr:=aa dU;have qD:=aa zI;clear hf9 dU zI
    go_wp2_with fail
    refine bY.mk _ (fun c hc=>by cases hc) ?_ rfl;exact bz.o.play HD.o qD.o fr.o HF9.o
   ·have g2:=aq ⟨2,.data⟩ (by simp) rfl;have d2:=hv 2 _ (by omega) g2 rfl;have g4:=aq ⟨4,.data⟩ (by simp) rfl;have g14:=aq ⟨14,.data⟩ (by simp) rfl;clear aq hi hv;have e51:=fG hF 2 51 (by decide) rfl (by kernel_rfl) d2;have e53:=fG hF 4 53 (by decide) rfl (by kernel_rfl) rfl;have e63:=fG hF 14 63 (by decide) rfl (by kernel_rfl) rfl;clear cN bW;clear hF dR d2;obtain⟨a4,c4,q4⟩:=(aP.x4 g4).slice;obtain⟨a14,c14,q14⟩:=(aP.x14 g14).slice;rw[q4]at e53;rw[q14]at e63;have HG:=aa (And.intro g4 (And.intro g14 (And.intro q4 q14)));clear q4 q14;have e51':=dH e51;have e53':=dH e53;have e63':=dH e63;have HD:=aa hD;have bz:=aa aP;clear hD aP;clear g2;clear g4;clear g14
    go_wp2_with fail
    refine bY.mk _ (fun c hc=>by cases hc) ?_ rfl;exact bz.o.made HG.o.1 HG.o.2.1 (by rw[HG.o.2.2.1,HG.o.2.2.2])
   ·have g15:=aq ⟨15,.data⟩ (by simp) rfl;clear aq hi hv;have e64:=fG hF 15 64 (by decide) rfl (by kernel_rfl) rfl;clear cN bW;clear hF dR;obtain⟨g4,g14,q15⟩:=aP.x15 g15;obtain⟨a4,c4,q4⟩:=(aP.x4 g4).slice;obtain⟨a14,c14,q14⟩:=(aP.x14 g14).slice;rw[q15,q4,q14]at e64;have HG:=aa (And.intro g4 (And.intro g14 (And.intro q4 q14)));clear q4 q14 q15 g4 g14;have e64':=dH e64;have HD:=aa hD;have bz:=aa aP;clear hD aP;clear g15
    go_wp2_with fail
    refine bY.mk _ (fun c hc=>by cases hc) ?_ rfl;exact bz.o.row HG.o.1 HG.o.2.1 HG.o.2.2.1 HG.o.2.2.2
  case tail=>
   intro x W' D F aU hv aP hF;have x0:=hv 0 _ (by omega) rfl;have x1:=hv 1 _ (by omega) rfl;have x2:=hv 2 _ (by omega) rfl;have x3:=hv 3 _ (by omega) rfl;have x5:=hv 5 _ (by omega) rfl;have x6:=hv 6 _ (by omega) rfl;have x7:=hv 7 _ (by omega) rfl;have x8:=hv 8 _ (by omega) rfl;have x9:=hv 9 _ (by omega) rfl;have x10:=hv 10 _ (by omega) rfl;have x11:=hv 11 _ (by omega) rfl;have x12:=hv 12 _ (by omega) rfl;have x13:=hv 13 _ (by omega) rfl;obtain⟨g4,g14,gb,q16,nJ⟩:=aP.x16 (aU 16 (by omega));have zy:=aP.x4 g4;have NB:=aP.x14 g14;have ox:=aP.bld;rw[g14]at ox;obtain⟨a4,c4,q4⟩:=zy.slice;obtain⟨a14,c14,q14⟩:=NB.slice;rw[q4]at zy;rw[q14]at NB;rw[q4,q14]at nJ;simp only[bA,cW,List.setIfInBounds_toArray,List.set_cons_succ,List.set_cons_zero,Nat.reduceAdd,x0,x1,x2,x3,x5,x6,x7,x8,x9,x10,x11,x12,x13,q4,q14,q16]at hF;generalize x 15=y15 at hF;subst hF;have qD:=aa aP.keep;have Dy:=aa (show BldIs wd.heap.size (wd.heap.size+1+1) (wd.heap.size+1) p.t.n.toNat (gC p.t.n.toNat cs0.inp word st.1).1 W' from ox);have QQ:=aa zy;have HF14:=aa NB;have HGB:=aa nJ;have HS9:=aa (qD.o.keep _ _ _ _ vY.o (by decide));have zw:=aa (qD.o.own kx.o (by decide));clear hv aU aP zy NB ox nJ g4 g14 q4 q14 q16 x0 x1 x2 x3 x5 x6 x7 x8 x9 x10 x11 x12 x13;simp only[List.drop_succ_cons,List.drop_zero];have hzW':=qD.o.old.size
   have bQ:∀ j u',[Value.int .i64 (ci:Int),Value.slice a4 word.length c4,Value.slice a14 (gC p.t.n.toNat cs0.inp word st.1).2.length c14][j]?=some u'->W'.cell? (Addr.add ⟨gb,0,none⟩ j)=some u':=fun j u' hj=>by
    have e1:(Addr.add ⟨gb,0,none⟩ j)=⟨gb,j,none⟩:=by unfold Addr.add;split<;>simp_all
    rw[e1,ab HGB.o];simpa using hj
   have bF:=aa bQ;clear bQ;refine bg W' rfl (.tmp 50) (.tmp 65) 33 rfl wd.heap.size 89 i0 _ 3 56 Tryz.underlying33 cX fM jK iN rfl (by decide) _ st.2.length xs rfl zw.o ⟨gb,0,none⟩ 1 1 [Value.int .i64 (ci:Int),Value.slice a4 word.length c4,Value.slice a14 (gC p.t.n.toNat cs0.inp word st.1).2.length c14] rfl rfl bF.o (by simp[Value.oneCell']) (by unfold maxLen;omega) (by omega) (by omega) ?_;intro v9 w9 gt eC _;have sw:=gm eC HS9.o (fun e=>zw.o.ne HS9.o (by decide) _ e rfl);have t9:=ab sw 9;have z9:=aH sw 9;simp at t9;obtain⟨a9,c9,rfl⟩:=gt.slice;have HOWN9:=aa gt;have Kp:=aa eC;have Oe:=aa sw;clear gt eC sw
   go_wp2_with fail
   refine R8 (fun X=>BInv p (.slice pu p.t.cases.length cu) (.slice pv p.a.states.length cv) wd wd.heap.size (wd.heap.size+1+1+1) (wd.heap.size+1+1) (wd.heap.size+1) (gC p.t.n.toNat cs0.inp word st.1).1 (st.2++[⟨ci,word,(gC p.t.n.toNat cs0.inp word st.1).2⟩]) X/\KeepT (bldT++[89,35]) [wd.heap.size+1] wd.heap.size V X) ?_ (fun X hX=>?_)
   ·have kk:KeepT [89,35] [] wd.heap.size W' (w9.setCell ⟨wd.heap.size,9,none⟩ (.slice a9 (st.2.length+1) c9)):=((KeepT.refl _ _ _).grown zw.o (by simp) (Nat.le_refl _) (by omega) Kp.o).set Oe.o (by simp) (Nat.le_refl _) _;have kt:KeepT (bldT++[89,35]) [wd.heap.size+1] wd.heap.size V (w9.setCell ⟨wd.heap.size,9,none⟩ (.slice a9 (st.2.length+1) c9)):=(qD.o.mono (fun t h=>List.mem_append_left _ h) (fun _ h=>h)).trans (kk.mono (fun t h=>List.mem_append_right _ h) (by simp));have iQ:xs.length=st.2.length * 3:=zw.o.1;refine⟨⟨KeepT.below9 qU.o.old (KeepT.refl (ms:=[]) [] _ V) kt,Nat.le_refl _,kt.keep _ _ _ _ qU.o.bx (by decide),⟨.slice a9 (st.2.length+1) c9,xs++[Value.int .i64 (ci:Int),Value.slice a4 word.length c4,Value.slice a14 (gC p.t.n.toNat cs0.inp word st.1).2.length c14],by rw[aI Oe.o];rfl,by rw[List.length_append,List.length_singleton];exact HOWN9.o.put (fun g e=>HOWN9.o.ne Oe.o (by decide) g e) _ _,fun i U6=>?_⟩,(Dy.o.grown zw.o (by decide) Kp.o).set Oe.o (by decide) _⟩,kt⟩;rw[List.length_append,List.length_singleton]at U6;by_cases aC:i<st.2.length
    ·rw[List.getElem_append_left aC];obtain⟨a,d,p1,p2,p3,p4,p5⟩:=rj.o i aC;exact⟨a,d,by rw[List.getElem?_append_left (by omega)];exact p1,by rw[List.getElem?_append_left (by omega)];exact p2,by rw[List.getElem?_append_left (by omega)];exact p3,kk.own (qD.o.own p4 (by decide)) (by decide),kk.fresh (qD.o.fresh p5 (by decide) (by decide)) (by decide) (by decide)⟩
    ·obtain rfl:i=st.2.length:=by omega
     have e9:(st.2++[(⟨ci,word,(gC p.t.n.toNat cs0.inp word st.1).2⟩:Ex)])[st.2.length]'(by simp)=⟨ci,word,(gC p.t.n.toNat cs0.inp word st.1).2⟩:=by simp
     rw[e9];refine⟨.slice a4 word.length c4,.slice a14 (gC p.t.n.toNat cs0.inp word st.1).2.length c14,?_,?_,?_,kk.own QQ.o (by decide),kk.fresh HF14.o (by decide) (by decide)⟩
     ·rw[List.getElem?_append_right (by omega),iQ,Nat.sub_self];rfl
     ·rw[List.getElem?_append_right (by omega),iQ,Nat.add_sub_cancel_left];rfl
     ·rw[List.getElem?_append_right (by omega),iQ,Nat.add_sub_cancel_left];rfl
   obtain⟨Hj,hkX⟩:=hX;have qG:=aa Hj;have nF:=aa hkX;obtain⟨vs9,b1',b2',b3',b4'⟩:=Hj.bld.ex;obtain⟨a7,c7,rfl⟩:=b3'.slice;have tb:=ab b1' 1;have tx:=ab Hj.bx 0;simp at tb tx;clear Hj hkX b1' b2' b3' b4' t9 z9;have Gk:=qG.o.old;have QC:=af Gk HRd.o;have QZ:=af Gk HEd.o;by_cases JF:8192<(gC p.t.n.toNat cs0.inp word st.1).1.length
   ·have hovI:(8192:Int)<((gC p.t.n.toNat cs0.inp word st.1).1.length:Int):=by omega
    have cR:=ab QC;have zR:=fun o=>aH QC o
    have cE:=ab QZ 0;have zE:=aH QZ 0;simp at cE;have za:am (buildE p=17):=aa (HOVER.o (by rw[dr.o];exact JF));have UK:=aa QC;have wm:=aa QZ;have bP:=aa Gk;clear QC QZ Gk JF
    gi_wp2
    obtain⟨q1,q2,q3,q4⟩:=tj (ae S3 bP.o) (by omega) UK.o rfl wm.o (.int .i64 0) (.int .i64 0) (.int .i64 0) (.slice none 0 0) (.int .i64 0) (.slice none 0 0) (.int .i64 0) (.int .i64 0) (.slice none 0 0) (.slice none 0 0) 17;refine⟨⟨?_,fun k hk=>?_,fun k o hB ho hc=>?_⟩,rfl,za.o,q3,q1,q2⟩
    ·have:=nF.o.old.size;simpa using this
    ·rcases hk with rfl|⟨ad,e1,rfl⟩
     ·exact(q4 _ (by omega) (by omega)).trans ((nF.o.keep _ _ _ _ cP.o (by decide)).trans cP.o.symm)
     ·have h9:=Yi.o ad e1;exact(q4 _ (by omega) (by omega)).trans (nF.o.old.block _ h9.2)
    ·exact(q4 _ (by omega) (by omega)).trans (nF.o.oth k o ho hc (by simp;omega))
   ·have hovI:¬ (8192:Int)<((gC p.t.n.toNat cs0.inp word st.1).1.length:Int):=by omega
    clear QC QZ Gk
    gi_wp2
    refine⟨⟨nF.o.old.size,fun k hk=>?_,fun k o hB ho hc=>nF.o.oth k o ho hc (by simp;omega)⟩,?_⟩
    ·rcases hk with rfl|⟨ad,e1,rfl⟩
     ·exact(nF.o.keep _ _ _ _ cP.o (by decide)).trans cP.o.symm
     ·exact nF.o.old.block _ (Yi.o ad e1).2
    ·show BInv p (.slice pu p.t.cases.length cu) (.slice pv p.a.states.length cv) wd wd.heap.size (wd.heap.size+1+1+1) (wd.heap.size+1+1) (wd.heap.size+1) (stP p (i+1)).1 (stP p (i+1)).2 X/\X.heap[W4.heap.size+1]?=some (.cells #[.slice pw (aN p).length cw] 221)/\(stP p (i+1)).1.length<=8192
     rw[dr.o];exact⟨qG.o,nF.o.keep _ _ _ _ cP.o (by decide),Nat.le_of_not_lt JF⟩
theorem PQ(a b:Vw) (w:World):(binOp .neq 190 a.v b.v).run Tryz.prog w=.ok (.bool (!decide (a=b))) w:=by
 rw[run_neq_struct,Ep 9997];rfl
theorem Ez(va vb:Value) (a b:List Vw) (w:World) (ha:kW w va a) (hb:kW w vb b) :
  Calls Tryz.prog 121 #[va,vb] w fun e w'=>e=.returned (.bool (decide (a=b)))/\Below w.heap.size w w':=by
 obtain⟨pa,ca,rfl,la1,la2,ea⟩:=ha.at;obtain⟨pb,cb,rfl,lb1,lb2,eb⟩:=hb.at;clear ha hb;have EA:=aa ea;clear ea;have EB:=aa eb;clear eb;generalize oB:decide (a=b)=res;have jP:=aa oB;clear oB;by_cases hl:a.length=b.length
 case neg=>
  have iz:((a.length:Int) != (b.length:Int))=true:=by simp;omega
  have HR:am (res=false):=aa (by rw[<-jP.o];simp;intro h;exact hl (by rw[h]));clear hl
  go_enter Tryz.func121,Tryz.ntmps121
  go_wp2
  go_ret
  exact⟨aR HR.o.symm,Below.refl _ _⟩
 have iz:((a.length:Int) != (b.length:Int))=false:=by simp[hl]
 have HL:=aa hl;clear hl
 go_enter Tryz.func121,Tryz.ntmps121
 go_wp2
 clear iz
 go_loopw [13] (fun i wr=>Below w.heap.size w wr/\∃ k:Nat,k<=a.length/\i=.int .i64 k/\∀ j,j<k->a.getD j default=b.getD j default) (fun i _=>a.length - (intOf i).toNat)
 ·exact⟨Below.refl _ _,0,by omega,rfl,by simp⟩
 ·
  obtain⟨aA,k,hk,rfl,aW⟩:=hrel;have H:=aa aW;clear aW;by_cases aC:k<a.length
  ·have jc:k<b.length:=by have:=HL.o;omega
   obtain⟨b1,o1,rfl,⟨⟨c0,_⟩,⟨c1,_⟩,⟨c2,_⟩,⟨c3,_⟩,⟨c4,_⟩,⟨c5,_⟩,⟨c6,_⟩,⟨c7,_⟩⟩⟩:=EA.o k aC;obtain⟨b2,o2,rfl,⟨⟨e0,_⟩,⟨e1,_⟩,⟨e2,_⟩,⟨e3,_⟩,⟨e4,_⟩,⟨e5,_⟩,⟨e6,_⟩,⟨e7,_⟩⟩⟩:=EB.o k jc;have c0':∀ y:ExtW wr,y.val.cell? ⟨b1,o1+k * 8,none⟩=_:=fun y=>y.cell (ak aA c0)
   have c1':∀ y:ExtW wr,y.val.cell? ⟨b1,o1+k * 8+1,none⟩=_:=fun y=>y.cell (ak aA c1)
   have c2':∀ y:ExtW wr,y.val.cell? ⟨b1,o1+k * 8+2,none⟩=_:=fun y=>y.cell (ak aA c2)
   have c3':∀ y:ExtW wr,y.val.cell? ⟨b1,o1+k * 8+3,none⟩=_:=fun y=>y.cell (ak aA c3)
   have c4':∀ y:ExtW wr,y.val.cell? ⟨b1,o1+k * 8+4,none⟩=_:=fun y=>y.cell (ak aA c4)
   have c5':∀ y:ExtW wr,y.val.cell? ⟨b1,o1+k * 8+5,none⟩=_:=fun y=>y.cell (ak aA c5)
   have c6':∀ y:ExtW wr,y.val.cell? ⟨b1,o1+k * 8+6,none⟩=_:=fun y=>y.cell (ak aA c6)
   have c7':∀ y:ExtW wr,y.val.cell? ⟨b1,o1+k * 8+7,none⟩=_:=fun y=>y.cell (ak aA c7)
   have e0':∀ y:ExtW wr,y.val.cell? ⟨b2,o2+k * 8,none⟩=_:=fun y=>y.cell (ak aA e0)
   have e1':∀ y:ExtW wr,y.val.cell? ⟨b2,o2+k * 8+1,none⟩=_:=fun y=>y.cell (ak aA e1)
   have e2':∀ y:ExtW wr,y.val.cell? ⟨b2,o2+k * 8+2,none⟩=_:=fun y=>y.cell (ak aA e2)
   have e3':∀ y:ExtW wr,y.val.cell? ⟨b2,o2+k * 8+3,none⟩=_:=fun y=>y.cell (ak aA e3)
   have e4':∀ y:ExtW wr,y.val.cell? ⟨b2,o2+k * 8+4,none⟩=_:=fun y=>y.cell (ak aA e4)
   have e5':∀ y:ExtW wr,y.val.cell? ⟨b2,o2+k * 8+5,none⟩=_:=fun y=>y.cell (ak aA e5)
   have e6':∀ y:ExtW wr,y.val.cell? ⟨b2,o2+k * 8+6,none⟩=_:=fun y=>y.cell (ak aA e6)
   have e7':∀ y:ExtW wr,y.val.cell? ⟨b2,o2+k * 8+7,none⟩=_:=fun y=>y.cell (ak aA e7)
   have HX:=aa (az default aC);have HY:=aa (az default jc);clear c0 c1 c2 c3 c4 c5 c6 c7 e0 e1 e2 e3 e4 e5 e6 e7;generalize a[k]=x at c0' c1' c2' c3' c4' c5' c6' c7' HX;generalize b[k]=y at e0' e1' e2' e3' e4' e5' e6' e7' HY;have bK:=fun w=>PQ x y w
   go_wp2
   by_cases cg:x=y
   ·have hd:decide (x=y)=true:=by simpa using cg
    have oz:am (a.getD k default=b.getD k default):=aa (by rw[HX.o,HY.o,cg]);rw[hd]at bK;clear cg hd;refine aB (by kernel_rfl) (by kernel_rfl) ?_
    repeat (go_big_quiet_step (fail))
    refine wpQuiet_nil ?_;rintro _ ⟨xq,rfl⟩;clear c0' c1' c2' c3' c4' c5' c6' c7' e0' e1' e2' e3' e4' e5' e6' e7' bK
    go_wp2
    go_roundw
    ·exact⟨ae aA xq.ext,k+1,by omega,by go_num,aY H.o oz.o⟩
    ·simp[intOf];omega
   ·have hd:decide (x=y)=false:=by simpa using cg
    have HR:am (res=false):=aa (by rw[<-jP.o];simp;intro h;subst h;rw[HX.o]at HY;exact cg HY.o);rw[hd]at bK;clear cg hd;refine aB (by kernel_rfl) (by kernel_rfl) ?_
    repeat (go_big_quiet_step (fail))
    refine wpQuiet_nil ?_;rintro _ ⟨xq,rfl⟩;clear c0' c1' c2' c3' c4' c5' c6' c7' e0' e1' e2' e3' e4' e5' e6' e7' bK
    go_wp2
    go_ret
    exact⟨aR HR.o.symm,ae aA xq.ext⟩
  ·have HR:am (res=true):=aa (by rw[<-jP.o];simp;exact fq default HL.o fun j hj=>H.o j (by omega))
   go_wp2
   go_ret
   exact⟨aR HR.o.symm,aA⟩
theorem ED(va vb:Value) (a b:List (List Int)) (w:World) (ha:dL w va a) (hb:dL w vb b) :
  Calls Tryz.prog 168 #[va,vb,.func (.func 15) #[] #[]] w fun e w'=>e=.returned (.bool (decide (a=b)))/\Below w.heap.size w w':=by
 obtain⟨pa,ca,rfl,la1,la2,ea⟩:=ha.at;obtain⟨pb,cb,rfl,lb1,lb2,eb⟩:=hb.at;clear ha hb;have EA:=aa ea;clear ea;have EB:=aa eb;clear eb;generalize oB:decide (a=b)=res;have jP:=aa oB;clear oB;have g1:=enters_of Tryz.func15 (P:=Tryz.prog) (by kernel_rfl) rfl;by_cases hl:a.length=b.length
 case neg=>
  have iz:((a.length:Int) != (b.length:Int))=true:=by simp;omega
  have HR:am (res=false):=aa (by rw[<-jP.o];simp;intro h;exact hl (by rw[h]));clear hl
  go_enter Tryz.func168,Tryz.ntmps168
  go_wp2
  go_ret
  exact⟨aR HR.o.symm,Below.refl _ _⟩
 have iz:((a.length:Int) != (b.length:Int))=false:=by simp[hl]
 have HL:=aa hl;clear hl
 go_enter Tryz.func168,Tryz.ntmps168
 go_wp2
 clear iz
 go_loopw [17] (fun i wr=>Below w.heap.size w wr/\∃ k:Nat,k<=a.length/\i=.int .i64 k/\∀ j,j<k->a.getD j []=b.getD j []) (fun i _=>a.length - (intOf i).toNat)
 ·exact⟨Below.refl _ _,0,by omega,rfl,by simp⟩
 ·
  obtain⟨aA,k,hk,rfl,aW⟩:=hrel;have H:=aa aW;clear aW;by_cases aC:k<a.length
  ·have jc:k<b.length:=by have:=HL.o;omega
   obtain⟨b1,o1,rfl,x,c1,hx⟩:=EA.o k aC;obtain⟨b2,o2,rfl,y,c2,hy⟩:=EB.o k jc;rw[Nat.mul_one]at c1 c2;have d1:=ak aA c1;have d2:=ak aA c2;have HC:=aa (jC x y a[k] b[k] wr (hx.up up_int aA) (hy.up up_int aA));have HX:=aa (az [] aC);have HY:=aa (az [] jc);obtain⟨px,qx,rfl,_⟩:=hx.at;obtain⟨py,qy,rfl,_⟩:=hy.at;clear hx hy c1 c2;have HE:am (eqV a[k] b[k]=decide (a[k]=b[k])):=aa rfl;generalize eqV a[k] b[k]=eb at HC HE
   go_wp2_with fail
   refine HC.o.mono ?_;rintro e w1 ⟨rfl,aK⟩;clear d1 d2;cases eb with
   | true=>
    have oz:am (a.getD k []=b.getD k []):=aa (by have h:=HE.o;simp at h;rw[HX.o,HY.o,h])
    go_wp2_with fail
    go_roundw
    ·exact⟨ae aA aK,k+1,by omega,by go_num,aY H.o oz.o⟩
    ·simp[intOf];omega
   | false=>
    have HR:am (res=false):=aa (by rw[<-jP.o];simp;intro h;subst h;have h:=HE.o;simp at h)
    go_wp2_with fail
    go_ret
    exact⟨aR HR.o.symm,ae aA aK⟩
  ·have HR:am (res=true):=aa (by rw[<-jP.o];simp;exact fq [] HL.o fun j hj=>H.o j (by omega))
   go_wp2
   go_ret
   exact⟨aR HR.o.symm,aA⟩
abbrev IR(c:Int) (u v:Value):Array Value:=#[.int .i64 c,u,v]
theorem YQ(a b:Ex):decide (a=b)=(decide (a.c=b.c)&&decide (a.word=b.word)&&decide (a.views=b.views)):=by
 obtain⟨c,u,v⟩:=a;obtain⟨d,x,y⟩:=b;simp only[Ex.mk.injEq];by_cases h1:c=d<;>by_cases h2:u=x<;>by_cases h3:v=y<;>simp[h1,h2,h3]
theorem IS(a b:Ex) (ua va ub vb:Value) (w:World) (h1:kK w ua a.word) (h2:dL w va a.views) (h3:kK w ub b.word) (h4:dL w vb b.views) :
  Calls Tryz.prog 123 #[.agg (IR a.c ua va),.agg (IR b.c ub vb)] w fun e w'=>e=.returned (.bool (decide (a=b)))/\Below w.heap.size w w':=by
 have H1:=aa h1;have H2:=aa h2;have H3:=aa h3;have H4:=aa h4;obtain⟨_,_,rfl,_⟩:=h1.at;obtain⟨_,_,rfl,_⟩:=h2.at;obtain⟨_,_,rfl,_⟩:=h3.at;obtain⟨_,_,rfl,_⟩:=h4.at;clear h1 h2 h3 h4;have HV:=aa (YQ a b);generalize decide (a=b)=res at HV;generalize a.c=x1 at *;generalize b.c=x2 at *
 go_enter Tryz.func123,Tryz.ntmps123
 by_cases hc:x1=x2
 ·subst hc
  go_wp2_with fail
  refine aO (fun W=>Below w.heap.size w W/\(∃ c,W.heap[w.heap.size]?=some (.cells c 89)/\c=IR x1 _ _)/\∃ c,W.heap[w.heap.size+1]?=some (.cells c 89)/\c=IR x1 _ _) ⟨by go_grown,⟨_,ar _ (ap _ _),rfl⟩,_,aZ _ _ _,rfl⟩ (fun W0 aX=>?_);obtain⟨aG,⟨_,hA,rfl⟩,⟨_,hB,rfl⟩⟩:=aX;refine(Cv _ _ a.word b.word W0 (H1.o.up up_round aG) (H3.o.up up_round aG)).mono ?_;rintro e w1 ⟨rfl,aK⟩;have df:=ae aG aK;have tA:=ab (af aK hA);have tB:=ab (af aK hB);clear hA hB;cases hw:decide (a.word=b.word) with
  | false=>
   have HR:am (res=false):=aa (by rw[HV.o,hw];simp);clear hw
   go_wp2_with fail
   go_ret
   exact⟨aR HR.o.symm,df⟩
  | true=>
   have HR:am (res=decide (a.views=b.views)):=aa (by rw[HV.o,hw];simp);clear hw
   go_wp2_with fail
   refine(ED _ _ a.views b.views w1 (H2.o.up up_ints df) (H4.o.up up_ints df)).mono ?_;rintro e w2 ⟨rfl,aT⟩;clear tA tB
   go_wp2_with fail
   go_ret
   exact⟨aR HR.o.symm,ae df aT⟩
 ·have hd:decide (x1=x2)=false:=decide_eq_false hc;have HR:am (res=false):=aa (by rw[HV.o,hd];simp)
  go_wp2_with fail
  go_ret
  exact⟨aR HR.o.symm,by go_grown⟩
theorem EE(va vb:Value) (a b:List Ex) (w:World) (ha:Aa w va a) (hb:Aa w vb b) :
  Calls Tryz.prog 122 #[va,vb,.func (.func 123) #[] #[]] w fun e w'=>e=.returned (.bool (decide (a=b)))/\Below w.heap.size w w':=by
 obtain⟨pa,ca,rfl,la1,la2,ea⟩:=ha.at;obtain⟨pb,cb,rfl,lb1,lb2,eb⟩:=hb.at;clear ha hb;have EA:=aa ea;clear ea;have EB:=aa eb;clear eb;generalize oB:decide (a=b)=res;have jP:=aa oB;clear oB;have g1:=enters_of Tryz.func123 (P:=Tryz.prog) (by kernel_rfl) rfl;by_cases hl:a.length=b.length
 case neg=>
  have iz:((a.length:Int) != (b.length:Int))=true:=by simp;omega
  have HR:am (res=false):=aa (by rw[<-jP.o];simp;intro h;exact hl (by rw[h]));clear hl
  go_enter Tryz.func122,Tryz.ntmps122
  go_wp2
  go_ret
  exact⟨aR HR.o.symm,Below.refl _ _⟩
 have iz:((a.length:Int) != (b.length:Int))=false:=by simp[hl]
 have HL:=aa hl;clear hl
 go_enter Tryz.func122,Tryz.ntmps122
 go_wp2
 clear iz
 go_loopw [17] (fun i wr=>Below w.heap.size w wr/\∃ k:Nat,k<=a.length/\i=.int .i64 k/\∀ j,j<k->a.getD j default=b.getD j default) (fun i _=>a.length - (intOf i).toNat)
 ·exact⟨Below.refl _ _,0,by omega,rfl,by simp⟩
 ·
  obtain⟨aA,k,hk,rfl,aW⟩:=hrel;have H:=aa aW;clear aW;by_cases aC:k<a.length
  ·have jc:k<b.length:=by have:=HL.o;omega
   obtain⟨b1,o1,rfl,⟨c1,_⟩,⟨u1,c2,h2⟩,⟨v1,c3,h3⟩⟩:=EA.o k aC;obtain⟨b2,o2,rfl,⟨d1,_⟩,⟨u2,d2,k2⟩,⟨v2,d3,k3⟩⟩:=EB.o k jc;have c1':=ak aA c1;have c2':=ak aA c2;have c3':=ak aA c3;have hA:Below wr.heap.size wr (wr.alloc (.cells (IR a[k].c u1 v1) 89)):=by go_grown
   have d1':=ak hA (ak aA d1);have d2':=ak hA (ak aA d2);have d3':=ak hA (ak aA d3);have H2:=aa (h2.up up_round aA);have H3:=aa (h3.up up_ints aA);have K2:=aa (k2.up up_round aA);have K3:=aa (k3.up up_ints aA);obtain⟨_,_,rfl,_⟩:=h2.at;obtain⟨_,_,rfl,_⟩:=h3.at;obtain⟨_,_,rfl,_⟩:=k2.at;obtain⟨_,_,rfl,_⟩:=k3.at;have HX:=aa (az default aC);have HY:=aa (az default jc);clear h2 h3 k2 k3 c1 c2 c3 d1 d2 d3 hA;generalize a[k]=x at *;generalize b[k]=y at *
   go_wp2_with fail
   refine aO (fun W=>Below wr.heap.size wr W) (by go_grown) (fun W0 aX=>?_);refine(IS x y _ _ _ _ W0 (H2.o.up up_round aX) (H3.o.up up_ints aX) (K2.o.up up_round aX) (K3.o.up up_ints aX)).mono ?_;rintro e w1 ⟨rfl,aK⟩;have df:=ae aA (ae aX aK);clear c1' c2' c3' d1' d2' d3';cases cg:decide (x=y) with
   | true=>
    have oz:am (a.getD k default=b.getD k default):=aa (by rw[HX.o,HY.o,of_decide_eq_true cg]);clear cg
    go_wp2_with fail
    go_roundw
    ·exact⟨df,k+1,by omega,by go_num,aY H.o oz.o⟩
    ·simp[intOf];omega
   | false=>
    have HR:am (res=false):=aa (by rw[<-jP.o];simp;intro h;subst h;rw[HX.o]at HY;exact of_decide_eq_false cg HY.o);clear cg
    go_wp2_with fail
    go_ret
    exact⟨aR HR.o.symm,df⟩
  ·have HR:am (res=true):=aa (by rw[<-jP.o];simp;exact fq default HL.o fun j hj=>H.o j (by omega))
   go_wp2
   go_ret
   exact⟨aR HR.o.symm,aA⟩
theorem gX{P:Program} {ops:Array Oper} {Q:Exit->Act->World->Prop} {l:List Oper} {a:Act} {W:World} (I:World->Prop) (h:I W) (k:∀ W0,I W0->wpList P ops Q l a W0):wpList P ops Q l a W:=k W h
theorem bD{w:World} {s:Sys} {vc vs vt ve:Value} (h:IsSys w s vc vs vt ve):(∃ a c,vc=.slice a s.prob.t.cases.length c)/\(∃ a c,vs=.slice a s.prob.a.states.length c)/\(∃ a c,vt=.slice a s.tab.length c)/\∃ a c,ve=.slice a s.ex.length c:=by
 obtain⟨a1,c1,e1,_⟩:=h.cases.at;obtain⟨a2,c2,e2,_⟩:=h.states.at;obtain⟨a3,c3,e3,_⟩:=h.tab.at;obtain⟨a4,c4,e4,_⟩:=h.ex.at;exact⟨⟨a1,c1,e1⟩,⟨a2,c2,e2⟩,⟨a3,c3,e3⟩,a4,c4,e4⟩
theorem lS(s:Sys) (vc vs vt ve:Value) (w:World) (hs:IsSys w s vc vs vt ve) (hN:movesN s.prob.a.states<1099511627776) :
  Calls Tryz.prog 75 #[.agg (bL s.prob vc vs s.n vt ve)] w fun e w'=>e=.returned (.int .i64 (verifyE s))/\Below w.heap.size w w':=by
 have HS:=aa hs;obtain⟨⟨pc,cc,rfl⟩,⟨ps,cs,rfl⟩,⟨pt,ct,rfl⟩,⟨pe,ce,rfl⟩⟩:=bD hs;clear hs;have HV:am (verifyE s=if buildE s.prob≠0 then buildE s.prob else if s.n=(aF s.prob).n/\s.tab=(aF s.prob).tab/\s.ex=(aF s.prob).ex then 0 else 3):=aa rfl;have HT:=aa HS.o.tab;have HE:=aa HS.o.ex;have HC:=aa (fun W (hb:Below w.heap.size w W)=>PP s.prob (.slice pc s.prob.t.cases.length cc) (.slice ps s.prob.a.states.length cs) W (HS.o.cases.up up_case hb) (HS.o.states.up up_moves hb) hN);clear HS
 go_enter Tryz.func75,Tryz.ntmps75
 go_wp2_with fail
 refine aO (fun W=>Below w.heap.size w W/\∃ c,W.heap[w.heap.size]?=some (.cells c 35)/\c=bL s.prob _ _ s.n _ _) ⟨by go_grown,_,ap _ _,rfl⟩ (fun W0 aX=>?_);obtain⟨aG,_,hA,rfl⟩:=aX;refine(HC.o W0 aG).mono ?_;rintro e w1 ⟨c,rfl,h0,h1,aK⟩;have df:=ae aG aK;have eW:=af aK hA;have du:=aa eW;have dz:=aa df;have fZ:=df.size;have je:=aD eW;clear hA eW aG aK HC;by_cases jm:buildE s.prob=0
 case neg=>
  obtain rfl:=h1 jm;clear h0 h1;have HR:am (verifyE s=buildE s.prob):=aa (by rw[HV.o,if_pos jm]);generalize buildE s.prob=be at jm HR;have hbe':(be != 0)=true:=by simpa using jm
  clear HV jm
  go_wp2_with ((refine wpList_store_row rfl 35 (.tmp 3) (.tmp 9) rfl w1.heap.size zeroSys rfl rfl 35 _ (ap w1 (.cells zeroSys 35)) (by kernel_rfl) rfl (by simp[Value.oneCell']) (gX (fun W=>Below w.heap.size w W) (below_setRow (dz.o.alloc fZ _) fZ _) ?_);intro W2 eI;have cP:=aa eI;clear eI))
  go_ret
  exact⟨aE HR.o.symm,cP.o⟩
 obtain⟨uc,us,vt,ve,rfl,S4⟩:=h0 jm;have HR:am (verifyE s=if s.n=s.prob.t.n/\s.tab=(aF s.prob).tab/\s.ex=(aF s.prob).ex then 0 else 3):=aa (by rw[HV.o,if_neg (by omega)];rfl);have zJ:=aa S4;obtain⟨⟨qc,dc,e1⟩,⟨qs,ds,e2⟩,⟨qt,dt,e3⟩,⟨qe,de,e4⟩⟩:=bD S4;clear h1 S4 HV;rw[jm];clear jm;generalize uy:(aF s.prob).tab=bt at *;generalize lm:(aF s.prob).ex=bx at *;have Db:am (kW w1 vt bt):=aa (by rw[<-uy];exact zJ.o.tab);have nu:am (Aa w1 ve bx):=aa (by rw[<-lm];exact zJ.o.ex);clear uy lm zJ;subst e1 e2 e3 e4;have hone:(bL s.prob (.slice qc (aF s.prob).prob.t.cases.length dc) (.slice qs (aF s.prob).prob.a.states.length ds) s.prob.t.n (.slice qt bt.length dt) (.slice qe bx.length de)).all (·.oneCell')=true:=by simp[Value.oneCell']
 by_cases hn:s.n=s.prob.t.n
 case neg=>
  have zz:(s.n != s.prob.t.n)=true:=by simpa using hn
  have eh:am (verifyE s=3):=aa (by rw[HR.o,if_neg (fun h=>hn h.1)]);clear hn HR
  go_wp2_with ((refine wpList_store_row rfl 35 (.tmp 3) (.tmp 9) rfl w1.heap.size (bL s.prob (.slice qc (aF s.prob).prob.t.cases.length dc) (.slice qs (aF s.prob).prob.a.states.length ds) s.prob.t.n (.slice qt bt.length dt) (.slice qe bx.length de)) rfl rfl 35 _ (ap w1 (.cells zeroSys 35)) (by kernel_rfl) rfl hone (gX (fun W=>Below w.heap.size w W/\Below w1.heap.size w1 W/\∃ c,W.heap[w1.heap.size]?=some (.cells c 35)/\c=bL s.prob _ _ s.prob.t.n _ _) ⟨below_setRow (dz.o.alloc fZ _) fZ _,below_setRow ((Below.refl _ w1).alloc (Nat.le_refl _) _) (Nat.le_refl _) _,_,setRow_heap _ _ _ _ _ _ (ap w1 _),rfl⟩ ?_);intro W2 eI;obtain⟨g1,g2,c2,g3,jl⟩:=eI;subst jl;have tS:=ab (af g2 du.o);have tT:=ab g3;have G1:=aa g1;have G2:=aa g2;have G3:=aa g3;clear g1 g2 g3))
  go_ret
  exact⟨aE eh.o.symm,G1.o⟩
 have zz:(s.n != s.prob.t.n)=false:=by simpa using hn
 have si:=aa hn;clear hn
 go_wp2_with ((refine wpList_store_row rfl 35 (.tmp 3) (.tmp 9) rfl w1.heap.size (bL s.prob (.slice qc (aF s.prob).prob.t.cases.length dc) (.slice qs (aF s.prob).prob.a.states.length ds) s.prob.t.n (.slice qt bt.length dt) (.slice qe bx.length de)) rfl rfl 35 _ (ap w1 (.cells zeroSys 35)) (by kernel_rfl) rfl hone (gX (fun W=>Below w.heap.size w W/\Below w1.heap.size w1 W/\∃ c,W.heap[w1.heap.size]?=some (.cells c 35)/\c=bL s.prob _ _ s.prob.t.n _ _) ⟨below_setRow (dz.o.alloc fZ _) fZ _,below_setRow ((Below.refl _ w1).alloc (Nat.le_refl _) _) (Nat.le_refl _) _,_,setRow_heap _ _ _ _ _ _ (ap w1 _),rfl⟩ ?_);intro W2 eI;obtain⟨g1,g2,c2,g3,jl⟩:=eI;subst jl;have tS:=ab (af g2 du.o);have tT:=ab g3;have G1:=aa g1;have G2:=aa g2;have G3:=aa g3;clear g1 g2 g3))
 refine(Ez _ _ s.tab bt W2 (HT.o.up up_view G1.o) (Db.o.up up_view G2.o)).mono ?_;rintro e w3 ⟨rfl,bG⟩;clear tS tT;have tS:=ab (af bG (af G2.o du.o));have tT:=ab (af bG G3.o);have uP:=ae G1.o bG;have hbw4:=ae G2.o bG;cases ht:decide (s.tab=bt) with
 | false=>
  have eh:am (verifyE s=3):=aa (by rw[HR.o,if_neg (fun h=>of_decide_eq_false ht h.2.1)]);clear ht HR
  go_wp2_with fail
  go_ret
  exact⟨aE eh.o.symm,uP⟩
 | true=>
  have eh:am (verifyE s=if s.ex=bx then 0 else 3):=aa (by
   rw[HR.o];by_cases h:s.ex=bx
   ·rw[if_pos ⟨si.o,of_decide_eq_true ht,h⟩,if_pos h]
   ·rw[if_neg (fun h'=>h h'.2.2),if_neg h])
  clear ht HR
  go_wp2_with fail
  refine(EE _ _ s.ex bx w3 (HE.o.up up_ex uP) (nu.o.up up_ex hbw4)).mono ?_;rintro e w4 ⟨rfl,bS⟩;clear tS tT;cases ht:decide (s.ex=bx) with
  | false=>
   have fT:am (verifyE s=3):=aa (by rw[eh.o,if_neg (of_decide_eq_false ht)]);clear ht eh
   go_wp2_with fail
   go_ret
   exact⟨aE fT.o.symm,ae uP bS⟩
  | true=>
   have fT:am (verifyE s=0):=aa (by rw[eh.o,if_pos (of_decide_eq_true ht)]);clear ht eh
   go_wp2_with fail
   go_ret
   exact⟨aE fT.o.symm,ae uP bS⟩
theorem FJ{w:World} {B:Nat} {cs:Array Value} {t:TypeId} {fz:Nat × Nat} (h:w.heap[B]?=some (.cells cs t fz)) (o:Nat) (hf:¬ (fz.1<=o/\o<fz.2)):w.frozen? ⟨B,o,none⟩=false:=by
 simp[World.frozen?,h];simpa using hf
def lC(n:Nat) (f r:Nat->Int) (q:Nat):List Value:=(List.range n).map fun j=>Value.int .i64 (if j<q then f j else r j)
theorem IT(n:Nat) (f r:Nat->Int) (q:Nat):(lC n f r q).length=n:=by simp[lC]
theorem Se(n:Nat) (f r:Nat->Int) (q:Nat):(lC n f r q).set q (.int .i64 (f q))=lC n f r (q+1):=by
 refine List.ext_getElem (by simp[lC]) fun i h1 h2=>?_
 rw[List.getElem_set];simp only[lC,List.getElem_map,List.getElem_range];by_cases e:q=i
 ·subst e;rw[if_pos rfl,if_pos (by omega)]
 ·rw[if_neg e];by_cases h:i<q
  ·rw[if_pos h,if_pos (by omega)]
  ·rw[if_neg h,if_neg (by omega)]
theorem FK(n:Nat) (f r:Nat->Int) (q:Nat) (h:f q=r q):lC n f r (q+1)=lC n f r q:=by
 unfold lC;refine List.map_congr_left fun j _=>?_
 by_cases e:j=q
 ·subst e;rw[if_pos (by omega),if_neg (by omega),h]
 ·by_cases h:j<q
  ·rw[if_pos (by omega),if_pos h]
  ·rw[if_neg (by omega),if_neg h]
theorem WA(p:Nat):hasB 0 p=false:=by simp[hasB]
theorem List.set_take'{α:Type} (l:List α) (i n:Nat) (a:α):(l.take n).set i a=(l.set i a).take n:=by rw[List.take_set]
theorem VJ{s:Sys} (h:SysOk s):∀ x∈rP s,∀ y∈x,bR y:=fun x hx y hy=>by
 obtain⟨e,he,rfl⟩:=List.mem_map.1 hx;obtain⟨p,hp,rfl⟩:=List.mem_map.1 hy;have h1:=iH h (List.mem_range.1 he) (List.mem_range.1 hp);have h2:=h.tab;split
 ·exact⟨by omega,by omega⟩
 ·exact⟨by omega,by omega⟩
theorem Sf{w:World} {pr:Option Addr} {n cr:Nat} {l:List Int} (h:aQ w (.slice pr n cr) l) (hl:l.length=n):mU w 1 (.slice pr n cr) n (l.map (Value.int .i64)):=by
 obtain⟨a,cap,e,⟨h1,h2,h3⟩,h4,h5⟩:=h;injection e with e1 e2 e3
 subst e1 e3;refine⟨pr,cr,rfl,fun e=>⟨by have:=h3 e;omega,h3 e⟩,by simp[hl],fun j u hj=>?_,fun u hu=>by obtain⟨x,_,rfl⟩:=List.mem_map.1 hu;rfl⟩;rw[List.getElem?_map]at hj;cases hx:l[j]? with
 | none=>rw[hx]at hj;cases hj
 | some x=>
  rw[hx]at hj;obtain⟨b,o,e,h6,_⟩:=h5 j x hx;rw[Nat.mul_one]at h6;exact⟨b,o,e,by rw[h6];exact hj⟩
theorem aJ.block{w:World} {base n:Nat} {e:TypeId} {v:Value} {xs:List Value} (h:aJ w base e 1 v n xs) (hn:0<n):∃ g cap cur fz,v=.slice (some ⟨g,0,none⟩) n cap/\base<=g/\w.heap[g]?=some (.cells cur e fz)/\(∀ i,i<cur.size->¬ (fz.1<=i/\i<fz.2))/\n<=cap/\cap<=maxLen/\cur.size=cap/\cur.toList.take n=xs/\v.ownBlock=some g:=by
 rcases h.2 with ⟨_,h0⟩|⟨g,cap,cur,fz,rfl,h1,h2,h3,h4,h5,h6,h7⟩
 ·omega
 ·exact⟨g,cap,cur,fz,rfl,h1,h2,h3,h4,h5,by omega,by rw[Nat.mul_one]at h7;exact h7,rfl⟩
theorem gy{w:World} {s:Sys} (hs:SysOk s) {ve:Value} (h:Aa w ve s.ex) {k:Nat} (hk:k<eS s):∃ b o pe ce,ve=.slice (some ⟨b,o,none⟩) (eS s) ce/\pe=some (⟨b,o,none⟩:Addr)/\∃ pw nw cw pv cv,w.cell? ⟨b,o+k * 3,none⟩=some (.int .i64 (cH s k).c)/\w.cell? ⟨b,o+k * 3+1,none⟩=some (.slice pw nw cw)/\w.cell? ⟨b,o+k * 3+2,none⟩=some (.slice pv (s.prob.rounds.toNat+1) cv)/\nw=s.prob.rounds.toNat ∧
  (0<nw->∃ b1 o1,pw=some ⟨b1,o1,none⟩/\w.cell? ⟨b1,o1+(nw - 1) * 7+6,none⟩=some (.int .i64 (fltS s k)))/\(nw=0->fltS s k=0) ∧
  ∃ b2 o2 pr cr,pv=some ⟨b2,o2,none⟩/\w.cell? ⟨b2,o2+s.prob.rounds.toNat,none⟩=some (.slice pr (nS s) cr)/\aQ w (.slice pr (nS s) cr) ((List.range (nS s)).map (finS s k)):=by
 obtain⟨a,ce,e0,_,_,ep⟩:=h.at;obtain⟨b,o,rfl,⟨c1,_⟩,⟨uw,c2,h2⟩,⟨uv,c3,h3⟩⟩:=ep k hk;have hx:s.ex[k]=cH s k:=by unfold cH;exact(az default hk).symm
 rw[hx]at c1 h2 h3;have Jn:=hs.word k hk;obtain⟨rf,hvr⟩:=hs.views k hk;obtain⟨pw,cw,rfl,_,_,ew⟩:=h2.at;obtain⟨pv,cv,rfl,_,_,ev⟩:=h3.at;obtain⟨b2,o2,e2,vr,cr',hr⟩:=ev s.prob.rounds.toNat (by omega);rw[Nat.mul_one]at cr'
 have bU:(cH s k).views[s.prob.rounds.toNat]'(by omega)=(List.range (nS s)).map (finS s k):=by
  have cC:=(hvr _ (List.getElem_mem (l:=(cH s k).views) (show s.prob.rounds.toNat<(cH s k).views.length by omega))).1;refine List.ext_getElem (by simp[cC]) fun i h1 h2=>?_
  simp only[List.getElem_map,List.getElem_range];unfold finS;rw[az [] (show s.prob.rounds.toNat<(cH s k).views.length by omega),az 0 h1]
 rw[bU]at hr;obtain⟨pr,cr,rfl,_⟩:=hr.at;rw[show ((List.range (nS s)).map (finS s k)).length=nS s by simp]at cr' hr;refine⟨b,o,_,ce,e0,rfl,pw,_,cw,pv,cv,c1,c2,by rw[rf]at c3;exact c3,Jn,fun h0=>?_,fun h0=>?_,b2,o2,pr,cr,e2,cr',hr⟩
 ·obtain⟨b1,o1,e1,_,_,_,_,_,_,c6,_⟩:=ew ((cH s k).word.length - 1) (by omega);refine⟨b1,o1,e1,?_⟩;rw[c6];unfold fltS zY;rw[if_neg (by omega),az default (show (cH s k).word.length - 1<(cH s k).word.length by omega)]
 ·unfold fltS zY;rw[if_pos h0]
def ie(w:World) (base B:Nat) (s:Sys):Prop:=base<=B/\∃ vl,w.heap[B]?=some (.cells #[.int .i64 (nS s),vl] 201)/\cQ w base vl (rP s)
theorem ie.at{w:World} {base B:Nat} {s:Sys} (h:ie w base B s) (hs:SysOk s):FinAt w B s:=by
 obtain⟨_,vl,h1,h2⟩:=h;exact⟨vl,h1,nZ h2 (VJ hs) (by rw[BN];have:=hs.count;omega) (fun x hx=>by obtain⟨e,_,rfl⟩:=List.mem_map.1 hx;rw[lR];have:=hs.n.2.1;omega)⟩
theorem aJ.keepB{w V:World} {base k n:Nat} {e:TypeId} {v:Value} {xs:List Value} (h:aJ w base e k v n xs) (hk:∀ g,base<=g->g<w.heap.size->V.heap[g]?=w.heap[g]?):aJ V base e k v n xs:=by
 obtain⟨hl,h⟩:=h;refine⟨hl,?_⟩;rcases h with h|⟨g,cap,cur,fz,h1,h2,h3,h4⟩
 ·exact .inl h
 ·exact .inr ⟨g,cap,cur,fz,h1,h2,(hk g h2 (aD h3)).trans h3,h4⟩
theorem aJ.baseB{w:World} {base b k n:Nat} {e:TypeId} {v:Value} {xs:List Value} (h:aJ w base e k v n xs) (hb:b<=base):aJ w b e k v n xs:=by
 obtain⟨hl,h⟩:=h;refine⟨hl,?_⟩;rcases h with h|⟨g,cap,cur,fz,h1,h2,h3,h4⟩
 ·exact .inl h
 ·exact .inr ⟨g,cap,cur,fz,h1,Nat.le_trans hb h2,h3,h4⟩
theorem ie.keep{w V:World} {base B:Nat} {s:Sys} (h:ie w base B s) (hk:∀ g,base<=g->g<w.heap.size->V.heap[g]?=w.heap[g]?):ie V base B s:=by
 obtain⟨h0,vl,h1,xs,h2,h3⟩:=h;exact⟨h0,vl,(hk B h0 (aD h1)).trans h1,xs,h2.keepB hk,fun i hi=>by obtain⟨x,q1,q2⟩:=h3 i hi;exact⟨x,q1,q2.keepB hk⟩⟩
theorem ie.mono{w:World} {base b B:Nat} {s:Sys} (h:ie w base B s) (hb:b<=base):ie w b B s:=by
 obtain⟨h0,vl,h1,xs,h2,h3⟩:=h;exact⟨Nat.le_trans hb h0,vl,h1,xs,h2.baseB hb,fun i hi=>by obtain⟨x,q1,q2⟩:=h3 i hi;exact⟨x,q1,q2.baseB hb⟩⟩
theorem ie.up{w V:World} {base B:Nat} {s:Sys} (h:ie w base B s) (hb:Below w.heap.size w V):ie V base B s:=h.keep fun g _ hg=>hb.block g hg
theorem EF(s:Sys) (vc vs vt ve:Value) (w:World) (hs:IsSys w s vc vs vt ve) (hN:movesN s.prob.a.states<1099511627776) :
  Calls Tryz.prog 128 #[.agg (bL s.prob vc vs s.n vt ve)] w fun e w'=>∃ v,e=.returned (.tuple #[v,.int .i64 (verifyE s)])/\Below w.heap.size w w'/\(verifyE s≠0->v=.pointer none)/\(verifyE s=0->∃ B,v=.pointer (some ⟨B,0,none⟩)/\FinAt w' B s/\ie w' w.heap.size B s):=by
 have HS:=aa hs;obtain⟨⟨pc,cc,rfl⟩,⟨ps,cs,rfl⟩,⟨pt,ct,rfl⟩,⟨pe,ce,rfl⟩⟩:=bD hs;clear hs;have HC:=aa (fun W (hb:Below w.heap.size w W)=>lS s _ _ _ _ W (HS.o.up hb) hN);obtain⟨i0,cX,cD,bX,cF⟩:=info_parts Tryz.infoInt;obtain⟨j0,oG,fM,jK,iN⟩:=info_parts Tryz.infoInts
 go_enter Tryz.func128,Tryz.ntmps128
 go_wp2_with fail
 refine aO (fun W=>Below w.heap.size w W/\∃ c,W.heap[w.heap.size]?=some (.cells c 35)/\c=bL s.prob _ _ s.n _ _) ⟨by go_grown,_,ap _ _,rfl⟩ (fun W0 aX=>?_);obtain⟨aG,_,hA,rfl⟩:=aX;refine(HC.o W0 aG).mono ?_;rintro e w1 ⟨rfl,aK⟩;have df:=ae aG aK;have eW:=af aK hA;have tS:=ab eW;have du:=aa eW;have dz:=aa df;have fZ:=df.size;have je:=aD eW;clear hA eW aG aK HC df;by_cases hv:verifyE s=0
 case neg=>
  have HV:=aa hv;obtain⟨ev,my⟩:∃ ev,verifyE s=ev:=⟨_,rfl⟩;rw[my]at hv ⊢;have HE:=aa my;have DM:(ev != 0)=true:=by simpa using hv
  clear hv my
  go_wp2_with fail
  go_ret2
  exact⟨_,by rw[HE.o];rfl,dz.o,fun _=>rfl,fun h=>absurd h HV.o⟩
 have DR:=aa hv;have eN:=gE hv;have dD:=aa eN;rw[hv];clear hv;have fE:=eN.n;have wm:=aa (HS.o.ex);have HK:am (∀ k,k<eS s->_):=aa (fun k (hk:k<eS s)=>gy eN wm.o hk);have kh:s.ex.length=eS s:=rfl;rw[kh]at tS HK du;clear kh;obtain⟨n,hn⟩:∃ n,nS s=n:=⟨_,rfl⟩;obtain⟨m,hm⟩:∃ m,eS s=m:=⟨_,rfl⟩;have F0:s.prob.t.n=(n:Int):=by omega
 have hm4:m<=4096:=by have:=eN.count;omega
 have jf:1<=n/\n<=5:=by omega
 have pg:=eN.rounds;obtain⟨r,hr⟩:∃ r,s.prob.rounds.toNat=r:=⟨_,rfl⟩;have XG:r<=6:=by omega
 have v7:=aa eN.flt;rw[hn,hm,hr]at HK;rw[hm]at tS du v7;have t0:w1.cell? ⟨w.heap.size,0,none⟩=some (.int .i64 n):=by rw[tS 0,<-F0];rfl
 have t9:∀ o,(w1.alloc o).cell? ⟨w.heap.size,9,none⟩=some (.slice pe m ce):=fun o=>(ab (ar o du.o) 9).trans rfl
 clear tS
 go_wp2_with fail
 clear t0 t9;refine bC (fun W=>Below w.heap.size w W/\W.heap[w1.heap.size]?=some (.cells #[.int .i64 n,.slice none 0 0] 201)) ⟨dz.o.alloc fZ _,ap _ _⟩ (fun W2 eI=>?_);generalize w1.heap.size=B at eI fZ je;have cP:=aa eI;clear eI dz du;obtain⟨L,hL⟩:∃ L:Nat->List (List Int),L=fun k=>(List.range k).map (fD s):=⟨_,rfl⟩
 have HL:am (L 0=[]/\(∀ k,L (k+1)=L k++[fD s k])/\L m=rP s/\∀ k,(L k).length=k):=aa (by
  subst hL;refine⟨rfl,fun k=>by simp[List.range_succ],?_,fun k=>by simp⟩
  unfold rP;rw[hm])
 clear hL;have lH:=aa hn;have HMM:=aa hm;clear hn hm eN fE hr pg F0
 go_loopw [26] (fun i wr=>∃ k:Nat,k<=m/\i=.int .i64 k/\Below w.heap.size w wr/\∃ lv,wr.heap[B]?=some (.cells #[.int .i64 n,lv] 201)/\cQ wr w.heap.size lv (L k)) (fun i _=>m - (intOf i).toNat)
 ·exact⟨0,by omega,rfl,cP.o.1,_,cP.o.2,by rw[HL.o.1];exact cj.nil _ _⟩
 ·
  clear cP;obtain⟨k,hk,rfl,aA,lv,hB,xs,bd,kh⟩:=hrel;obtain⟨al,cl,rfl⟩:=bd.slice;have HB:=aa hB;have bO:=aa bd;have Df:=aa kh;have aV:=aa aA;have ww:=aD hB;have AY:=aA.size;clear bd kh;by_cases aC:k<m
  ·obtain⟨b,o,_,ce',e0,rfl,pw,nw,cw,pv,cv,c1,c2,c3,li,eV,fU,b2,o2,pr,cr,e2,c4,bU⟩:=HK.o k aC;injection e0 with e0 e8 e9
   clear e8 e9;subst e0 e2 li;have d1:=ak aA c1;have d2:=ak aA c2;have d3:=ak aA c3;have hA:Below wr.heap.size wr (wr.alloc (.cells #[.int .i64 (cH s k).c,.slice pw nw cw,.slice (some ⟨b2,o2,none⟩) (nw+1) cv] 89)):=by go_grown
   have XR:=ae aA hA;have d4:=ak XR c4;have jd:=aa (bU.up up_int XR);have rg:=v7.o k aC;obtain⟨fl,SY⟩:∃ fl,fltS s k=fl:=⟨_,rfl⟩;rw[SY]at eV fU rg;have Jk:=aa SY
   have SC:am (mU (wr.alloc (.cells #[.int .i64 (cH s k).c,.slice pw nw cw,.slice (some ⟨b2,o2,none⟩) (nw+1) cv] 89)) 1 (.slice pr n cr) n ((List.range n).map fun j=>Value.int .i64 (finS s k j))):=aa (by
    have h:=Sf jd.o (by simp);rw[List.map_map]at h
    exact h)
   have YC:wr.heap.size<(wr.alloc (.cells #[.int .i64 (cH s k).c,.slice pw nw cw,.slice (some ⟨b2,o2,none⟩) (nw+1) cv] 89)).heap.size:=by simp
   have XO:=aa hA;have kq:0<n:=by omega
   have tX:=ab (ap wr (.cells #[.int .i64 (cH s k).c,.slice pw nw cw,.slice (some ⟨b2,o2,none⟩) (nw+1) cv] 89));clear c1 c2 c3 c4 bU hA SY hB aA;by_cases hw:nw=0
   ·obtain rfl:=fU hw;subst hw;simp only[Nat.zero_add,Nat.add_zero]at d3 d4 tX YC SC XO
    go_wp2_with (at_builtin;(refine ld _ rfl (.const (.slice none 0 0)) (.tmp 49) 38 rfl wr.heap.size 3 i0 _ 1 8 Tryz.underlying38 cX cD bX cF rfl (by decide) (.slice none 0 0) 0 [] rfl (aJ.nil _ _ _ _) _ n ((List.range n).map fun j=>Value.int .i64 (finS s k j)) rfl SC.o (by unfold maxLen;omega) (by omega) (by simp) ?_;intro v2 w2 fQ dA _;rw[Nat.zero_add,List.nil_append]at fQ;have cf:=aa (Below.grown XO.o dA (Nat.le_of_lt YC) (fun g h=>by cases h));obtain⟨g,cap,cur,fz,lf,hg,nJ,nq,ig,qO,jQ,nH,_⟩:=fQ.block kq;subst lf;have HG:=aa (And.intro nJ (And.intro nq (And.intro jQ nH)));clear fQ dA nJ nq jQ nH))
    clear tX;obtain⟨wrA,B4⟩:∃ x,x=wr:=⟨_,rfl⟩;subst B4;have hgw:=aD HG.o.1
    go_loopw [53] (fun i wi=>∃ (p:Nat) (cu:Array Value),p<=n/\i=.int .i64 p/\Only g w2 wi/\wi.heap[g]?=some (.cells cu 3 fz)/\cu.size=cap/\cu.toList.take n=lC n (fun p=>if hasB (fltS s k) p then -1 else finS s k p) (finS s k) p) (fun i _=>n - (intOf i).toNat)
    ·exact⟨0,cur,by omega,rfl,Only.refl _ _,HG.o.1,HG.o.2.2.1,by rw[HG.o.2.2.2];simp[lC]⟩
    ·
     obtain⟨p,cu,hp,rfl,ho,rW,UY,Dl⟩:=hrel;by_cases F0:p<n
     ·have HO:=aa ho;have U':=aa rW;have gr:=aa Dl;have tq:=ab rW p;rw[Array.getElem?_eq_getElem (show p<cu.size by omega)]at tq;have zq:=FJ rW p (HG.o.2.1 p (by have:=HG.o.2.2.1;omega));clear ho rW Dl;have HS:am ((if hasB (fltS s k) p then -1 else finS s k p)=finS s k p):=aa (by rw[Jk.o,WA];rfl);clear tq zq
      go_wp2_with fail
      go_roundw
      ·exact⟨p+1,cu,by omega,by go_num,HO.o,U'.o,UY,by rw[FK _ _ _ _ HS.o];exact gr.o⟩
      ·simp[intOf];omega
     ·obtain rfl:p=n:=by omega
      have kT:=ho.below cf.o (by omega);have Kh:=af kT HB.o;have tB:=ab Kh 1
      have ur:aJ wr w.heap.size 3 1 (.slice (some ⟨g,0,none⟩) p cap) (fD s k).length ((fD s k).map (Value.int .i64)):=by
       rw[lR,lH.o]
       have e:(fD s k).map (Value.int .i64)=lC p (fun p=>if hasB (fltS s k) p then -1 else finS s k p) (finS s k) p:=by
        unfold fD lC;rw[lH.o,List.map_map];refine List.map_congr_left fun j hj=>?_
        rw[if_pos (List.mem_range.1 hj)];rfl
       rw[e];exact⟨by rw[IT];omega,.inr ⟨g,cap,cu,fz,rfl,by omega,rW,fun i hi=>HG.o.2.1 i (by have:=HG.o.2.2.1;omega),ig,qO,by omega,by rw[Nat.mul_one];exact Dl⟩⟩
      have dx:=aa ((bO.o.up kT).up ((Below.refl _ wr).alloc (Nat.le_refl _) (.cells #[.slice (some ⟨g,0,none⟩) p cap] 38)));have bF:=aa (dQ wr [.slice (some ⟨g,0,none⟩) p cap] 38)
      have SR:am (∀ i (hi:i<(L k).length),∃ x,xs[i]?=some x/\aJ (wr.alloc (.cells #[.slice (some ⟨g,0,none⟩) p cap] 38)) w.heap.size 3 1 x (L k)[i].length ((L k)[i].map (Value.int .i64))):=aa (fun i hi=>by
       obtain⟨x,q1,q2⟩:=Df.o i hi
       exact⟨x,q1,(q2.up kT).up ((Below.refl _ wr).alloc (Nat.le_refl _) _)⟩)
      have Af:=aa (ur.up ((Below.refl _ wr).alloc (Nat.le_refl _) (.cells #[.slice (some ⟨g,0,none⟩) p cap] 38)));have Dq:=aa Kh;have kP:=aa (ae aV.o kT);have Xf:=HL.o.2.2.2 k;have hLk2:(L k).length<=4096:=by omega
      have Bq:=kP.o.size;clear Xf ho rW Dl kT Kh ur
      go_wp2_with (at_builtin;(refine bg _ rfl (.tmp 69) (.tmp 71) 56 rfl w.heap.size 38 j0 _ 1 24 Tryz.underlying56 oG fM jK iN rfl (by decide) _ (L k).length xs rfl dx.o ⟨wr.heap.size,0,none⟩ 1 1 [.slice (some ⟨g,0,none⟩) p cap] rfl rfl bF.o (by simp[Value.oneCell']) (by unfold maxLen;omega) (by omega) (by simp;omega) ?_;intro v3 w3 oP kj _;obtain⟨av3,cv3,rfl⟩:=oP.slice;have wj:=im dx.o kj Dq.o (by decide);have c3:=ab wj 1;have f3:=aH wj 1;have dE:=aa wj;have Jp:am (cQ w3 w.heap.size (.slice av3 ((L k).length+1) cv3) (L k++[fD s k])):=aa (cj.snoc (l:=L k) dx.o SR.o (by decide) Af.o kj oP);have Ju:=aa (eG kP.o (Nat.le_refl _) dx.o kj);clear oP kj wj))
      go_roundw
      ·
       refine⟨k+1,by omega,by go_num,Ju.o.setCell (by dsimp only;omega) _,.slice av3 ((L k).length+1) cv3,?_,?_⟩
       ·rw[aI dE.o];rfl
       ·rw[HL.o.2.1 k];exact((KeepT.refl [201] w.heap.size w3 (ms:=[])).set dE.o (by simp) (by omega) _).fresh Jp.o (by decide) (by decide)
      ·simp[intOf];omega
   ·obtain⟨q,rfl⟩:∃ q,nw=q+1:=⟨nw - 1,by omega⟩;obtain⟨b1,o1,rfl,c5⟩:=eV (by omega);have d5:=ak XR c5;rw[Nat.add_sub_cancel]at d5;clear c5 eV fU
    go_wp2_with (at_builtin;(refine ld _ rfl (.const (.slice none 0 0)) (.tmp 49) 38 rfl wr.heap.size 3 i0 _ 1 8 Tryz.underlying38 cX cD bX cF rfl (by decide) (.slice none 0 0) 0 [] rfl (aJ.nil _ _ _ _) _ n ((List.range n).map fun j=>Value.int .i64 (finS s k j)) rfl SC.o (by unfold maxLen;omega) (by omega) (by simp) ?_;intro v2 w2 fQ dA _;rw[Nat.zero_add,List.nil_append]at fQ;have cf:=aa (Below.grown XO.o dA (Nat.le_of_lt YC) (fun g h=>by cases h));obtain⟨g,cap,cur,fz,lf,hg,nJ,nq,ig,qO,jQ,nH,_⟩:=fQ.block kq;subst lf;have HG:=aa (And.intro nJ (And.intro nq (And.intro jQ nH)));clear fQ dA nJ nq jQ nH))
    clear tX;obtain⟨wrA,B4⟩:∃ x,x=wr:=⟨_,rfl⟩;subst B4;have hgw:=aD HG.o.1
    go_loopw [53] (fun i wi=>∃ (p:Nat) (cu:Array Value),p<=n/\i=.int .i64 p/\Only g w2 wi/\wi.heap[g]?=some (.cells cu 3 fz)/\cu.size=cap/\cu.toList.take n=lC n (fun p=>if hasB (fltS s k) p then -1 else finS s k p) (finS s k) p) (fun i _=>n - (intOf i).toNat)
    ·exact⟨0,cur,by omega,rfl,Only.refl _ _,HG.o.1,HG.o.2.2.1,by rw[HG.o.2.2.2];simp[lC]⟩
    ·
     obtain⟨p,cu,hp,rfl,ho,rW,UY,Dl⟩:=hrel;by_cases F0:p<n
     ·have HO:=aa ho;have U':=aa rW;have gr:=aa Dl;have tq:=ab rW p;rw[Array.getElem?_eq_getElem (show p<cu.size by omega)]at tq;have zq:=FJ rW p (HG.o.2.1 p (by have:=HG.o.2.2.1;omega));clear ho rW Dl;have gR:=rx fl p;cases hb:hasB fl p with
      | true=>
       rw[hb]at gR;have HS:am ((if hasB (fltS s k) p then -1 else finS s k p)=-1):=aa (by rw[Jk.o,hb];rfl);clear hb
       go_wp2_with fail
       go_roundw
       ·
        refine⟨p+1,_,by omega,by go_num,HO.o.setCell p _,aI U'.o p _,by simpa using UY,?_⟩;rw[Array.toList_setIfInBounds,<-List.set_take',gr.o,<-Se n (fun p=>if hasB (fltS s k) p then -1 else finS s k p) (finS s k) p,HS.o]
       ·simp[intOf];omega
      | false=>
       rw[hb]at gR;have HS:am ((if hasB (fltS s k) p then -1 else finS s k p)=finS s k p):=aa (by rw[Jk.o,hb];rfl);clear hb tq zq
       go_wp2_with fail
       go_roundw
       ·exact⟨p+1,cu,by omega,by go_num,HO.o,U'.o,UY,by rw[FK _ _ _ _ HS.o];exact gr.o⟩
       ·simp[intOf];omega
     ·obtain rfl:p=n:=by omega
      have kT:=ho.below cf.o (by omega);have Kh:=af kT HB.o;have tB:=ab Kh 1
      have ur:aJ wr w.heap.size 3 1 (.slice (some ⟨g,0,none⟩) p cap) (fD s k).length ((fD s k).map (Value.int .i64)):=by
       rw[lR,lH.o]
       have e:(fD s k).map (Value.int .i64)=lC p (fun p=>if hasB (fltS s k) p then -1 else finS s k p) (finS s k) p:=by
        unfold fD lC;rw[lH.o,List.map_map];refine List.map_congr_left fun j hj=>?_
        rw[if_pos (List.mem_range.1 hj)];rfl
       rw[e];exact⟨by rw[IT];omega,.inr ⟨g,cap,cu,fz,rfl,by omega,rW,fun i hi=>HG.o.2.1 i (by have:=HG.o.2.2.1;omega),ig,qO,by omega,by rw[Nat.mul_one];exact Dl⟩⟩
      have dx:=aa ((bO.o.up kT).up ((Below.refl _ wr).alloc (Nat.le_refl _) (.cells #[.slice (some ⟨g,0,none⟩) p cap] 38)));have bF:=aa (dQ wr [.slice (some ⟨g,0,none⟩) p cap] 38)
      have SR:am (∀ i (hi:i<(L k).length),∃ x,xs[i]?=some x/\aJ (wr.alloc (.cells #[.slice (some ⟨g,0,none⟩) p cap] 38)) w.heap.size 3 1 x (L k)[i].length ((L k)[i].map (Value.int .i64))):=aa (fun i hi=>by
       obtain⟨x,q1,q2⟩:=Df.o i hi
       exact⟨x,q1,(q2.up kT).up ((Below.refl _ wr).alloc (Nat.le_refl _) _)⟩)
      have Af:=aa (ur.up ((Below.refl _ wr).alloc (Nat.le_refl _) (.cells #[.slice (some ⟨g,0,none⟩) p cap] 38)));have Dq:=aa Kh;have kP:=aa (ae aV.o kT);have Xf:=HL.o.2.2.2 k;have hLk2:(L k).length<=4096:=by omega
      have Bq:=kP.o.size;clear Xf ho rW Dl kT Kh ur
      go_wp2_with (at_builtin;(refine bg _ rfl (.tmp 69) (.tmp 71) 56 rfl w.heap.size 38 j0 _ 1 24 Tryz.underlying56 oG fM jK iN rfl (by decide) _ (L k).length xs rfl dx.o ⟨wr.heap.size,0,none⟩ 1 1 [.slice (some ⟨g,0,none⟩) p cap] rfl rfl bF.o (by simp[Value.oneCell']) (by unfold maxLen;omega) (by omega) (by simp;omega) ?_;intro v3 w3 oP kj _;obtain⟨av3,cv3,rfl⟩:=oP.slice;have wj:=im dx.o kj Dq.o (by decide);have c3:=ab wj 1;have f3:=aH wj 1;have dE:=aa wj;have Jp:am (cQ w3 w.heap.size (.slice av3 ((L k).length+1) cv3) (L k++[fD s k])):=aa (cj.snoc (l:=L k) dx.o SR.o (by decide) Af.o kj oP);have Ju:=aa (eG kP.o (Nat.le_refl _) dx.o kj);clear oP kj wj))
      go_roundw
      ·
       refine⟨k+1,by omega,by go_num,Ju.o.setCell (by dsimp only;omega) _,.slice av3 ((L k).length+1) cv3,?_,?_⟩
       ·rw[aI dE.o];rfl
       ·rw[HL.o.2.1 k];exact((KeepT.refl [201] w.heap.size w3 (ms:=[])).set dE.o (by simp) (by omega) _).fresh Jp.o (by decide) (by decide)
      ·simp[intOf];omega
  ·obtain rfl:k=m:=by omega
   have tB:=ab hB 1;clear hB aA
   go_wp2_with fail
   go_ret2
   refine⟨_,by rw[DR.o];rfl,aV.o,fun h=>absurd DR.o h,fun _=>⟨B,rfl,?_⟩⟩
   have ri:cQ wr w.heap.size (.slice al (L k).length cl) (rP s):=by
    have h3:=HL.o.2.2.1;rw[<-h3];exact⟨xs,bO.o,Df.o⟩
   have GJ:ie wr w.heap.size B s:=⟨by omega,_,by rw[lH.o];exact HB.o,ri⟩;exact⟨GJ.at dD.o,GJ⟩
def oblM(s:Sys) (e:Nat):Nat:=maskN (fun p=>!hasB (fltS s e) p) (nS s)
theorem andNot_mask:∀ n:Fin 6,∀ f:Fin 32,bits .andNot .i64 (((2 ^ n.val - 1:Nat):Int)) (f.val:Int)=((maskN (fun p=>!hasB (f.val:Int) p) n.val:Nat):Int):=by decide +kernel
theorem shl_one:∀ n:Fin 6,wrap64 (wrap64 ((2:Int) ^ n.val) - 1)=((2 ^ n.val - 1:Nat):Int):=by decide +kernel
theorem PR(s:Sys) (hs:SysOk s) (e:Nat) (he:e<eS s) (vc vs:Value) (pt:Option Addr) (nt ct:Nat) (pe:Option Addr) (ne ce:Nat) (pw:Option Addr) (nw cw:Nat) (vv:Value) (w:World) (li:nw<=6)
  (eV:0<nw->∃ b1 o1,pw=some ⟨b1,o1,none⟩/\w.cell? ⟨b1,o1+(nw - 1) * 7+6,none⟩=some (.int .i64 (fltS s e))) (fU:nw=0->fltS s e=0) :
  Calls Tryz.prog 87 #[.agg (bL s.prob vc vs s.n (.slice pt nt ct) (.slice pe ne ce)),.agg #[.int .i64 (cH s e).c,.slice pw nw cw,vv]] w fun r w'=>r=.returned (.int .i64 (oblM s e:Nat))/\Below w.heap.size w w':=by
 have hn:=hs.n;have rg:=hs.flt e he;obtain⟨f,hf⟩:∃ f:Nat,fltS s e=f:=⟨(fltS s e).toNat,by omega⟩
 have BA:f<32:=by
  have h1:((2:Nat) ^ nS s:Int)<=((2 ^ 5:Nat):Int):=by exact_mod_cast Nat.pow_le_pow_right (show 0<2 by omega) hn.2.1
  have h2:=rg.2;rw[hf]at h2;have h3:((2:Int) ^ nS s)=(((2:Nat) ^ nS s:Nat):Int):=by simp
  rw[h3]at h2;have h4:(2:Nat) ^ nS s<=2 ^ 5:=Nat.pow_le_pow_right (by omega) hn.2.1;omega
 have HAN:am (bits .andNot .i64 (((2 ^ nS s - 1:Nat):Int)) (f:Int)=(oblM s e:Nat)):=aa (by
  unfold oblM;rw[hf]
  exact andNot_mask ⟨nS s,by omega⟩ ⟨f,BA⟩)
 have HSH:am (wrap64 (wrap64 ((2:Int) ^ nS s) - 1)=((2 ^ nS s - 1:Nat):Int)):=aa (shl_one ⟨nS s,by omega⟩)
 have HZ:am (f=0->((2 ^ nS s - 1:Nat):Int)=(oblM s e:Nat)):=aa fun h=>by
  subst h;have key:∀ n:Fin 6,((2 ^ n.val - 1:Nat):Int)=bits .andNot .i64 (((2 ^ n.val - 1:Nat):Int)) 0:=by decide +kernel
  exact(key ⟨nS s,by omega⟩).trans HAN.o
 rw[hf]at eV fU;have fE:s.n=(nS s:Int):=hn.2.2.1;have jf:=hn.2.1;rw[fE];generalize nS s=n at *;generalize oblM s e=ob at *;clear hn rg hf hs fE;have HW:am (∀ x:Int,wrap64 ((2:Int) ^ n)=x->wrap64 (x - 1)=((2 ^ n - 1:Nat):Int)):=aa fun x hx=>by rw[<-hx];exact HSH.o
 obtain⟨pw2,hpw2⟩:∃ pw2:Int,wrap64 ((2:Int) ^ n)=pw2:=⟨_,rfl⟩;have zB:=HW.o pw2 hpw2;by_cases hw:nw=0
 ·have hz:=fU hw;subst hw;have HR:=aa (HZ.o (by omega));clear fU eV hz
  go_enter Tryz.func87,Tryz.ntmps87
  go_wp2_with fail
  go_ret
  exact⟨aE (zB.trans HR.o),by go_grown⟩
 ·obtain⟨q,rfl⟩:∃ q,nw=q+1:=⟨nw - 1,by omega⟩;obtain⟨b1,o1,rfl,c5⟩:=eV (by omega);rw[Nat.add_sub_cancel]at c5;have d5:∀ o1' o2',((w.alloc o1').alloc o2').cell? ⟨b1,o1+q * 7+6,none⟩=some (.int .i64 f):=fun o1' o2'=>ak (by go_grown) c5
  have lZ:=HAN.o;clear c5 eV fU
  go_enter Tryz.func87,Tryz.ntmps87
  go_wp2_with fail
  go_ret
  exact⟨rfl,by go_grown⟩
theorem Sg(s:Sys) (hv:verifyE s=0) (e:Nat) (he:e<eS s) (vc vs vt ve:Value) (w:World) (hs:IsSys w s vc vs vt ve) (hN:movesN s.prob.a.states<1099511627776) :
  Calls Tryz.prog 43 #[.agg (bL s.prob vc vs s.n vt ve),.int .i64 e] w fun r w'=>r=.returned (.tuple #[.int .i64 (oblM s e:Nat),.int .i64 0])/\Below w.heap.size w w':=by
 have HS:=aa hs;obtain⟨⟨pc,cc,rfl⟩,⟨ps,cs,rfl⟩,⟨pt,ct,rfl⟩,⟨pe,ce,rfl⟩⟩:=bD hs;clear hs;have HC:=aa (fun W (hb:Below w.heap.size w W)=>lS s _ _ _ _ W (HS.o.up hb) hN);have dD:=aa (gE hv);have HV:=aa hv;obtain⟨b,o,_,ce',e0,rfl,pw,nw,cw,pv,cv,c1,c2,c3,li,eV,fU,-⟩:=gy dD.o HS.o.ex he;injection e0 with e01 e02 e03
 subst e01;have xd:nw<=6:=by have:=dD.o.rounds;omega
 clear e02 e03 hv li;obtain⟨m,hm⟩:∃ m,s.ex.length=m:=⟨_,rfl⟩;have vR:e<m:=by rw[<-hm];exact he
 have fw:decide ((m:Int)<=(e:Int))=false:=decide_eq_false (by omega);have qL:decide (m<=e)=false:=decide_eq_false (by omega);have oC:=aa (fun W (hb:Below w.heap.size w W)=>PR s dD.o e he (.slice pc s.prob.t.cases.length cc) (.slice ps s.prob.a.states.length cs) pt s.tab.length ct (some ⟨b,o,none⟩) s.ex.length ce pw nw cw (.slice pv (s.prob.rounds.toNat+1) cv) W xd (fun h=>by obtain⟨b1,o1,q1,q2⟩:=eV h;exact⟨b1,o1,q1,ak hb q2⟩) fU);rw[hm]at HC oC ⊢;have HM:=aa hm;clear eV fU hm
 go_enter Tryz.func43,Tryz.ntmps43
 go_wp2_with fail
 refine aO (fun W=>Below w.heap.size w W/\∃ c,W.heap[w.heap.size]?=some (.cells c 35)/\c=bL s.prob (.slice pc s.prob.t.cases.length cc) (.slice ps s.prob.a.states.length cs) s.n (.slice pt s.tab.length ct) (.slice (some ⟨b,o,none⟩) m ce)) ⟨by go_grown,_,ap _ _,rfl⟩ (fun W0 aX=>?_);obtain⟨aG,_,hA,rfl⟩:=aX;refine(HC.o W0 aG).mono ?_;rintro r w1 ⟨rfl,aK⟩;have eW:=af aK hA;have du:=aa eW;have df:=ae aG aK;have bI:=aa df;rw[HV.o];have tS:=ab eW;have yS:∀ z:ExtW w1,∀ j,z.val.cell? ⟨w.heap.size,j,none⟩=_:=fun z=>ab (af z.ext du.o)
 have y1:∀ z:ExtW w1,z.val.cell? ⟨b,o+e * 3,none⟩=_:=fun z=>ak (ae bI.o z.ext) c1
 have y2:∀ z:ExtW w1,z.val.cell? ⟨b,o+e * 3+1,none⟩=_:=fun z=>ak (ae bI.o z.ext) c2
 have y3:∀ z:ExtW w1,z.val.cell? ⟨b,o+e * 3+2,none⟩=_:=fun z=>ak (ae bI.o z.ext) c3
 have bV:am (∀ y:ExtW w1,Calls Tryz.prog 87 #[.agg (bL s.prob (.slice pc s.prob.t.cases.length cc) (.slice ps s.prob.a.states.length cs) s.n (.slice pt s.tab.length ct) (.slice (some ⟨b,o,none⟩) m ce)),.agg #[.int .i64 (cH s e).c,.slice pw nw cw,.slice pv (s.prob.rounds.toNat+1) cv]] y.val fun r w''=>r=.returned (.int .i64 (oblM s e:Nat))/\∃ z:ExtW w1,w''=z.val):=aa (fun y=>Calls.ext_of (oC.o y.val (ae bI.o y.ext)));clear hA eW aG aK HC oC c1 c2 c3 df
 go_wp2_with fail
 refine aB (by kernel_rfl) (by kernel_rfl) ?_
 repeat (go_big_quiet_step ((go_at_call 87;exact bV.o _)))
 refine wpQuiet_nil ?_;rintro _ ⟨xq,rfl⟩;clear tS yS y1 y2 y3
 go_wp2_with fail
 go_ret2
 exact⟨by simp,ae bI.o xq.ext⟩
theorem AL(c f:Int) (pw:Option Addr) (nw cw:Nat) (vv:Value) (w:World) (li:nw<=6) (eV:0<nw->∃ b1 o1,pw=some ⟨b1,o1,none⟩/\w.cell? ⟨b1,o1+(nw - 1) * 7+6,none⟩=some (.int .i64 f)) (fU:nw=0->f=0) :
  Calls Tryz.prog 61 #[.agg #[.int .i64 c,.slice pw nw cw,vv]] w fun r w'=>r=.returned (.int .i64 f)/\Below w.heap.size w w':=by
 by_cases hw:nw=0
 ·obtain rfl:=fU hw;subst hw;clear fU eV
  go_enter Tryz.func61,Tryz.ntmps61
  go_wp2_with fail
  go_ret
  exact⟨rfl,by go_grown⟩
 ·obtain⟨q,rfl⟩:∃ q,nw=q+1:=⟨nw - 1,by omega⟩;obtain⟨b1,o1,rfl,c5⟩:=eV (by omega);rw[Nat.add_sub_cancel]at c5;have d5:∀ o1',(w.alloc o1').cell? ⟨b1,o1+q * 7+6,none⟩=some (.int .i64 f):=fun o1'=>ak (by go_grown) c5
  clear c5 eV fU
  go_enter Tryz.func61,Tryz.ntmps61
  go_wp2_with fail
  go_ret
  exact⟨rfl,by go_grown⟩
theorem VK{s:Sys} (hs:SysOk s) {e:Nat} (he:e<eS s):bits .andNot .i64 ((2:Int) ^ nS s - 1) (fltS s e)=(oblM s e:Nat):=by
 have hn:=hs.n;have rg:=hs.flt e he;obtain⟨f,hf⟩:∃ f:Nat,fltS s e=f:=⟨(fltS s e).toNat,by omega⟩
 have BA:f<32:=by
  have h2:=rg.2;rw[hf]at h2;have h3:((2:Int) ^ nS s)=(((2:Nat) ^ nS s:Nat):Int):=by simp
  rw[h3]at h2;have h4:(2:Nat) ^ nS s<=2 ^ 5:=Nat.pow_le_pow_right (by omega) hn.2.1;omega
 have key:∀ n:Fin 6,((2:Int) ^ n.val - 1)=((2 ^ n.val - 1:Nat):Int):=by decide +kernel
 rw[key ⟨nS s,by omega⟩];unfold oblM;rw[hf];exact andNot_mask ⟨nS s,by omega⟩ ⟨f,BA⟩
theorem FL(s:Sys) (hs:SysOk s) (e:Nat) (he:e<eS s) (vc vs vt ve:Value) (w:World) (cA:IsSys w s vc vs vt ve) :
  Calls Tryz.prog 28 #[.agg (bL s.prob vc vs s.n vt ve),.int .i64 e] w fun r w'=>r=.returned (.int .i64 (oblM s e:Nat))/\Below w.heap.size w w':=by
 have HS:=aa cA;obtain⟨⟨pc,cc,rfl⟩,⟨ps,cs,rfl⟩,⟨pt,ct,rfl⟩,⟨pe,ce,rfl⟩⟩:=bD cA;clear cA;obtain⟨b,o,_,ce',e0,rfl,pw,nw,cw,pv,cv,c1,c2,c3,li,eV,fU,-⟩:=gy hs HS.o.ex he;injection e0 with e01 e02 e03
 subst e01;have xd:nw<=6:=by have:=hs.rounds;omega
 clear e02 e03 li;have lZ:=VK hs he;have zC:=aa (fun W (hb:Below w.heap.size w W)=>AL (cH s e).c (fltS s e) pw nw cw (.slice pv (s.prob.rounds.toNat+1) cv) W xd (fun h=>by obtain⟨b1,o1,q1,q2⟩:=eV h;exact⟨b1,o1,q1,ak hb q2⟩) fU);have hn:=hs.n;have A3:=aa (fun W=>Fw (nS s) (by omega) W);obtain⟨m,hm⟩:∃ m,s.ex.length=m:=⟨_,rfl⟩;have vR:e<m:=by rw[<-hm];exact he
 obtain⟨sn,JU⟩:∃ sn,s.n=sn:=⟨_,rfl⟩;have fE:sn=(nS s:Int):=by rw[<-JU];exact hn.2.2.1
 rw[hm,JU];subst fE;generalize fltS s e=f at lZ zC;generalize oblM s e=ob at lZ ⊢;obtain⟨n,Gt⟩:∃ n,nS s=n:=⟨_,rfl⟩;rw[Gt]at lZ A3 ⊢;clear eV fU hm JU hn Gt
 go_enter Tryz.func28,Tryz.ntmps28
 go_wp2_with fail
 refine bC (fun W=>Below w.heap.size w W/\∃ c,W.heap[w.heap.size]?=some (.cells c 35)/\c=bL s.prob (.slice pc s.prob.t.cases.length cc) (.slice ps s.prob.a.states.length cs) (n:Int) (.slice pt s.tab.length ct) (.slice (some ⟨b,o,none⟩) m ce)) ⟨by go_grown,_,ap _ _,rfl⟩ (fun W0 aX=>?_);obtain⟨aG,_,hA,rfl⟩:=aX;have eQ:=aa aG;have HA:=aa hA;have yS:∀ z:ExtW W0,∀ j,z.val.cell? ⟨w.heap.size,j,none⟩=_:=fun z=>ab (af z.ext HA.o)
 have y1:∀ z:ExtW W0,z.val.cell? ⟨b,o+e * 3,none⟩=_:=fun z=>ak (ae eQ.o z.ext) c1
 have y2:∀ z:ExtW W0,z.val.cell? ⟨b,o+e * 3+1,none⟩=_:=fun z=>ak (ae eQ.o z.ext) c2
 have y3:∀ z:ExtW W0,z.val.cell? ⟨b,o+e * 3+2,none⟩=_:=fun z=>ak (ae eQ.o z.ext) c3
 have Gp:am (∀ y:ExtW W0,Calls Tryz.prog 60 #[.int .i64 (n:Int)] y.val fun r w''=>r=.returned (.int .i64 (2 ^ n - 1))/\∃ z:ExtW W0,w''=z.val):=aa (fun y=>Calls.ext_of ((A3.o y.val).mono fun r w' ⟨h1,h2⟩=>⟨h1,h2 ▸ Below.refl _ _⟩));have sg:am (∀ y:ExtW W0,Calls Tryz.prog 61 #[.agg #[.int .i64 (cH s e).c,.slice pw nw cw,.slice pv (s.prob.rounds.toNat+1) cv]] y.val fun r w''=>r=.returned (.int .i64 f)/\∃ z:ExtW W0,w''=z.val):=aa (fun y=>Calls.ext_of (zC.o y.val (ae eQ.o y.ext)));clear aG hA A3 zC c1 c2 c3;refine aB (by kernel_rfl) (by kernel_rfl) ?_
 repeat (go_big_quiet_step (first|(go_at_call 60;with_reducible exact Gp.o _)|(go_at_call 61;with_reducible exact sg.o _)))
 refine wpQuiet_nil ?_;rintro _ ⟨xq,rfl⟩;clear yS y1 y2 y3
 go_wp2_with fail
 go_ret
 exact⟨rfl,ae eQ.o xq.ext⟩
theorem CQ(s:Sys) (e rr:Nat) (hr:s.prob.rounds=rr) (vc vs vt:Value) (b o ne ce:Nat) (he:e<ne) (b2 o2 nv cv:Nat) (hv:rr<nv) (u:Value) (hu:∃ a n c,u=.slice a n c) (w:World) (c3:w.cell? ⟨b,o+e * 3+2,none⟩=some (.slice (some ⟨b2,o2,none⟩) nv cv)) (c4:w.cell? ⟨b2,o2+rr,none⟩=some u) :
  Calls Tryz.prog 46 #[.agg (bL s.prob vc vs s.n vt (.slice (some ⟨b,o,none⟩) ne ce)),.int .i64 e] w fun r w'=>r=.returned u/\Below w.heap.size w w':=by
 obtain⟨ua,un,uc,rfl⟩:=hu;have A9:bL s.prob vc vs s.n vt (.slice (some ⟨b,o,none⟩) ne ce)=#[.int .i64 s.prob.t.n,.int .i64 s.prob.t.ins,.int .i64 s.prob.t.outs,vc,.int .i64 s.prob.a.n,vs,.int .i64 (rr:Int),.int .i64 s.n,vt,.slice (some ⟨b,o,none⟩) ne ce]:=by rw[<-hr];rfl
 rw[A9];clear hr A9
 go_enter Tryz.func46,Tryz.ntmps46
 go_wp2_with fail
 refine bC (fun W=>Below w.heap.size w W/\∃ c,W.heap[w.heap.size]?=some (.cells c 35)/\c=#[.int .i64 s.prob.t.n,.int .i64 s.prob.t.ins,.int .i64 s.prob.t.outs,vc,.int .i64 s.prob.a.n,vs,.int .i64 (rr:Int),.int .i64 s.n,vt,.slice (some ⟨b,o,none⟩) ne ce]) ⟨by go_grown,_,ap _ _,rfl⟩ (fun W0 aX=>?_);obtain⟨aG,_,hA,rfl⟩:=aX;have eQ:=aa aG;have HA:=aa hA;have yS:∀ z:ExtW W0,∀ j,z.val.cell? ⟨w.heap.size,j,none⟩=_:=fun z=>ab (af z.ext HA.o)
 have y3:∀ z:ExtW W0,z.val.cell? ⟨b,o+e * 3+2,none⟩=_:=fun z=>ak (ae eQ.o z.ext) c3
 have y4:∀ z:ExtW W0,z.val.cell? ⟨b2,o2+rr,none⟩=_:=fun z=>ak (ae eQ.o z.ext) c4
 clear aG hA c3 c4;refine aB (by kernel_rfl) (by kernel_rfl) ?_
 repeat (go_big_quiet_step (fail))
 refine wpQuiet_nil ?_;rintro _ ⟨xq,rfl⟩;clear yS y3 y4
 go_wp2_with fail
 go_ret
 exact⟨rfl,ae eQ.o xq.ext⟩
theorem MZ(s:Sys) (hv:verifyE s=0) (vc vs vt ve vl:Value) (l:List Int) (w:World) (hs:IsSys w s vc vs vt ve) (hN:movesN s.prob.a.states<1099511627776) (hl:aQ w vl l) (hr:∀ k,k<l.length->0<=l.getD k 0/\l.getD k 0<(eS s:Int)) :
  Calls Tryz.prog 136 #[.agg (bL s.prob vc vs s.n vt ve),vl] w fun e w'=>∃ B,e=.returned (.tuple #[.pointer (some ⟨B,0,none⟩),.int .i64 0])/\Below w.heap.size w w'/\FinAt w' B s/\ie w' w.heap.size B s:=by
 have HS:=aa hs;have HL:=aa hl;have HR:=aa hr;obtain⟨⟨pc,cc,rfl⟩,⟨ps,cs,rfl⟩,⟨pt,ct,rfl⟩,⟨pe,ce,rfl⟩⟩:=bD hs;obtain⟨pl,cl,rfl,_,_,el⟩:=hl.at;have EL:=aa el;clear hs hl hr el;have HC:=aa (fun W (hb:Below w.heap.size w W)=>EF s _ _ _ _ W (HS.o.up hb) hN);have HV:=aa hv;clear hv
 go_enter Tryz.func136,Tryz.ntmps136
 go_wp2_with fail
 refine aO (fun W=>Below w.heap.size w W) (by go_grown) (fun W0 aG=>?_);refine(HC.o W0 aG).mono ?_;rintro e w1 ⟨v,rfl,aK,_,h2⟩;obtain⟨B,rfl,hF,hO⟩:=h2 HV.o;have HO:=aa (hO.mono aG.size);rw[HV.o];have df:=ae aG aK;have dz:=aa df;have HF:=aa hF;clear aG aK h2 hF hO df HC
 go_wp2_with fail
 go_loopw [20] (fun i wr=>∃ k:Nat,k<=l.length/\i=.int .i64 k/\Below w.heap.size w wr/\FinAt wr B s/\ie wr w.heap.size B s) (fun i _=>l.length - (intOf i).toNat)
 ·exact⟨0,by omega,rfl,dz.o,HF.o,HO.o⟩
 ·
  clear dz HF HO;obtain⟨k,hk,rfl,aA,hF,hO⟩:=hrel;have aV:=aa aA;have HF:=aa hF;have HO:=aa hO;clear hO;by_cases aC:k<l.length
  ·obtain⟨b1,o1,rfl,h1⟩:=EL.o k aC;rw[Nat.mul_one]at h1;have c1:=ak aA h1.1;have hx:=HR.o k aC;rw[az 0 aC]at hx;clear h1 aA hF;generalize l[k]=x at c1 hx;obtain⟨dk,dm⟩:=hx;have HT:=aa (CI s B x wr HF.o);rw[decide_eq_true dk,decide_eq_true dm]at HT;clear dk dm
   go_wp2_with fail
   refine HT.o.mono ?_;rintro e w2 ⟨rfl,aT⟩;clear c1
   go_wp2_with fail
   go_roundw
   ·exact⟨k+1,by omega,by go_num,ae aV.o aT,HF.o.up aT,HO.o.up aT⟩
   ·simp[intOf];omega
  ·clear aA hF
   go_wp2_with fail
   go_ret2
   exact⟨B,rfl,aV.o,HF.o,HO.o⟩
theorem wV(s:Sys):∀ k,l7 (eA s k)
 | 0=>pQ _ _
 | _+1=>pQ _ _
theorem CR(s:Sys) (hv:verifyE s=0) (hE:eS s<=256) (vc vs vt ve:Value) (w:World) (hs:IsSys w s vc vs vt ve) (hN:movesN s.prob.a.states<1099511627776) :
  Calls Tryz.prog 78 #[.agg (bL s.prob vc vs s.n vt ve)] w fun e w'=>∃ u,e=.returned (.tuple #[u,.int .i64 0])/\aQ w' u (partsS s)/\Below w.heap.size w w':=by
 have HS:=aa hs;obtain⟨⟨pc,cc,rfl⟩,⟨ps,cs,rfl⟩,⟨pt,ct,rfl⟩,⟨pe,ce,rfl⟩⟩:=bD hs;clear hs;have HC:=aa (fun W (hb:Below w.heap.size w W)=>EF s _ _ _ _ W (HS.o.up hb) hN);have eN:=gE hv;have HV:=aa hv;have dD:=aa eN;have kq:=eN.n.1;have jf:=eN.n.2.1;clear hv eN
 go_enter Tryz.func78,Tryz.ntmps78
 go_wp2_with fail
 refine aO (fun W=>Below w.heap.size w W) (by go_grown) (fun W0 aG=>?_);refine(HC.o W0 aG).mono ?_;rintro e w1 ⟨v,rfl,aK,_,h2⟩;obtain⟨B,rfl,hF,-⟩:=h2 HV.o;rw[HV.o];have df:=ae aG aK;have dz:=aa df;have HF:=aa hF;clear aG aK h2 hF df HC
 go_wp2_with fail
 have Te:=yP s dD.o hE B 0 (by omega) w1 HF.o;rw[show ((0:Nat):Int)=0 from rfl]at Te;refine Te.mono ?_;clear Te;rintro e w2 ⟨u,rfl,hu,aT⟩;have HU:=aa hu;obtain⟨au,cu,rfl,_⟩:=hu.at;rw[jA]at HU;have cf:=aa aT;clear hu aT
 go_wp2_with fail
 go_loopw [6,7] (fun o i wr=>∃ k:Nat,k<nS s/\i=.int .i64 ((k:Int)+1)/\Below w1.heap.size w1 wr/\∃ a c,o=.slice a (eS s) c/\aQ wr (.slice a (eS s) c) (eA s k)) (fun _ i _=>nS s+1 - (intOf i).toNat)
 ·exact⟨0,by omega,rfl,cf.o,_,_,by rw[jA],by exact HU.o⟩
 ·
  clear HU cf;obtain⟨k,hk,rfl,aA,a,c,rfl,hu⟩:=hrel;have aV:=aa aA;have HU:=aa hu;have hF:=HF.o.up aA;obtain⟨pl,cl,h1,_⟩:=hF.open;have t1:=ab h1 0;simp at t1;have wc:=aa hF;clear aA hu hF h1;by_cases aC:k+1<nS s
  ·have oD:(k:Int)+1<(nS s:Int):=by omega
   go_wp2_with fail
   have bW:=yP s dD.o hE B (k+1) aC wr wc.o;rw[show ((k+1:Nat):Int)=(k:Int)+1 by omega]at bW;refine bW.mono ?_;rintro e w3 ⟨u2,rfl,zi,bG⟩;have LM:=aa zi;obtain⟨a2,c2,rfl,_⟩:=zi.at;have dE:=aa bG;clear zi bG t1 bW;rw[jA]at LM ⊢
   go_wp2_with fail
   refine(Ps _ _ (eA s k) (classL s (k+1)) w3 (HU.o.up up_int dE.o) LM.o (wV s k) (pQ _ _) (by rw[jA,gV]) (by rw[gV];exact hE)).mono ?_;rintro e w4 ⟨u4,rfl,mj,bS⟩;have wz:=aa mj;obtain⟨a4,c4,rfl,_⟩:=mj.at;have fL:(k9 (eA s k) (classL s (k+1))).length=eS s:=gV s (k+1);rw[fL]at wz ⊢;have eE:=aa bS;clear mj bS fL
   go_wp2_with fail
   go_roundw
   ·exact⟨k+1,aC,by go_num,ae aV.o (ae dE.o eE.o),a4,c4,rfl,wz.o⟩
   ·simp[intOf];omega
  ·have oD:¬ (k:Int)+1<(nS s:Int):=by omega
   have HK:am (partsS s=eA s k):=aa (by unfold partsS;rw[show nS s - 1=k by omega])
   go_wp2_with fail
   go_ret2
   exact⟨_,rfl,by rw[HK.o];exact HU.o,ae dz.o aV.o⟩
abbrev WB(s:Sys) (vc vs vt ve vv vl:Value):Array Value:=bL s.prob vc vs s.n vt ve++#[vv,vl]
theorem Sh{w:World} {v:Value} {l:List Int} (h:aQ w v l) {B o:Nat} {c:Array Value} {ty:TypeId} {fz:Nat × Nat} (hB:w.heap[B]?=some (.cells c ty fz)) (hy:∀ x:Int,c[o]?≠some (.int .i64 x)) (x:Value):aQ (w.setCell ⟨B,o,none⟩ x) v l:=by
 obtain⟨a,cap,e,h1,h2,h3⟩:=h;refine⟨a,cap,e,h1,h2,fun i z hi=>?_⟩;obtain⟨b,o',e1,h4,h5⟩:=h3 i z hi;refine⟨b,o',e1,?_,h5⟩;have h4:w.cell? ⟨b,o'+i * 1,none⟩=some (.int .i64 z):=h4;by_cases hb:b=B
 ·subst hb;rw[ab hB]at h4;rw[ab (aI hB o x),Array.getElem?_setIfInBounds];split
  ·rename_i h6;rw[<-h6]at h4;exact absurd h4 (hy z)
  ·exact h4
 ·have:(w.setCell ⟨B,o,none⟩ x).cell? ⟨b,o'+i * 1,none⟩=w.cell? ⟨b,o'+i * 1,none⟩:=by
   unfold World.cell?;rw[Below.heap_setCell _ _ _ _ hb]
  exact this.trans h4
theorem KR(a:Bool):vj 0 a=.tuple #[.bool a,.int .i64 0]:=by simp[vj]
theorem od(s:Sys) (hE:eS s<=256) (vc vs vt ve:Value) (w:World) (hs:IsSys w s vc vs vt ve) (hN:movesN s.prob.a.states<1099511627776) :
  Calls Tryz.prog 38 #[.agg (bL s.prob vc vs s.n vt ve)] w fun r w'=>∃ v,r=.returned (.tuple #[v,.int .i64 (readyE s)])/\Below w.heap.size w w'/\(readyE s≠0->v=.pointer none)/\(readyE s=0->∃ B,v=.pointer (some ⟨B,0,none⟩)/\w.heap.size<=B/\ScAt w' B s):=by
 have HS:=aa hs;obtain⟨⟨pc,cc,rfl⟩,⟨ps,cs,rfl⟩,⟨pt,ct,rfl⟩,⟨pe,ce,rfl⟩⟩:=bD hs;clear hs;have HC:=aa (fun W (hb:Below w.heap.size w W)=>lS s _ _ _ _ W (HS.o.up hb) hN);have Ge:=aa (fun W (hb:Below w.heap.size w W)=>GW s.prob.t _ W (HS.o.up hb).cases);have XY:=aa (fun (hv:verifyE s=0) W (hb:Below w.heap.size w W)=>CR s hv hE _ _ _ _ W (HS.o.up hb) hN);obtain⟨i0,cX,cD,bX,cF⟩:=info_parts Tryz.infoInt;have cB:=aa (And.intro cX (And.intro cD (And.intro bX cF)));have cO:am (verifyE s≠0->readyE s=verifyE s):=aa fun h=>by unfold readyE;rw[if_pos h]
 have eh:am (verifyE s=0->agreeB s.prob.t=false->readyE s=11):=aa fun h h2=>by unfold readyE;rw[if_neg (by omega),h2];rfl
 have fT:am (verifyE s=0->agreeB s.prob.t=true->readyE s=0):=aa fun h h2=>by unfold readyE;rw[if_neg (by omega),h2];rfl
 have kU:am (verifyE s=0->taskE s.prob.t=0):=aa fun h=>(pS (gE h).prob).1
 obtain⟨re,kg⟩:∃ re,readyE s=re:=⟨_,rfl⟩;rw[kg]at cO eh fT ⊢;clear kg cX cD bX cF
 go_enter Tryz.func38,Tryz.ntmps38
 go_wp2_with fail
 refine aO (fun W=>Below w.heap.size w W/\∃ c,W.heap[w.heap.size]?=some (.cells c 35)/\c=bL s.prob _ _ s.n _ _) ⟨by go_grown,_,ap _ _,rfl⟩ (fun W0 aX=>?_);obtain⟨aG,_,hA,rfl⟩:=aX;refine(HC.o W0 aG).mono ?_;rintro e w1 ⟨rfl,aK⟩;have eW:=af aK hA;have du:=aa eW;have bI:=aa (ae aG aK);have fZ:=bI.o.size;have je:=aD eW;clear hA eW aG aK HC;by_cases hv:verifyE s=0
 case neg=>
  have HV:=aa (cO.o hv);obtain⟨ev,my⟩:∃ ev,verifyE s=ev:=⟨_,rfl⟩;rw[my]at hv HV ⊢;have DM:(ev != 0)=true:=by simpa using hv
  have iO:=aa hv;clear hv my
  go_wp2_with fail
  go_ret2
  exact⟨_,by rw[HV.o];rfl,bI.o,fun _=>rfl,fun h=>absurd (HV.o.symm.trans h) iO.o⟩
 have HV:=aa hv;have XN:=aa (kU.o hv);have dD:=aa (gE hv);rw[hv];clear hv;have tS:=ab du.o
 go_wp2_with fail
 clear tS;refine(Ge.o w1 bI.o).mono ?_;rintro e w2 ⟨rfl,aT⟩;rw[XN.o,KR];have cf:=aa (ae bI.o aT);have oT:=aa (af aT du.o);have nK:=aT.size;clear aT du;cases A9:agreeB s.prob.t with
 | false=>
  have dd:=aa (eh.o HV.o A9);clear A9
  go_wp2_with fail
  go_ret2
  exact⟨_,by rw[dd.o];rfl,cf.o,fun _=>rfl,fun h=>by have:=dd.o;omega⟩
 | true=>
  have dd:=aa (fT.o HV.o A9);have AR:=aa (fun e (he:e<eS s) pw nw cw vv W (hb:Below w.heap.size w W)=>R6 s dD.o A9 e he _ pw nw cw vv W (HS.o.up hb).cases);have wm:=aa HS.o.ex;have HK:am (∀ k,k<eS s->_):=aa (fun k (hk:k<eS s)=>gy dD.o wm.o hk)
  have iv:am (∀ k,k<=eS s->∀ x∈(List.range k).map (fun e=>((il s e:Nat):Int)),bR x):=aa (fun k _ x hx=>by
   obtain⟨e,_,rfl⟩:=List.mem_map.1 hx;have:=ik (valB s e) 8;unfold il
   exact⟨by omega,by omega⟩)
  obtain⟨L,hL⟩:∃ L:Nat->List Int,L=fun k=>(List.range k).map (fun e=>((il s e:Nat):Int)):=⟨_,rfl⟩
  have HL:am (L 0=[]/\(∀ k,L (k+1)=L k++[((il s k:Nat):Int)])/\L (eS s)=Eo s/\(∀ k,(L k).length=k)/\∀ k,k<=eS s->∀ x∈L k,bR x):=aa (by
   subst hL
   exact⟨rfl,fun k=>by simp[List.range_succ],rfl,fun k=>by simp,iv.o⟩)
  clear hL A9;obtain⟨m,hm⟩:∃ m,eS s=m:=⟨_,rfl⟩;have HM:=aa hm;have kh:s.ex.length=m:=hm;have tS:=ab oT.o;have t9:∀ o,(w2.alloc o).cell? ⟨w.heap.size,9,none⟩=some (.slice pe m ce):=fun o=>(ab (ar o oT.o) 9).trans (by rw[<-kh];rfl)
  rw[hm]at hE HK HL;clear hm kh
  go_wp2_with fail
  clear tS t9;refine bC (fun W=>Below w2.heap.size w2 W/\∃ c,W.heap[w2.heap.size]?=some (.cells c 98)/\c=WB s (.slice pc s.prob.t.cases.length cc) (.slice ps s.prob.a.states.length cs) (.slice pt s.tab.length ct) (.slice pe s.ex.length ce) (.slice none 0 0) (.slice none 0 0)) ⟨by go_grown,_,ap _ _,rfl⟩ (fun W3 mz=>?_);obtain⟨bG,_,wj,rfl⟩:=mz;have Qi:w.heap.size<w2.heap.size:=aD oT.o;obtain⟨B,Xs⟩:∃ B,w2.heap.size=B:=⟨_,rfl⟩;rw[Xs]at wj Qi ⊢;have za:=aa Xs;have Ju:=aa (And.intro bG wj);clear bG wj Xs
  go_loopw [37] (fun i wr=>∃ k:Nat,k<=m/\i=.int .i64 k/\Below w2.heap.size w2 wr/\∃ lv,wr.heap[B]?=some (.cells (WB s (.slice pc s.prob.t.cases.length cc) (.slice ps s.prob.a.states.length cs) (.slice pt s.tab.length ct) (.slice pe s.ex.length ce) lv (.slice none 0 0)) 98)/\aJ wr w2.heap.size 3 1 lv k ((L k).map (Value.int .i64))) (fun i _=>m - (intOf i).toNat)
  ·exact⟨0,by omega,rfl,Ju.o.1,_,Ju.o.2,by rw[HL.o.1];exact aJ.nil _ _ _ _⟩
  ·
   clear Ju;obtain⟨k,hk,rfl,aA,lv,hB,bd⟩:=hrel;obtain⟨al,cl,rfl⟩:=bd.slice;have HB:=aa hB;have bO:=aa bd;have aV:=aa aA;have uu:=af aA oT.o;have Be:=aa uu;have df:=ae cf.o aA;have dz:=aa df;have AY:=aA.size;have ww:=aD hB;by_cases aC:k<m
   ·obtain⟨b,o,_,ce',e0,rfl,pw,nw,cw,pv,cv,c1,c2,c3,li,eV,fU,-⟩:=HK.o k aC;injection e0 with e01 e02 e03
    subst e01;have xd:nw<=6:=by have:=dD.o.rounds;omega
    clear e02 e03;have d1:=ak df c1;have d2:=ak df c2;have d3:=ak df c3;have tA:∀ o' j,(wr.alloc o').cell? ⟨w.heap.size,j,none⟩=(bL s.prob (.slice pc s.prob.t.cases.length cc) (.slice ps s.prob.a.states.length cs) s.n (.slice pt s.tab.length ct) (.slice (some ⟨b,o,none⟩) s.ex.length ce))[j]?:=fun o' j=>ab (ar o' uu) j
    have gr:=aa (fun W (hb:Below w.heap.size w W)=>AR.o k (by rw[HM.o];exact aC) pw nw cw (.slice pv (s.prob.rounds.toNat+1) cv) W hb xd (fun h=>by obtain⟨b1,o1,q1,q2⟩:=eV h;exact⟨b1,o1,q1,ak hb q2⟩) fU);clear bd aA uu df c1 c2 c3 li eV fU hB
    go_wp2_with fail
    refine aO (fun W=>Below wr.heap.size wr W) (by go_grown) (fun W4 bS=>?_);refine(gr.o W4 (ae dz.o bS)).mono ?_;rintro r w5 ⟨rfl,dS⟩;have gz:=ae bS dS;have mx:=aa (af gz HB.o);have tB:w5.cell? ⟨B,10,none⟩=some (.slice al k cl):=(ab mx.o 10).trans rfl;have DE:=aa ((bO.o.up gz).up ((Below.refl _ w5).alloc (Nat.le_refl _) (.cells #[.int .i64 ((il s k:Nat):Int)] 3)));have bF:=aa (dQ w5 [.int .i64 ((il s k:Nat):Int)] 3);have qK:=aa (ae aV.o gz);have kw:am (k+1<=maxLen):=aa (by unfold maxLen;omega);have fc:am ((k+1) * 8<=140737488355328):=aa (by omega);have gu:am (w2.heap.size<=(w5.alloc (.cells #[.int .i64 ((il s k:Nat):Int)] 3)).heap.size):=aa (by have:=qK.o.size;simp;omega);clear bS dS gz tA d1 d2 d3 gr
    go_wp2_with (at_builtin;(refine bg _ rfl (.tmp 56) (.tmp 58) 38 rfl w2.heap.size 3 i0 _ 1 8 Tryz.underlying38 cB.o.1 cB.o.2.1 cB.o.2.2.1 cB.o.2.2.2 rfl (by decide) _ k _ rfl DE.o ⟨w5.heap.size,0,none⟩ 1 1 [.int .i64 ((il s k:Nat):Int)] rfl rfl bF.o (by simp[Value.oneCell']) kw.o fc.o gu.o ?_;intro v6 w6 fh eF _;obtain⟨av6,cv6,rfl⟩:=fh.slice;have UC:=im DE.o eF mx.o (by decide);have c6:w6.cell? ⟨B,10,none⟩=some _:=(ab UC 10).trans rfl;have f6:=aH UC 10))
    go_roundw
    ·
     refine⟨k+1,by omega,by go_num,(Cr qK.o qK.o.size (Nat.le_refl _) DE.o eF).setCell (by dsimp only;rw[za.o];exact Nat.le_refl _) _,.slice av6 (k+1) cv6,?_,?_⟩
     ·rw[aI UC];rfl
     ·rw[HL.o.2.1 k,List.map_append];exact fh.put (fh.ne UC (by decide)) _ _
    ·simp[intOf];omega
   ·obtain rfl:k=m:=by omega
    have tA:∀ j,wr.cell? ⟨w.heap.size,j,none⟩=_:=fun j=>ab uu j
    clear bd aA uu df hB
    go_wp2_with fail
    refine(XY.o HV.o wr dz.o).mono ?_;rintro r w4 ⟨u,rfl,hu,bS⟩;have wh:=af bS HB.o;have c4:w4.cell? ⟨B,11,none⟩=some _:=(ab wh 11).trans rfl;have f4:=aH wh 11;obtain⟨au,cu,rfl,_⟩:=hu.at;have HU:=aa hu;have eE:=aa wh;have kP:=aa bS;clear tA hu wh bS
    go_wp2_with fail
    go_ret2
    have Dn:Below w.heap.size w (w4.setCell ⟨B,11,none⟩ (.slice au (partsS s).length cu)):=(ae dz.o kP.o).setCell (by dsimp only;omega) _;refine⟨_,by rw[dd.o];rfl,Dn,fun h=>absurd dd.o h,fun _=>⟨B,rfl,by omega,⟨.slice pc s.prob.t.cases.length cc,.slice ps s.prob.a.states.length cs,.slice pt s.tab.length ct,.slice pe s.ex.length ce,.slice al k cl,.slice au (partsS s).length cu,(aI eE.o 11 (.slice au (partsS s).length cu)).trans rfl,HS.o.up Dn,?_,?_⟩⟩⟩
    ·have h1:=(bO.o.up kP.o).put ((bO.o.up kP.o).ne eE.o (by decide)) 11 (.slice au (partsS s).length cu);have h2:=HL.o.2.2.1;have h3:=HL.o.2.2.2.1 k;rw[h2]at h1 h3;exact gp (l:=Eo s) (base:=w2.heap.size) (by rw[h3];exact h1) (by rw[<-h2];exact HL.o.2.2.2.2 k (Nat.le_refl _)) (by omega)
    ·exact Sh HU.o eE.o (by intro x;simp) _
def tk(s:Sys) (e f:Nat):Bool:=eZ s e f&&decide (f≠e)
def ge(s:Sys) (e k:Nat):List Nat:=(List.range k).filter (tk s e)
def ef(s:Sys) (e:Nat):List Nat:=ge s e (eS s)
theorem wW{s:Sys} {e k:Nat} (h:tk s e k=true):ge s e (k+1)=ge s e k++[k]:=by
 unfold ge;rw[List.range_succ,List.filter_append];simp[h]
theorem Ac{s:Sys} {e k:Nat} (h:tk s e k=false):ge s e (k+1)=ge s e k:=by
 unfold ge;rw[List.range_succ,List.filter_append];simp[h]
theorem Si{s:Sys} {e:Nat}:∀ {k m:Nat},k<=m->ge s e k <+: ge s e m:=fun {k m} h=>by
 induction m with
 | zero=>obtain rfl:k=0:=by omega
         exact List.prefix_refl _
 | succ m ih=>
  by_cases e1:k=m+1
  ·subst e1;exact List.prefix_refl _
  ·refine(ih (by omega)).trans ?_;cases hb:tk s e m with
   | true=>rw[wW hb];exact List.prefix_append _ _
   | false=>rw[Ac hb];exact List.prefix_refl _
theorem WC{s:Sys} {e k:Nat} (hk:k<eS s) (h:tk s e k=true):(ge s e k).length<(ef s e).length/\(ef s e).getD (ge s e k).length 0=k:=by
 have h1:ge s e (k+1) <+: ef s e:=Si (by omega);rw[wW h]at h1;obtain⟨t,ht⟩:=h1;rw[<-ht];refine⟨by simp,?_⟩;rw[List.append_assoc,List.getD_eq_getElem?_getD,List.getElem?_append_right (Nat.le_refl _)];simp
theorem rF{s:Sys} {e f:Nat}:f∈ef s e↔f<eS s/\eZ s e f=true/\f≠e:=by
 simp[ef,ge,tk]
def IU(s:Sys) (e:Nat) (i:Nat):Array Value:=#[.int .i64 ((ef s e).getD i 0:Nat),.int .i64 (byP s e ((ef s e).getD i 0))]
theorem vE(B e:Nat) (w:World) :
  Calls Tryz.prog 138 #[.pointer (some ⟨B,0,none⟩),.int .i64 e] w fun r w'=>r=.returned (.func (.func 179) #[] #[.pointer (some ⟨w.heap.size,0,none⟩),.pointer (some ⟨w.heap.size+1,0,none⟩)])/\w'=(w.alloc (.cells #[.pointer (some ⟨B,0,none⟩)] 196)).alloc (.cells #[.int .i64 e] 3):=by
 go_enter Tryz.func138,Tryz.ntmps138
 go_wp2
 go_ret
 exact⟨rfl,rfl⟩
def gG(S:Nat->Prop) (w w':World):Prop:=∀ k,S k->w'.heap[k]?=w.heap[k]?
theorem gG.trans{S:Nat->Prop} {a b c:World} (h:gG S a b) (k:gG S b c):gG S a c:=fun i hi=>(k i hi).trans (h i hi)
theorem gG.cell{S:Nat->Prop} {w w':World} (h:gG S w w') {b:Nat} (hb:S b) {o:Nat}:w'.cell? ⟨b,o,none⟩=w.cell? ⟨b,o,none⟩:=by
 have:=h b hb;unfold World.cell?;rw[this]
theorem tm(s:Sys) (hs:SysOk s) (B e bx be:Nat) (he:e<eS s) (base:Nat) (w0:World) (h:ie w0 base B s) (w:World) (aG:∀ k,base<=k->k<w0.heap.size->w.heap[k]?=w0.heap[k]?) (mY:w0.heap.size<=w.heap.size) (hx:w.cell? ⟨bx,0,none⟩=some (.pointer (some ⟨B,0,none⟩))) (hy:w.cell? ⟨be,0,none⟩=some (.int .i64 e)) :
  sE Tryz.prog 179 #[.pointer (some ⟨bx,0,none⟩),.pointer (some ⟨be,0,none⟩)] (IU s e) (ef s e).length (fun k=>(base<=k/\k<w0.heap.size)\/k=bx\/k=be) w:=by
 intro yl J Jx W hW hJ oU hY h0;have lm:=fx hx;have jm:=fx hy;have ff:gG (fun k=>(base<=k/\k<w0.heap.size)\/k=bx\/k=be) w W:=fun k hk=>hW.block k (by rcases hk with hk|rfl|rfl<;>first|omega|assumption)
 obtain⟨pl,cl,h1,-⟩:=(h.at hs).open;have Qi:=h.1;have H1:=aa h1;have HX:=aa hx;have Ue:=aa hy;have jO:=aa h;have HJ:=aa hJ;have Jr:=aa oU;have HY:=aa hY;have H0:=aa h0;have it:am (∀ (W:World) (f:Nat),f<eS s->FinAt W B s->_):=aa fun W f (hf:f<eS s) (h:FinAt W B s)=>AI s hs B e f he hf W h
 have HKF:am (∀ W:World,gG (fun k=>(base<=k/\k<w0.heap.size)\/k=bx\/k=be) w W->FinAt W B s):=aa (fun W zm=>by exact(h.keep fun k h1 h2=>(zm k (.inl ⟨h1,h2⟩)).trans (aG k h1 h2)).at hs);have tx:=(ff.cell (.inr (.inl rfl))).trans hx;have tF:W.cell? ⟨B,1,none⟩=some (.slice pl (eS s) cl):=(ab ((ff B (.inl ⟨Qi,aD h1⟩)).trans ((aG B Qi (aD h1)).trans h1)) 1).trans rfl;have um:=aa ff;have HN:am (∀ k,k<eS s->tk s e k=true->(ge s e k).length<(ef s e).length/\(ef s e).getD (ge s e k).length 0=k):=aa fun k hk h=>WC hk h
 have jv:am ((ge s e (eS s)).length=(ef s e).length):=aa rfl;have jf:=hs.n.2.1
 have fc:am (∀ f,eZ s e f=true->0<=byP s e f/\byP s e f<nS s/\(∀ j,j<(byP s e f).toNat->linkB s j e f=false)/\linkB s (byP s e f).toNat e f=true):=aa (fun f hf=>by
  obtain⟨g1,g2,g3⟩:=D7 hf;refine⟨g1,g2,fun j hj=>?_,g3⟩;unfold byP at hj;rcases bE (nS s) (fun p=>linkB s p e f) with ⟨e1,_⟩|⟨k,hk,e1,_,h2⟩
  ·rw[e1]at hj;simp at hj
  ·rw[e1,Int.toNat_natCast]at hj;exact h2 j hj)
 have DL:=hs;clear h1 hx hy h aG lm jm mY Qi hJ oU hY h0 ff hs;obtain⟨m,hm⟩:∃ m,eS s=m:=⟨_,rfl⟩;have hcount:=DL.count;rw[hm]at HN jv he tF it hcount;clear hm DL;refine(callsIn_wide (n:=0)).1 ?_;refine callsIn_of_wp Tryz.func179 rfl trivial ?_ rfl;simp only[Tryz.ntmps179,List.size_toArray,List.length_cons,List.length_nil,Nat.reduceAdd,Nat.reduceSub,Array.replicate_succ,Array.replicate_zero,List.push_toArray,List.append_toArray,List.nil_append,List.cons_append]
 gi_wp2
 clear tx tF
 gi_loopw [12] (fun i wr=>∃ k:Nat,k<=m/\i=.int .i64 k/\gG (fun k=>(base<=k/\k<w0.heap.size)\/k=bx\/k=be) w wr/\J (ge s e k).length wr) (fun i _=>m - (intOf i).toNat)
 ·exact⟨0,by omega,rfl,um.o,H0.o⟩
 ·
  obtain⟨k,hk,rfl,gc,hj⟩:=hrel;have kr:=aa gc;have jo:=aa hj;clear hj;by_cases aC:k<m
  ·have tx:=(gc.cell (.inr (.inl rfl))).trans HX.o;have ty:=(gc.cell (.inr (.inr rfl))).trans Ue.o;have HL:=aa (it.o wr k aC (HKF.o wr gc));obtain⟨set,lG⟩:∃ set,maskN (fun p=>linkB s p e k) (nS s)=set:=⟨_,rfl⟩;rw[lG]at HL;have dr:=aa lG;have hz:set=0↔eZ s e k=false:=by rw[<-lG,nT];rfl
   clear gc lG
   gi_wp2
   refine⟨trivial,rfl,callsIn_wide.2 (HL.o.mono ?_)⟩;rintro r w1 ⟨rfl,rfl⟩;by_cases hb:eZ s e k=true
   ·have NC:¬ ((set:Int)=0):=fun h=>by have:=hz.1 (by omega);rw[hb]at this;cases this
    have DL:((set:Int) == 0)=false:=by simpa using NC
    by_cases uf:e=k
    ·have fk:am ((ge s e (k+1)).length=(ge s e k).length):=aa (by rw[Ac (by unfold tk;rw[decide_eq_false (show ¬ (k≠e) from fun h=>h uf.symm),Bool.and_false])]);have Ty:((e:Int) == (k:Int))=true:=by rw[uf];simp
     clear hz NC uf hb
     gi_wp2
     go_roundw
     ·exact⟨k+1,by omega,by go_num,kr.o,by rw[fk.o];exact jo.o⟩
     ·simp[intOf];omega
    ·have iP:tk s e k=true:=by unfold tk;rw[hb,decide_eq_true (show k≠e from fun h=>uf h.symm)];rfl
     have ju:am ((ge s e (k+1)).length=(ge s e k).length+1):=aa (by rw[wW iP];simp);obtain⟨kq,oM⟩:=HN.o k aC iP;have Ty:((e:Int) == (k:Int))=false:=by simp;omega
     obtain⟨g1,g2,g3,g4⟩:=fc.o k hb;obtain⟨p0,vP⟩:∃ p0:Nat,byP s e k=p0:=⟨(byP s e k).toNat,by omega⟩;rw[vP,Int.toNat_natCast]at g3 g4;have eQ:am (∀ p,p<p0->hasB (set:Nat) p=false):=aa (fun p hp=>by rw[<-dr.o,nd,g3 p hp,Bool.and_false]);have bI:am (hasB (set:Nat) p0=true):=aa (by rw[<-dr.o,nd,g4,decide_eq_true (by omega)];rfl);have B5:am (IU s e (ge s e k).length=#[.int .i64 k,.int .i64 p0]):=aa (by unfold IU;rw[oM,vP]);have zu:p0<5:=by omega
     obtain⟨c,hc⟩:∃ c,(ge s e k).length=c:=⟨_,rfl⟩;rw[hc]at kq B5 ju jo;clear hz NC uf hb iP oM g1 g2 g3 g4 vP hc
     gi_wp2
     gi_loop [6] (fun x=>∃ p:Nat,p<=p0/\x=.int .i64 p) (fun x=>p0 - (intOf x).toNat)
     ·exact⟨0,by omega,rfl⟩
     ·
      obtain⟨p,hp,rfl⟩:=hrel;have gR:=sJ (set:Nat) p;by_cases hpp:p=p0
      ·subst hpp;rw[bI.o]at gR;obtain⟨fn,tmps,assign,body,pz,hR⟩:=HY.o c wr kq jo.o;rw[B5.o]at pz;have HR:=aa hR;clear hR
       gi_wp2
       refine⟨rfl,HR.o.mono ?_⟩;rintro e W3 (⟨rfl,Do,DC,iw⟩|⟨rfl,sy⟩)
       ·gi_wp2
        go_roundw
        ·exact⟨k+1,by omega,by go_num,gG.trans kr.o iw,by rw[ju.o];exact Do⟩
        ·simp[intOf];omega
       ·gi_wp2
        refine bodyPost_ret (results_none rfl _ _ _) rfl ?_;exact⟨⟨_,rfl⟩,.inr ⟨_,by omega,sy⟩⟩
      ·rw[eQ.o p (by omega)]at gR
       gi_wp2
       go_round
       ·exact⟨p+1,by omega,by go_num⟩
       ·simp[intOf];omega
   ·have fS:eZ s e k=false:=by simpa using hb
    obtain rfl:=hz.2 fS;have fk:am ((ge s e (k+1)).length=(ge s e k).length):=aa (by rw[Ac (by unfold tk;rw[fS];rfl)]);clear hz hb fS
    gi_wp2
    go_roundw
    ·exact⟨k+1,by omega,by go_num,kr.o,by rw[fk.o];exact jo.o⟩
    ·simp[intOf];omega
  ·obtain rfl:k=m:=by omega
   gi_wp2
   go_end0
   exact⟨⟨_,rfl⟩,.inl (by rw[<-jv.o];exact jo.o)⟩
def gH(parts:List Int) (label:Int) (k:Nat):List Nat:=(List.range k).filter fun e=>decide (parts.getD e 0=label)
theorem tp{p:List Int} {x:Int} {k:Nat} (h:p.getD k 0=x):gH p x (k+1)=gH p x k++[k]:=by
 unfold gH;rw[List.range_succ,List.filter_append];simpa using h
theorem BS{p:List Int} {x:Int} {k:Nat} (h:p.getD k 0≠x):gH p x (k+1)=gH p x k:=by
 unfold gH;rw[List.range_succ,List.filter_append];simpa using h
theorem PS{p:List Int} {x:Int}:∀ {k m:Nat},k<=m->gH p x k <+: gH p x m:=fun {k m} h=>by
 induction m with
 | zero=>obtain rfl:k=0:=by omega
         exact List.prefix_refl _
 | succ m ih=>
  by_cases e1:k=m+1
  ·subst e1;exact List.prefix_refl _
  ·refine(ih (by omega)).trans ?_;by_cases hb:p.getD m 0=x
   ·rw[tp hb];exact List.prefix_append _ _
   ·rw[BS hb];exact List.prefix_refl _
theorem VL{p:List Int} {x:Int} {k:Nat} (hk:k<p.length) (h:p.getD k 0=x):(gH p x k).length<(memL p x).length/\(memL p x).getD (gH p x k).length 0=k:=by
 have h1:gH p x (k+1) <+: memL p x:=PS (by omega);rw[tp h]at h1;obtain⟨t,ht⟩:=h1;rw[<-ht];refine⟨by simp,?_⟩;rw[List.append_assoc,List.getD_eq_getElem?_getD,List.getElem?_append_right (Nat.le_refl _)];simp
def wX(l:List Nat) (i:Nat):Array Value:=#[.int .i64 (l.getD i 0:Nat)]
theorem xE(B:Nat) (x:Int) (w:World) :
  Calls Tryz.prog 85 #[.pointer (some ⟨B,0,none⟩),.int .i64 x] w fun r w'=>r=.returned (.func (.func 135) #[] #[.pointer (some ⟨w.heap.size,0,none⟩),.pointer (some ⟨w.heap.size+1,0,none⟩)])/\w'=(w.alloc (.cells #[.pointer (some ⟨B,0,none⟩)] 94)).alloc (.cells #[.int .i64 x] 3):=by
 go_enter Tryz.func85,Tryz.ntmps85
 go_wp2
 go_ret
 exact⟨rfl,rfl⟩
theorem vF(s:Sys) (B bx be:Nat) (x:Int) (w0:World) (h:ScAt w0 B s) (w:World) (aG:Below w0.heap.size w0 w) (hx:w.cell? ⟨bx,0,none⟩=some (.pointer (some ⟨B,0,none⟩))) (hy:w.cell? ⟨be,0,none⟩=some (.int .i64 x)) :
  sE Tryz.prog 135 #[.pointer (some ⟨bx,0,none⟩),.pointer (some ⟨be,0,none⟩)] (wX (memL (partsS s) x)) (memL (partsS s) x).length (fun k=>k<w0.heap.size\/k=bx\/k=be) w:=by
 intro yl J Jx W hW hJ oU hY h0;have lm:=fx hx;have jm:=fx hy;have mY:=aG.size;have ff:gG (fun k=>k<w0.heap.size\/k=bx\/k=be) w W:=fun k hk=>hW.block k (by rcases hk with hk|rfl|rfl<;>first|omega|assumption)
 obtain⟨vc,vs,vt,ve,vv,vl,h1,_,_,h2⟩:=h.ex;obtain⟨pl,cl,rfl,lt1,lt2,el⟩:=h2.at;have H1:=aa h1;have HX:=aa hx;have Ue:=aa hy;have HJ:=aa hJ;have Jr:=aa oU;have HY:=aa hY;have H0:=aa h0;have tx:=(ff.cell (.inr (.inl rfl))).trans hx;have zL:∀ k,k<w0.heap.size->w.heap[k]?=w0.heap[k]?:=fun k hk=>aG.block k hk
 have LK:=aa zL;have tF:W.cell? ⟨B,11,none⟩=some (.slice pl (partsS s).length cl):=(ab ((ff B (.inl (aD h1))).trans ((aG.block B (aD h1)).trans h1)) 11).trans rfl;have um:=aa ff;have Dr:am (∀ k,k<(partsS s).length->(partsS s).getD k 0=x->(gH (partsS s) x k).length<(memL (partsS s) x).length/\(memL (partsS s) x).getD (gH (partsS s) x k).length 0=k):=aa fun k hk h=>VL hk h
 have ju:am (∀ k,(partsS s).getD k 0=x->(gH (partsS s) x (k+1)).length=(gH (partsS s) x k).length+1):=aa fun k h=>by rw[tp h];simp
 have fk:am (∀ k,(partsS s).getD k 0≠x->(gH (partsS s) x (k+1)).length=(gH (partsS s) x k).length):=aa fun k h=>by rw[BS h]
 have jv:am ((gH (partsS s) x (partsS s).length).length=(memL (partsS s) x).length):=aa rfl
 have EL:am (∀ (V:World),gG (fun k=>k<w0.heap.size\/k=bx\/k=be) w V->∀ i,i<(partsS s).length->∃ b o,pl=some ⟨b,o,none⟩/\V.cell? ⟨b,o+i,none⟩=some (.int .i64 ((partsS s).getD i 0))):=aa (fun V hV i hi=>by
  obtain⟨b,o,e1,c1,_⟩:=el i hi;rw[Nat.mul_one,<-az 0 hi]at c1;have aC:=fx c1;refine⟨b,o,e1,?_⟩;rw[hV.cell (.inl aC),<-c1];unfold World.cell?
  rw[zL b aC])
 clear h1 hx hy h aG lm jm mY hJ oU hY h0 ff h2 el zL;obtain⟨n,hn⟩:∃ n,(partsS s).length=n:=⟨_,rfl⟩;rw[hn]at Dr jv EL lt1 lt2 tF;clear hn;refine(callsIn_wide (n:=0)).1 ?_;refine callsIn_of_wp Tryz.func135 rfl trivial ?_ rfl;simp only[Tryz.ntmps135,List.size_toArray,List.length_cons,List.length_nil,Nat.reduceAdd,Nat.reduceSub,Array.replicate_succ,Array.replicate_zero,List.push_toArray,List.append_toArray,List.nil_append,List.cons_append]
 gi_wp2
 clear tx tF
 gi_loopw [11] (fun i wr=>∃ k:Nat,k<=n/\i=.int .i64 k/\gG (fun k=>k<w0.heap.size\/k=bx\/k=be) w wr/\J (gH (partsS s) x k).length wr) (fun i _=>n - (intOf i).toNat)
 ·exact⟨0,by omega,rfl,um.o,H0.o⟩
 ·
  obtain⟨k,hk,rfl,gc,hj⟩:=hrel;have kr:=aa gc;have jo:=aa hj;clear hj;by_cases aC:k<n
  ·obtain⟨b1,o1,rfl,c1⟩:=EL.o wr gc k aC;have ty:=(gc.cell (.inr (.inr rfl))).trans Ue.o;clear gc;by_cases hx:(partsS s).getD k 0=x
   ·have Qr:=aa (ju.o k hx);obtain⟨kq,oM⟩:=Dr.o k aC hx;have B5:am (wX (memL (partsS s) x) (gH (partsS s) x k).length=#[.int .i64 k]):=aa (by unfold wX;rw[oM]);rw[hx]at c1;obtain⟨c,hc⟩:∃ c,(gH (partsS s) x k).length=c:=⟨_,rfl⟩;rw[hc]at kq B5 Qr jo;clear oM hx hc;have lJ:(x == x)=true:=by simp
    obtain⟨fn,tmps,assign,body,pz,hR⟩:=HY.o c wr kq jo.o;rw[B5.o]at pz;have HR:=aa hR;clear hR
    gi_wp2
    refine⟨rfl,HR.o.mono ?_⟩;rintro e W3 (⟨rfl,Do,DC,iw⟩|⟨rfl,sy⟩)
    ·gi_wp2
     go_roundw
     ·exact⟨k+1,by omega,by go_num,gG.trans kr.o iw,by rw[Qr.o];exact Do⟩
     ·simp[intOf];omega
    ·gi_wp2
     refine bodyPost_ret (results_none rfl _ _ _) rfl ?_;exact⟨⟨_,rfl⟩,.inr ⟨_,by omega,sy⟩⟩
   ·have nr:=aa (fk.o k hx);have lJ:((partsS s).getD k 0 == x)=false:=beq_eq_false_iff_ne.2 hx;generalize (partsS s).getD k 0=y at c1 lJ;clear hx
    gi_wp2
    refine⟨fun f hf=>(by cases hf),?_⟩
    gi_wp2
    go_roundw
    ·exact⟨k+1,by omega,by go_num,kr.o,by rw[nr.o];exact jo.o⟩
    ·simp[intOf];omega
  ·obtain rfl:k=n:=by omega
   clear gc
   gi_wp2
   go_end0
   exact⟨⟨_,rfl⟩,.inl (by rw[<-jv.o];exact jo.o)⟩
end Go.Proofs.YtmeaoneaephjeaaGreatDoor
