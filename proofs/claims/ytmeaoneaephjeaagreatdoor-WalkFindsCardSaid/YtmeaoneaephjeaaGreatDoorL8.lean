/-
  A part of the proof: lemmas and contracts that the parts behind it use. Each one's conditions are its own premises.
-/
import Derived.Laws.Tables
import Derived.Laws.CopyOwn
import Derived.Test.YtmeaoneaephjeaaGreatDoorL7
set_option maxRecDepth 100000
set_option maxHeartbeats 8000000
set_option linter.unusedVariables false
set_option linter.unusedSimpArgs false
namespace Go.Proofs.YtmeaoneaephjeaaGreatDoor
open Go.RowKit Go Go.Shelf
attribute [local go_sem] Oper.semAt_some
structure BEnd (p:Pb) (w wd:World) (uc us vt ve:Value) (xs:List Value) (st:List Vw × List Ex) (D:Nat) (X:World):Prop where
 old:Below wd.heap.size wd X
 r2:X.heap[w.heap.size+1]?=some (.cells zeroSys 35)
 r3:X.heap[w.heap.size+1+1]?=some (.cells #[.int .i64 0] 39)
 s:X.heap[wd.heap.size]?=some (.cells (bL p uc us p.t.n vt ve) 35)
 tab:aH X wd.heap.size 190 8 vt st.1.length (fc st.1)
 ex:aH X wd.heap.size 89 3 ve st.2.length xs
 els:∀ i (hi:i<st.2.length),AW X wd.heap.size xs i st.2[i]
 d:X.heap[D]?=some (.deferred (some []))
theorem Qv{w X:World} {D:Nat} {T:Array Value} {R:Ending->World->Prop} (hb:Below w.heap.size w X) (hR:X.heap[w.heap.size+1]?=some (.cells zeroSys 35)) (hE:X.heap[w.heap.size+1+1]?=some (.cells #[.int .i64 0] 39)) (hd:X.heap[D]?=some (.deferred (some []))) (hD:w.heap.size+1+1<D)
  (c0 c1 c2 c3 c4 c5 c6 c7 c8 c9:Value) (h2:T[2]?.getD undef=.pointer (some ⟨w.heap.size+1,0,none⟩)) (h3:T[3]?.getD undef=.pointer (some ⟨w.heap.size+1+1,0,none⟩))
  (hK:∀ Wf:World,Below w.heap.size w Wf->(∀ k,k≠w.heap.size+1->k≠w.heap.size+1+1->k≠D->Wf.heap[k]?=X.heap[k]?)->R (.returned (.tuple #[.agg #[c0,c1,c2,c3,c4,c5,c6,c7,c8,c9],.int .i64 0])) Wf) :
  bodyPostM Fence.wide 0 Tryz.prog Tryz.f120 R .ret { tmps:=T,defers:=[ip D] } (((((((((((X.setCell ⟨w.heap.size+1,0,none⟩ c0).setCell ⟨w.heap.size+1,1,none⟩ c1).setCell ⟨w.heap.size+1,2,none⟩ c2).setCell ⟨w.heap.size+1,3,none⟩ c3).setCell ⟨w.heap.size+1,4,none⟩ c4).setCell ⟨w.heap.size+1,5,none⟩ c5).setCell ⟨w.heap.size+1,6,none⟩ c6).setCell ⟨w.heap.size+1,7,none⟩ c7).setCell ⟨w.heap.size+1,8,none⟩ c8).setCell ⟨w.heap.size+1,9,none⟩ c9).setCell ⟨w.heap.size+1+1,0,none⟩ (.int .i64 0)).drew:=by
 obtain⟨q1,q2,q3,q4⟩:=uB (B:=w.heap.size+1) hb (by omega) hR rfl hE c0 c1 c2 c3 c4 c5 c6 c7 c8 c9 0
 revert q1 q2 q3 q4
 generalize (((((((((((X.setCell ⟨w.heap.size+1,0,none⟩ c0).setCell ⟨w.heap.size+1,1,none⟩ c1).setCell ⟨w.heap.size+1,2,none⟩ c2).setCell ⟨w.heap.size+1,3,none⟩ c3).setCell ⟨w.heap.size+1,4,none⟩ c4).setCell ⟨w.heap.size+1,5,none⟩ c5).setCell ⟨w.heap.size+1,6,none⟩ c6).setCell ⟨w.heap.size+1,7,none⟩ c7).setCell ⟨w.heap.size+1,8,none⟩ c8).setCell ⟨w.heap.size+1,9,none⟩ c9).setCell ⟨w.heap.size+1+1,0,none⟩ (.int .i64 0))=Y;intro q1 q2 q3 q4;have q1':Y.drew.heap[w.heap.size+1]?=_:=q1;have q2':Y.drew.heap[w.heap.size+1+1]?=_:=q2;have q4':∀ k,k≠w.heap.size+1->k≠w.heap.size+1+1->Y.drew.heap[k]?=X.heap[k]?:=q4;have q3':=q3.drew;generalize Y.drew=Z at q1' q2' q3' q4' ⊢;refine iM ((q4' D (by omega) (by omega)).trans hd) (qL T (w.heap.size+1) _ c0 c1 c2 c3 c4 c5 c6 c7 c8 c9 0 h2 h3 ((World.putObj_heap_other (by omega)).trans q1') ((World.putObj_heap_other (by omega)).trans q2')) ?_;exact hK _ (eX (by omega) q3') (fun k a b c=>(World.putObj_heap_other c).trans (q4' k a b))
theorem WO{p:Pb} {w w2 wd X Wf:World} {D:Nat} {uc us vt ve:Value} {xs:List Value} {st:List Vw × List Ex} (h:BEnd p w wd uc us vt ve xs st D X)
  (EH:∀ W':World,(∀ k o,w2.heap.size<=k->wd.heap[k]?=some o->W'.heap[k]?=some o)->bS W' uc p.t.cases/\bF W' us p.a.states) (AI:w.heap.size+1+1<w2.heap.size) (hDd:wd.heap.size<=D)
  (hg:(∀ v∈st.1,ka v)/\∀ x∈st.2,ExGood x) (iD:st.1.length<=8192) (nW:st.2.length<=4096) (hf:∀ k,k≠w.heap.size+1->k≠w.heap.size+1+1->k≠D->Wf.heap[k]?=X.heap[k]?):IsSys Wf ⟨p,p.t.n,st.1,st.2⟩ uc us vt ve:=by
 have tr:∀ {b:Nat} {e:TypeId} {k:Nat} {v:Value} {n:Nat} {ys:List Value},aH X b e k v n ys->e≠35->e≠39->aH Wf b e k v n ys:=fun {b e k v n ys} ho h1 h2=>ho.keepT fun g o e1 e2=>
  (hf g (fun e'=>ho.ne h.r2 h1 g e1 e') (fun e'=>ho.ne h.r3 h2 g e1 e') (fun e'=>ho.isCells h.d rfl (by rw[e1,e']))).trans e2
 obtain⟨k1,k2⟩:=EH Wf (fun k o hk ho=>by
  have aB:=aC ho;rw[hf k (by omega) (by omega) (by omega)]
  exact(h.old.block k aB).trans ho)
 refine⟨k1,k2,zN (tr h.tab (by decide) (by decide)) hg.1 (show st.1.length<=17592186044416 by omega),LU (tr h.ex (by decide) (by decide)) (fun i hi=>?_) hg.2 (show st.2.length<=17592186044416 by omega)⟩;obtain⟨a,d,p1,p2,p3,p4,ys,p5,p6⟩:=h.els i hi;exact⟨a,d,p1,p2,p3,tr p4 (by decide) (by decide),ys,tr p5 (by decide) (by decide),fun j hj=>by obtain⟨y,r1,r2⟩:=p6 j hj;exact⟨y,r1,tr r2 (by decide) (by decide)⟩⟩
theorem Qw(p:Pb) (vc vs:Value) (w:World) (hc:bS w vc p.t.cases) (hs:bF w vs p.a.states) (hN:movesN p.a.states<1099511627776) :
  Calls Tryz.prog 120 #[rE p vc vs] w fun e w'=>∃ c,e=.returned (.tuple #[.agg c,.int .i64 (buildE p)])/\(buildE p=0->∃ uc us vt ve,c=bL p uc us p.t.n vt ve/\IsSys w' (aO p) uc us vt ve)/\(buildE p≠0->c=zeroSys)/\Below w.heap.size w w':=by
 have GC:=aa hc;have GS:=aa hs;obtain⟨pc,cc,rfl,lc1,lc2,ec⟩:=hc.at;obtain⟨ps,cs,rfl,_⟩:=hs.at;have EC:=aa ec;clear hc hs ec;refine gq Tryz.func120 rfl ?_;simp only[Tryz.ntmps120,List.size_toArray,List.length_cons,List.length_nil,Nat.reduceAdd,Nat.reduceSub,Array.replicate_succ,Array.replicate_zero,List.push_toArray,List.append_toArray,List.nil_append,List.cons_append]
 go_wp2_with fail
 refine aN (fun W=>Below w.heap.size w W/\W.heap[w.heap.size]?=some (.cells #[.int .i64 p.t.n,.int .i64 p.t.ins,.int .i64 p.t.outs,.slice pc p.t.cases.length cc,.int .i64 p.a.n,.slice ps p.a.states.length cs,.int .i64 p.rounds] 29)/\W.heap[w.heap.size+1]?=some (.cells zeroSys 35)/\W.heap[w.heap.size+1+1]?=some (.cells #[.int .i64 0] 39)) ⟨by go_grown,ar _ (ar _ (aq _ _)),ar _ (bd _ _ _),eI _ _ _ _⟩ (fun W0 aZ=>?_);obtain⟨aI,bI,ic,hE0⟩:=aZ;refine(Ie p _ _ W0 (GC.o.up up_case aI) (GS.o.up up_moves aI) hN (fun h=>by have:=(fB (gO h).1).2.2.2.1;omega)).mono ?_;rintro e w1 ⟨rfl,aJ⟩;have jt:=ae aI aJ;have db:=aa (af aJ bI);have dg:=aa (af aJ ic);have rH:=aa (af aJ hE0);have bP:=aJ.size;have hzE:=aC rH.o;clear bI ic hE0
 have fY:((dZ p).2=buildE p/\buildE p≠0)\/((dZ p).2=0/\probE p=0/\(dZ p).1=((p.t.cases.length * (aL p).length:Nat):Int)):=by
  by_cases hp:probE p=0
  ·obtain⟨h1,h2⟩:=Lo hp;by_cases h3:(dZ p).2=0
   ·exact .inr ⟨h3,hp,h2 h3⟩
   ·obtain⟨h4,h5⟩:=h1 h3;have:buildE p=17:=by unfold buildE;rw[if_neg (by simpa using hp),if_pos h5]
    exact .inl ⟨by rw[h4,this],by rw[this];decide⟩
  ·have:buildE p=probE p:=by unfold buildE;rw[if_pos hp]
   exact .inl ⟨by rw[this];unfold dZ;rw[if_pos hp],by rw[this];exact hp⟩
 rcases fY with ⟨he,bM⟩|⟨he,hp,lT⟩
 ·obtain⟨eb,ml⟩:∃ x,x=buildE p:=⟨_,rfl⟩;rw[he];rw[<-ml]at bM ⊢;have hH:=aa bM;have Ru:=aa ml;clear ml;have Va:(eb != 0)=true:=by simpa using bM
  have cR:=ab dg.o;have zR:=fun o=>aE dg.o o
  have cE:=ab rH.o 0;have zE:=aE rH.o 0;simp at cE;clear he bM
  go_wp2_with fail
  obtain⟨q1,q2,q3,_⟩:=uB jt (by omega) dg.o rfl rH.o (.int .i64 0) (.int .i64 0) (.int .i64 0) (.slice none 0 0) (.int .i64 0) (.slice none 0 0) (.int .i64 0) (.int .i64 0) (.slice none 0 0) (.slice none 0 0) eb;refine iE (qL _ (w.heap.size+1) _ _ _ _ _ _ _ _ _ _ _ eb rfl rfl q1 q2) ?_;rw[<-Ru.o];exact⟨_,rfl,fun e=>absurd e hH.o,fun _=>rfl,q3⟩
 rw[he,lT];obtain⟨ht,ha,fj,sS,rl⟩:=gO hp;obtain⟨⟨htn1,htn5⟩,_,_,⟨xV,bR⟩,gC⟩:=fB ht;have ou:=aa fj;have dA:=aa gC;clear fj gC;by_cases EP:4096<p.t.cases.length * (aL p).length
 ·have Ru:am (buildE p=17):=aa (by unfold buildE;rw[if_neg (by simpa using hp),if_pos EP]);have X2:(4096:Int)<((p.t.cases.length * (aL p).length:Nat):Int):=by omega
  have cR:=ab dg.o;have zR:=fun o=>aE dg.o o
  have cE:=ab rH.o 0;have zE:=aE rH.o 0;simp at cE;generalize ((p.t.cases.length * (aL p).length:Nat):Int)=nI at X2;clear he lT EP hp ht ha sS rl
  go_wp2_with fail
  obtain⟨q1,q2,q3,_⟩:=uB jt (by omega) dg.o rfl rH.o (.int .i64 0) (.int .i64 0) (.int .i64 0) (.slice none 0 0) (.int .i64 0) (.slice none 0 0) (.int .i64 0) (.int .i64 0) (.slice none 0 0) (.slice none 0 0) 17;refine iE (qL _ (w.heap.size+1) _ _ _ _ _ _ _ _ _ _ _ 17 rfl rfl q1 q2) ?_;rw[Ru.o];exact⟨_,rfl,fun e=>absurd e (by decide),fun _=>rfl,q3⟩
 have Eo:=aa (Lp hp EP);have X2:¬ (4096:Int)<((p.t.cases.length * (aL p).length:Nat):Int):=by omega
 generalize hnI:((p.t.cases.length * (aL p).length:Nat):Int)=nI at X2;have tA:=ab db.o;have HP:=aa hp;clear he lT
 go_wp2_with fail
 refine(P9 p.a _ p.rounds w1 (GS.o.up up_moves jt) hN).mono ?_;rintro e w2 ⟨u,rfl,hu,hulo,a8⟩;rw[Eo.o]at hu ⊢;dsimp only at hu ⊢;have sK:=ae jt a8;have pP:=aa hu;have HULO:=aa hulo;clear hulo;obtain⟨pw,cw,rfl,lw1,lw2,_⟩:=hu.at;clear hu tA;have tA:=ab (af a8 db.o)
 go_wp2_with fail
 refine(Fq p _ _ w2 (GC.o.up up_case sK) (GS.o.up up_moves sK) ht ha (XB HP.o)).mono ?_;rintro e wd ⟨uc,us,rfl,EH,bH⟩;have HCP:=aa EH;obtain⟨YV,Zz⟩:=EH wd (fun _ _ _ h=>h);clear EH;have bY:=sK.size;have EJ:=bH.size;have Yc:=aC db.o;have TI:=ae sK bH;have hzb2:=a8.size;have hltd:w.heap.size<wd.heap.size:=by omega
 have HUC:=aa YV;have HUS:=aa Zz;obtain⟨pu,cu,rfl,_⟩:=YV.at;obtain⟨pv,cv,rfl,_⟩:=Zz.at;have YW:=aa (af (ae a8 bH) db.o);have HRd:=aa (af (ae a8 bH) dg.o);have HEd:=aa (af (ae a8 bH) rH.o);have HUd:=aa (pP.o.up up_words bH);have HCd:=aa (GC.o.up up_case TI);have DU:=fun w=>Il Tryz.prog 232 w
 clear YV Zz tA;have tA:=ab YW.o;have tA4:∀ o1 o2 o3 o4 o,((((wd.alloc o1).alloc o2).alloc o3).alloc o4).cell? ⟨w.heap.size,o,none⟩=_:=fun o1 o2 o3 o4=>ab (ar _ (ar _ (ar _ (ar _ YW.o))))
 go_wp2_with fail
 refine aN (fun W=>BInv p (.slice pu p.t.cases.length cu) (.slice pv p.a.states.length cv) wd wd.heap.size (wd.heap.size+1+1+1) (wd.heap.size+1+1) (wd.heap.size+1) [] [] W) ?_ (fun W4 hI4=>?_)
 ·refine⟨by go_grown,Nat.le_refl _,NA _ _ _ _ _,⟨_,[],ar _ (ar _ (ar _ (aq _ _))),aH.nil _ _ _ _,fun i hi=>by simp at hi⟩,⟨by omega,_,?_,by omega,aH.nil _ _ _ _,#[],0,ar _ (ar _ (bd _ _ _)),rfl⟩⟩;rw[Int.toNat_of_nonneg (by omega)];exact ar _ (eI _ _ _ _)
 refine(Fr p _ _ _ _ _ _ _ _ _ W4).mono ?_;rintro e w5 ⟨rfl,rfl⟩;have HI4:=aa hI4;have Re:=hI4.old.size;have hzb:=aC hI4.bx;clear hI4 tA tA4 DU
 go_wp2_with fail
 refine bu (fun W=>BInv p (.slice pu p.t.cases.length cu) (.slice pv p.a.states.length cv) wd wd.heap.size (wd.heap.size+1+1+1) (wd.heap.size+1+1) (wd.heap.size+1) [] [] W/\W.heap[W4.heap.size]?=some (.cells #[.int .i64 p.t.n,.int .i64 p.t.ins,.int .i64 p.t.outs,.slice pc p.t.cases.length cc,.int .i64 p.a.n,.slice ps p.a.states.length cs,.int .i64 p.rounds] 29)/\W.heap[W4.heap.size+1]?=some (.cells #[.slice pw (aL p).length cw] 221)/\W4.heap.size+1<W.heap.size) ⟨HI4.o.up (by go_grown),ar _ (aq _ _),bd _ _ _,by simp⟩ (fun W5 hW5=>?_);obtain⟨VM,Kq,KG,hz5⟩:=hW5;obtain⟨ws,hwsl,aw,capw,ew,eQ⟩:=WH HUd.o;cases ew
 have dr:=DC wd p.t.cases.length (aL p).length pw cw ws (by have:=Nat.mul_le_mul_right (aL p).length xV;omega) (by omega) (fun j hj=>by
  obtain⟨b,o,h1,h2,h3⟩:=eQ j hj;obtain⟨a',c',e',_⟩:=h3.at
  exact⟨b,o,h1,fo h2,h2,a',_,c',e'⟩) ⟨lw1,by obtain⟨a9,c9,e9,⟨_,h9,_⟩,_⟩:=HUd.o;cases e9;exact h9⟩ W5 VM.old W4.heap.size (W4.heap.size+1) _ _ _ _ _ _ _ _ Kq KG
 have Is:=aa eQ;have Iq:=aa EP
 have X5:am (∀ ad,pw=some ad->w1.heap.size<=ad.block/\ad.block<wd.heap.size):=aa (fun ad e=>by
  subst e;refine⟨HULO.o ad _ _ rfl,?_⟩
  have hWl:0<(aL p).length:=by
   have h9:=Gn (ir ha).2.1 (by have:=(ir ha).1;omega) p.rounds.toNat 0 (by have:=(ir ha).1;omega);exact h9
  obtain⟨b,o,h1,h2,_⟩:=eQ 0 hWl;cases h1
  exact fo h2)
 have hzI:=VM.old.size;clear eQ EP
 refine ni (gf:=199) (lb:=#[.pointer (some ⟨W4.heap.size,0,none⟩),.pointer (some ⟨W4.heap.size+1,0,none⟩)]) rfl (enters_of Tryz.func199 (by kernel_rfl) rfl) dr (Below.refl _ _) (fun k hk=>by
   rcases hk with hk|⟨ad,e1,rfl⟩
   ·omega
   ·have:=X5.o ad e1;omega) (fun i=>rfl)
  (fun i W=>BInv p (.slice pu p.t.cases.length cu) (.slice pv p.a.states.length cv) wd wd.heap.size (wd.heap.size+1+1+1) (wd.heap.size+1+1) (wd.heap.size+1) (stP p i).1 (stP p i).2 W/\W.heap[W4.heap.size+1]?=some (.cells #[.slice pw (aL p).length cw] 221)/\(stP p i).1.length<=8192)
  (fun c _ W=>c=.ret/\buildE p=17/\Below w.heap.size w W/\W.heap[w.heap.size+1]?=some (.cells zeroSys 35)/\W.heap[w.heap.size+1+1]?=some (.cells #[.int .i64 17] 39))
  (fun i=>(BInv.sta (by omega) (by omega)).and (cO.cells.and cO.pure)) (fun c i=>cO.pure.and (cO.pure.and ((cO.below (by omega)).and (cO.cells.and cO.cells)))) ⟨VM,KG,by simp[stP,execsS]⟩ ?round ?done ?stop
 case stop=>
  rintro D c i W hD hi ⟨rfl,lz,hb,q1,q2⟩ hK;have h1:(W.putObj D (.deferred none)).heap[w.heap.size+1]?=_:=(World.putObj_heap_other (by omega)).trans q1;have h2:(W.putObj D (.deferred none)).heap[w.heap.size+1+1]?=_:=(World.putObj_heap_other (by omega)).trans q2
  go_wp2_with fail
  refine iM hK (qL _ (w.heap.size+1) _ _ _ _ _ _ _ _ _ _ _ 17 (by rfl) (by rfl) h1 h2) ?_;rw[lz];exact⟨_,rfl,fun e=>absurd e (by decide),fun _=>rfl,eX (by omega) hb⟩
 case done=>
  intro D W hD hI hK;obtain⟨aW,V8,z6⟩:=hI
  have aU:stP p (p.t.cases.length * (aL p).length)=execsS p (aL p) (fR p):=by
   unfold stP;rw[List.take_of_length_le (by rw[jC];exact Nat.le_refl _)]
  have Io:=CE HP.o (fun c hc=>(xJ GC.o c hc).1) (fun x hx=>xH p.a (ux GS.o) _ _ x hx) (by rw[<-aU];exact z6) _ (Nat.le_refl _);have It:=uA p (aL p) (fR p) ([],[]);have pI:=jC p
  have Ru:am (buildE p=0):=aa (by
   unfold buildE;have h3:(aO p).tab=(execsS p (aL p) (fR p)).1:=rfl
   rw[if_neg (by simpa using HP.o),if_neg Iq.o,if_neg (by rw[h3,<-aU];omega)])
  have fH:am (aO p=⟨p,p.t.n,(execsS p (aL p) (fR p)).1,(execsS p (aL p) (fR p)).2⟩):=aa rfl;change (execsS p (aL p) (fR p)).2.length=_ at It;rw[aU]at Io aW z6;generalize execsS p (aL p) (fR p)=st at Io aW z6 fH It;have A2:=aa Io;have wO:st.2.length<=4096:=by have:=Iq.o;simp at It;omega
  clear aU Io It pI;obtain⟨ve,xs,gc,iS,n'⟩:=aW.s;obtain⟨vs9,b1',b2',b3',b4'⟩:=aW.bld.ex;obtain⟨av,cve,rfl⟩:=iS.slice;obtain⟨a7,c7,rfl⟩:=b3'.slice;have ry:=aa aW;have xa:=aa gc;have ra:=aa iS;have Ci:=aa n';have ld:=aa b3';rw[Int.toNat_of_nonneg (by omega)]at b1';have tb:=ab b1';have tx:=ab aW.bx 0;have ts7:=ab (show W.drew.heap[wd.heap.size]?=_ from gc) 7;have ts8:=ab (show W.drew.heap[wd.heap.size]?=_ from gc) 8;have zs7:=aE (show W.drew.heap[wd.heap.size]?=_ from gc) 7;have zs8:=aE (show W.drew.heap[wd.heap.size]?=_ from gc) 8;simp at tx ts7 ts8;have Yc:=aW.old.size;clear aW gc iS n' b1' b2' b3' b4' dr VM V8 Kq KG
  go_wp2_with fail
  go_still_tail 9,(by kernel_rfl)
  change wpList _ _ _ _ _ W.drew;clear tb tx;have hQ:=aF (aF (show W.drew.heap[wd.heap.size]?=_ from xa.o) 7 (.int .i64 p.t.n)) 8 (.slice a7 st.1.length c7)
  have hI:BEnd p w wd (.slice pu p.t.cases.length cu) (.slice pv p.a.states.length cv) (.slice a7 st.1.length c7) (.slice av st.2.length cve) xs st D ((W.drew.setCell ⟨wd.heap.size,7,none⟩ (.int .i64 p.t.n)).setCell ⟨wd.heap.size,8,none⟩ (.slice a7 st.1.length c7)):=by
   have hwd1:(W.drew.setCell ⟨wd.heap.size,7,none⟩ (.int .i64 p.t.n)).heap[wd.heap.size]?=_:=aF (show W.drew.heap[wd.heap.size]?=_ from xa.o) 7 (.int .i64 p.t.n);have kt:KeepT [35] [] wd.heap.size W ((W.drew.setCell ⟨wd.heap.size,7,none⟩ (.int .i64 p.t.n)).setCell ⟨wd.heap.size,8,none⟩ (.slice a7 st.1.length c7)):=((KeepT.refl _ _ _).drew.set (show W.drew.heap[wd.heap.size]?=_ from xa.o) (by simp) (Nat.le_refl _) _).set hwd1 (by simp) (Nat.le_refl _) _;have dH:=KeepT.below9 ry.o.old (KeepT.refl (ms:=[]) [] _ W) kt;refine⟨dH,af dH HRd.o,af dH HEd.o,hQ,kt.own ld.o (by decide),kt.own ra.o (by decide),fun i hi=>?_,kt.oth _ _ hK rfl (by simp)⟩;obtain⟨a,d,p1,p2,p3,p4,p5⟩:=Ci.o i hi;exact⟨a,d,p1,p2,p3,kt.own p4 (by decide),kt.fresh p5 (by decide) (by decide)⟩
  have mj:BEnd p w wd (.slice pu p.t.cases.length cu) (.slice pv p.a.states.length cv) (.slice a7 st.1.length c7) (.slice av st.2.length cve) xs st D (((W.setCell ⟨wd.heap.size,7,none⟩ (.int .i64 p.t.n)).setCell ⟨wd.heap.size,8,none⟩ (.slice a7 st.1.length c7))).drew:=hI;have iK:=aa mj;have gc:(((W.setCell ⟨wd.heap.size,7,none⟩ (.int .i64 p.t.n)).setCell ⟨wd.heap.size,8,none⟩ (.slice a7 st.1.length c7))).heap[wd.heap.size]?=_:=mj.s;have iS:(((W.setCell ⟨wd.heap.size,7,none⟩ (.int .i64 p.t.n)).setCell ⟨wd.heap.size,8,none⟩ (.slice a7 st.1.length c7))).heap[w.heap.size+1]?=_:=mj.r2;have n':(((W.setCell ⟨wd.heap.size,7,none⟩ (.int .i64 p.t.n)).setCell ⟨wd.heap.size,8,none⟩ (.slice a7 st.1.length c7))).heap[w.heap.size+1+1]?=_:=mj.r3;have tQ:=ab gc;have cR:=ab iS;have zR:=fun o=>aE iS o
  have cE:=ab n';have zE:=fun o=>aE n' o
  have tQd:=ab mj.s;have cRd:=ab mj.r2;have zRd:=fun o=>aE mj.r2 o
  have cEd:=ab mj.r3;have zEd:=fun o=>aE mj.r3 o
  have Zx:(W.setCell ⟨wd.heap.size,7,none⟩ (.int .i64 p.t.n)).heap[wd.heap.size]?=_:=aF xa.o 7 _;have zs8a:=aE Zx 8;have zs8b:=aE (show (W.setCell ⟨wd.heap.size,7,none⟩ (.int .i64 p.t.n)).drew.heap[wd.heap.size]?=_ from Zx) 8;have Md:BEnd p w wd (.slice pu p.t.cases.length cu) (.slice pv p.a.states.length cv) (.slice a7 st.1.length c7) (.slice av st.2.length cve) xs st D ((W.setCell ⟨wd.heap.size,7,none⟩ (.int .i64 p.t.n)).setCell ⟨wd.heap.size,8,none⟩ (.slice a7 st.1.length c7)):=⟨⟨mj.old.os,mj.old.tape,mj.old.output,mj.old.size,mj.old.block⟩,mj.r2,mj.r3,mj.s,mj.tab,mj.ex,mj.els,mj.d⟩;have gN:=aa (And.intro (ae TI Md.old) (And.intro Md.r2 (And.intro Md.r3 (And.intro Md.d Md))));clear hQ hI mj Md gc iS n' Zx
  go_wp2_with fail
  refine Qv (X:=((W.setCell ⟨wd.heap.size,7,none⟩ (.int .i64 p.t.n)).setCell ⟨wd.heap.size,8,none⟩ (.slice a7 st.1.length c7))) gN.o.1 gN.o.2.1 gN.o.2.2.1 gN.o.2.2.2.1 (by omega) _ _ _ _ _ _ _ _ _ _ rfl rfl (fun Wf D9 hff=>?_);rw[Ru.o,fH.o];exact⟨_,rfl,fun _=>⟨_,_,_,_,rfl,WO gN.o.2.2.2.2 HCP.o (by omega) (by omega) A2.o z6 wO hff⟩,fun e=>absurd rfl e,D9⟩
 case round=>
  intro yl i W hi hl hI;obtain⟨aW,V8,z6⟩:=hI;have eF:=xK p i hi;have HOVER:=aa (Nz HP.o Iq.o (i+1))
  have kX:0<(aL p).length:=by
   rcases Nat.eq_zero_or_pos (aL p).length with h|h
   ·rw[h]at hi;simp at hi
   ·exact h
  have hc:i / (aL p).length<p.t.cases.length:=by rw[Nat.div_lt_iff_lt_mul kX];exact hi
  have hj:i % (aL p).length<(aL p).length:=Nat.mod_lt _ kX;obtain⟨_,_,Vd,_,Eb⟩:=Is.o _ hj;clear Vd;unfold SU
  have hwl6:((aL p)[i % (aL p).length]).length<=6:=by
   have:=kA p.a p.rounds.toNat 0 _ (List.getElem_mem (l:=aL p) hj);omega
  obtain⟨pc',cc',ec',_,_,ecc⟩:=HCd.o.at;cases ec';obtain⟨b1,o1,ec1,⟨vi,dvi,wH⟩,_,_⟩:=ecc _ hc
  have gZ:p.t.n.toNat<=(p.t.cases[i / (aL p).length]).inp.length:=by
   have:=(dA.o _ (List.getElem_mem hc)).inp;omega
  unfold kD at eF;dsimp only at eF;rw[aA default hc,aA [] hj]at eF;generalize p.t.cases[i / (aL p).length]=cs0 at wH gZ eF;generalize (aL p)[i % (aL p).length]=word at Eb hwl6 eF;generalize ws.getD (i % (aL p).length) undef=wv at Eb ⊢;generalize i / (aL p).length=ci at hc dvi eF ⊢
  have KF:(stP p i).2.length<=4096:=by
   have h9:=uA p (aL p) ((fR p).take i) ([],[]);have h8:=jC p;have h7:=Iq.o;change (stP p i).2.length=_ at h9;simp at h9;omega
  generalize stP p i=st at aW z6 eF KF;have dT:=aa eF;have iU:=aa Eb;have JW:=aa wH;obtain⟨pwv,cwv,rfl,_⟩:=Eb.at;obtain⟨pvi,cvi,rfl,_⟩:=wH.at;subst ec1;clear eF Eb wH ecc;dsimp only
  gi_wp2
  refine⟨Bod.refl _ _ _,(fun X=>BInv p (.slice pu p.t.cases.length cu) (.slice pv p.a.states.length cv) wd wd.heap.size (wd.heap.size+1+1+1) (wd.heap.size+1+1) (wd.heap.size+1) st.1 st.2 X/\X.heap[W4.heap.size+1]?=some (.cells #[.slice pw (aL p).length cw] 221)),(BInv.sta (by omega) (by omega)).and cO.cells,⟨aW,V8⟩,fun V hV _=>?_⟩;obtain⟨qM,AI⟩:=hV;clear aW V8;obtain⟨ve,xs,gc,iS,n'⟩:=qM.s;obtain⟨av,cve,rfl⟩:=iS.slice;have ry:=aa qM;have xa:=aa gc;have ra:=aa iS;have Ci:=aa n';have cS:=aa AI;have hzV:=qM.old.size;clear qM gc iS n' AI;obtain⟨i0,cM,jl,jj,iR⟩:=info_parts Tryz.infoExec
  gi_wp2
  refine za 17 [49,50,51,52,53,54,55,56,57,58,59,60,61,62,63,64,65] [some (.pointer (some ⟨wd.heap.size,9,none⟩)),
   some (.slice av st.2.length cve),
   some (.int .i64 (ci:Int)),
   some (.slice pwv word.length cwv),
   none,
   some (.pointer (some ⟨wd.heap.size+1+1,0,none⟩)),
   some (.pointer (some ⟨w.heap.size,0,none⟩)),
   some (.pointer (some ⟨w.heap.size,3,none⟩)),
   some (.slice (some ⟨b1,o1,none⟩) p.t.cases.length cc),
   some (.int .i64 (ci:Int)),
   some (.pointer (some ⟨b1,o1+ci * 3,none⟩)),
   some (.pointer (some ⟨b1,o1+ci * 3,none⟩)),
   some (.slice pvi cs0.inp.length cvi),
   some (.slice pwv word.length cwv),
   none,
   none,
   none] (BCore wd.heap.size (wd.heap.size+1+1) (wd.heap.size+1) p.t.n.toNat st.1 (gD p.t.n.toNat cs0.inp word st.1).1 ci word (gD p.t.n.toNat cs0.inp word st.1).2 V) (by kernel_rfl) rfl (by decide) rfl (by kernel_rfl) (by kernel_rfl) (by kernel_rfl) (fun ⟨_,_,h⟩=>h) (by kernel_rfl) (fun _=>⟨hzV,(KeepT.refl _ _ _).drew,ry.o.bld.up (Below.refl _ _).drew,nofun,nofun,nofun,nofun⟩) ?step ?tail
  case step=>
   intro x W D i o s F hi ho hs hD cP bR ap hv aM hF;have fY:i=0\/i=1\/i=2\/i=3\/i=4\/i=5\/i=6\/i=7\/i=8\/i=9\/i=10\/i=11\/i=12\/i=13\/i=14\/i=15\/i=16:=by omega
   rcases fY with rfl|rfl|rfl|rfl|rfl|rfl|rfl|rfl|rfl|rfl|rfl|rfl|rfl|rfl|rfl|rfl|rfl
   all_goals (have dP:=cP _ _ hs hD;obtain rfl:=dp ho.symm;obtain rfl:=dp hs.symm)
   ·clear ap hi hv;have e7:F.getD 7 undef=.pointer (some ⟨wd.heap.size,0,none⟩):=mh hF (by decide) rfl;clear cP bR;clear hF dP;have e7':=dI e7;have HD:=aa hD;have bD:=aa aM;clear hD aM
    go_wp2_with fail
    refine bZ.mk _ gg ?_ rfl;exact bD.o.other _ (by decide) (by decide) (by decide) (by decide)
   ·have g0:=ap ⟨0,.data⟩ (by simp) rfl;have d0:=hv 0 _ (by omega) g0 rfl;clear ap hi hv;have e49:=fK hF 0 49 (by decide) rfl (by kernel_rfl) d0;clear cP bR;clear hF dP d0;have t1:=ab (aM.keep.keep _ _ _ _ xa.o (by decide)) 9;simp at t1;have e49':=dI e49;have HD:=aa hD;have bD:=aa aM;clear hD aM;clear g0
    go_wp2_with fail
    refine bZ.mk _ gg ?_ rfl;exact bD.o.other _ (by decide) (by decide) (by decide) (by decide)
   ·clear ap hi hv;have e9:F.getD 9 undef=.int .i64 (ci:Int):=mh hF (by decide) rfl;clear cP bR;clear hF dP;have e9':=dI e9;have HD:=aa hD;have bD:=aa aM;clear hD aM
    go_wp2_with fail
    refine bZ.mk _ gg ?_ rfl;exact bD.o.other _ (by decide) (by decide) (by decide) (by decide)
   ·clear ap hi hv;have e10:F.getD 10 undef=.slice pwv word.length cwv:=mh hF (by decide) rfl;clear cP bR;clear hF dP;have e10':=dI e10;have HD:=aa hD;have bD:=aa aM;clear hD aM
    go_wp2_with fail
    refine bZ.mk _ gg ?_ rfl;exact bD.o.other _ (by decide) (by decide) (by decide) (by decide)
   ·have g3:=ap ⟨3,.data⟩ (by simp) rfl;have d3:=hv 3 _ (by omega) g3 rfl;clear ap hi hv;have e52:=fK hF 3 52 (by decide) rfl (by kernel_rfl) d3;clear cP bR;clear hF dP d3;have dH:=KeepT.below9 ry.o.old (KeepT.refl (ms:=[]) [] _ V) aM.keep;have eh:=aa dH;clear dH;have e52':=dI e52;have HD:=aa hD;have bD:=aa aM;clear hD aM;clear g3
    go_wp2_with fail
    refine(wl _ word W (iU.o.up up_round eh.o) (by omega)).mono ?_;rintro e w9 ⟨u9,rfl,jK,dS⟩;have nQ:=aa (jK.base (base':=wd.heap.size) eh.o.size);have fy:=aa dS;clear jK dS
    go_wp2_with fail
    refine bZ.mk _ (fun c hc=>by cases hc) ?_ rfl;exact bD.o.clone HD.o fy.o nQ.o
   ·clear ap hi hv;have e8:F.getD 8 undef=.pointer (some ⟨wd.heap.size+1+1+1,0,none⟩):=mh hF (by decide) rfl;clear cP bR;clear hF dP;have t1:=ab (aM.keep.keep _ _ _ _ ry.o.bx (by decide)) 0;simp at t1;have e8':=dI e8;have HD:=aa hD;have bD:=aa aM;clear hD aM
    go_wp2_with fail
    refine bZ.mk _ gg ?_ rfl;exact bD.o.other _ (by decide) (by decide) (by decide) (by decide)
   ·clear ap hi hv;have e1:F.getD 1 undef=.pointer (some ⟨w.heap.size,0,none⟩):=mh hF (by decide) rfl;clear cP bR;clear hF dP;have e1':=dI e1;have HD:=aa hD;have bD:=aa aM;clear hD aM
    go_wp2_with fail
    refine bZ.mk _ gg ?_ rfl;exact bD.o.other _ (by decide) (by decide) (by decide) (by decide)
   ·have g6:=ap ⟨6,.data⟩ (by simp) rfl;have d6:=hv 6 _ (by omega) g6 rfl;clear ap hi hv;have e55:=fK hF 6 55 (by decide) rfl (by kernel_rfl) d6;clear cP bR;clear hF dP d6;have e55':=dI e55;have HD:=aa hD;have bD:=aa aM;clear hD aM;clear g6
    go_wp2_with fail
    refine bZ.mk _ gg ?_ rfl;exact bD.o.other _ (by decide) (by decide) (by decide) (by decide)
   ·have g7:=ap ⟨7,.data⟩ (by simp) rfl;have d7:=hv 7 _ (by omega) g7 rfl;clear ap hi hv;have e56:=fK hF 7 56 (by decide) rfl (by kernel_rfl) d7;clear cP bR;clear hF dP d7;have dH:=KeepT.below9 ry.o.old (KeepT.refl (ms:=[]) [] _ V) aM.keep;have t1:=ab (af dH YW.o) 3;simp at t1;clear dH;have e56':=dI e56;have HD:=aa hD;have bD:=aa aM;clear hD aM;clear g7
    go_wp2_with fail
    refine bZ.mk _ gg ?_ rfl;exact bD.o.other _ (by decide) (by decide) (by decide) (by decide)
   ·clear ap hi hv;have e9:F.getD 9 undef=.int .i64 (ci:Int):=mh hF (by decide) rfl;clear cP bR;clear hF dP;have e9':=dI e9;have HD:=aa hD;have bD:=aa aM;clear hD aM
    go_wp2_with fail
    refine bZ.mk _ gg ?_ rfl;exact bD.o.other _ (by decide) (by decide) (by decide) (by decide)
   ·have g8:=ap ⟨8,.data⟩ (by simp) rfl;have d8:=hv 8 _ (by omega) g8 rfl;have g9:=ap ⟨9,.data⟩ (by simp) rfl;have d9:=hv 9 _ (by omega) g9 rfl;clear ap hi hv;have e57:=fK hF 8 57 (by decide) rfl (by kernel_rfl) d8;have e58:=fK hF 9 58 (by decide) rfl (by kernel_rfl) d9;clear cP bR;clear hF dP d8 d9;have e57':=dI e57;have e58':=dI e58;have HD:=aa hD;have bD:=aa aM;clear hD aM;clear g8;clear g9
    go_wp2_with fail
    refine bZ.mk _ gg ?_ rfl;exact bD.o.other _ (by decide) (by decide) (by decide) (by decide)
   ·have g10:=ap ⟨10,.data⟩ (by simp) rfl;have d10:=hv 10 _ (by omega) g10 rfl;clear ap hi hv;have e59:=fK hF 10 59 (by decide) rfl (by kernel_rfl) d10;clear cP bR;clear hF dP d10;have e59':=dI e59;have HD:=aa hD;have bD:=aa aM;clear hD aM;clear g10
    go_wp2_with fail
    refine bZ.mk _ gg ?_ rfl;exact bD.o.other _ (by decide) (by decide) (by decide) (by decide)
   ·have g11:=ap ⟨11,.data⟩ (by simp) rfl;have d11:=hv 11 _ (by omega) g11 rfl;clear ap hi hv;have e60:=fK hF 11 60 (by decide) rfl (by kernel_rfl) d11;clear cP bR;clear hF dP d11;have dH:=KeepT.below9 ry.o.old (KeepT.refl (ms:=[]) [] _ V) aM.keep;have t1:=ak dH dvi;clear dH;have e60':=dI e60;have HD:=aa hD;have bD:=aa aM;clear hD aM;clear g11
    go_wp2_with fail
    refine bZ.mk _ gg ?_ rfl;exact bD.o.other _ (by decide) (by decide) (by decide) (by decide)
   ·clear ap hi hv;have e10:F.getD 10 undef=.slice pwv word.length cwv:=mh hF (by decide) rfl;clear cP bR;clear hF dP;have e10':=dI e10;have HD:=aa hD;have bD:=aa aM;clear hD aM
    go_wp2_with fail
    refine bZ.mk _ gg ?_ rfl;exact bD.o.other _ (by decide) (by decide) (by decide) (by decide)
   ·have g5:=ap ⟨5,.data⟩ (by simp) rfl;have d5:=hv 5 _ (by omega) g5 rfl;have g12:=ap ⟨12,.data⟩ (by simp) rfl;have d12:=hv 12 _ (by omega) g12 rfl;have g13:=ap ⟨13,.data⟩ (by simp) rfl;have d13:=hv 13 _ (by omega) g13 rfl;clear ap hi hv;have e54:=fK hF 5 54 (by decide) rfl (by kernel_rfl) d5;have e61:=fK hF 12 61 (by decide) rfl (by kernel_rfl) d12;have e62:=fK hF 13 62 (by decide) rfl (by kernel_rfl) d13;clear cP bR;clear hF dP d5 d12 d13;have dH:=KeepT.below9 ry.o.old (KeepT.refl (ms:=[]) [] _ V) aM.keep;have eh:=aa dH;clear dH;have oL:=aM.bld;rw[hD]at oL;have Ee:=aa (show BldIs wd.heap.size (wd.heap.size+1+1) (wd.heap.size+1) p.t.n.toNat st.1 W from oL);clear oL;have e54':=dI e54;have e61':=dI e61;have e62':=dI e62;have HD:=aa hD;have bD:=aa aM;clear hD aM;clear g5;clear g12;clear g13
    go_wp2_with fail
    refine(Qe wd (wd.heap.size+1+1) (wd.heap.size+1) p.t.n.toNat (by omega) st.1 _ _ cs0.inp word W eh.o JW.o iU.o gZ hwl6 (by omega) Ee.o).mono ?_;rintro e w9 ⟨u9,rfl,hf9,dS,Ar⟩;have HF9:=aa (cB.lower9 hf9 eh.o.size);have fy:=aa dS;have qZ:=aa Ar;clear hf9 dS Ar
    go_wp2_with fail
    refine bZ.mk _ (fun c hc=>by cases hc) ?_ rfl;exact bD.o.play HD.o qZ.o fy.o HF9.o
   ·have g2:=ap ⟨2,.data⟩ (by simp) rfl;have d2:=hv 2 _ (by omega) g2 rfl;have g4:=ap ⟨4,.data⟩ (by simp) rfl;have g14:=ap ⟨14,.data⟩ (by simp) rfl;clear ap hi hv;have e51:=fK hF 2 51 (by decide) rfl (by kernel_rfl) d2;have e53:=fK hF 4 53 (by decide) rfl (by kernel_rfl) rfl;have e63:=fK hF 14 63 (by decide) rfl (by kernel_rfl) rfl;clear cP bR;clear hF dP d2;obtain⟨a4,c4,q4⟩:=(aM.x4 g4).slice;obtain⟨a14,c14,q14⟩:=(aM.x14 g14).slice;rw[q4]at e53;rw[q14]at e63;have HG:=aa (And.intro g4 (And.intro g14 (And.intro q4 q14)));clear q4 q14;have e51':=dI e51;have e53':=dI e53;have e63':=dI e63;have HD:=aa hD;have bD:=aa aM;clear hD aM;clear g2;clear g4;clear g14
    go_wp2_with fail
    refine bZ.mk _ (fun c hc=>by cases hc) ?_ rfl;exact bD.o.made HG.o.1 HG.o.2.1 (by rw[HG.o.2.2.1,HG.o.2.2.2])
   ·have g15:=ap ⟨15,.data⟩ (by simp) rfl;clear ap hi hv;have e64:=fK hF 15 64 (by decide) rfl (by kernel_rfl) rfl;clear cP bR;clear hF dP;obtain⟨g4,g14,q15⟩:=aM.x15 g15;obtain⟨a4,c4,q4⟩:=(aM.x4 g4).slice;obtain⟨a14,c14,q14⟩:=(aM.x14 g14).slice;rw[q15,q4,q14]at e64;have HG:=aa (And.intro g4 (And.intro g14 (And.intro q4 q14)));clear q4 q14 q15 g4 g14;have e64':=dI e64;have HD:=aa hD;have bD:=aa aM;clear hD aM;clear g15
    go_wp2_with fail
    refine bZ.mk _ (fun c hc=>by cases hc) ?_ rfl;exact bD.o.row HG.o.1 HG.o.2.1 HG.o.2.2.1 HG.o.2.2.2
  case tail=>
   intro x W' D F aU hv aM hF;have x0:=hv 0 _ (by omega) rfl;have x1:=hv 1 _ (by omega) rfl;have x2:=hv 2 _ (by omega) rfl;have x3:=hv 3 _ (by omega) rfl;have x5:=hv 5 _ (by omega) rfl;have x6:=hv 6 _ (by omega) rfl;have x7:=hv 7 _ (by omega) rfl;have x8:=hv 8 _ (by omega) rfl;have x9:=hv 9 _ (by omega) rfl;have x10:=hv 10 _ (by omega) rfl;have x11:=hv 11 _ (by omega) rfl;have x12:=hv 12 _ (by omega) rfl;have x13:=hv 13 _ (by omega) rfl;obtain⟨g4,g14,gb,q16,ml⟩:=aM.x16 (aU 16 (by omega));have kq:=aM.x4 g4;have ON:=aM.x14 g14;have oL:=aM.bld;rw[g14]at oL;obtain⟨a4,c4,q4⟩:=kq.slice;obtain⟨a14,c14,q14⟩:=ON.slice;rw[q4]at kq;rw[q14]at ON;rw[q4,q14]at ml;simp only[bz,cT,List.setIfInBounds_toArray,List.set_cons_succ,List.set_cons_zero,Nat.reduceAdd,x0,x1,x2,x3,x5,x6,x7,x8,x9,x10,x11,x12,x13,q4,q14,q16]at hF;generalize x 15=y15 at hF;subst hF;have qZ:=aa aM.keep;have Ee:=aa (show BldIs wd.heap.size (wd.heap.size+1+1) (wd.heap.size+1) p.t.n.toNat (gD p.t.n.toNat cs0.inp word st.1).1 W' from oL);have Rf:=aa kq;have HF14:=aa ON;have HGB:=aa ml;have HS9:=aa (qZ.o.keep _ _ _ _ xa.o (by decide));have Al:=aa (qZ.o.own ra.o (by decide));clear hv aU aM kq ON oL ml g4 g14 q4 q14 q16 x0 x1 x2 x3 x5 x6 x7 x8 x9 x10 x11 x12 x13;simp only[List.drop_succ_cons,List.drop_zero];have hzW':=qZ.o.old.size
   have bU:∀ j u',[Value.int .i64 (ci:Int),Value.slice a4 word.length c4,Value.slice a14 (gD p.t.n.toNat cs0.inp word st.1).2.length c14][j]?=some u'->W'.cell? (Addr.add ⟨gb,0,none⟩ j)=some u':=fun j u' hj=>by
    have e1:(Addr.add ⟨gb,0,none⟩ j)=⟨gb,j,none⟩:=by unfold Addr.add;split<;>simp_all
    rw[e1,ab HGB.o];simpa using hj
   have bA:=aa bU;clear bU;refine aX W' rfl (.tmp 50) (.tmp 65) 33 rfl wd.heap.size 89 i0 _ 3 56 Tryz.underlying33 cM jl jj iR rfl (by decide) _ st.2.length xs rfl Al.o ⟨gb,0,none⟩ 1 1 [Value.int .i64 (ci:Int),Value.slice a4 word.length c4,Value.slice a14 (gD p.t.n.toNat cs0.inp word st.1).2.length c14] rfl rfl bA.o (by simp[Value.oneCell']) (by unfold maxLen;omega) (by omega) (by omega) ?_;intro v9 w9 eV du _;have tz:=gx du HS9.o (fun e=>Al.o.ne HS9.o (by decide) _ e rfl);have t9:=ab tz 9;have z9:=aE tz 9;simp at t9;obtain⟨a9,c9,rfl⟩:=eV.slice;have HOWN9:=aa eV;have KL:=aa du;have OB:=aa tz;clear eV du tz
   go_wp2_with fail
   refine SX (fun X=>BInv p (.slice pu p.t.cases.length cu) (.slice pv p.a.states.length cv) wd wd.heap.size (wd.heap.size+1+1+1) (wd.heap.size+1+1) (wd.heap.size+1) (gD p.t.n.toNat cs0.inp word st.1).1 (st.2++[⟨ci,word,(gD p.t.n.toNat cs0.inp word st.1).2⟩]) X/\KeepT (bldT++[89,35]) [wd.heap.size+1] wd.heap.size V X) ?_ (fun X hX=>?_)
   ·have kk:KeepT [89,35] [] wd.heap.size W' (w9.setCell ⟨wd.heap.size,9,none⟩ (.slice a9 (st.2.length+1) c9)):=((KeepT.refl _ _ _).grown Al.o (by simp) (Nat.le_refl _) (by omega) KL.o).set OB.o (by simp) (Nat.le_refl _) _;have kt:KeepT (bldT++[89,35]) [wd.heap.size+1] wd.heap.size V (w9.setCell ⟨wd.heap.size,9,none⟩ (.slice a9 (st.2.length+1) c9)):=(qZ.o.mono (fun t h=>List.mem_append_left _ h) (fun _ h=>h)).trans (kk.mono (fun t h=>List.mem_append_right _ h) (by simp));have iQ:xs.length=st.2.length * 3:=Al.o.1;refine⟨⟨KeepT.below9 ry.o.old (KeepT.refl (ms:=[]) [] _ V) kt,Nat.le_refl _,kt.keep _ _ _ _ ry.o.bx (by decide),⟨.slice a9 (st.2.length+1) c9,xs++[Value.int .i64 (ci:Int),Value.slice a4 word.length c4,Value.slice a14 (gD p.t.n.toNat cs0.inp word st.1).2.length c14],by rw[aF OB.o];rfl,by rw[List.length_append,List.length_singleton];exact HOWN9.o.put (fun g e=>HOWN9.o.ne OB.o (by decide) g e) _ _,fun i Vg=>?_⟩,(Ee.o.grown Al.o (by decide) KL.o).set OB.o (by decide) _⟩,kt⟩;rw[List.length_append,List.length_singleton]at Vg;by_cases aB:i<st.2.length
    ·rw[List.getElem_append_left aB];obtain⟨a,d,p1,p2,p3,p4,p5⟩:=Ci.o i aB;exact⟨a,d,by rw[List.getElem?_append_left (by omega)];exact p1,by rw[List.getElem?_append_left (by omega)];exact p2,by rw[List.getElem?_append_left (by omega)];exact p3,kk.own (qZ.o.own p4 (by decide)) (by decide),kk.fresh (qZ.o.fresh p5 (by decide) (by decide)) (by decide) (by decide)⟩
    ·obtain rfl:i=st.2.length:=by omega
     have e9:(st.2++[(⟨ci,word,(gD p.t.n.toNat cs0.inp word st.1).2⟩:Ex)])[st.2.length]'(by simp)=⟨ci,word,(gD p.t.n.toNat cs0.inp word st.1).2⟩:=by simp
     rw[e9];refine⟨.slice a4 word.length c4,.slice a14 (gD p.t.n.toNat cs0.inp word st.1).2.length c14,?_,?_,?_,kk.own Rf.o (by decide),kk.fresh HF14.o (by decide) (by decide)⟩
     ·rw[List.getElem?_append_right (by omega),iQ,Nat.sub_self];rfl
     ·rw[List.getElem?_append_right (by omega),iQ,Nat.add_sub_cancel_left];rfl
     ·rw[List.getElem?_append_right (by omega),iQ,Nat.add_sub_cancel_left];rfl
   obtain⟨Ir,hkX⟩:=hX;have rm:=aa Ir;have n8:=aa hkX;obtain⟨vs9,b1',b2',b3',b4'⟩:=Ir.bld.ex;obtain⟨a7,c7,rfl⟩:=b3'.slice;have tb:=ab b1' 1;have tx:=ab Ir.bx 0;simp at tb tx;clear Ir hkX b1' b2' b3' b4' t9 z9;have Hf:=rm.o.old;have Rg:=af Hf HRd.o;have RC:=af Hf HEd.o;by_cases KU:8192<(gD p.t.n.toNat cs0.inp word st.1).1.length
   ·have hovI:(8192:Int)<((gD p.t.n.toNat cs0.inp word st.1).1.length:Int):=by omega
    have cR:=ab Rg;have zR:=fun o=>aE Rg o
    have cE:=ab RC 0;have zE:=aE RC 0;simp at cE;have Sa:am (buildE p=17):=aa (HOVER.o (by rw[dT.o];exact KU));have HRX:=aa Rg;have An:=aa RC;have bT:=aa Hf;clear Rg RC Hf KU
    gi_wp2
    obtain⟨q1,q2,q3,q4⟩:=uB (ae TI bT.o) (by omega) HRX.o rfl An.o (.int .i64 0) (.int .i64 0) (.int .i64 0) (.slice none 0 0) (.int .i64 0) (.slice none 0 0) (.int .i64 0) (.int .i64 0) (.slice none 0 0) (.slice none 0 0) 17;refine⟨⟨?_,fun k hk=>?_,fun k o hB ho hc=>?_⟩,rfl,Sa.o,q3,q1,q2⟩
    ·have:=n8.o.old.size;simpa using this
    ·rcases hk with rfl|⟨ad,e1,rfl⟩
     ·exact(q4 _ (by omega) (by omega)).trans ((n8.o.keep _ _ _ _ cS.o (by decide)).trans cS.o.symm)
     ·have h9:=X5.o ad e1;exact(q4 _ (by omega) (by omega)).trans (n8.o.old.block _ h9.2)
    ·exact(q4 _ (by omega) (by omega)).trans (n8.o.oth k o ho hc (by simp;omega))
   ·have hovI:¬ (8192:Int)<((gD p.t.n.toNat cs0.inp word st.1).1.length:Int):=by omega
    clear Rg RC Hf
    gi_wp2
    refine⟨⟨n8.o.old.size,fun k hk=>?_,fun k o hB ho hc=>n8.o.oth k o ho hc (by simp;omega)⟩,?_⟩
    ·rcases hk with rfl|⟨ad,e1,rfl⟩
     ·exact(n8.o.keep _ _ _ _ cS.o (by decide)).trans cS.o.symm
     ·exact n8.o.old.block _ (X5.o ad e1).2
    ·show BInv p (.slice pu p.t.cases.length cu) (.slice pv p.a.states.length cv) wd wd.heap.size (wd.heap.size+1+1+1) (wd.heap.size+1+1) (wd.heap.size+1) (stP p (i+1)).1 (stP p (i+1)).2 X/\X.heap[W4.heap.size+1]?=some (.cells #[.slice pw (aL p).length cw] 221)/\(stP p (i+1)).1.length<=8192
     rw[dT.o];exact⟨rm.o,n8.o.keep _ _ _ _ cS.o (by decide),Nat.le_of_not_lt KU⟩
theorem Qx(a b:Vw) (w:World):(binOp .neq 190 a.v b.v).run Tryz.prog w=.ok (.bool (!decide (a=b))) w:=by
 rw[run_neq_struct,Fm 9997];rfl
theorem Fv(va vb:Value) (a b:List Vw) (w:World) (ha:nN w va a) (hb:nN w vb b) :
  Calls Tryz.prog 121 #[va,vb] w fun e w'=>e=.returned (.bool (decide (a=b)))/\Below w.heap.size w w':=by
 obtain⟨pa,ca,rfl,la1,la2,ea⟩:=ha.at;obtain⟨pb,cb,rfl,lb1,lb2,eb⟩:=hb.at;clear ha hb;have EA:=aa ea;clear ea;have EB:=aa eb;clear eb;generalize pz:decide (a=b)=res;have jP:=aa pz;clear pz;by_cases hl:a.length=b.length
 case neg=>
  have iD:((a.length:Int) != (b.length:Int))=true:=by simp;omega
  have HR:am (res=false):=aa (by rw[<-jP.o];simp;intro h;exact hl (by rw[h]));clear hl
  go_enter Tryz.func121,Tryz.ntmps121
  go_wp2
  go_ret
  exact⟨aR HR.o.symm,Below.refl _ _⟩
 have iD:((a.length:Int) != (b.length:Int))=false:=by simp[hl]
 have HL:=aa hl;clear hl
 go_enter Tryz.func121,Tryz.ntmps121
 go_wp2
 clear iD
 go_loopw [13] (fun i wr=>Below w.heap.size w wr/\∃ k:Nat,k<=a.length/\i=.int .i64 k/\∀ j,j<k->a.getD j default=b.getD j default) (fun i _=>a.length - (intOf i).toNat)
 ·exact⟨Below.refl _ _,0,by omega,rfl,by simp⟩
 ·
  obtain⟨az,k,hk,rfl,aW⟩:=hrel;have H:=aa aW;clear aW;by_cases aB:k<a.length
  ·have je:k<b.length:=by have:=HL.o;omega
   obtain⟨b1,o1,rfl,⟨⟨c0,_⟩,⟨c1,_⟩,⟨c2,_⟩,⟨c3,_⟩,⟨c4,_⟩,⟨c5,_⟩,⟨c6,_⟩,⟨c7,_⟩⟩⟩:=EA.o k aB;obtain⟨b2,o2,rfl,⟨⟨e0,_⟩,⟨e1,_⟩,⟨e2,_⟩,⟨e3,_⟩,⟨e4,_⟩,⟨e5,_⟩,⟨e6,_⟩,⟨e7,_⟩⟩⟩:=EB.o k je;have c0':∀ y:ExtW wr,y.val.cell? ⟨b1,o1+k * 8,none⟩=_:=fun y=>y.cell (ak az c0)
   have c1':∀ y:ExtW wr,y.val.cell? ⟨b1,o1+k * 8+1,none⟩=_:=fun y=>y.cell (ak az c1)
   have c2':∀ y:ExtW wr,y.val.cell? ⟨b1,o1+k * 8+2,none⟩=_:=fun y=>y.cell (ak az c2)
   have c3':∀ y:ExtW wr,y.val.cell? ⟨b1,o1+k * 8+3,none⟩=_:=fun y=>y.cell (ak az c3)
   have c4':∀ y:ExtW wr,y.val.cell? ⟨b1,o1+k * 8+4,none⟩=_:=fun y=>y.cell (ak az c4)
   have c5':∀ y:ExtW wr,y.val.cell? ⟨b1,o1+k * 8+5,none⟩=_:=fun y=>y.cell (ak az c5)
   have c6':∀ y:ExtW wr,y.val.cell? ⟨b1,o1+k * 8+6,none⟩=_:=fun y=>y.cell (ak az c6)
   have c7':∀ y:ExtW wr,y.val.cell? ⟨b1,o1+k * 8+7,none⟩=_:=fun y=>y.cell (ak az c7)
   have e0':∀ y:ExtW wr,y.val.cell? ⟨b2,o2+k * 8,none⟩=_:=fun y=>y.cell (ak az e0)
   have e1':∀ y:ExtW wr,y.val.cell? ⟨b2,o2+k * 8+1,none⟩=_:=fun y=>y.cell (ak az e1)
   have e2':∀ y:ExtW wr,y.val.cell? ⟨b2,o2+k * 8+2,none⟩=_:=fun y=>y.cell (ak az e2)
   have e3':∀ y:ExtW wr,y.val.cell? ⟨b2,o2+k * 8+3,none⟩=_:=fun y=>y.cell (ak az e3)
   have e4':∀ y:ExtW wr,y.val.cell? ⟨b2,o2+k * 8+4,none⟩=_:=fun y=>y.cell (ak az e4)
   have e5':∀ y:ExtW wr,y.val.cell? ⟨b2,o2+k * 8+5,none⟩=_:=fun y=>y.cell (ak az e5)
   have e6':∀ y:ExtW wr,y.val.cell? ⟨b2,o2+k * 8+6,none⟩=_:=fun y=>y.cell (ak az e6)
   have e7':∀ y:ExtW wr,y.val.cell? ⟨b2,o2+k * 8+7,none⟩=_:=fun y=>y.cell (ak az e7)
   have HX:=aa (aA default aB);have HY:=aa (aA default je);clear c0 c1 c2 c3 c4 c5 c6 c7 e0 e1 e2 e3 e4 e5 e6 e7;generalize a[k]=x at c0' c1' c2' c3' c4' c5' c6' c7' HX;generalize b[k]=y at e0' e1' e2' e3' e4' e5' e6' e7' HY;have bM:=fun w=>Qx x y w
   go_wp2
   by_cases cG:x=y
   ·have hd:decide (x=y)=true:=by simpa using cG
    have oU:am (a.getD k default=b.getD k default):=aa (by rw[HX.o,HY.o,cG]);rw[hd]at bM;clear cG hd;refine aD (by kernel_rfl) (by kernel_rfl) ?_
    repeat (go_big_quiet_step (fail))
    refine wpQuiet_nil ?_;rintro _ ⟨xq,rfl⟩;clear c0' c1' c2' c3' c4' c5' c6' c7' e0' e1' e2' e3' e4' e5' e6' e7' bM
    go_wp2
    go_roundw
    ·exact⟨ae az xq.ext,k+1,by omega,by go_num,aV H.o oU.o⟩
    ·simp[intOf];omega
   ·have hd:decide (x=y)=false:=by simpa using cG
    have HR:am (res=false):=aa (by rw[<-jP.o];simp;intro h;subst h;rw[HX.o]at HY;exact cG HY.o);rw[hd]at bM;clear cG hd;refine aD (by kernel_rfl) (by kernel_rfl) ?_
    repeat (go_big_quiet_step (fail))
    refine wpQuiet_nil ?_;rintro _ ⟨xq,rfl⟩;clear c0' c1' c2' c3' c4' c5' c6' c7' e0' e1' e2' e3' e4' e5' e6' e7' bM
    go_wp2
    go_ret
    exact⟨aR HR.o.symm,ae az xq.ext⟩
  ·have HR:am (res=true):=aa (by rw[<-jP.o];simp;exact fq default HL.o fun j hj=>H.o j (by omega))
   go_wp2
   go_ret
   exact⟨aR HR.o.symm,az⟩
theorem Fw(va vb:Value) (a b:List (List Int)) (w:World) (ha:eD w va a) (hb:eD w vb b) :
  Calls Tryz.prog 168 #[va,vb,.func (.func 15) #[] #[]] w fun e w'=>e=.returned (.bool (decide (a=b)))/\Below w.heap.size w w':=by
 obtain⟨pa,ca,rfl,la1,la2,ea⟩:=ha.at;obtain⟨pb,cb,rfl,lb1,lb2,eb⟩:=hb.at;clear ha hb;have EA:=aa ea;clear ea;have EB:=aa eb;clear eb;generalize pz:decide (a=b)=res;have jP:=aa pz;clear pz;have g1:=enters_of Tryz.func15 (P:=Tryz.prog) (by kernel_rfl) rfl;by_cases hl:a.length=b.length
 case neg=>
  have iD:((a.length:Int) != (b.length:Int))=true:=by simp;omega
  have HR:am (res=false):=aa (by rw[<-jP.o];simp;intro h;exact hl (by rw[h]));clear hl
  go_enter Tryz.func168,Tryz.ntmps168
  go_wp2
  go_ret
  exact⟨aR HR.o.symm,Below.refl _ _⟩
 have iD:((a.length:Int) != (b.length:Int))=false:=by simp[hl]
 have HL:=aa hl;clear hl
 go_enter Tryz.func168,Tryz.ntmps168
 go_wp2
 clear iD
 go_loopw [17] (fun i wr=>Below w.heap.size w wr/\∃ k:Nat,k<=a.length/\i=.int .i64 k/\∀ j,j<k->a.getD j []=b.getD j []) (fun i _=>a.length - (intOf i).toNat)
 ·exact⟨Below.refl _ _,0,by omega,rfl,by simp⟩
 ·
  obtain⟨az,k,hk,rfl,aW⟩:=hrel;have H:=aa aW;clear aW;by_cases aB:k<a.length
  ·have je:k<b.length:=by have:=HL.o;omega
   obtain⟨b1,o1,rfl,x,c1,hx⟩:=EA.o k aB;obtain⟨b2,o2,rfl,y,c2,hy⟩:=EB.o k je;rw[Nat.mul_one]at c1 c2;have d1:=ak az c1;have d2:=ak az c2;have HC:=aa (ij x y a[k] b[k] wr (hx.up up_int az) (hy.up up_int az));have HX:=aa (aA [] aB);have HY:=aa (aA [] je);obtain⟨px,qx,rfl,_⟩:=hx.at;obtain⟨py,qy,rfl,_⟩:=hy.at;clear hx hy c1 c2;have HE:am (eqV a[k] b[k]=decide (a[k]=b[k])):=aa rfl;generalize eqV a[k] b[k]=eb at HC HE
   go_wp2_with fail
   refine HC.o.mono ?_;rintro e w1 ⟨rfl,aJ⟩;clear d1 d2;cases eb with
   | true=>
    have oU:am (a.getD k []=b.getD k []):=aa (by have h:=HE.o;simp at h;rw[HX.o,HY.o,h])
    go_wp2_with fail
    go_roundw
    ·exact⟨ae az aJ,k+1,by omega,by go_num,aV H.o oU.o⟩
    ·simp[intOf];omega
   | false=>
    have HR:am (res=false):=aa (by rw[<-jP.o];simp;intro h;subst h;have h:=HE.o;simp at h)
    go_wp2_with fail
    go_ret
    exact⟨aR HR.o.symm,ae az aJ⟩
  ·have HR:am (res=true):=aa (by rw[<-jP.o];simp;exact fq [] HL.o fun j hj=>H.o j (by omega))
   go_wp2
   go_ret
   exact⟨aR HR.o.symm,az⟩
abbrev Js(c:Int) (u v:Value):Array Value:=#[.int .i64 c,u,v]
theorem ZN(a b:Ex):decide (a=b)=(decide (a.c=b.c)&&decide (a.word=b.word)&&decide (a.views=b.views)):=by
 obtain⟨c,u,v⟩:=a;obtain⟨d,x,y⟩:=b;simp only[Ex.mk.injEq];by_cases h1:c=d<;>by_cases h2:u=x<;>by_cases h3:v=y<;>simp[h1,h2,h3]
theorem Jt(a b:Ex) (ua va ub vb:Value) (w:World) (h1:kQ w ua a.word) (h2:eD w va a.views) (h3:kQ w ub b.word) (h4:eD w vb b.views) :
  Calls Tryz.prog 123 #[.agg (Js a.c ua va),.agg (Js b.c ub vb)] w fun e w'=>e=.returned (.bool (decide (a=b)))/\Below w.heap.size w w':=by
 have H1:=aa h1;have H2:=aa h2;have H3:=aa h3;have H4:=aa h4;obtain⟨_,_,rfl,_⟩:=h1.at;obtain⟨_,_,rfl,_⟩:=h2.at;obtain⟨_,_,rfl,_⟩:=h3.at;obtain⟨_,_,rfl,_⟩:=h4.at;clear h1 h2 h3 h4;have HV:=aa (ZN a b);generalize decide (a=b)=res at HV;generalize a.c=x1 at *;generalize b.c=x2 at *
 go_enter Tryz.func123,Tryz.ntmps123
 by_cases hc:x1=x2
 ·subst hc
  go_wp2_with fail
  refine aN (fun W=>Below w.heap.size w W/\(∃ c,W.heap[w.heap.size]?=some (.cells c 89)/\c=Js x1 _ _)/\∃ c,W.heap[w.heap.size+1]?=some (.cells c 89)/\c=Js x1 _ _) ⟨by go_grown,⟨_,ar _ (aq _ _),rfl⟩,_,bd _ _ _,rfl⟩ (fun W0 aZ=>?_);obtain⟨aI,⟨_,hA,rfl⟩,⟨_,hB,rfl⟩⟩:=aZ;refine(Dr _ _ a.word b.word W0 (H1.o.up up_round aI) (H3.o.up up_round aI)).mono ?_;rintro e w1 ⟨rfl,aJ⟩;have cZ:=ae aI aJ;have tA:=ab (af aJ hA);have tB:=ab (af aJ hB);clear hA hB;cases hw:decide (a.word=b.word) with
  | false=>
   have HR:am (res=false):=aa (by rw[HV.o,hw];simp);clear hw
   go_wp2_with fail
   go_ret
   exact⟨aR HR.o.symm,cZ⟩
  | true=>
   have HR:am (res=decide (a.views=b.views)):=aa (by rw[HV.o,hw];simp);clear hw
   go_wp2_with fail
   refine(Fw _ _ a.views b.views w1 (H2.o.up up_ints cZ) (H4.o.up up_ints cZ)).mono ?_;rintro e w2 ⟨rfl,a8⟩;clear tA tB
   go_wp2_with fail
   go_ret
   exact⟨aR HR.o.symm,ae cZ a8⟩
 ·have hd:decide (x1=x2)=false:=decide_eq_false hc;have HR:am (res=false):=aa (by rw[HV.o,hd];simp)
  go_wp2_with fail
  go_ret
  exact⟨aR HR.o.symm,by go_grown⟩
theorem Fx(va vb:Value) (a b:List Ex) (w:World) (ha:AV w va a) (hb:AV w vb b) :
  Calls Tryz.prog 122 #[va,vb,.func (.func 123) #[] #[]] w fun e w'=>e=.returned (.bool (decide (a=b)))/\Below w.heap.size w w':=by
 obtain⟨pa,ca,rfl,la1,la2,ea⟩:=ha.at;obtain⟨pb,cb,rfl,lb1,lb2,eb⟩:=hb.at;clear ha hb;have EA:=aa ea;clear ea;have EB:=aa eb;clear eb;generalize pz:decide (a=b)=res;have jP:=aa pz;clear pz;have g1:=enters_of Tryz.func123 (P:=Tryz.prog) (by kernel_rfl) rfl;by_cases hl:a.length=b.length
 case neg=>
  have iD:((a.length:Int) != (b.length:Int))=true:=by simp;omega
  have HR:am (res=false):=aa (by rw[<-jP.o];simp;intro h;exact hl (by rw[h]));clear hl
  go_enter Tryz.func122,Tryz.ntmps122
  go_wp2
  go_ret
  exact⟨aR HR.o.symm,Below.refl _ _⟩
 have iD:((a.length:Int) != (b.length:Int))=false:=by simp[hl]
 have HL:=aa hl;clear hl
 go_enter Tryz.func122,Tryz.ntmps122
 go_wp2
 clear iD
 go_loopw [17] (fun i wr=>Below w.heap.size w wr/\∃ k:Nat,k<=a.length/\i=.int .i64 k/\∀ j,j<k->a.getD j default=b.getD j default) (fun i _=>a.length - (intOf i).toNat)
 ·exact⟨Below.refl _ _,0,by omega,rfl,by simp⟩
 ·
  obtain⟨az,k,hk,rfl,aW⟩:=hrel;have H:=aa aW;clear aW;by_cases aB:k<a.length
  ·have je:k<b.length:=by have:=HL.o;omega
   obtain⟨b1,o1,rfl,⟨c1,_⟩,⟨u1,c2,h2⟩,⟨v1,c3,h3⟩⟩:=EA.o k aB;obtain⟨b2,o2,rfl,⟨d1,_⟩,⟨u2,d2,k2⟩,⟨v2,d3,k3⟩⟩:=EB.o k je;have c1':=ak az c1;have c2':=ak az c2;have c3':=ak az c3;have hA:Below wr.heap.size wr (wr.alloc (.cells (Js a[k].c u1 v1) 89)):=by go_grown
   have d1':=ak hA (ak az d1);have d2':=ak hA (ak az d2);have d3':=ak hA (ak az d3);have H2:=aa (h2.up up_round az);have H3:=aa (h3.up up_ints az);have K2:=aa (k2.up up_round az);have K3:=aa (k3.up up_ints az);obtain⟨_,_,rfl,_⟩:=h2.at;obtain⟨_,_,rfl,_⟩:=h3.at;obtain⟨_,_,rfl,_⟩:=k2.at;obtain⟨_,_,rfl,_⟩:=k3.at;have HX:=aa (aA default aB);have HY:=aa (aA default je);clear h2 h3 k2 k3 c1 c2 c3 d1 d2 d3 hA;generalize a[k]=x at *;generalize b[k]=y at *
   go_wp2_with fail
   refine aN (fun W=>Below wr.heap.size wr W) (by go_grown) (fun W0 aZ=>?_);refine(Jt x y _ _ _ _ W0 (H2.o.up up_round aZ) (H3.o.up up_ints aZ) (K2.o.up up_round aZ) (K3.o.up up_ints aZ)).mono ?_;rintro e w1 ⟨rfl,aJ⟩;have cZ:=ae az (ae aZ aJ);clear c1' c2' c3' d1' d2' d3';cases cG:decide (x=y) with
   | true=>
    have oU:am (a.getD k default=b.getD k default):=aa (by rw[HX.o,HY.o,of_decide_eq_true cG]);clear cG
    go_wp2_with fail
    go_roundw
    ·exact⟨cZ,k+1,by omega,by go_num,aV H.o oU.o⟩
    ·simp[intOf];omega
   | false=>
    have HR:am (res=false):=aa (by rw[<-jP.o];simp;intro h;subst h;rw[HX.o]at HY;exact of_decide_eq_false cG HY.o);clear cG
    go_wp2_with fail
    go_ret
    exact⟨aR HR.o.symm,cZ⟩
  ·have HR:am (res=true):=aa (by rw[<-jP.o];simp;exact fq default HL.o fun j hj=>H.o j (by omega))
   go_wp2
   go_ret
   exact⟨aR HR.o.symm,az⟩
theorem gT{P:Program} {ops:Array Oper} {Q:Exit->Act->World->Prop} {l:List Oper} {a:Act} {W:World} (I:World->Prop) (h:I W) (k:∀ W0,I W0->wpList P ops Q l a W0):wpList P ops Q l a W:=k W h
theorem bB{w:World} {s:Sys} {vc vs vt ve:Value} (h:IsSys w s vc vs vt ve):(∃ a c,vc=.slice a s.prob.t.cases.length c)/\(∃ a c,vs=.slice a s.prob.a.states.length c)/\(∃ a c,vt=.slice a s.tab.length c)/\∃ a c,ve=.slice a s.ex.length c:=by
 obtain⟨a1,c1,e1,_⟩:=h.cases.at;obtain⟨a2,c2,e2,_⟩:=h.states.at;obtain⟨a3,c3,e3,_⟩:=h.tab.at;obtain⟨a4,c4,e4,_⟩:=h.ex.at;exact⟨⟨a1,c1,e1⟩,⟨a2,c2,e2⟩,⟨a3,c3,e3⟩,a4,c4,e4⟩
theorem qA(s:Sys) (vc vs vt ve:Value) (w:World) (hs:IsSys w s vc vs vt ve) (hN:movesN s.prob.a.states<1099511627776) :
  Calls Tryz.prog 75 #[.agg (bL s.prob vc vs s.n vt ve)] w fun e w'=>e=.returned (.int .i64 (verifyE s))/\Below w.heap.size w w':=by
 have HS:=aa hs;obtain⟨⟨pc,cc,rfl⟩,⟨ps,cs,rfl⟩,⟨pt,ct,rfl⟩,⟨pe,ce,rfl⟩⟩:=bB hs;clear hs;have HV:am (verifyE s=if buildE s.prob≠0 then buildE s.prob else if s.n=(aO s.prob).n/\s.tab=(aO s.prob).tab/\s.ex=(aO s.prob).ex then 0 else 3):=aa rfl;have HT:=aa HS.o.tab;have HE:=aa HS.o.ex;have HC:=aa (fun W (hb:Below w.heap.size w W)=>Qw s.prob (.slice pc s.prob.t.cases.length cc) (.slice ps s.prob.a.states.length cs) W (HS.o.cases.up up_case hb) (HS.o.states.up up_moves hb) hN);clear HS
 go_enter Tryz.func75,Tryz.ntmps75
 go_wp2_with fail
 refine aN (fun W=>Below w.heap.size w W/\∃ c,W.heap[w.heap.size]?=some (.cells c 35)/\c=bL s.prob _ _ s.n _ _) ⟨by go_grown,_,aq _ _,rfl⟩ (fun W0 aZ=>?_);obtain⟨aI,_,hA,rfl⟩:=aZ;refine(HC.o W0 aI).mono ?_;rintro e w1 ⟨c,rfl,h0,h1,aJ⟩;have cZ:=ae aI aJ;have eK:=af aJ hA;have db:=aa eK;have eh:=aa cZ;have gc:=cZ.size;have iS:=aC eK;clear hA eK aI aJ HC;by_cases lz:buildE s.prob=0
 case neg=>
  obtain rfl:=h1 lz;clear h0 h1;have HR:am (verifyE s=buildE s.prob):=aa (by rw[HV.o,if_pos lz]);generalize buildE s.prob=be at lz HR;have hbe':(be != 0)=true:=by simpa using lz
  clear HV lz
  go_wp2_with ((refine wpList_store_row rfl 35 (.tmp 3) (.tmp 9) rfl w1.heap.size zeroSys rfl rfl 35 _ (aq w1 (.cells zeroSys 35)) (by kernel_rfl) rfl (by simp[Value.oneCell']) (gT (fun W=>Below w.heap.size w W) (below_setRow (eh.o.alloc gc _) gc _) ?_);intro W2 eY;have cS:=aa eY;clear eY))
  go_ret
  exact⟨aG HR.o.symm,cS.o⟩
 obtain⟨uc,us,vt,ve,rfl,Ug⟩:=h0 lz;have HR:am (verifyE s=if s.n=s.prob.t.n/\s.tab=(aO s.prob).tab/\s.ex=(aO s.prob).ex then 0 else 3):=aa (by rw[HV.o,if_neg (by omega)];rfl);have Aj:=aa Ug;obtain⟨⟨qc,dc,e1⟩,⟨qs,ds,e2⟩,⟨qt,dt,e3⟩,⟨qe,de,e4⟩⟩:=bB Ug;clear h1 Ug HV;rw[lz];clear lz;generalize vD:(aO s.prob).tab=bt at *;generalize ly:(aO s.prob).ex=bx at *;have EK:am (nN w1 vt bt):=aa (by rw[<-vD];exact Aj.o.tab);have nU:am (AV w1 ve bx):=aa (by rw[<-ly];exact Aj.o.ex);clear vD ly Aj;subst e1 e2 e3 e4;have hone:(bL s.prob (.slice qc (aO s.prob).prob.t.cases.length dc) (.slice qs (aO s.prob).prob.a.states.length ds) s.prob.t.n (.slice qt bt.length dt) (.slice qe bx.length de)).all (·.oneCell')=true:=by simp[Value.oneCell']
 by_cases hn:s.n=s.prob.t.n
 case neg=>
  have AD:(s.n != s.prob.t.n)=true:=by simpa using hn
  have dU:am (verifyE s=3):=aa (by rw[HR.o,if_neg (fun h=>hn h.1)]);clear hn HR
  go_wp2_with ((refine wpList_store_row rfl 35 (.tmp 3) (.tmp 9) rfl w1.heap.size (bL s.prob (.slice qc (aO s.prob).prob.t.cases.length dc) (.slice qs (aO s.prob).prob.a.states.length ds) s.prob.t.n (.slice qt bt.length dt) (.slice qe bx.length de)) rfl rfl 35 _ (aq w1 (.cells zeroSys 35)) (by kernel_rfl) rfl hone (gT (fun W=>Below w.heap.size w W/\Below w1.heap.size w1 W/\∃ c,W.heap[w1.heap.size]?=some (.cells c 35)/\c=bL s.prob _ _ s.prob.t.n _ _) ⟨below_setRow (eh.o.alloc gc _) gc _,below_setRow ((Below.refl _ w1).alloc (Nat.le_refl _) _) (Nat.le_refl _) _,_,setRow_heap _ _ _ _ _ _ (aq w1 _),rfl⟩ ?_);intro W2 eY;obtain⟨g1,g2,c2,g3,jk⟩:=eY;subst jk;have tS:=ab (af g2 db.o);have tT:=ab g3;have G1:=aa g1;have G2:=aa g2;have G3:=aa g3;clear g1 g2 g3))
  go_ret
  exact⟨aG dU.o.symm,G1.o⟩
 have AD:(s.n != s.prob.t.n)=false:=by simpa using hn
 have tp:=aa hn;clear hn
 go_wp2_with ((refine wpList_store_row rfl 35 (.tmp 3) (.tmp 9) rfl w1.heap.size (bL s.prob (.slice qc (aO s.prob).prob.t.cases.length dc) (.slice qs (aO s.prob).prob.a.states.length ds) s.prob.t.n (.slice qt bt.length dt) (.slice qe bx.length de)) rfl rfl 35 _ (aq w1 (.cells zeroSys 35)) (by kernel_rfl) rfl hone (gT (fun W=>Below w.heap.size w W/\Below w1.heap.size w1 W/\∃ c,W.heap[w1.heap.size]?=some (.cells c 35)/\c=bL s.prob _ _ s.prob.t.n _ _) ⟨below_setRow (eh.o.alloc gc _) gc _,below_setRow ((Below.refl _ w1).alloc (Nat.le_refl _) _) (Nat.le_refl _) _,_,setRow_heap _ _ _ _ _ _ (aq w1 _),rfl⟩ ?_);intro W2 eY;obtain⟨g1,g2,c2,g3,jk⟩:=eY;subst jk;have tS:=ab (af g2 db.o);have tT:=ab g3;have G1:=aa g1;have G2:=aa g2;have G3:=aa g3;clear g1 g2 g3))
 refine(Fv _ _ s.tab bt W2 (HT.o.up up_view G1.o) (EK.o.up up_view G2.o)).mono ?_;rintro e w3 ⟨rfl,bH⟩;clear tS tT;have tS:=ab (af bH (af G2.o db.o));have tT:=ab (af bH G3.o);have vU:=ae G1.o bH;have hbw4:=ae G2.o bH;cases ht:decide (s.tab=bt) with
 | false=>
  have dU:am (verifyE s=3):=aa (by rw[HR.o,if_neg (fun h=>of_decide_eq_false ht h.2.1)]);clear ht HR
  go_wp2_with fail
  go_ret
  exact⟨aG dU.o.symm,vU⟩
 | true=>
  have dU:am (verifyE s=if s.ex=bx then 0 else 3):=aa (by
   rw[HR.o];by_cases h:s.ex=bx
   ·rw[if_pos ⟨tp.o,of_decide_eq_true ht,h⟩,if_pos h]
   ·rw[if_neg (fun h'=>h h'.2.2),if_neg h])
  clear ht HR
  go_wp2_with fail
  refine(Fx _ _ s.ex bx w3 (HE.o.up up_ex vU) (nU.o.up up_ex hbw4)).mono ?_;rintro e w4 ⟨rfl,cj⟩;clear tS tT;cases ht:decide (s.ex=bx) with
  | false=>
   have eT:am (verifyE s=3):=aa (by rw[dU.o,if_neg (of_decide_eq_false ht)]);clear ht dU
   go_wp2_with fail
   go_ret
   exact⟨aG eT.o.symm,ae vU cj⟩
  | true=>
   have eT:am (verifyE s=0):=aa (by rw[dU.o,if_pos (of_decide_eq_true ht)]);clear ht dU
   go_wp2_with fail
   go_ret
   exact⟨aG eT.o.symm,ae vU cj⟩
theorem Gq{w:World} {B:Nat} {cs:Array Value} {t:TypeId} {fz:Nat × Nat} (h:w.heap[B]?=some (.cells cs t fz)) (o:Nat) (hf:¬ (fz.1<=o/\o<fz.2)):w.frozen? ⟨B,o,none⟩=false:=by
 simp[World.frozen?,h];simpa using hf
def lL(n:Nat) (f r:Nat->Int) (q:Nat):List Value:=(List.range n).map fun j=>Value.int .i64 (if j<q then f j else r j)
theorem Ju(n:Nat) (f r:Nat->Int) (q:Nat):(lL n f r q).length=n:=by simp[lL]
theorem S4(n:Nat) (f r:Nat->Int) (q:Nat):(lL n f r q).set q (.int .i64 (f q))=lL n f r (q+1):=by
 refine List.ext_getElem (by simp[lL]) fun i h1 h2=>?_
 rw[List.getElem_set];simp only[lL,List.getElem_map,List.getElem_range];by_cases e:q=i
 ·subst e;rw[if_pos rfl,if_pos (by omega)]
 ·rw[if_neg e];by_cases h:i<q
  ·rw[if_pos h,if_pos (by omega)]
  ·rw[if_neg h,if_neg (by omega)]
theorem Gs(n:Nat) (f r:Nat->Int) (q:Nat) (h:f q=r q):lL n f r (q+1)=lL n f r q:=by
 unfold lL;refine List.map_congr_left fun j _=>?_
 by_cases e:j=q
 ·subst e;rw[if_pos (by omega),if_neg (by omega),h]
 ·by_cases h:j<q
  ·rw[if_pos (by omega),if_pos h]
  ·rw[if_neg (by omega),if_neg h]
theorem XE(p:Nat):hasB 0 p=false:=by simp[hasB]
theorem List.set_take'{α:Type} (l:List α) (i n:Nat) (a:α):(l.take n).set i a=(l.set i a).take n:=by rw[List.take_set]
theorem WP{s:Sys} (h:SysOk s):∀ x∈sF s,∀ y∈x,bN y:=fun x hx y hy=>by
 obtain⟨e,he,rfl⟩:=List.mem_map.1 hx;obtain⟨p,hp,rfl⟩:=List.mem_map.1 hy;have h1:=kK h (List.mem_range.1 he) (List.mem_range.1 hp);have h2:=h.tab;split
 ·exact⟨by omega,by omega⟩
 ·exact⟨by omega,by omega⟩
theorem S5{w:World} {pr:Option Addr} {n cr:Nat} {l:List Int} (h:aT w (.slice pr n cr) l) (hl:l.length=n):ny w 1 (.slice pr n cr) n (l.map (Value.int .i64)):=by
 obtain⟨a,cap,e,⟨h1,h2,h3⟩,h4,h5⟩:=h;injection e with e1 e2 e3
 subst e1 e3;refine⟨pr,cr,rfl,fun e=>⟨by have:=h3 e;omega,h3 e⟩,by simp[hl],fun j u hj=>?_,fun u hu=>by obtain⟨x,_,rfl⟩:=List.mem_map.1 hu;rfl⟩;rw[List.getElem?_map]at hj;cases hx:l[j]? with
 | none=>rw[hx]at hj;cases hj
 | some x=>
  rw[hx]at hj;obtain⟨b,o,e,h6,_⟩:=h5 j x hx;rw[Nat.mul_one]at h6;exact⟨b,o,e,by rw[h6];exact hj⟩
theorem aH.block{w:World} {base n:Nat} {e:TypeId} {v:Value} {xs:List Value} (h:aH w base e 1 v n xs) (hn:0<n):∃ g cap cur fz,v=.slice (some ⟨g,0,none⟩) n cap/\base<=g/\w.heap[g]?=some (.cells cur e fz)/\(∀ i,i<cur.size->¬ (fz.1<=i/\i<fz.2))/\n<=cap/\cap<=maxLen/\cur.size=cap/\cur.toList.take n=xs/\v.ownBlock=some g:=by
 rcases h.2 with ⟨_,h0⟩|⟨g,cap,cur,fz,rfl,h1,h2,h3,h4,h5,h6,h7⟩
 ·omega
 ·exact⟨g,cap,cur,fz,rfl,h1,h2,h3,h4,h5,by omega,by rw[Nat.mul_one]at h7;exact h7,rfl⟩
theorem gX{w:World} {s:Sys} (hs:SysOk s) {ve:Value} (h:AV w ve s.ex) {k:Nat} (hk:k<eS s):∃ b o pe ce,ve=.slice (some ⟨b,o,none⟩) (eS s) ce/\pe=some (⟨b,o,none⟩:Addr)/\∃ pw nw cw pv cv,w.cell? ⟨b,o+k * 3,none⟩=some (.int .i64 (cN s k).c)/\w.cell? ⟨b,o+k * 3+1,none⟩=some (.slice pw nw cw)/\w.cell? ⟨b,o+k * 3+2,none⟩=some (.slice pv (s.prob.rounds.toNat+1) cv)/\nw=s.prob.rounds.toNat ∧
  (0<nw->∃ b1 o1,pw=some ⟨b1,o1,none⟩/\w.cell? ⟨b1,o1+(nw - 1) * 7+6,none⟩=some (.int .i64 (fltS s k)))/\(nw=0->fltS s k=0) ∧
  ∃ b2 o2 pr cr,pv=some ⟨b2,o2,none⟩/\w.cell? ⟨b2,o2+s.prob.rounds.toNat,none⟩=some (.slice pr (nS s) cr)/\aT w (.slice pr (nS s) cr) ((List.range (nS s)).map (finS s k)):=by
 obtain⟨a,ce,e0,_,_,ep⟩:=h.at;obtain⟨b,o,rfl,⟨c1,_⟩,⟨uw,c2,h2⟩,⟨uv,c3,h3⟩⟩:=ep k hk;have hx:s.ex[k]=cN s k:=by unfold cN;exact(aA default hk).symm
 rw[hx]at c1 h2 h3;have J6:=hs.word k hk;obtain⟨vh,Vp⟩:=hs.views k hk;obtain⟨pw,cw,rfl,_,_,ew⟩:=h2.at;obtain⟨pv,cv,rfl,_,_,ev⟩:=h3.at;obtain⟨b2,o2,e2,vr,cr',hr⟩:=ev s.prob.rounds.toNat (by omega);rw[Nat.mul_one]at cr'
 have bQ:(cN s k).views[s.prob.rounds.toNat]'(by omega)=(List.range (nS s)).map (finS s k):=by
  have cC:=(Vp _ (List.getElem_mem (l:=(cN s k).views) (show s.prob.rounds.toNat<(cN s k).views.length by omega))).1;refine List.ext_getElem (by simp[cC]) fun i h1 h2=>?_
  simp only[List.getElem_map,List.getElem_range];unfold finS;rw[aA [] (show s.prob.rounds.toNat<(cN s k).views.length by omega),aA 0 h1]
 rw[bQ]at hr;obtain⟨pr,cr,rfl,_⟩:=hr.at;rw[show ((List.range (nS s)).map (finS s k)).length=nS s by simp]at cr' hr;refine⟨b,o,_,ce,e0,rfl,pw,_,cw,pv,cv,c1,c2,by rw[vh]at c3;exact c3,J6,fun h0=>?_,fun h0=>?_,b2,o2,pr,cr,e2,cr',hr⟩
 ·obtain⟨b1,o1,e1,_,_,_,_,_,_,c6,_⟩:=ew ((cN s k).word.length - 1) (by omega);refine⟨b1,o1,e1,?_⟩;rw[c6];unfold fltS AP;rw[if_neg (by omega),aA default (show (cN s k).word.length - 1<(cN s k).word.length by omega)]
 ·unfold fltS AP;rw[if_pos h0]
def gY(w:World) (base B:Nat) (s:Sys):Prop:=base<=B/\∃ vl,w.heap[B]?=some (.cells #[.int .i64 (nS s),vl] 201)/\cU w base vl (sF s)
theorem gY.at{w:World} {base B:Nat} {s:Sys} (h:gY w base B s) (hs:SysOk s):FinAt w B s:=by
 obtain⟨_,vl,h1,h2⟩:=h;exact⟨vl,h1,oF h2 (WP hs) (by rw[Cy];have:=hs.count;omega) (fun x hx=>by obtain⟨e,_,rfl⟩:=List.mem_map.1 hx;rw[mg];have:=hs.n.2.1;omega)⟩
theorem aH.keepB{w V:World} {base k n:Nat} {e:TypeId} {v:Value} {xs:List Value} (h:aH w base e k v n xs) (hk:∀ g,base<=g->g<w.heap.size->V.heap[g]?=w.heap[g]?):aH V base e k v n xs:=by
 obtain⟨hl,h⟩:=h;refine⟨hl,?_⟩;rcases h with h|⟨g,cap,cur,fz,h1,h2,h3,h4⟩
 ·exact .inl h
 ·exact .inr ⟨g,cap,cur,fz,h1,h2,(hk g h2 (aC h3)).trans h3,h4⟩
theorem aH.baseB{w:World} {base b k n:Nat} {e:TypeId} {v:Value} {xs:List Value} (h:aH w base e k v n xs) (hb:b<=base):aH w b e k v n xs:=by
 obtain⟨hl,h⟩:=h;refine⟨hl,?_⟩;rcases h with h|⟨g,cap,cur,fz,h1,h2,h3,h4⟩
 ·exact .inl h
 ·exact .inr ⟨g,cap,cur,fz,h1,Nat.le_trans hb h2,h3,h4⟩
theorem gY.keep{w V:World} {base B:Nat} {s:Sys} (h:gY w base B s) (hk:∀ g,base<=g->g<w.heap.size->V.heap[g]?=w.heap[g]?):gY V base B s:=by
 obtain⟨h0,vl,h1,xs,h2,h3⟩:=h;exact⟨h0,vl,(hk B h0 (aC h1)).trans h1,xs,h2.keepB hk,fun i hi=>by obtain⟨x,q1,q2⟩:=h3 i hi;exact⟨x,q1,q2.keepB hk⟩⟩
theorem gY.mono{w:World} {base b B:Nat} {s:Sys} (h:gY w base B s) (hb:b<=base):gY w b B s:=by
 obtain⟨h0,vl,h1,xs,h2,h3⟩:=h;exact⟨Nat.le_trans hb h0,vl,h1,xs,h2.baseB hb,fun i hi=>by obtain⟨x,q1,q2⟩:=h3 i hi;exact⟨x,q1,q2.baseB hb⟩⟩
theorem gY.up{w V:World} {base B:Nat} {s:Sys} (h:gY w base B s) (hb:Below w.heap.size w V):gY V base B s:=h.keep fun g _ hg=>hb.block g hg
theorem Fy(s:Sys) (vc vs vt ve:Value) (w:World) (hs:IsSys w s vc vs vt ve) (hN:movesN s.prob.a.states<1099511627776) :
  Calls Tryz.prog 128 #[.agg (bL s.prob vc vs s.n vt ve)] w fun e w'=>∃ v,e=.returned (.tuple #[v,.int .i64 (verifyE s)])/\Below w.heap.size w w'/\(verifyE s≠0->v=.pointer none)/\(verifyE s=0->∃ B,v=.pointer (some ⟨B,0,none⟩)/\FinAt w' B s/\gY w' w.heap.size B s):=by
 have HS:=aa hs;obtain⟨⟨pc,cc,rfl⟩,⟨ps,cs,rfl⟩,⟨pt,ct,rfl⟩,⟨pe,ce,rfl⟩⟩:=bB hs;clear hs;have HC:=aa (fun W (hb:Below w.heap.size w W)=>qA s _ _ _ _ W (HS.o.up hb) hN);obtain⟨i0,cM,bX,bP,bY⟩:=info_parts Tryz.infoInt;obtain⟨j0,oO,jl,jj,iR⟩:=info_parts Tryz.infoInts
 go_enter Tryz.func128,Tryz.ntmps128
 go_wp2_with fail
 refine aN (fun W=>Below w.heap.size w W/\∃ c,W.heap[w.heap.size]?=some (.cells c 35)/\c=bL s.prob _ _ s.n _ _) ⟨by go_grown,_,aq _ _,rfl⟩ (fun W0 aZ=>?_);obtain⟨aI,_,hA,rfl⟩:=aZ;refine(HC.o W0 aI).mono ?_;rintro e w1 ⟨rfl,aJ⟩;have cZ:=ae aI aJ;have eK:=af aJ hA;have tS:=ab eK;have db:=aa eK;have eh:=aa cZ;have gc:=cZ.size;have iS:=aC eK;clear hA eK aI aJ HC cZ;by_cases hv:verifyE s=0
 case neg=>
  have HV:=aa hv;obtain⟨ev,mQ⟩:∃ ev,verifyE s=ev:=⟨_,rfl⟩;rw[mQ]at hv ⊢;have HE:=aa mQ;have J1:(ev != 0)=true:=by simpa using hv
  clear hv mQ
  go_wp2_with fail
  go_ret2
  exact⟨_,by rw[HE.o];rfl,eh.o,fun _=>rfl,fun h=>absurd h HV.o⟩
 have Ef:=aa hv;have gC:=jh hv;have dA:=aa gC;rw[hv];clear hv;have fj:=gC.n;have An:=aa (HS.o.ex);have HK:am (∀ k,k<eS s->_):=aa (fun k (hk:k<eS s)=>gX gC An.o hk);have kj:s.ex.length=eS s:=rfl;rw[kj]at tS HK db;clear kj;obtain⟨n,hn⟩:∃ n,nS s=n:=⟨_,rfl⟩;obtain⟨m,hm⟩:∃ m,eS s=m:=⟨_,rfl⟩;have yG:s.prob.t.n=(n:Int):=by omega
 have hm4:m<=4096:=by have:=gC.count;omega
 have gK:1<=n/\n<=5:=by omega
 have rl:=gC.rounds;obtain⟨r,hr⟩:∃ r,s.prob.rounds.toNat=r:=⟨_,rfl⟩;have YX:r<=6:=by omega
 have Cc:=aa gC.flt;rw[hn,hm,hr]at HK;rw[hm]at tS db Cc;have t0:w1.cell? ⟨w.heap.size,0,none⟩=some (.int .i64 n):=by rw[tS 0,<-yG];rfl
 have t9:∀ o,(w1.alloc o).cell? ⟨w.heap.size,9,none⟩=some (.slice pe m ce):=fun o=>(ab (ar o db.o) 9).trans rfl
 clear tS
 go_wp2_with fail
 clear t0 t9;refine bu (fun W=>Below w.heap.size w W/\W.heap[w1.heap.size]?=some (.cells #[.int .i64 n,.slice none 0 0] 201)) ⟨eh.o.alloc gc _,aq _ _⟩ (fun W2 eY=>?_);generalize w1.heap.size=B at eY gc iS;have cS:=aa eY;clear eY eh db;obtain⟨L,hL⟩:∃ L:Nat->List (List Int),L=fun k=>(List.range k).map (fF s):=⟨_,rfl⟩
 have HL:am (L 0=[]/\(∀ k,L (k+1)=L k++[fF s k])/\L m=sF s/\∀ k,(L k).length=k):=aa (by
  subst hL;refine⟨rfl,fun k=>by simp[List.range_succ],?_,fun k=>by simp⟩
  unfold sF;rw[hm])
 clear hL;have ou:=aa hn;have Mg:=aa hm;clear hn hm gC fj hr rl yG
 go_loopw [26] (fun i wr=>∃ k:Nat,k<=m/\i=.int .i64 k/\Below w.heap.size w wr/\∃ lv,wr.heap[B]?=some (.cells #[.int .i64 n,lv] 201)/\cU wr w.heap.size lv (L k)) (fun i _=>m - (intOf i).toNat)
 ·exact⟨0,by omega,rfl,cS.o.1,_,cS.o.2,by rw[HL.o.1];exact cB.nil _ _⟩
 ·
  clear cS;obtain⟨k,hk,rfl,az,lv,hB,xs,aS,kj⟩:=hrel;obtain⟨al,cl,rfl⟩:=aS.slice;have HB:=aa hB;have bG:=aa aS;have yE:=aa kj;have aP:=aa az;have wF:=aC hB;have z5:=az.size;clear aS kj;by_cases aB:k<m
  ·obtain⟨b,o,_,ce',e0,rfl,pw,nw,cw,pv,cv,c1,c2,c3,mS,eU,hZ,b2,o2,pr,cr,e2,c4,bQ⟩:=HK.o k aB;injection e0 with e0 e8 e9
   clear e8 e9;subst e0 e2 mS;have d1:=ak az c1;have d2:=ak az c2;have d3:=ak az c3;have hA:Below wr.heap.size wr (wr.alloc (.cells #[.int .i64 (cN s k).c,.slice pw nw cw,.slice (some ⟨b2,o2,none⟩) (nw+1) cv] 89)):=by go_grown
   have Zj:=ae az hA;have d4:=ak Zj c4;have jO:=aa (bQ.up up_int Zj);have vB:=Cc.o k aB;obtain⟨fl,TG⟩:∃ fl,fltS s k=fl:=⟨_,rfl⟩;rw[TG]at eU hZ vB;have KQ:=aa TG
   have TP:am (ny (wr.alloc (.cells #[.int .i64 (cN s k).c,.slice pw nw cw,.slice (some ⟨b2,o2,none⟩) (nw+1) cv] 89)) 1 (.slice pr n cr) n ((List.range n).map fun j=>Value.int .i64 (finS s k j))):=aa (by
    have h:=S5 jO.o (by simp);rw[List.map_map]at h
    exact h)
   have Zb:wr.heap.size<(wr.alloc (.cells #[.int .i64 (cN s k).c,.slice pw nw cw,.slice (some ⟨b2,o2,none⟩) (nw+1) cv] 89)).heap.size:=by simp
   have Zg:=aa hA;have jS:0<n:=by omega
   have tX:=ab (aq wr (.cells #[.int .i64 (cN s k).c,.slice pw nw cw,.slice (some ⟨b2,o2,none⟩) (nw+1) cv] 89));clear c1 c2 c3 c4 bQ hA TG hB az;by_cases hw:nw=0
   ·obtain rfl:=hZ hw;subst hw;simp only[Nat.zero_add,Nat.add_zero]at d3 d4 tX Zb TP Zg
    go_wp2_with (at_builtin;(refine lq _ rfl (.const (.slice none 0 0)) (.tmp 49) 38 rfl wr.heap.size 3 i0 _ 1 8 Tryz.underlying38 cM bX bP bY rfl (by decide) (.slice none 0 0) 0 [] rfl (aH.nil _ _ _ _) _ n ((List.range n).map fun j=>Value.int .i64 (finS s k j)) rfl TP.o (by unfold maxLen;omega) (by omega) (by simp) ?_;intro v2 w2 fX dC _;rw[Nat.zero_add,List.nil_append]at fX;have cQ:=aa (Below.grown Zg.o dC (Nat.le_of_lt Zb) (fun g h=>by cases h));obtain⟨g,cap,cur,fz,kr,hg,ml,oh,jH,rk,jU,nP,_⟩:=fX.block jS;subst kr;have HG:=aa (And.intro ml (And.intro oh (And.intro jU nP)));clear fX dC ml oh jU nP))
    clear tX;obtain⟨wrA,C5⟩:∃ x,x=wr:=⟨_,rfl⟩;subst C5;have hgw:=aC HG.o.1
    go_loopw [53] (fun i wi=>∃ (p:Nat) (cu:Array Value),p<=n/\i=.int .i64 p/\Only g w2 wi/\wi.heap[g]?=some (.cells cu 3 fz)/\cu.size=cap/\cu.toList.take n=lL n (fun p=>if hasB (fltS s k) p then -1 else finS s k p) (finS s k) p) (fun i _=>n - (intOf i).toNat)
    ·exact⟨0,cur,by omega,rfl,Only.refl _ _,HG.o.1,HG.o.2.2.1,by rw[HG.o.2.2.2];simp[lL]⟩
    ·
     obtain⟨p,cu,hp,rfl,ho,sX,U8,y8⟩:=hrel;by_cases yG:p<n
     ·have HO:=aa ho;have wU:=aa sX;have oT:=aa y8;have tq:=ab sX p;rw[Array.getElem?_eq_getElem (show p<cu.size by omega)]at tq;have zq:=Gq sX p (HG.o.2.1 p (by have:=HG.o.2.2.1;omega));clear ho sX y8;have HS:am ((if hasB (fltS s k) p then -1 else finS s k p)=finS s k p):=aa (by rw[KQ.o,XE];rfl);clear tq zq
      go_wp2_with fail
      go_roundw
      ·exact⟨p+1,cu,by omega,by go_num,HO.o,wU.o,U8,by rw[Gs _ _ _ _ HS.o];exact oT.o⟩
      ·simp[intOf];omega
     ·obtain rfl:p=n:=by omega
      have k8:=ho.below cQ.o (by omega);have JL:=af k8 HB.o;have tB:=ab JL 1
      have uQ:aH wr w.heap.size 3 1 (.slice (some ⟨g,0,none⟩) p cap) (fF s k).length ((fF s k).map (Value.int .i64)):=by
       rw[mg,ou.o]
       have e:(fF s k).map (Value.int .i64)=lL p (fun p=>if hasB (fltS s k) p then -1 else finS s k p) (finS s k) p:=by
        unfold fF lL;rw[ou.o,List.map_map];refine List.map_congr_left fun j hj=>?_
        rw[if_pos (List.mem_range.1 hj)];rfl
       rw[e];exact⟨by rw[Ju];omega,.inr ⟨g,cap,cu,fz,rfl,by omega,sX,fun i hi=>HG.o.2.1 i (by have:=HG.o.2.2.1;omega),jH,rk,by omega,by rw[Nat.mul_one];exact y8⟩⟩
      have dz:=aa ((bG.o.up k8).up ((Below.refl _ wr).alloc (Nat.le_refl _) (.cells #[.slice (some ⟨g,0,none⟩) p cap] 38)));have bA:=aa (dx wr [.slice (some ⟨g,0,none⟩) p cap] 38)
      have Uq:am (∀ i (hi:i<(L k).length),∃ x,xs[i]?=some x/\aH (wr.alloc (.cells #[.slice (some ⟨g,0,none⟩) p cap] 38)) w.heap.size 3 1 x (L k)[i].length ((L k)[i].map (Value.int .i64))):=aa (fun i hi=>by
       obtain⟨x,q1,q2⟩:=yE.o i hi
       exact⟨x,q1,(q2.up k8).up ((Below.refl _ wr).alloc (Nat.le_refl _) _)⟩)
      have AZ:=aa (uQ.up ((Below.refl _ wr).alloc (Nat.le_refl _) (.cells #[.slice (some ⟨g,0,none⟩) p cap] 38)));have EF:=aa JL;have oN:=aa (ae aP.o k8);have Ys:=HL.o.2.2.2 k;have hLk2:(L k).length<=4096:=by omega
      have BU:=oN.o.size;clear Ys ho sX y8 k8 JL uQ
      go_wp2_with (at_builtin;(refine aX _ rfl (.tmp 69) (.tmp 71) 56 rfl w.heap.size 38 j0 _ 1 24 Tryz.underlying56 oO jl jj iR rfl (by decide) _ (L k).length xs rfl dz.o ⟨wr.heap.size,0,none⟩ 1 1 [.slice (some ⟨g,0,none⟩) p cap] rfl rfl bA.o (by simp[Value.oneCell']) (by unfold maxLen;omega) (by omega) (by simp;omega) ?_;intro v3 w3 kO kb _;obtain⟨av3,cv3,rfl⟩:=kO.slice;have rR:=im dz.o kb EF.o (by decide);have c3:=ab rR 1;have f3:=aE rR 1;have ef:=aa rR;have Kw:am (cU w3 w.heap.size (.slice av3 ((L k).length+1) cv3) (L k++[fF s k])):=aa (cB.snoc (l:=L k) dz.o Uq.o (by decide) AZ.o kb kO);have J2:=aa (dB oN.o (Nat.le_refl _) dz.o kb);clear kO kb rR))
      go_roundw
      ·
       refine⟨k+1,by omega,by go_num,J2.o.setCell (by dsimp only;omega) _,.slice av3 ((L k).length+1) cv3,?_,?_⟩
       ·rw[aF ef.o];rfl
       ·rw[HL.o.2.1 k];exact((KeepT.refl [201] w.heap.size w3 (ms:=[])).set ef.o (by simp) (by omega) _).fresh Kw.o (by decide) (by decide)
      ·simp[intOf];omega
   ·obtain⟨q,rfl⟩:∃ q,nw=q+1:=⟨nw - 1,by omega⟩;obtain⟨b1,o1,rfl,c5⟩:=eU (by omega);have d5:=ak Zj c5;rw[Nat.add_sub_cancel]at d5;clear c5 eU hZ
    go_wp2_with (at_builtin;(refine lq _ rfl (.const (.slice none 0 0)) (.tmp 49) 38 rfl wr.heap.size 3 i0 _ 1 8 Tryz.underlying38 cM bX bP bY rfl (by decide) (.slice none 0 0) 0 [] rfl (aH.nil _ _ _ _) _ n ((List.range n).map fun j=>Value.int .i64 (finS s k j)) rfl TP.o (by unfold maxLen;omega) (by omega) (by simp) ?_;intro v2 w2 fX dC _;rw[Nat.zero_add,List.nil_append]at fX;have cQ:=aa (Below.grown Zg.o dC (Nat.le_of_lt Zb) (fun g h=>by cases h));obtain⟨g,cap,cur,fz,kr,hg,ml,oh,jH,rk,jU,nP,_⟩:=fX.block jS;subst kr;have HG:=aa (And.intro ml (And.intro oh (And.intro jU nP)));clear fX dC ml oh jU nP))
    clear tX;obtain⟨wrA,C5⟩:∃ x,x=wr:=⟨_,rfl⟩;subst C5;have hgw:=aC HG.o.1
    go_loopw [53] (fun i wi=>∃ (p:Nat) (cu:Array Value),p<=n/\i=.int .i64 p/\Only g w2 wi/\wi.heap[g]?=some (.cells cu 3 fz)/\cu.size=cap/\cu.toList.take n=lL n (fun p=>if hasB (fltS s k) p then -1 else finS s k p) (finS s k) p) (fun i _=>n - (intOf i).toNat)
    ·exact⟨0,cur,by omega,rfl,Only.refl _ _,HG.o.1,HG.o.2.2.1,by rw[HG.o.2.2.2];simp[lL]⟩
    ·
     obtain⟨p,cu,hp,rfl,ho,sX,U8,y8⟩:=hrel;by_cases yG:p<n
     ·have HO:=aa ho;have wU:=aa sX;have oT:=aa y8;have tq:=ab sX p;rw[Array.getElem?_eq_getElem (show p<cu.size by omega)]at tq;have zq:=Gq sX p (HG.o.2.1 p (by have:=HG.o.2.2.1;omega));clear ho sX y8;have gP:=rZ fl p;cases hb:hasB fl p with
      | true=>
       rw[hb]at gP;have HS:am ((if hasB (fltS s k) p then -1 else finS s k p)=-1):=aa (by rw[KQ.o,hb];rfl);clear hb
       go_wp2_with fail
       go_roundw
       ·
        refine⟨p+1,_,by omega,by go_num,HO.o.setCell p _,aF wU.o p _,by simpa using U8,?_⟩;rw[Array.toList_setIfInBounds,<-List.set_take',oT.o,<-S4 n (fun p=>if hasB (fltS s k) p then -1 else finS s k p) (finS s k) p,HS.o]
       ·simp[intOf];omega
      | false=>
       rw[hb]at gP;have HS:am ((if hasB (fltS s k) p then -1 else finS s k p)=finS s k p):=aa (by rw[KQ.o,hb];rfl);clear hb tq zq
       go_wp2_with fail
       go_roundw
       ·exact⟨p+1,cu,by omega,by go_num,HO.o,wU.o,U8,by rw[Gs _ _ _ _ HS.o];exact oT.o⟩
       ·simp[intOf];omega
     ·obtain rfl:p=n:=by omega
      have k8:=ho.below cQ.o (by omega);have JL:=af k8 HB.o;have tB:=ab JL 1
      have uQ:aH wr w.heap.size 3 1 (.slice (some ⟨g,0,none⟩) p cap) (fF s k).length ((fF s k).map (Value.int .i64)):=by
       rw[mg,ou.o]
       have e:(fF s k).map (Value.int .i64)=lL p (fun p=>if hasB (fltS s k) p then -1 else finS s k p) (finS s k) p:=by
        unfold fF lL;rw[ou.o,List.map_map];refine List.map_congr_left fun j hj=>?_
        rw[if_pos (List.mem_range.1 hj)];rfl
       rw[e];exact⟨by rw[Ju];omega,.inr ⟨g,cap,cu,fz,rfl,by omega,sX,fun i hi=>HG.o.2.1 i (by have:=HG.o.2.2.1;omega),jH,rk,by omega,by rw[Nat.mul_one];exact y8⟩⟩
      have dz:=aa ((bG.o.up k8).up ((Below.refl _ wr).alloc (Nat.le_refl _) (.cells #[.slice (some ⟨g,0,none⟩) p cap] 38)));have bA:=aa (dx wr [.slice (some ⟨g,0,none⟩) p cap] 38)
      have Uq:am (∀ i (hi:i<(L k).length),∃ x,xs[i]?=some x/\aH (wr.alloc (.cells #[.slice (some ⟨g,0,none⟩) p cap] 38)) w.heap.size 3 1 x (L k)[i].length ((L k)[i].map (Value.int .i64))):=aa (fun i hi=>by
       obtain⟨x,q1,q2⟩:=yE.o i hi
       exact⟨x,q1,(q2.up k8).up ((Below.refl _ wr).alloc (Nat.le_refl _) _)⟩)
      have AZ:=aa (uQ.up ((Below.refl _ wr).alloc (Nat.le_refl _) (.cells #[.slice (some ⟨g,0,none⟩) p cap] 38)));have EF:=aa JL;have oN:=aa (ae aP.o k8);have Ys:=HL.o.2.2.2 k;have hLk2:(L k).length<=4096:=by omega
      have BU:=oN.o.size;clear Ys ho sX y8 k8 JL uQ
      go_wp2_with (at_builtin;(refine aX _ rfl (.tmp 69) (.tmp 71) 56 rfl w.heap.size 38 j0 _ 1 24 Tryz.underlying56 oO jl jj iR rfl (by decide) _ (L k).length xs rfl dz.o ⟨wr.heap.size,0,none⟩ 1 1 [.slice (some ⟨g,0,none⟩) p cap] rfl rfl bA.o (by simp[Value.oneCell']) (by unfold maxLen;omega) (by omega) (by simp;omega) ?_;intro v3 w3 kO kb _;obtain⟨av3,cv3,rfl⟩:=kO.slice;have rR:=im dz.o kb EF.o (by decide);have c3:=ab rR 1;have f3:=aE rR 1;have ef:=aa rR;have Kw:am (cU w3 w.heap.size (.slice av3 ((L k).length+1) cv3) (L k++[fF s k])):=aa (cB.snoc (l:=L k) dz.o Uq.o (by decide) AZ.o kb kO);have J2:=aa (dB oN.o (Nat.le_refl _) dz.o kb);clear kO kb rR))
      go_roundw
      ·
       refine⟨k+1,by omega,by go_num,J2.o.setCell (by dsimp only;omega) _,.slice av3 ((L k).length+1) cv3,?_,?_⟩
       ·rw[aF ef.o];rfl
       ·rw[HL.o.2.1 k];exact((KeepT.refl [201] w.heap.size w3 (ms:=[])).set ef.o (by simp) (by omega) _).fresh Kw.o (by decide) (by decide)
      ·simp[intOf];omega
  ·obtain rfl:k=m:=by omega
   have tB:=ab hB 1;clear hB az
   go_wp2_with fail
   go_ret2
   refine⟨_,by rw[Ef.o];rfl,aP.o,fun h=>absurd Ef.o h,fun _=>⟨B,rfl,?_⟩⟩
   have oW:cU wr w.heap.size (.slice al (L k).length cl) (sF s):=by
    have h3:=HL.o.2.2.1;rw[<-h3];exact⟨xs,bG.o,yE.o⟩
   have hfo:gY wr w.heap.size B s:=⟨by omega,_,by rw[ou.o];exact HB.o,oW⟩;exact⟨hfo.at dA.o,hfo⟩
def oblM(s:Sys) (e:Nat):Nat:=maskN (fun p=>!hasB (fltS s e) p) (nS s)
theorem andNot_mask:∀ n:Fin 6,∀ f:Fin 32,bits .andNot .i64 (((2 ^ n.val - 1:Nat):Int)) (f.val:Int)=((maskN (fun p=>!hasB (f.val:Int) p) n.val:Nat):Int):=by decide +kernel
theorem shl_one:∀ n:Fin 6,wrap64 (wrap64 ((2:Int) ^ n.val) - 1)=((2 ^ n.val - 1:Nat):Int):=by decide +kernel
theorem Qy(s:Sys) (hs:SysOk s) (e:Nat) (he:e<eS s) (vc vs:Value) (pt:Option Addr) (nt ct:Nat) (pe:Option Addr) (ne ce:Nat) (pw:Option Addr) (nw cw:Nat) (vv:Value) (w:World) (mS:nw<=6)
  (eU:0<nw->∃ b1 o1,pw=some ⟨b1,o1,none⟩/\w.cell? ⟨b1,o1+(nw - 1) * 7+6,none⟩=some (.int .i64 (fltS s e))) (hZ:nw=0->fltS s e=0) :
  Calls Tryz.prog 87 #[.agg (bL s.prob vc vs s.n (.slice pt nt ct) (.slice pe ne ce)),.agg #[.int .i64 (cN s e).c,.slice pw nw cw,vv]] w fun r w'=>r=.returned (.int .i64 (oblM s e:Nat))/\Below w.heap.size w w':=by
 have hn:=hs.n;have vB:=hs.flt e he;obtain⟨f,hf⟩:∃ f:Nat,fltS s e=f:=⟨(fltS s e).toNat,by omega⟩
 have G':f<32:=by
  have h1:((2:Nat) ^ nS s:Int)<=((2 ^ 5:Nat):Int):=by exact_mod_cast Nat.pow_le_pow_right (show 0<2 by omega) hn.2.1
  have h2:=vB.2;rw[hf]at h2;have h3:((2:Int) ^ nS s)=(((2:Nat) ^ nS s:Nat):Int):=by simp
  rw[h3]at h2;have h4:(2:Nat) ^ nS s<=2 ^ 5:=Nat.pow_le_pow_right (by omega) hn.2.1;omega
 have HAN:am (bits .andNot .i64 (((2 ^ nS s - 1:Nat):Int)) (f:Int)=(oblM s e:Nat)):=aa (by
  unfold oblM;rw[hf]
  exact andNot_mask ⟨nS s,by omega⟩ ⟨f,G'⟩)
 have HSH:am (wrap64 (wrap64 ((2:Int) ^ nS s) - 1)=((2 ^ nS s - 1:Nat):Int)):=aa (shl_one ⟨nS s,by omega⟩)
 have HZ:am (f=0->((2 ^ nS s - 1:Nat):Int)=(oblM s e:Nat)):=aa fun h=>by
  subst h;have key:∀ n:Fin 6,((2 ^ n.val - 1:Nat):Int)=bits .andNot .i64 (((2 ^ n.val - 1:Nat):Int)) 0:=by decide +kernel
  exact(key ⟨nS s,by omega⟩).trans HAN.o
 rw[hf]at eU hZ;have fj:s.n=(nS s:Int):=hn.2.2.1;have gK:=hn.2.1;rw[fj];generalize nS s=n at *;generalize oblM s e=ob at *;clear hn vB hf hs fj;have HW:am (∀ x:Int,wrap64 ((2:Int) ^ n)=x->wrap64 (x - 1)=((2 ^ n - 1:Nat):Int)):=aa fun x hx=>by rw[<-hx];exact HSH.o
 obtain⟨pw2,hpw2⟩:∃ pw2:Int,wrap64 ((2:Int) ^ n)=pw2:=⟨_,rfl⟩;have AI:=HW.o pw2 hpw2;by_cases hw:nw=0
 ·have hz:=hZ hw;subst hw;have HR:=aa (HZ.o (by omega));clear hZ eU hz
  go_enter Tryz.func87,Tryz.ntmps87
  go_wp2_with fail
  go_ret
  exact⟨aG (AI.trans HR.o),by go_grown⟩
 ·obtain⟨q,rfl⟩:∃ q,nw=q+1:=⟨nw - 1,by omega⟩;obtain⟨b1,o1,rfl,c5⟩:=eU (by omega);rw[Nat.add_sub_cancel]at c5;have d5:∀ o1' o2',((w.alloc o1').alloc o2').cell? ⟨b1,o1+q * 7+6,none⟩=some (.int .i64 f):=fun o1' o2'=>ak (by go_grown) c5
  have my:=HAN.o;clear c5 eU hZ
  go_enter Tryz.func87,Tryz.ntmps87
  go_wp2_with fail
  go_ret
  exact⟨rfl,by go_grown⟩
theorem S6(s:Sys) (hv:verifyE s=0) (e:Nat) (he:e<eS s) (vc vs vt ve:Value) (w:World) (hs:IsSys w s vc vs vt ve) (hN:movesN s.prob.a.states<1099511627776) :
  Calls Tryz.prog 43 #[.agg (bL s.prob vc vs s.n vt ve),.int .i64 e] w fun r w'=>r=.returned (.tuple #[.int .i64 (oblM s e:Nat),.int .i64 0])/\Below w.heap.size w w':=by
 have HS:=aa hs;obtain⟨⟨pc,cc,rfl⟩,⟨ps,cs,rfl⟩,⟨pt,ct,rfl⟩,⟨pe,ce,rfl⟩⟩:=bB hs;clear hs;have HC:=aa (fun W (hb:Below w.heap.size w W)=>qA s _ _ _ _ W (HS.o.up hb) hN);have dA:=aa (jh hv);have HV:=aa hv;obtain⟨b,o,_,ce',e0,rfl,pw,nw,cw,pv,cv,c1,c2,c3,mS,eU,hZ,-⟩:=gX dA.o HS.o.ex he;injection e0 with e01 e02 e03
 subst e01;have CS:nw<=6:=by have:=dA.o.rounds;omega
 clear e02 e03 hv mS;obtain⟨m,hm⟩:∃ m,s.ex.length=m:=⟨_,rfl⟩;have pW:e<m:=by rw[<-hm];exact he
 have gM:decide ((m:Int)<=(e:Int))=false:=decide_eq_false (by omega);have rf:decide (m<=e)=false:=decide_eq_false (by omega);have rG:=aa (fun W (hb:Below w.heap.size w W)=>Qy s dA.o e he (.slice pc s.prob.t.cases.length cc) (.slice ps s.prob.a.states.length cs) pt s.tab.length ct (some ⟨b,o,none⟩) s.ex.length ce pw nw cw (.slice pv (s.prob.rounds.toNat+1) cv) W CS (fun h=>by obtain⟨b1,o1,q1,q2⟩:=eU h;exact⟨b1,o1,q1,ak hb q2⟩) hZ);rw[hm]at HC rG ⊢;have HM:=aa hm;clear eU hZ hm
 go_enter Tryz.func43,Tryz.ntmps43
 go_wp2_with fail
 refine aN (fun W=>Below w.heap.size w W/\∃ c,W.heap[w.heap.size]?=some (.cells c 35)/\c=bL s.prob (.slice pc s.prob.t.cases.length cc) (.slice ps s.prob.a.states.length cs) s.n (.slice pt s.tab.length ct) (.slice (some ⟨b,o,none⟩) m ce)) ⟨by go_grown,_,aq _ _,rfl⟩ (fun W0 aZ=>?_);obtain⟨aI,_,hA,rfl⟩:=aZ;refine(HC.o W0 aI).mono ?_;rintro r w1 ⟨rfl,aJ⟩;have eK:=af aJ hA;have db:=aa eK;have cZ:=ae aI aJ;have bK:=aa cZ;rw[HV.o];have tS:=ab eK;have yS:∀ z:ExtW w1,∀ j,z.val.cell? ⟨w.heap.size,j,none⟩=_:=fun z=>ab (af z.ext db.o)
 have y1:∀ z:ExtW w1,z.val.cell? ⟨b,o+e * 3,none⟩=_:=fun z=>ak (ae bK.o z.ext) c1
 have y2:∀ z:ExtW w1,z.val.cell? ⟨b,o+e * 3+1,none⟩=_:=fun z=>ak (ae bK.o z.ext) c2
 have y3:∀ z:ExtW w1,z.val.cell? ⟨b,o+e * 3+2,none⟩=_:=fun z=>ak (ae bK.o z.ext) c3
 have bW:am (∀ y:ExtW w1,Calls Tryz.prog 87 #[.agg (bL s.prob (.slice pc s.prob.t.cases.length cc) (.slice ps s.prob.a.states.length cs) s.n (.slice pt s.tab.length ct) (.slice (some ⟨b,o,none⟩) m ce)),.agg #[.int .i64 (cN s e).c,.slice pw nw cw,.slice pv (s.prob.rounds.toNat+1) cv]] y.val fun r w''=>r=.returned (.int .i64 (oblM s e:Nat))/\∃ z:ExtW w1,w''=z.val):=aa (fun y=>Calls.ext_of (rG.o y.val (ae bK.o y.ext)));clear hA eK aI aJ HC rG c1 c2 c3 cZ
 go_wp2_with fail
 refine aD (by kernel_rfl) (by kernel_rfl) ?_
 repeat (go_big_quiet_step ((go_at_call 87;exact bW.o _)))
 refine wpQuiet_nil ?_;rintro _ ⟨xq,rfl⟩;clear tS yS y1 y2 y3
 go_wp2_with fail
 go_ret2
 exact⟨by simp,ae bK.o xq.ext⟩
theorem BD(c f:Int) (pw:Option Addr) (nw cw:Nat) (vv:Value) (w:World) (mS:nw<=6) (eU:0<nw->∃ b1 o1,pw=some ⟨b1,o1,none⟩/\w.cell? ⟨b1,o1+(nw - 1) * 7+6,none⟩=some (.int .i64 f)) (hZ:nw=0->f=0) :
  Calls Tryz.prog 61 #[.agg #[.int .i64 c,.slice pw nw cw,vv]] w fun r w'=>r=.returned (.int .i64 f)/\Below w.heap.size w w':=by
 by_cases hw:nw=0
 ·obtain rfl:=hZ hw;subst hw;clear hZ eU
  go_enter Tryz.func61,Tryz.ntmps61
  go_wp2_with fail
  go_ret
  exact⟨rfl,by go_grown⟩
 ·obtain⟨q,rfl⟩:∃ q,nw=q+1:=⟨nw - 1,by omega⟩;obtain⟨b1,o1,rfl,c5⟩:=eU (by omega);rw[Nat.add_sub_cancel]at c5;have d5:∀ o1',(w.alloc o1').cell? ⟨b1,o1+q * 7+6,none⟩=some (.int .i64 f):=fun o1'=>ak (by go_grown) c5
  clear c5 eU hZ
  go_enter Tryz.func61,Tryz.ntmps61
  go_wp2_with fail
  go_ret
  exact⟨rfl,by go_grown⟩
theorem WQ{s:Sys} (hs:SysOk s) {e:Nat} (he:e<eS s):bits .andNot .i64 ((2:Int) ^ nS s - 1) (fltS s e)=(oblM s e:Nat):=by
 have hn:=hs.n;have vB:=hs.flt e he;obtain⟨f,hf⟩:∃ f:Nat,fltS s e=f:=⟨(fltS s e).toNat,by omega⟩
 have G':f<32:=by
  have h2:=vB.2;rw[hf]at h2;have h3:((2:Int) ^ nS s)=(((2:Nat) ^ nS s:Nat):Int):=by simp
  rw[h3]at h2;have h4:(2:Nat) ^ nS s<=2 ^ 5:=Nat.pow_le_pow_right (by omega) hn.2.1;omega
 have key:∀ n:Fin 6,((2:Int) ^ n.val - 1)=((2 ^ n.val - 1:Nat):Int):=by decide +kernel
 rw[key ⟨nS s,by omega⟩];unfold oblM;rw[hf];exact andNot_mask ⟨nS s,by omega⟩ ⟨f,G'⟩
theorem zP(s:Sys) (hs:SysOk s) (e:Nat) (he:e<eS s) (vc vs vt ve:Value) (w:World) (cH:IsSys w s vc vs vt ve) :
  Calls Tryz.prog 28 #[.agg (bL s.prob vc vs s.n vt ve),.int .i64 e] w fun r w'=>r=.returned (.int .i64 (oblM s e:Nat))/\Below w.heap.size w w':=by
 have HS:=aa cH;obtain⟨⟨pc,cc,rfl⟩,⟨ps,cs,rfl⟩,⟨pt,ct,rfl⟩,⟨pe,ce,rfl⟩⟩:=bB cH;clear cH;obtain⟨b,o,_,ce',e0,rfl,pw,nw,cw,pv,cv,c1,c2,c3,mS,eU,hZ,-⟩:=gX hs HS.o.ex he;injection e0 with e01 e02 e03
 subst e01;have CS:nw<=6:=by have:=hs.rounds;omega
 clear e02 e03 mS;have my:=WQ hs he;have rL:=aa (fun W (hb:Below w.heap.size w W)=>BD (cN s e).c (fltS s e) pw nw cw (.slice pv (s.prob.rounds.toNat+1) cv) W CS (fun h=>by obtain⟨b1,o1,q1,q2⟩:=eU h;exact⟨b1,o1,q1,ak hb q2⟩) hZ);have hn:=hs.n;have uX:=aa (fun W=>Gd (nS s) (by omega) W);obtain⟨m,hm⟩:∃ m,s.ex.length=m:=⟨_,rfl⟩;have pW:e<m:=by rw[<-hm];exact he
 obtain⟨sn,Ke⟩:∃ sn,s.n=sn:=⟨_,rfl⟩;have fj:sn=(nS s:Int):=by rw[<-Ke];exact hn.2.2.1
 rw[hm,Ke];subst fj;generalize fltS s e=f at my rL;generalize oblM s e=ob at my ⊢;obtain⟨n,GM⟩:∃ n,nS s=n:=⟨_,rfl⟩;rw[GM]at my uX ⊢;clear eU hZ hm Ke hn GM
 go_enter Tryz.func28,Tryz.ntmps28
 go_wp2_with fail
 refine bu (fun W=>Below w.heap.size w W/\∃ c,W.heap[w.heap.size]?=some (.cells c 35)/\c=bL s.prob (.slice pc s.prob.t.cases.length cc) (.slice ps s.prob.a.states.length cs) (n:Int) (.slice pt s.tab.length ct) (.slice (some ⟨b,o,none⟩) m ce)) ⟨by go_grown,_,aq _ _,rfl⟩ (fun W0 aZ=>?_);obtain⟨aI,_,hA,rfl⟩:=aZ;have ed:=aa aI;have HA:=aa hA;have yS:∀ z:ExtW W0,∀ j,z.val.cell? ⟨w.heap.size,j,none⟩=_:=fun z=>ab (af z.ext HA.o)
 have y1:∀ z:ExtW W0,z.val.cell? ⟨b,o+e * 3,none⟩=_:=fun z=>ak (ae ed.o z.ext) c1
 have y2:∀ z:ExtW W0,z.val.cell? ⟨b,o+e * 3+1,none⟩=_:=fun z=>ak (ae ed.o z.ext) c2
 have y3:∀ z:ExtW W0,z.val.cell? ⟨b,o+e * 3+2,none⟩=_:=fun z=>ak (ae ed.o z.ext) c3
 have MI:am (∀ y:ExtW W0,Calls Tryz.prog 60 #[.int .i64 (n:Int)] y.val fun r w''=>r=.returned (.int .i64 (2 ^ n - 1))/\∃ z:ExtW W0,w''=z.val):=aa (fun y=>Calls.ext_of ((uX.o y.val).mono fun r w' ⟨h1,h2⟩=>⟨h1,h2 ▸ Below.refl _ _⟩));have yO:am (∀ y:ExtW W0,Calls Tryz.prog 61 #[.agg #[.int .i64 (cN s e).c,.slice pw nw cw,.slice pv (s.prob.rounds.toNat+1) cv]] y.val fun r w''=>r=.returned (.int .i64 f)/\∃ z:ExtW W0,w''=z.val):=aa (fun y=>Calls.ext_of (rL.o y.val (ae ed.o y.ext)));clear aI hA uX rL c1 c2 c3;refine aD (by kernel_rfl) (by kernel_rfl) ?_
 repeat (go_big_quiet_step (first|(go_at_call 60;with_reducible exact MI.o _)|(go_at_call 61;with_reducible exact yO.o _)))
 refine wpQuiet_nil ?_;rintro _ ⟨xq,rfl⟩;clear yS y1 y2 y3
 go_wp2_with fail
 go_ret
 exact⟨rfl,ae ed.o xq.ext⟩
theorem xL(s:Sys) (e rr:Nat) (hr:s.prob.rounds=rr) (vc vs vt:Value) (b o ne ce:Nat) (he:e<ne) (b2 o2 nv cv:Nat) (hv:rr<nv) (u:Value) (hu:∃ a n c,u=.slice a n c) (w:World) (c3:w.cell? ⟨b,o+e * 3+2,none⟩=some (.slice (some ⟨b2,o2,none⟩) nv cv)) (c4:w.cell? ⟨b2,o2+rr,none⟩=some u) :
  Calls Tryz.prog 46 #[.agg (bL s.prob vc vs s.n vt (.slice (some ⟨b,o,none⟩) ne ce)),.int .i64 e] w fun r w'=>r=.returned u/\Below w.heap.size w w':=by
 obtain⟨ua,un,uc,rfl⟩:=hu;have BY:bL s.prob vc vs s.n vt (.slice (some ⟨b,o,none⟩) ne ce)=#[.int .i64 s.prob.t.n,.int .i64 s.prob.t.ins,.int .i64 s.prob.t.outs,vc,.int .i64 s.prob.a.n,vs,.int .i64 (rr:Int),.int .i64 s.n,vt,.slice (some ⟨b,o,none⟩) ne ce]:=by rw[<-hr];rfl
 rw[BY];clear hr BY
 go_enter Tryz.func46,Tryz.ntmps46
 go_wp2_with fail
 refine bu (fun W=>Below w.heap.size w W/\∃ c,W.heap[w.heap.size]?=some (.cells c 35)/\c=#[.int .i64 s.prob.t.n,.int .i64 s.prob.t.ins,.int .i64 s.prob.t.outs,vc,.int .i64 s.prob.a.n,vs,.int .i64 (rr:Int),.int .i64 s.n,vt,.slice (some ⟨b,o,none⟩) ne ce]) ⟨by go_grown,_,aq _ _,rfl⟩ (fun W0 aZ=>?_);obtain⟨aI,_,hA,rfl⟩:=aZ;have ed:=aa aI;have HA:=aa hA;have yS:∀ z:ExtW W0,∀ j,z.val.cell? ⟨w.heap.size,j,none⟩=_:=fun z=>ab (af z.ext HA.o)
 have y3:∀ z:ExtW W0,z.val.cell? ⟨b,o+e * 3+2,none⟩=_:=fun z=>ak (ae ed.o z.ext) c3
 have y4:∀ z:ExtW W0,z.val.cell? ⟨b2,o2+rr,none⟩=_:=fun z=>ak (ae ed.o z.ext) c4
 clear aI hA c3 c4;refine aD (by kernel_rfl) (by kernel_rfl) ?_
 repeat (go_big_quiet_step (fail))
 refine wpQuiet_nil ?_;rintro _ ⟨xq,rfl⟩;clear yS y3 y4
 go_wp2_with fail
 go_ret
 exact⟨rfl,ae ed.o xq.ext⟩
theorem NE(s:Sys) (hv:verifyE s=0) (vc vs vt ve vl:Value) (l:List Int) (w:World) (hs:IsSys w s vc vs vt ve) (hN:movesN s.prob.a.states<1099511627776) (hl:aT w vl l) (hr:∀ k,k<l.length->0<=l.getD k 0/\l.getD k 0<(eS s:Int)) :
  Calls Tryz.prog 136 #[.agg (bL s.prob vc vs s.n vt ve),vl] w fun e w'=>∃ B,e=.returned (.tuple #[.pointer (some ⟨B,0,none⟩),.int .i64 0])/\Below w.heap.size w w'/\FinAt w' B s/\gY w' w.heap.size B s:=by
 have HS:=aa hs;have HL:=aa hl;have HR:=aa hr;obtain⟨⟨pc,cc,rfl⟩,⟨ps,cs,rfl⟩,⟨pt,ct,rfl⟩,⟨pe,ce,rfl⟩⟩:=bB hs;obtain⟨pl,cl,rfl,_,_,el⟩:=hl.at;have EL:=aa el;clear hs hl hr el;have HC:=aa (fun W (hb:Below w.heap.size w W)=>Fy s _ _ _ _ W (HS.o.up hb) hN);have HV:=aa hv;clear hv
 go_enter Tryz.func136,Tryz.ntmps136
 go_wp2_with fail
 refine aN (fun W=>Below w.heap.size w W) (by go_grown) (fun W0 aI=>?_);refine(HC.o W0 aI).mono ?_;rintro e w1 ⟨v,rfl,aJ,_,h2⟩;obtain⟨B,rfl,hF,hO⟩:=h2 HV.o;have HO:=aa (hO.mono aI.size);rw[HV.o];have cZ:=ae aI aJ;have eh:=aa cZ;have HF:=aa hF;clear aI aJ h2 hF hO cZ HC
 go_wp2_with fail
 go_loopw [20] (fun i wr=>∃ k:Nat,k<=l.length/\i=.int .i64 k/\Below w.heap.size w wr/\FinAt wr B s/\gY wr w.heap.size B s) (fun i _=>l.length - (intOf i).toNat)
 ·exact⟨0,by omega,rfl,eh.o,HF.o,HO.o⟩
 ·
  clear eh HF HO;obtain⟨k,hk,rfl,az,hF,hO⟩:=hrel;have aP:=aa az;have HF:=aa hF;have HO:=aa hO;clear hO;by_cases aB:k<l.length
  ·obtain⟨b1,o1,rfl,h1⟩:=EL.o k aB;rw[Nat.mul_one]at h1;have c1:=ak az h1.1;have hx:=HR.o k aB;rw[aA 0 aB]at hx;clear h1 az hF;generalize l[k]=x at c1 hx;obtain⟨dj,dL⟩:=hx;have HT:=aa (DD s B x wr HF.o);rw[decide_eq_true dj,decide_eq_true dL]at HT;clear dj dL
   go_wp2_with fail
   refine HT.o.mono ?_;rintro e w2 ⟨rfl,a8⟩;clear c1
   go_wp2_with fail
   go_roundw
   ·exact⟨k+1,by omega,by go_num,ae aP.o a8,HF.o.up a8,HO.o.up a8⟩
   ·simp[intOf];omega
  ·clear az hF
   go_wp2_with fail
   go_ret2
   exact⟨B,rfl,aP.o,HF.o,HO.o⟩
theorem xM(s:Sys):∀ k,mD (eC s k)
 | 0=>qk _ _
 | _+1=>qk _ _
theorem DK(s:Sys) (hv:verifyE s=0) (hE:eS s<=256) (vc vs vt ve:Value) (w:World) (hs:IsSys w s vc vs vt ve) (hN:movesN s.prob.a.states<1099511627776) :
  Calls Tryz.prog 78 #[.agg (bL s.prob vc vs s.n vt ve)] w fun e w'=>∃ u,e=.returned (.tuple #[u,.int .i64 0])/\aT w' u (partsS s)/\Below w.heap.size w w':=by
 have HS:=aa hs;obtain⟨⟨pc,cc,rfl⟩,⟨ps,cs,rfl⟩,⟨pt,ct,rfl⟩,⟨pe,ce,rfl⟩⟩:=bB hs;clear hs;have HC:=aa (fun W (hb:Below w.heap.size w W)=>Fy s _ _ _ _ W (HS.o.up hb) hN);have gC:=jh hv;have HV:=aa hv;have dA:=aa gC;have jS:=gC.n.1;have gK:=gC.n.2.1;clear hv gC
 go_enter Tryz.func78,Tryz.ntmps78
 go_wp2_with fail
 refine aN (fun W=>Below w.heap.size w W) (by go_grown) (fun W0 aI=>?_);refine(HC.o W0 aI).mono ?_;rintro e w1 ⟨v,rfl,aJ,_,h2⟩;obtain⟨B,rfl,hF,-⟩:=h2 HV.o;rw[HV.o];have cZ:=ae aI aJ;have eh:=aa cZ;have HF:=aa hF;clear aI aJ h2 hF cZ HC
 go_wp2_with fail
 have TK:=zJ s dA.o hE B 0 (by omega) w1 HF.o;rw[show ((0:Nat):Int)=0 from rfl]at TK;refine TK.mono ?_;clear TK;rintro e w2 ⟨u,rfl,hu,a8⟩;have HU:=aa hu;obtain⟨au,cu,rfl,_⟩:=hu.at;rw[jA]at HU;have cQ:=aa a8;clear hu a8
 go_wp2_with fail
 go_loopw [6,7] (fun o i wr=>∃ k:Nat,k<nS s/\i=.int .i64 ((k:Int)+1)/\Below w1.heap.size w1 wr/\∃ a c,o=.slice a (eS s) c/\aT wr (.slice a (eS s) c) (eC s k)) (fun _ i _=>nS s+1 - (intOf i).toNat)
 ·exact⟨0,by omega,rfl,cQ.o,_,_,by rw[jA],by exact HU.o⟩
 ·
  clear HU cQ;obtain⟨k,hk,rfl,az,a,c,rfl,hu⟩:=hrel;have aP:=aa az;have HU:=aa hu;have hF:=HF.o.up az;obtain⟨pl,cl,h1,_⟩:=hF.open;have t1:=ab h1 0;simp at t1;have rQ:=aa hF;clear az hu hF h1;by_cases aB:k+1<nS s
  ·have mx:(k:Int)+1<(nS s:Int):=by omega
   go_wp2_with fail
   have bR:=zJ s dA.o hE B (k+1) aB wr rQ.o;rw[show ((k+1:Nat):Int)=(k:Int)+1 by omega]at bR;refine bR.mono ?_;rintro e w3 ⟨u2,rfl,tD,bH⟩;have pP:=aa tD;obtain⟨a2,c2,rfl,_⟩:=tD.at;have ef:=aa bH;clear tD bH t1 bR;rw[jA]at pP ⊢
   go_wp2_with fail
   refine(Qc _ _ (eC s k) (classL s (k+1)) w3 (HU.o.up up_int ef.o) pP.o (xM s k) (qk _ _) (by rw[jA,gS]) (by rw[gS];exact hE)).mono ?_;rintro e w4 ⟨u4,rfl,mr,cj⟩;have lU:=aa mr;obtain⟨a4,c4,rfl,_⟩:=mr.at;have fS:(lp (eC s k) (classL s (k+1))).length=eS s:=gS s (k+1);rw[fS]at lU ⊢;have eG:=aa cj;clear mr cj fS
   go_wp2_with fail
   go_roundw
   ·exact⟨k+1,aB,by go_num,ae aP.o (ae ef.o eG.o),a4,c4,rfl,lU.o⟩
   ·simp[intOf];omega
  ·have mx:¬ (k:Int)+1<(nS s:Int):=by omega
   have HK:am (partsS s=eC s k):=aa (by unfold partsS;rw[show nS s - 1=k by omega])
   go_wp2_with fail
   go_ret2
   exact⟨_,rfl,by rw[HK.o];exact HU.o,ae eh.o aP.o⟩
abbrev XF(s:Sys) (vc vs vt ve vv vl:Value):Array Value:=bL s.prob vc vs s.n vt ve++#[vv,vl]
theorem S7{w:World} {v:Value} {l:List Int} (h:aT w v l) {B o:Nat} {c:Array Value} {ty:TypeId} {fz:Nat × Nat} (hB:w.heap[B]?=some (.cells c ty fz)) (hy:∀ x:Int,c[o]?≠some (.int .i64 x)) (x:Value):aT (w.setCell ⟨B,o,none⟩ x) v l:=by
 obtain⟨a,cap,e,h1,h2,h3⟩:=h;refine⟨a,cap,e,h1,h2,fun i z hi=>?_⟩;obtain⟨b,o',e1,h4,h5⟩:=h3 i z hi;refine⟨b,o',e1,?_,h5⟩;have h4:w.cell? ⟨b,o'+i * 1,none⟩=some (.int .i64 z):=h4;by_cases hb:b=B
 ·subst hb;rw[ab hB]at h4;rw[ab (aF hB o x),Array.getElem?_setIfInBounds];split
  ·rename_i h6;rw[<-h6]at h4;exact absurd h4 (hy z)
  ·exact h4
 ·have:(w.setCell ⟨B,o,none⟩ x).cell? ⟨b,o'+i * 1,none⟩=w.cell? ⟨b,o'+i * 1,none⟩:=by
   unfold World.cell?;rw[Below.heap_setCell _ _ _ _ hb]
  exact this.trans h4
theorem Lu(a:Bool):wg 0 a=.tuple #[.bool a,.int .i64 0]:=by simp[wg]
theorem oH(s:Sys) (hE:eS s<=256) (vc vs vt ve:Value) (w:World) (hs:IsSys w s vc vs vt ve) (hN:movesN s.prob.a.states<1099511627776) :
  Calls Tryz.prog 38 #[.agg (bL s.prob vc vs s.n vt ve)] w fun r w'=>∃ v,r=.returned (.tuple #[v,.int .i64 (readyE s)])/\Below w.heap.size w w'/\(readyE s≠0->v=.pointer none)/\(readyE s=0->∃ B,v=.pointer (some ⟨B,0,none⟩)/\w.heap.size<=B/\ScAt w' B s):=by
 have HS:=aa hs;obtain⟨⟨pc,cc,rfl⟩,⟨ps,cs,rfl⟩,⟨pt,ct,rfl⟩,⟨pe,ce,rfl⟩⟩:=bB hs;clear hs;have HC:=aa (fun W (hb:Below w.heap.size w W)=>qA s _ _ _ _ W (HS.o.up hb) hN);have Hk:=aa (fun W (hb:Below w.heap.size w W)=>H' s.prob.t _ W (HS.o.up hb).cases);have Zw:=aa (fun (hv:verifyE s=0) W (hb:Below w.heap.size w W)=>DK s hv hE _ _ _ _ W (HS.o.up hb) hN);obtain⟨i0,cM,bX,bP,bY⟩:=info_parts Tryz.infoInt;have bO:=aa (And.intro cM (And.intro bX (And.intro bP bY)));have dg:am (verifyE s≠0->readyE s=verifyE s):=aa fun h=>by unfold readyE;rw[if_pos h]
 have dU:am (verifyE s=0->agreeB s.prob.t=false->readyE s=11):=aa fun h h2=>by unfold readyE;rw[if_neg (by omega),h2];rfl
 have eT:am (verifyE s=0->agreeB s.prob.t=true->readyE s=0):=aa fun h h2=>by unfold readyE;rw[if_neg (by omega),h2];rfl
 have la:am (verifyE s=0->taskE s.prob.t=0):=aa fun h=>(sp (jh h).prob).1
 obtain⟨re,lR⟩:∃ re,readyE s=re:=⟨_,rfl⟩;rw[lR]at dg dU eT ⊢;clear lR cM bX bP bY
 go_enter Tryz.func38,Tryz.ntmps38
 go_wp2_with fail
 refine aN (fun W=>Below w.heap.size w W/\∃ c,W.heap[w.heap.size]?=some (.cells c 35)/\c=bL s.prob _ _ s.n _ _) ⟨by go_grown,_,aq _ _,rfl⟩ (fun W0 aZ=>?_);obtain⟨aI,_,hA,rfl⟩:=aZ;refine(HC.o W0 aI).mono ?_;rintro e w1 ⟨rfl,aJ⟩;have eK:=af aJ hA;have db:=aa eK;have bK:=aa (ae aI aJ);have gc:=bK.o.size;have iS:=aC eK;clear hA eK aI aJ HC;by_cases hv:verifyE s=0
 case neg=>
  have HV:=aa (dg.o hv);obtain⟨ev,mQ⟩:∃ ev,verifyE s=ev:=⟨_,rfl⟩;rw[mQ]at hv HV ⊢;have J1:(ev != 0)=true:=by simpa using hv
  have hH:=aa hv;clear hv mQ
  go_wp2_with fail
  go_ret2
  exact⟨_,by rw[HV.o];rfl,bK.o,fun _=>rfl,fun h=>absurd (HV.o.symm.trans h) hH.o⟩
 have HV:=aa hv;have X3:=aa (la.o hv);have dA:=aa (jh hv);rw[hv];clear hv;have tS:=ab db.o
 go_wp2_with fail
 clear tS;refine(Hk.o w1 bK.o).mono ?_;rintro e w2 ⟨rfl,a8⟩;rw[X3.o,Lu];have cQ:=aa (ae bK.o a8);have mo:=aa (af a8 db.o);have n':=a8.size;clear a8 db;cases BY:agreeB s.prob.t with
 | false=>
  have da:=aa (dU.o HV.o BY);clear BY
  go_wp2_with fail
  go_ret2
  exact⟨_,by rw[da.o];rfl,cQ.o,fun _=>rfl,fun h=>by have:=da.o;omega⟩
 | true=>
  have da:=aa (eT.o HV.o BY);have mM:=aa (fun e (he:e<eS s) pw nw cw vv W (hb:Below w.heap.size w W)=>SV s dA.o BY e he _ pw nw cw vv W (HS.o.up hb).cases);have An:=aa HS.o.ex;have HK:am (∀ k,k<eS s->_):=aa (fun k (hk:k<eS s)=>gX dA.o An.o hk)
  have fZ:am (∀ k,k<=eS s->∀ x∈(List.range k).map (fun e=>((il s e:Nat):Int)),bN x):=aa (fun k _ x hx=>by
   obtain⟨e,_,rfl⟩:=List.mem_map.1 hx;have:=gd (valB s e) 8;unfold il
   exact⟨by omega,by omega⟩)
  obtain⟨L,hL⟩:∃ L:Nat->List Int,L=fun k=>(List.range k).map (fun e=>((il s e:Nat):Int)):=⟨_,rfl⟩
  have HL:am (L 0=[]/\(∀ k,L (k+1)=L k++[((il s k:Nat):Int)])/\L (eS s)=Fl s/\(∀ k,(L k).length=k)/\∀ k,k<=eS s->∀ x∈L k,bN x):=aa (by
   subst hL
   exact⟨rfl,fun k=>by simp[List.range_succ],rfl,fun k=>by simp,fZ.o⟩)
  clear hL BY;obtain⟨m,hm⟩:∃ m,eS s=m:=⟨_,rfl⟩;have HM:=aa hm;have kj:s.ex.length=m:=hm;have tS:=ab mo.o;have t9:∀ o,(w2.alloc o).cell? ⟨w.heap.size,9,none⟩=some (.slice pe m ce):=fun o=>(ab (ar o mo.o) 9).trans (by rw[<-kj];rfl)
  rw[hm]at hE HK HL;clear hm kj
  go_wp2_with fail
  clear tS t9;refine bu (fun W=>Below w2.heap.size w2 W/\∃ c,W.heap[w2.heap.size]?=some (.cells c 98)/\c=XF s (.slice pc s.prob.t.cases.length cc) (.slice ps s.prob.a.states.length cs) (.slice pt s.tab.length ct) (.slice pe s.ex.length ce) (.slice none 0 0) (.slice none 0 0)) ⟨by go_grown,_,aq _ _,rfl⟩ (fun W3 nY=>?_);obtain⟨bH,_,rR,rfl⟩:=nY;have R3:w.heap.size<w2.heap.size:=aC mo.o;obtain⟨B,YJ⟩:∃ B,w2.heap.size=B:=⟨_,rfl⟩;rw[YJ]at rR R3 ⊢;have Sa:=aa YJ;have J2:=aa (And.intro bH rR);clear bH rR YJ
  go_loopw [37] (fun i wr=>∃ k:Nat,k<=m/\i=.int .i64 k/\Below w2.heap.size w2 wr/\∃ lv,wr.heap[B]?=some (.cells (XF s (.slice pc s.prob.t.cases.length cc) (.slice ps s.prob.a.states.length cs) (.slice pt s.tab.length ct) (.slice pe s.ex.length ce) lv (.slice none 0 0)) 98)/\aH wr w2.heap.size 3 1 lv k ((L k).map (Value.int .i64))) (fun i _=>m - (intOf i).toNat)
  ·exact⟨0,by omega,rfl,J2.o.1,_,J2.o.2,by rw[HL.o.1];exact aH.nil _ _ _ _⟩
  ·
   clear J2;obtain⟨k,hk,rfl,az,lv,hB,aS⟩:=hrel;obtain⟨al,cl,rfl⟩:=aS.slice;have HB:=aa hB;have bG:=aa aS;have aP:=aa az;have uY:=af az mo.o;have Ag:=aa uY;have cZ:=ae cQ.o az;have eh:=aa cZ;have z5:=az.size;have wF:=aC hB;by_cases aB:k<m
   ·obtain⟨b,o,_,ce',e0,rfl,pw,nw,cw,pv,cv,c1,c2,c3,mS,eU,hZ,-⟩:=HK.o k aB;injection e0 with e01 e02 e03
    subst e01;have CS:nw<=6:=by have:=dA.o.rounds;omega
    clear e02 e03;have d1:=ak cZ c1;have d2:=ak cZ c2;have d3:=ak cZ c3;have tA:∀ o' j,(wr.alloc o').cell? ⟨w.heap.size,j,none⟩=(bL s.prob (.slice pc s.prob.t.cases.length cc) (.slice ps s.prob.a.states.length cs) s.n (.slice pt s.tab.length ct) (.slice (some ⟨b,o,none⟩) s.ex.length ce))[j]?:=fun o' j=>ab (ar o' uY) j
    have oT:=aa (fun W (hb:Below w.heap.size w W)=>mM.o k (by rw[HM.o];exact aB) pw nw cw (.slice pv (s.prob.rounds.toNat+1) cv) W hb CS (fun h=>by obtain⟨b1,o1,q1,q2⟩:=eU h;exact⟨b1,o1,q1,ak hb q2⟩) hZ);clear aS az uY cZ c1 c2 c3 mS eU hZ hB
    go_wp2_with fail
    refine aN (fun W=>Below wr.heap.size wr W) (by go_grown) (fun W4 cj=>?_);refine(oT.o W4 (ae eh.o cj)).mono ?_;rintro r w5 ⟨rfl,dE⟩;have gi:=ae cj dE;have lf:=aa (af gi HB.o);have tB:w5.cell? ⟨B,10,none⟩=some (.slice al k cl):=(ab lf.o 10).trans rfl;have Ew:=aa ((bG.o.up gi).up ((Below.refl _ w5).alloc (Nat.le_refl _) (.cells #[.int .i64 ((il s k:Nat):Int)] 3)));have bA:=aa (dx w5 [.int .i64 ((il s k:Nat):Int)] 3);have lu:=aa (ae aP.o gi);have jT:am (k+1<=maxLen):=aa (by unfold maxLen;omega);have dD:am ((k+1) * 8<=140737488355328):=aa (by omega);have fH:am (w2.heap.size<=(w5.alloc (.cells #[.int .i64 ((il s k:Nat):Int)] 3)).heap.size):=aa (by have:=lu.o.size;simp;omega);clear cj dE gi tA d1 d2 d3 oT
    go_wp2_with (at_builtin;(refine aX _ rfl (.tmp 56) (.tmp 58) 38 rfl w2.heap.size 3 i0 _ 1 8 Tryz.underlying38 bO.o.1 bO.o.2.1 bO.o.2.2.1 bO.o.2.2.2 rfl (by decide) _ k _ rfl Ew.o ⟨w5.heap.size,0,none⟩ 1 1 [.int .i64 ((il s k:Nat):Int)] rfl rfl bA.o (by simp[Value.oneCell']) jT.o dD.o fH.o ?_;intro v6 w6 eP dQ _;obtain⟨av6,cv6,rfl⟩:=eP.slice;have U7:=im Ew.o dQ lf.o (by decide);have c6:w6.cell? ⟨B,10,none⟩=some _:=(ab U7 10).trans rfl;have f6:=aE U7 10))
    go_roundw
    ·
     refine⟨k+1,by omega,by go_num,(Dp lu.o lu.o.size (Nat.le_refl _) Ew.o dQ).setCell (by dsimp only;rw[Sa.o];exact Nat.le_refl _) _,.slice av6 (k+1) cv6,?_,?_⟩
     ·rw[aF U7];rfl
     ·rw[HL.o.2.1 k,List.map_append];exact eP.put (eP.ne U7 (by decide)) _ _
    ·simp[intOf];omega
   ·obtain rfl:k=m:=by omega
    have tA:∀ j,wr.cell? ⟨w.heap.size,j,none⟩=_:=fun j=>ab uY j
    clear aS az uY cZ hB
    go_wp2_with fail
    refine(Zw.o HV.o wr eh.o).mono ?_;rintro r w4 ⟨u,rfl,hu,cj⟩;have wC:=af cj HB.o;have c4:w4.cell? ⟨B,11,none⟩=some _:=(ab wC 11).trans rfl;have f4:=aE wC 11;obtain⟨au,cu,rfl,_⟩:=hu.at;have HU:=aa hu;have eG:=aa wC;have oN:=aa cj;clear tA hu wC cj
    go_wp2_with fail
    go_ret2
    have D9:Below w.heap.size w (w4.setCell ⟨B,11,none⟩ (.slice au (partsS s).length cu)):=(ae eh.o oN.o).setCell (by dsimp only;omega) _;refine⟨_,by rw[da.o];rfl,D9,fun h=>absurd da.o h,fun _=>⟨B,rfl,by omega,⟨.slice pc s.prob.t.cases.length cc,.slice ps s.prob.a.states.length cs,.slice pt s.tab.length ct,.slice pe s.ex.length ce,.slice al k cl,.slice au (partsS s).length cu,(aF eG.o 11 (.slice au (partsS s).length cu)).trans rfl,HS.o.up D9,?_,?_⟩⟩⟩
    ·have h1:=(bG.o.up oN.o).put ((bG.o.up oN.o).ne eG.o (by decide)) 11 (.slice au (partsS s).length cu);have h2:=HL.o.2.2.1;have h3:=HL.o.2.2.2.1 k;rw[h2]at h1 h3;exact fI (l:=Fl s) (base:=w2.heap.size) (by rw[h3];exact h1) (by rw[<-h2];exact HL.o.2.2.2.2 k (Nat.le_refl _)) (by omega)
    ·exact S7 HU.o eG.o (by intro x;simp) _
def uC(s:Sys) (e f:Nat):Bool:=byB s e f&&decide (f≠e)
def go(s:Sys) (e k:Nat):List Nat:=(List.range k).filter (uC s e)
def ez(s:Sys) (e:Nat):List Nat:=go s e (eS s)
theorem xN{s:Sys} {e k:Nat} (h:uC s e k=true):go s e (k+1)=go s e k++[k]:=by
 unfold go;rw[List.range_succ,List.filter_append];simp[h]
theorem AX{s:Sys} {e k:Nat} (h:uC s e k=false):go s e (k+1)=go s e k:=by
 unfold go;rw[List.range_succ,List.filter_append];simp[h]
theorem S8{s:Sys} {e:Nat}:∀ {k m:Nat},k<=m->go s e k <+: go s e m:=fun {k m} h=>by
 induction m with
 | zero=>obtain rfl:k=0:=by omega
         exact List.prefix_refl _
 | succ m ih=>
  by_cases e1:k=m+1
  ·subst e1;exact List.prefix_refl _
  ·refine(ih (by omega)).trans ?_;cases hb:uC s e m with
   | true=>rw[xN hb];exact List.prefix_append _ _
   | false=>rw[AX hb];exact List.prefix_refl _
theorem XG{s:Sys} {e k:Nat} (hk:k<eS s) (h:uC s e k=true):(go s e k).length<(ez s e).length/\(ez s e).getD (go s e k).length 0=k:=by
 have h1:go s e (k+1) <+: ez s e:=S8 (by omega);rw[xN h]at h1;obtain⟨t,ht⟩:=h1;rw[<-ht];refine⟨by simp,?_⟩;rw[List.append_assoc,List.getD_eq_getElem?_getD,List.getElem?_append_right (Nat.le_refl _)];simp
theorem sr{s:Sys} {e f:Nat}:f∈ez s e↔f<eS s/\byB s e f=true/\f≠e:=by
 simp[ez,go,uC]
def Jv(s:Sys) (e:Nat) (i:Nat):Array Value:=#[.int .i64 ((ez s e).getD i 0:Nat),.int .i64 (byP s e ((ez s e).getD i 0))]
theorem wz(B e:Nat) (w:World) :
  Calls Tryz.prog 138 #[.pointer (some ⟨B,0,none⟩),.int .i64 e] w fun r w'=>r=.returned (.func (.func 179) #[] #[.pointer (some ⟨w.heap.size,0,none⟩),.pointer (some ⟨w.heap.size+1,0,none⟩)])/\w'=(w.alloc (.cells #[.pointer (some ⟨B,0,none⟩)] 196)).alloc (.cells #[.int .i64 e] 3):=by
 go_enter Tryz.func138,Tryz.ntmps138
 go_wp2
 go_ret
 exact⟨rfl,rfl⟩
def gH(S:Nat->Prop) (w w':World):Prop:=∀ k,S k->w'.heap[k]?=w.heap[k]?
theorem gH.trans{S:Nat->Prop} {a b c:World} (h:gH S a b) (k:gH S b c):gH S a c:=fun i hi=>(k i hi).trans (h i hi)
theorem gH.cell{S:Nat->Prop} {w w':World} (h:gH S w w') {b:Nat} (hb:S b) {o:Nat}:w'.cell? ⟨b,o,none⟩=w.cell? ⟨b,o,none⟩:=by
 have:=h b hb;unfold World.cell?;rw[this]
theorem uD(s:Sys) (hs:SysOk s) (B e bx be:Nat) (he:e<eS s) (base:Nat) (w0:World) (h:gY w0 base B s) (w:World) (aI:∀ k,base<=k->k<w0.heap.size->w.heap[k]?=w0.heap[k]?) (nA:w0.heap.size<=w.heap.size) (hx:w.cell? ⟨bx,0,none⟩=some (.pointer (some ⟨B,0,none⟩))) (hy:w.cell? ⟨be,0,none⟩=some (.int .i64 e)) :
  tK Tryz.prog 179 #[.pointer (some ⟨bx,0,none⟩),.pointer (some ⟨be,0,none⟩)] (Jv s e) (ez s e).length (fun k=>(base<=k/\k<w0.heap.size)\/k=bx\/k=be) w:=by
 intro yl J Jx W hW hJ oM hY h0;have ly:=fo hx;have lz:=fo hy;have fg:gH (fun k=>(base<=k/\k<w0.heap.size)\/k=bx\/k=be) w W:=fun k hk=>hW.block k (by rcases hk with hk|rfl|rfl<;>first|omega|assumption)
 obtain⟨pl,cl,h1,-⟩:=(h.at hs).open;have R3:=h.1;have H1:=aa h1;have HX:=aa hx;have Vn:=aa hy;have ie:=aa h;have HJ:=aa hJ;have JN:=aa oM;have HY:=aa hY;have H0:=aa h0;have gz:am (∀ (W:World) (f:Nat),f<eS s->FinAt W B s->_):=aa fun W f (hf:f<eS s) (h:FinAt W B s)=>BA s hs B e f he hf W h
 have HKF:am (∀ W:World,gH (fun k=>(base<=k/\k<w0.heap.size)\/k=bx\/k=be) w W->FinAt W B s):=aa (fun W AE=>by exact(h.keep fun k h1 h2=>(AE k (.inl ⟨h1,h2⟩)).trans (aI k h1 h2)).at hs);have tx:=(fg.cell (.inr (.inl rfl))).trans hx;have tF:W.cell? ⟨B,1,none⟩=some (.slice pl (eS s) cl):=(ab ((fg B (.inl ⟨R3,aC h1⟩)).trans ((aI B R3 (aC h1)).trans h1)) 1).trans rfl;have uM:=aa fg;have HN:am (∀ k,k<eS s->uC s e k=true->(go s e k).length<(ez s e).length/\(ez s e).getD (go s e k).length 0=k):=aa fun k hk h=>XG hk h
 have iK:am ((go s e (eS s)).length=(ez s e).length):=aa rfl;have gK:=hs.n.2.1
 have dD:am (∀ f,byB s e f=true->0<=byP s e f/\byP s e f<nS s/\(∀ j,j<(byP s e f).toNat->linkB s j e f=false)/\linkB s (byP s e f).toNat e f=true):=aa (fun f hf=>by
  obtain⟨g1,g2,g3⟩:=AQ hf;refine⟨g1,g2,fun j hj=>?_,g3⟩;unfold byP at hj;rcases bE (nS s) (fun p=>linkB s p e f) with ⟨e1,_⟩|⟨k,hk,e1,_,h2⟩
  ·rw[e1]at hj;simp at hj
  ·rw[e1,Int.toNat_natCast]at hj;exact h2 j hj)
 have KJ:=hs;clear h1 hx hy h aI ly lz nA R3 hJ oM hY h0 fg hs;obtain⟨m,hm⟩:∃ m,eS s=m:=⟨_,rfl⟩;have hcount:=KJ.count;rw[hm]at HN iK he tF gz hcount;clear hm KJ;refine(callsIn_wide (n:=0)).1 ?_;refine callsIn_of_wp Tryz.func179 rfl trivial ?_ rfl;simp only[Tryz.ntmps179,List.size_toArray,List.length_cons,List.length_nil,Nat.reduceAdd,Nat.reduceSub,Array.replicate_succ,Array.replicate_zero,List.push_toArray,List.append_toArray,List.nil_append,List.cons_append]
 gi_wp2
 clear tx tF
 gi_loopw [12] (fun i wr=>∃ k:Nat,k<=m/\i=.int .i64 k/\gH (fun k=>(base<=k/\k<w0.heap.size)\/k=bx\/k=be) w wr/\J (go s e k).length wr) (fun i _=>m - (intOf i).toNat)
 ·exact⟨0,by omega,rfl,uM.o,H0.o⟩
 ·
  obtain⟨k,hk,rfl,gk,hj⟩:=hrel;have kx:=aa gk;have jp:=aa hj;clear hj;by_cases aB:k<m
  ·have tx:=(gk.cell (.inr (.inl rfl))).trans HX.o;have ty:=(gk.cell (.inr (.inr rfl))).trans Vn.o;have HL:=aa (gz.o wr k aB (HKF.o wr gk));obtain⟨set,lW⟩:∃ set,maskN (fun p=>linkB s p e k) (nS s)=set:=⟨_,rfl⟩;rw[lW]at HL;have dT:=aa lW;have hz:set=0↔byB s e k=false:=by rw[<-lW,kF];rfl
   clear gk lW
   gi_wp2
   refine⟨trivial,rfl,callsIn_wide.2 (HL.o.mono ?_)⟩;rintro r w1 ⟨rfl,rfl⟩;by_cases hb:byB s e k=true
   ·have Ol:¬ ((set:Int)=0):=fun h=>by have:=hz.1 (by omega);rw[hb]at this;cases this
    have KJ:((set:Int) == 0)=false:=by simpa using Ol
    by_cases pC:e=k
    ·have fi:am ((go s e (k+1)).length=(go s e k).length):=aa (by rw[AX (by unfold uC;rw[decide_eq_false (show ¬ (k≠e) from fun h=>h pC.symm),Bool.and_false])]);have TV:((e:Int) == (k:Int))=true:=by rw[pC];simp
     clear hz Ol pC hb
     gi_wp2
     go_roundw
     ·exact⟨k+1,by omega,by go_num,kx.o,by rw[fi.o];exact jp.o⟩
     ·simp[intOf];omega
    ·have iz:uC s e k=true:=by unfold uC;rw[hb,decide_eq_true (show k≠e from fun h=>pC h.symm)];rfl
     have jN:am ((go s e (k+1)).length=(go s e k).length+1):=aa (by rw[xN iz];simp);obtain⟨jS,nV⟩:=HN.o k aB iz;have TV:((e:Int) == (k:Int))=false:=by simp;omega
     obtain⟨g1,g2,g3,g4⟩:=dD.o k hb;obtain⟨p0,wP⟩:∃ p0:Nat,byP s e k=p0:=⟨(byP s e k).toNat,by omega⟩;rw[wP,Int.toNat_natCast]at g3 g4;have ed:am (∀ p,p<p0->hasB (set:Nat) p=false):=aa (fun p hp=>by rw[<-dT.o,jz,g3 p hp,Bool.and_false]);have bK:am (hasB (set:Nat) p0=true):=aa (by rw[<-dT.o,jz,g4,decide_eq_true (by omega)];rfl);have CT:am (Jv s e (go s e k).length=#[.int .i64 k,.int .i64 p0]):=aa (by unfold Jv;rw[nV,wP]);have Kq:p0<5:=by omega
     obtain⟨c,hc⟩:∃ c,(go s e k).length=c:=⟨_,rfl⟩;rw[hc]at jS CT jN jp;clear hz Ol pC hb iz nV g1 g2 g3 g4 wP hc
     gi_wp2
     gi_loop [6] (fun x=>∃ p:Nat,p<=p0/\x=.int .i64 p) (fun x=>p0 - (intOf x).toNat)
     ·exact⟨0,by omega,rfl⟩
     ·
      obtain⟨p,hp,rfl⟩:=hrel;have gP:=tY (set:Nat) p;by_cases hpp:p=p0
      ·subst hpp;rw[bK.o]at gP;obtain⟨fn,tmps,assign,body,pO,hR⟩:=HY.o c wr jS jp.o;rw[CT.o]at pO;have HR:=aa hR;clear hR
       gi_wp2
       refine⟨rfl,HR.o.mono ?_⟩;rintro e W3 (⟨rfl,El,EJ,iA⟩|⟨rfl,sY⟩)
       ·gi_wp2
        go_roundw
        ·exact⟨k+1,by omega,by go_num,gH.trans kx.o iA,by rw[jN.o];exact El⟩
        ·simp[intOf];omega
       ·gi_wp2
        refine bodyPost_ret (results_none rfl _ _ _) rfl ?_;exact⟨⟨_,rfl⟩,.inr ⟨_,by omega,sY⟩⟩
      ·rw[ed.o p (by omega)]at gP
       gi_wp2
       go_round
       ·exact⟨p+1,by omega,by go_num⟩
       ·simp[intOf];omega
   ·have gp:byB s e k=false:=by simpa using hb
    obtain rfl:=hz.2 gp;have fi:am ((go s e (k+1)).length=(go s e k).length):=aa (by rw[AX (by unfold uC;rw[gp];rfl)]);clear hz hb gp
    gi_wp2
    go_roundw
    ·exact⟨k+1,by omega,by go_num,kx.o,by rw[fi.o];exact jp.o⟩
    ·simp[intOf];omega
  ·obtain rfl:k=m:=by omega
   gi_wp2
   go_end0
   exact⟨⟨_,rfl⟩,.inl (by rw[<-iK.o];exact jp.o)⟩
def gI(parts:List Int) (label:Int) (k:Nat):List Nat:=(List.range k).filter fun e=>decide (parts.getD e 0=label)
theorem uE{p:List Int} {x:Int} {k:Nat} (h:p.getD k 0=x):gI p x (k+1)=gI p x k++[k]:=by
 unfold gI;rw[List.range_succ,List.filter_append];simpa using h
theorem CF{p:List Int} {x:Int} {k:Nat} (h:p.getD k 0≠x):gI p x (k+1)=gI p x k:=by
 unfold gI;rw[List.range_succ,List.filter_append];simpa using h
theorem Qz{p:List Int} {x:Int}:∀ {k m:Nat},k<=m->gI p x k <+: gI p x m:=fun {k m} h=>by
 induction m with
 | zero=>obtain rfl:k=0:=by omega
         exact List.prefix_refl _
 | succ m ih=>
  by_cases e1:k=m+1
  ·subst e1;exact List.prefix_refl _
  ·refine(ih (by omega)).trans ?_;by_cases hb:p.getD m 0=x
   ·rw[uE hb];exact List.prefix_append _ _
   ·rw[CF hb];exact List.prefix_refl _
theorem WR{p:List Int} {x:Int} {k:Nat} (hk:k<p.length) (h:p.getD k 0=x):(gI p x k).length<(memL p x).length/\(memL p x).getD (gI p x k).length 0=k:=by
 have h1:gI p x (k+1) <+: memL p x:=Qz (by omega);rw[uE h]at h1;obtain⟨t,ht⟩:=h1;rw[<-ht];refine⟨by simp,?_⟩;rw[List.append_assoc,List.getD_eq_getElem?_getD,List.getElem?_append_right (Nat.le_refl _)];simp
def xO(l:List Nat) (i:Nat):Array Value:=#[.int .i64 (l.getD i 0:Nat)]
theorem yy(B:Nat) (x:Int) (w:World) :
  Calls Tryz.prog 85 #[.pointer (some ⟨B,0,none⟩),.int .i64 x] w fun r w'=>r=.returned (.func (.func 135) #[] #[.pointer (some ⟨w.heap.size,0,none⟩),.pointer (some ⟨w.heap.size+1,0,none⟩)])/\w'=(w.alloc (.cells #[.pointer (some ⟨B,0,none⟩)] 94)).alloc (.cells #[.int .i64 x] 3):=by
 go_enter Tryz.func85,Tryz.ntmps85
 go_wp2
 go_ret
 exact⟨rfl,rfl⟩
theorem wA(s:Sys) (B bx be:Nat) (x:Int) (w0:World) (h:ScAt w0 B s) (w:World) (aI:Below w0.heap.size w0 w) (hx:w.cell? ⟨bx,0,none⟩=some (.pointer (some ⟨B,0,none⟩))) (hy:w.cell? ⟨be,0,none⟩=some (.int .i64 x)) :
  tK Tryz.prog 135 #[.pointer (some ⟨bx,0,none⟩),.pointer (some ⟨be,0,none⟩)] (xO (memL (partsS s) x)) (memL (partsS s) x).length (fun k=>k<w0.heap.size\/k=bx\/k=be) w:=by
 intro yl J Jx W hW hJ oM hY h0;have ly:=fo hx;have lz:=fo hy;have nA:=aI.size;have fg:gH (fun k=>k<w0.heap.size\/k=bx\/k=be) w W:=fun k hk=>hW.block k (by rcases hk with hk|rfl|rfl<;>first|omega|assumption)
 obtain⟨vc,vs,vt,ve,vv,vl,h1,_,_,h2⟩:=h.ex;obtain⟨pl,cl,rfl,lt1,lt2,el⟩:=h2.at;have H1:=aa h1;have HX:=aa hx;have Vn:=aa hy;have HJ:=aa hJ;have JN:=aa oM;have HY:=aa hY;have H0:=aa h0;have tx:=(fg.cell (.inr (.inl rfl))).trans hx;have Ap:∀ k,k<w0.heap.size->w.heap[k]?=w0.heap[k]?:=fun k hk=>aI.block k hk
 have Mm:=aa Ap;have tF:W.cell? ⟨B,11,none⟩=some (.slice pl (partsS s).length cl):=(ab ((fg B (.inl (aC h1))).trans ((aI.block B (aC h1)).trans h1)) 11).trans rfl;have uM:=aa fg;have wT:am (∀ k,k<(partsS s).length->(partsS s).getD k 0=x->(gI (partsS s) x k).length<(memL (partsS s) x).length/\(memL (partsS s) x).getD (gI (partsS s) x k).length 0=k):=aa fun k hk h=>WR hk h
 have jN:am (∀ k,(partsS s).getD k 0=x->(gI (partsS s) x (k+1)).length=(gI (partsS s) x k).length+1):=aa fun k h=>by rw[uE h];simp
 have fi:am (∀ k,(partsS s).getD k 0≠x->(gI (partsS s) x (k+1)).length=(gI (partsS s) x k).length):=aa fun k h=>by rw[CF h]
 have iK:am ((gI (partsS s) x (partsS s).length).length=(memL (partsS s) x).length):=aa rfl
 have EL:am (∀ (V:World),gH (fun k=>k<w0.heap.size\/k=bx\/k=be) w V->∀ i,i<(partsS s).length->∃ b o,pl=some ⟨b,o,none⟩/\V.cell? ⟨b,o+i,none⟩=some (.int .i64 ((partsS s).getD i 0))):=aa (fun V hV i hi=>by
  obtain⟨b,o,e1,c1,_⟩:=el i hi;rw[Nat.mul_one,<-aA 0 hi]at c1;have aB:=fo c1;refine⟨b,o,e1,?_⟩;rw[hV.cell (.inl aB),<-c1];unfold World.cell?
  rw[Ap b aB])
 clear h1 hx hy h aI ly lz nA hJ oM hY h0 fg h2 el Ap;obtain⟨n,hn⟩:∃ n,(partsS s).length=n:=⟨_,rfl⟩;rw[hn]at wT iK EL lt1 lt2 tF;clear hn;refine(callsIn_wide (n:=0)).1 ?_;refine callsIn_of_wp Tryz.func135 rfl trivial ?_ rfl;simp only[Tryz.ntmps135,List.size_toArray,List.length_cons,List.length_nil,Nat.reduceAdd,Nat.reduceSub,Array.replicate_succ,Array.replicate_zero,List.push_toArray,List.append_toArray,List.nil_append,List.cons_append]
 gi_wp2
 clear tx tF
 gi_loopw [11] (fun i wr=>∃ k:Nat,k<=n/\i=.int .i64 k/\gH (fun k=>k<w0.heap.size\/k=bx\/k=be) w wr/\J (gI (partsS s) x k).length wr) (fun i _=>n - (intOf i).toNat)
 ·exact⟨0,by omega,rfl,uM.o,H0.o⟩
 ·
  obtain⟨k,hk,rfl,gk,hj⟩:=hrel;have kx:=aa gk;have jp:=aa hj;clear hj;by_cases aB:k<n
  ·obtain⟨b1,o1,rfl,c1⟩:=EL.o wr gk k aB;have ty:=(gk.cell (.inr (.inr rfl))).trans Vn.o;clear gk;by_cases hx:(partsS s).getD k 0=x
   ·have Sc:=aa (jN.o k hx);obtain⟨jS,nV⟩:=wT.o k aB hx;have CT:am (xO (memL (partsS s) x) (gI (partsS s) x k).length=#[.int .i64 k]):=aa (by unfold xO;rw[nV]);rw[hx]at c1;obtain⟨c,hc⟩:∃ c,(gI (partsS s) x k).length=c:=⟨_,rfl⟩;rw[hc]at jS CT Sc jp;clear nV hx hc;have lP:(x == x)=true:=by simp
    obtain⟨fn,tmps,assign,body,pO,hR⟩:=HY.o c wr jS jp.o;rw[CT.o]at pO;have HR:=aa hR;clear hR
    gi_wp2
    refine⟨rfl,HR.o.mono ?_⟩;rintro e W3 (⟨rfl,El,EJ,iA⟩|⟨rfl,sY⟩)
    ·gi_wp2
     go_roundw
     ·exact⟨k+1,by omega,by go_num,gH.trans kx.o iA,by rw[Sc.o];exact El⟩
     ·simp[intOf];omega
    ·gi_wp2
     refine bodyPost_ret (results_none rfl _ _ _) rfl ?_;exact⟨⟨_,rfl⟩,.inr ⟨_,by omega,sY⟩⟩
   ·have q6:=aa (fi.o k hx);have lP:((partsS s).getD k 0 == x)=false:=beq_eq_false_iff_ne.2 hx;generalize (partsS s).getD k 0=y at c1 lP;clear hx
    gi_wp2
    refine⟨fun f hf=>(by cases hf),?_⟩
    gi_wp2
    go_roundw
    ·exact⟨k+1,by omega,by go_num,kx.o,by rw[q6.o];exact jp.o⟩
    ·simp[intOf];omega
  ·obtain rfl:k=n:=by omega
   clear gk
   gi_wp2
   go_end0
   exact⟨⟨_,rfl⟩,.inl (by rw[<-iK.o];exact jp.o)⟩
end Go.Proofs.YtmeaoneaephjeaaGreatDoor
