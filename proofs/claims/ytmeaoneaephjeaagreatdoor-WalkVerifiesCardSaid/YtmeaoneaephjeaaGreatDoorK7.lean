/-
  A part of the proof: lemmas and contracts that the parts behind it use. Each one's conditions are its own premises.
-/
import Derived.Laws.Tables
import Derived.Laws.CopyOwn
import Derived.Test.YtmeaoneaephjeaaGreatDoorK6
set_option maxRecDepth 100000
set_option maxHeartbeats 8000000
set_option linter.unusedVariables false
set_option linter.unusedSimpArgs false
namespace Go.Proofs.YtmeaoneaephjeaaGreatDoor
open Go.RowKit Go Go.Shelf
attribute [local go_sem] Oper.semAt_some
structure BEnd (p:Pb) (w wd:World) (uc us vt ve:Value) (xs:List Value) (st:List Vw × List Ex) (D:Nat) (X:World):Prop where
 old:Below wd.heap.size wd X
 r2:X.heap[w.heap.size+1]?=some (.cells zeroSys 35)
 r3:X.heap[w.heap.size+1+1]?=some (.cells #[.int .i64 0] 39)
 s:X.heap[wd.heap.size]?=some (.cells (bE p uc us p.t.n vt ve) 35)
 tab:aD X wd.heap.size 190 8 vt st.1.length (eI st.1)
 ex:aD X wd.heap.size 89 3 ve st.2.length xs
 els:∀ i (hi:i<st.2.length),zp X wd.heap.size xs i st.2[i]
 d:X.heap[D]?=some (.deferred (some []))
theorem Ok{w X:World} {D:Nat} {T:Array Value} {R:Ending->World->Prop} (hb:Below w.heap.size w X) (hR:X.heap[w.heap.size+1]?=some (.cells zeroSys 35)) (hE:X.heap[w.heap.size+1+1]?=some (.cells #[.int .i64 0] 39)) (hd:X.heap[D]?=some (.deferred (some []))) (hD:w.heap.size+1+1<D)
  (c0 c1 c2 c3 c4 c5 c6 c7 c8 c9:Value) (h2:T[2]?.getD undef=.pointer (some ⟨w.heap.size+1,0,none⟩)) (h3:T[3]?.getD undef=.pointer (some ⟨w.heap.size+1+1,0,none⟩))
  (hK:∀ Wf:World,Below w.heap.size w Wf->(∀ k,k≠w.heap.size+1->k≠w.heap.size+1+1->k≠D->Wf.heap[k]?=X.heap[k]?)->R (.returned (.tuple #[.agg #[c0,c1,c2,c3,c4,c5,c6,c7,c8,c9],.int .i64 0])) Wf) :
  bodyPostM Fence.wide 0 Tryz.prog Tryz.f120 R .ret { tmps:=T,defers:=[gZ D] } (((((((((((X.setCell ⟨w.heap.size+1,0,none⟩ c0).setCell ⟨w.heap.size+1,1,none⟩ c1).setCell ⟨w.heap.size+1,2,none⟩ c2).setCell ⟨w.heap.size+1,3,none⟩ c3).setCell ⟨w.heap.size+1,4,none⟩ c4).setCell ⟨w.heap.size+1,5,none⟩ c5).setCell ⟨w.heap.size+1,6,none⟩ c6).setCell ⟨w.heap.size+1,7,none⟩ c7).setCell ⟨w.heap.size+1,8,none⟩ c8).setCell ⟨w.heap.size+1,9,none⟩ c9).setCell ⟨w.heap.size+1+1,0,none⟩ (.int .i64 0)).drew:=by
 obtain⟨q1,q2,q3,q4⟩:=rW (B:=w.heap.size+1) hb (by omega) hR rfl hE c0 c1 c2 c3 c4 c5 c6 c7 c8 c9 0
 revert q1 q2 q3 q4
 generalize (((((((((((X.setCell ⟨w.heap.size+1,0,none⟩ c0).setCell ⟨w.heap.size+1,1,none⟩ c1).setCell ⟨w.heap.size+1,2,none⟩ c2).setCell ⟨w.heap.size+1,3,none⟩ c3).setCell ⟨w.heap.size+1,4,none⟩ c4).setCell ⟨w.heap.size+1,5,none⟩ c5).setCell ⟨w.heap.size+1,6,none⟩ c6).setCell ⟨w.heap.size+1,7,none⟩ c7).setCell ⟨w.heap.size+1,8,none⟩ c8).setCell ⟨w.heap.size+1,9,none⟩ c9).setCell ⟨w.heap.size+1+1,0,none⟩ (.int .i64 0))=Y;intro q1 q2 q3 q4;have q1':Y.drew.heap[w.heap.size+1]?=_:=q1;have q2':Y.drew.heap[w.heap.size+1+1]?=_:=q2;have q4':∀ k,k≠w.heap.size+1->k≠w.heap.size+1+1->Y.drew.heap[k]?=X.heap[k]?:=q4;have q3':=q3.drew;generalize Y.drew=Z at q1' q2' q3' q4' ⊢;refine io ((q4' D (by omega) (by omega)).trans hd) (oW T (w.heap.size+1) _ c0 c1 c2 c3 c4 c5 c6 c7 c8 c9 0 h2 h3 ((World.putObj_heap_other (by omega)).trans q1') ((World.putObj_heap_other (by omega)).trans q2')) ?_;exact hK _ (eE (by omega) q3') (fun k a b c=>(World.putObj_heap_other c).trans (q4' k a b))
theorem Uy{p:Pb} {w w2 wd X Wf:World} {D:Nat} {uc us vt ve:Value} {xs:List Value} {st:List Vw × List Ex} (h:BEnd p w wd uc us vt ve xs st D X)
  (CP:∀ W':World,(∀ k o,w2.heap.size<=k->wd.heap[k]?=some o->W'.heap[k]?=some o)->bK W' uc p.t.cases/\bk W' us p.a.states) (xg:w.heap.size+1+1<w2.heap.size) (hDd:wd.heap.size<=D)
  (hg:(∀ v∈st.1,jF v)/\∀ x∈st.2,ExGood x) (gt:st.1.length<=8192) (mD:st.2.length<=4096) (hf:∀ k,k≠w.heap.size+1->k≠w.heap.size+1+1->k≠D->Wf.heap[k]?=X.heap[k]?):IsSys Wf ⟨p,p.t.n,st.1,st.2⟩ uc us vt ve:=by
 have tr:∀ {b:Nat} {e:TypeId} {k:Nat} {v:Value} {n:Nat} {ys:List Value},aD X b e k v n ys->e≠35->e≠39->aD Wf b e k v n ys:=fun {b e k v n ys} ho h1 h2=>ho.keepT fun g o e1 e2=>
  (hf g (fun e'=>ho.ne h.r2 h1 g e1 e') (fun e'=>ho.ne h.r3 h2 g e1 e') (fun e'=>ho.isCells h.d rfl (by rw[e1,e']))).trans e2
 obtain⟨k1,k2⟩:=CP Wf (fun k o hk ho=>by
  have az:=ar ho;rw[hf k (by omega) (by omega) (by omega)]
  exact(h.old.block k az).trans ho)
 refine⟨k1,k2,xW (tr h.tab (by decide) (by decide)) hg.1 (show st.1.length<=17592186044416 by omega),Kj (tr h.ex (by decide) (by decide)) (fun i hi=>?_) hg.2 (show st.2.length<=17592186044416 by omega)⟩;obtain⟨a,d,p1,p2,p3,p4,ys,p5,p6⟩:=h.els i hi;exact⟨a,d,p1,p2,p3,tr p4 (by decide) (by decide),ys,tr p5 (by decide) (by decide),fun j hj=>by obtain⟨y,r1,r2⟩:=p6 j hj;exact⟨y,r1,tr r2 (by decide) (by decide)⟩⟩
theorem Ol(p:Pb) (vc vs:Value) (w:World) (hc:bK w vc p.t.cases) (hs:bk w vs p.a.states) (hN:movesN p.a.states<1099511627776) :
  Calls Tryz.prog 120 #[qi p vc vs] w fun e w'=>∃ c,e=.returned (.tuple #[.agg c,.int .i64 (buildE p)])/\(buildE p=0->∃ uc us vt ve,c=bE p uc us p.t.n vt ve/\IsSys w' (aM p) uc us vt ve)/\(buildE p≠0->c=zeroSys)/\Below w.heap.size w w':=by
 have GC:=aa hc;have GS:=aa hs;obtain⟨pc,cc,rfl,lc1,lc2,ec⟩:=hc.at;obtain⟨ps,cs,rfl,_⟩:=hs.at;have EC:=aa ec;clear hc hs ec;refine fT Tryz.func120 rfl ?_;simp only[Tryz.ntmps120,List.size_toArray,List.length_cons,List.length_nil,Nat.reduceAdd,Nat.reduceSub,Array.replicate_succ,Array.replicate_zero,List.push_toArray,List.append_toArray,List.nil_append,List.cons_append]
 go_wp2_with fail
 refine aL (fun W=>Below w.heap.size w W/\W.heap[w.heap.size]?=some (.cells #[.int .i64 p.t.n,.int .i64 p.t.ins,.int .i64 p.t.outs,.slice pc p.t.cases.length cc,.int .i64 p.a.n,.slice ps p.a.states.length cs,.int .i64 p.rounds] 29)/\W.heap[w.heap.size+1]?=some (.cells zeroSys 35)/\W.heap[w.heap.size+1+1]?=some (.cells #[.int .i64 0] 39)) ⟨by go_grown,am _ (am _ (ak _ _)),am _ (ba _ _ _),dH _ _ _ _⟩ (fun W0 aW=>?_);obtain⟨aC,br,gJ,hE0⟩:=aW;refine(FX p _ _ W0 (GC.out.up up_case aC) (GS.out.up up_moves aC) hN (fun h=>by have:=(eX (go h).1).2.2.2.1;omega)).mono ?_;rintro e w1 ⟨rfl,aG⟩;have jb:=ae aC aG;have dy:=aa (af aG br);have cX:=aa (af aG gJ);have lQ:=aa (af aG hE0);have bP:=aG.size;have hzE:=ar lQ.out;clear br gJ hE0
 have fy:((dK p).2=buildE p/\buildE p≠0)\/((dK p).2=0/\probE p=0/\(dK p).1=((p.t.cases.length * (aI p).length:Nat):Int)):=by
  by_cases hp:probE p=0
  ·obtain⟨h1,h2⟩:=JO hp
   by_cases h3:(dK p).2=0
   ·exact .inr ⟨h3,hp,h2 h3⟩
   ·obtain⟨h4,h5⟩:=h1 h3
    have:buildE p=17:=by unfold buildE;rw[if_neg (by simpa using hp),if_pos h5]
    exact .inl ⟨by rw[h4,this],by rw[this];decide⟩
  ·have:buildE p=probE p:=by unfold buildE;rw[if_pos hp]
   exact .inl ⟨by rw[this];unfold dK;rw[if_pos hp],by rw[this];exact hp⟩
 rcases fy with ⟨he,bM⟩|⟨he,hp,nF⟩
 ·obtain⟨eb,mQ⟩:∃ x,x=buildE p:=⟨_,rfl⟩
  rw[he];rw[<-mQ]at bM ⊢;have gK:=aa bM;have Pt:=aa mQ;clear mQ;have Th:(eb != 0)=true:=by simpa using bM
  have cR:=ab cX.out;have zR:=fun o=>aE cX.out o
  have cE:=ab lQ.out 0;have zE:=aE lQ.out 0;simp at cE;clear he bM
  go_wp2_with fail
  obtain⟨q1,q2,q3,_⟩:=rW jb (by omega) cX.out rfl lQ.out (.int .i64 0) (.int .i64 0) (.int .i64 0) (.slice none 0 0) (.int .i64 0) (.slice none 0 0) (.int .i64 0) (.int .i64 0) (.slice none 0 0) (.slice none 0 0) eb;refine ie (oW _ (w.heap.size+1) _ _ _ _ _ _ _ _ _ _ _ eb rfl rfl q1 q2) ?_;rw[<-Pt.out];exact⟨_,rfl,fun e=>absurd e gK.out,fun _=>rfl,q3⟩
 rw[he,nF];obtain⟨ht,ha,fq,ro,pL⟩:=go hp;obtain⟨⟨htn1,htn5⟩,_,_,⟨wc,bU⟩,gg⟩:=eX ht;have n9:=aa fq;have di:=aa gg;clear fq gg;by_cases C8:4096<p.t.cases.length * (aI p).length
 ·have Pt:Hid (buildE p=17):=aa (by unfold buildE;rw[if_neg (by simpa using hp),if_pos C8])
  have WT:(4096:Int)<((p.t.cases.length * (aI p).length:Nat):Int):=by omega
  have cR:=ab cX.out;have zR:=fun o=>aE cX.out o
  have cE:=ab lQ.out 0;have zE:=aE lQ.out 0;simp at cE;generalize ((p.t.cases.length * (aI p).length:Nat):Int)=nI at WT;clear he nF C8 hp ht ha ro pL
  go_wp2_with fail
  obtain⟨q1,q2,q3,_⟩:=rW jb (by omega) cX.out rfl lQ.out (.int .i64 0) (.int .i64 0) (.int .i64 0) (.slice none 0 0) (.int .i64 0) (.slice none 0 0) (.int .i64 0) (.int .i64 0) (.slice none 0 0) (.slice none 0 0) 17;refine ie (oW _ (w.heap.size+1) _ _ _ _ _ _ _ _ _ _ _ 17 rfl rfl q1 q2) ?_;rw[Pt.out];exact⟨_,rfl,fun e=>absurd e (by decide),fun _=>rfl,q3⟩
 have CW:=aa (JP hp C8);have WT:¬ (4096:Int)<((p.t.cases.length * (aI p).length:Nat):Int):=by omega
 generalize hnI:((p.t.cases.length * (aI p).length:Nat):Int)=nI at WT;have tA:=ab dy.out;have HP:=aa hp;clear he nF
 go_wp2_with fail
 refine(NV p.a _ p.rounds w1 (GS.out.up up_moves jb) hN).mono ?_;rintro e w2 ⟨u,rfl,hu,hulo,aV⟩;rw[CW.out]at hu ⊢;dsimp only at hu ⊢;have rE:=ae jb aV;have KW:=aa hu;have HULO:=aa hulo;clear hulo;obtain⟨pw,cw,rfl,lw1,lw2,_⟩:=hu.at;clear hu tA;have tA:=ab (af aV dy.out)
 go_wp2_with fail
 refine(Dx p _ _ w2 (GC.out.up up_case rE) (GS.out.up up_moves rE) ht ha (Vf HP.out)).mono ?_;rintro e wd ⟨uc,us,rfl,CP,bA⟩;have HCP:=aa CP;obtain⟨WY,Wu⟩:=CP wd (fun _ _ _ h=>h);clear CP;have cj:=rE.size;have Cm:=bA.size;have VE:=ar dy.out;have R':=ae rE bA;have hzb2:=aV.size;have hltd:w.heap.size<wd.heap.size:=by omega
 have HUC:=aa WY;have HUS:=aa Wu;obtain⟨pu,cu,rfl,_⟩:=WY.at;obtain⟨pv,cv,rfl,_⟩:=Wu.at;have Xx:=aa (af (ae aV bA) dy.out);have HRd:=aa (af (ae aV bA) cX.out);have HEd:=aa (af (ae aV bA) lQ.out);have HUd:=aa (KW.out.up up_words bA);have HCd:=aa (GC.out.up up_case R');have CT:=fun w=>F' Tryz.prog 232 w
 clear WY Wu tA;have tA:=ab Xx.out;have tA4:∀ o1 o2 o3 o4 o,((((wd.alloc o1).alloc o2).alloc o3).alloc o4).cell? ⟨w.heap.size,o,none⟩=_:=fun o1 o2 o3 o4=>ab (am _ (am _ (am _ (am _ Xx.out))))
 go_wp2_with fail
 refine aL (fun W=>BInv p (.slice pu p.t.cases.length cu) (.slice pv p.a.states.length cv) wd wd.heap.size (wd.heap.size+1+1+1) (wd.heap.size+1+1) (wd.heap.size+1) [] [] W) ?_ (fun W4 hI4=>?_)
 ·refine⟨by go_grown,Nat.le_refl _,LN _ _ _ _ _,⟨_,[],am _ (am _ (am _ (ak _ _))),aD.nil _ _ _ _,fun i hi=>by simp at hi⟩,⟨by omega,_,?_,by omega,aD.nil _ _ _ _,#[],0,am _ (am _ (ba _ _ _)),rfl⟩⟩
  rw[Int.toNat_of_nonneg (by omega)];exact am _ (dH _ _ _ _)
 refine(Dy p _ _ _ _ _ _ _ _ _ W4).mono ?_;rintro e w5 ⟨rfl,rfl⟩;have HI4:=aa hI4;have O8:=hI4.old.size;have hzb:=ar hI4.bx;clear hI4 tA tA4 CT
 go_wp2_with fail
 refine bj (fun W=>BInv p (.slice pu p.t.cases.length cu) (.slice pv p.a.states.length cv) wd wd.heap.size (wd.heap.size+1+1+1) (wd.heap.size+1+1) (wd.heap.size+1) [] [] W/\W.heap[W4.heap.size]?=some (.cells #[.int .i64 p.t.n,.int .i64 p.t.ins,.int .i64 p.t.outs,.slice pc p.t.cases.length cc,.int .i64 p.a.n,.slice ps p.a.states.length cs,.int .i64 p.rounds] 29)/\W.heap[W4.heap.size+1]?=some (.cells #[.slice pw (aI p).length cw] 221)/\W4.heap.size+1<W.heap.size) ⟨HI4.out.up (by go_grown),am _ (ak _ _),ba _ _ _,by simp⟩ (fun W5 hW5=>?_);obtain⟨S1,II,VW,hz5⟩:=hW5;obtain⟨ws,hwsl,aw,capw,ew,eB⟩:=Uu HUd.out;cases ew
 have da:=BT wd p.t.cases.length (aI p).length pw cw ws (by have:=Nat.mul_le_mul_right (aI p).length wc;omega) (by omega) (fun j hj=>by
  obtain⟨b,o,h1,h2,h3⟩:=eB j hj;obtain⟨a',c',e',_⟩:=h3.at
  exact⟨b,o,h1,fj h2,h2,a',_,c',e'⟩) ⟨lw1,by obtain⟨a9,c9,e9,⟨_,h9,_⟩,_⟩:=HUd.out;cases e9;exact h9⟩ W5 S1.old W4.heap.size (W4.heap.size+1) _ _ _ _ _ _ _ _ II VW
 have Gh:=aa eB;have Gc:=aa C8
 have Wj:Hid (∀ ad,pw=some ad->w1.heap.size<=ad.block/\ad.block<wd.heap.size):=aa (fun ad e=>by
  subst e;refine⟨HULO.out ad _ _ rfl,?_⟩
  have hWl:0<(aI p).length:=by
   have h9:=Ey (hH ha).2.1 (by have:=(hH ha).1;omega) p.rounds.toNat 0 (by have:=(hH ha).1;omega);exact h9
  obtain⟨b,o,h1,h2,_⟩:=eB 0 hWl;cases h1
  exact fj h2)
 have hzI:=S1.old.size;clear eB C8
 refine mg (gf:=199) (lb:=#[.pointer (some ⟨W4.heap.size,0,none⟩),.pointer (some ⟨W4.heap.size+1,0,none⟩)]) rfl (enters_of Tryz.func199 (by kernel_rfl) rfl) da (Below.refl _ _) (fun k hk=>by
   rcases hk with hk|⟨ad,e1,rfl⟩
   ·omega
   ·have:=Wj.out ad e1;omega) (fun i=>rfl)
  (fun i W=>BInv p (.slice pu p.t.cases.length cu) (.slice pv p.a.states.length cv) wd wd.heap.size (wd.heap.size+1+1+1) (wd.heap.size+1+1) (wd.heap.size+1) (stP p i).1 (stP p i).2 W/\W.heap[W4.heap.size+1]?=some (.cells #[.slice pw (aI p).length cw] 221)/\(stP p i).1.length<=8192)
  (fun c _ W=>c=.ret/\buildE p=17/\Below w.heap.size w W/\W.heap[w.heap.size+1]?=some (.cells zeroSys 35)/\W.heap[w.heap.size+1+1]?=some (.cells #[.int .i64 17] 39))
  (fun i=>(BInv.sta (by omega) (by omega)).and (cI.cells.and cI.pure)) (fun c i=>cI.pure.and (cI.pure.and ((cI.below (by omega)).and (cI.cells.and cI.cells)))) ⟨S1,VW,by simp[stP,execsS]⟩ ?round ?done ?stop
 case stop=>
  rintro D c i W hD hi ⟨rfl,lP,hb,q1,q2⟩ hK;have h1:(W.putObj D (.deferred none)).heap[w.heap.size+1]?=_:=(World.putObj_heap_other (by omega)).trans q1;have h2:(W.putObj D (.deferred none)).heap[w.heap.size+1+1]?=_:=(World.putObj_heap_other (by omega)).trans q2
  go_wp2_with fail
  refine io hK (oW _ (w.heap.size+1) _ _ _ _ _ _ _ _ _ _ _ 17 (by rfl) (by rfl) h1 h2) ?_;rw[lP];exact⟨_,rfl,fun e=>absurd e (by decide),fun _=>rfl,eE (by omega) hb⟩
 case done=>
  intro D W hD hI hK;obtain⟨aS,Tg,yu⟩:=hI
  have aP:stP p (p.t.cases.length * (aI p).length)=execsS p (aI p) (fo p):=by
   unfold stP;rw[List.take_of_length_le (by rw[jl];exact Nat.le_refl _)]
  have Gb:=A1 HP.out (fun c hc=>(vS GC.out c hc).1) (fun x hx=>vM p.a (rS GS.out) _ _ x hx) (by rw[<-aP];exact yu) _ (Nat.le_refl _);have Gi:=rV p (aI p) (fo p) ([],[]);have TP:=jl p
  have Pt:Hid (buildE p=0):=aa (by
   unfold buildE;have h3:(aM p).tab=(execsS p (aI p) (fo p)).1:=rfl
   rw[if_neg (by simpa using HP.out),if_neg Gc.out,if_neg (by rw[h3,<-aP];omega)])
  have fL:Hid (aM p=⟨p,p.t.n,(execsS p (aI p) (fo p)).1,(execsS p (aI p) (fo p)).2⟩):=aa rfl;change (execsS p (aI p) (fo p)).2.length=_ at Gi;rw[aP]at Gb aS yu;generalize execsS p (aI p) (fo p)=st at Gb aS yu fL Gi;have zB:=aa Gb;have hlx:st.2.length<=4096:=by have:=Gc.out;simp at Gi;omega
  clear aP Gb Gi TP;obtain⟨ve,xs,fP,iL,mM⟩:=aS.s;obtain⟨vs9,b1',b2',b3',b4'⟩:=aS.bld.ex;obtain⟨av,cve,rfl⟩:=iL.slice;obtain⟨a7,c7,rfl⟩:=b3'.slice;have qd:=aa aS;have vf:=aa fP;have pJ:=aa iL;have Az:=aa mM;have rk:=aa b3';rw[Int.toNat_of_nonneg (by omega)]at b1';have tb:=ab b1';have tx:=ab aS.bx 0;have ts7:=ab (show W.drew.heap[wd.heap.size]?=_ from fP) 7;have ts8:=ab (show W.drew.heap[wd.heap.size]?=_ from fP) 8;have zs7:=aE (show W.drew.heap[wd.heap.size]?=_ from fP) 7;have zs8:=aE (show W.drew.heap[wd.heap.size]?=_ from fP) 8;simp at tx ts7 ts8;have VE:=aS.old.size;clear aS fP iL mM b1' b2' b3' b4' da S1 Tg II VW
  go_wp2_with fail
  go_still_tail 9,(by kernel_rfl)
  change wpList _ _ _ _ _ W.drew;clear tb tx;have hQ:=aF (aF (show W.drew.heap[wd.heap.size]?=_ from vf.out) 7 (.int .i64 p.t.n)) 8 (.slice a7 st.1.length c7)
  have hI:BEnd p w wd (.slice pu p.t.cases.length cu) (.slice pv p.a.states.length cv) (.slice a7 st.1.length c7) (.slice av st.2.length cve) xs st D ((W.drew.setCell ⟨wd.heap.size,7,none⟩ (.int .i64 p.t.n)).setCell ⟨wd.heap.size,8,none⟩ (.slice a7 st.1.length c7)):=by
   have hwd1:(W.drew.setCell ⟨wd.heap.size,7,none⟩ (.int .i64 p.t.n)).heap[wd.heap.size]?=_:=aF (show W.drew.heap[wd.heap.size]?=_ from vf.out) 7 (.int .i64 p.t.n);have kt:KeepT [35] [] wd.heap.size W ((W.drew.setCell ⟨wd.heap.size,7,none⟩ (.int .i64 p.t.n)).setCell ⟨wd.heap.size,8,none⟩ (.slice a7 st.1.length c7)):=((KeepT.refl _ _ _).drew.set (show W.drew.heap[wd.heap.size]?=_ from vf.out) (by simp) (Nat.le_refl _) _).set hwd1 (by simp) (Nat.le_refl _) _;have dq:=KeepT.below9 qd.out.old (KeepT.refl (ms:=[]) [] _ W) kt;refine⟨dq,af dq HRd.out,af dq HEd.out,hQ,kt.own rk.out (by decide),kt.own pJ.out (by decide),fun i hi=>?_,kt.oth _ _ hK rfl (by simp)⟩;obtain⟨a,d,p1,p2,p3,p4,p5⟩:=Az.out i hi;exact⟨a,d,p1,p2,p3,kt.own p4 (by decide),kt.fresh p5 (by decide) (by decide)⟩
  have lz:BEnd p w wd (.slice pu p.t.cases.length cu) (.slice pv p.a.states.length cv) (.slice a7 st.1.length c7) (.slice av st.2.length cve) xs st D (((W.setCell ⟨wd.heap.size,7,none⟩ (.int .i64 p.t.n)).setCell ⟨wd.heap.size,8,none⟩ (.slice a7 st.1.length c7))).drew:=hI;have jM:=aa lz;have fP:(((W.setCell ⟨wd.heap.size,7,none⟩ (.int .i64 p.t.n)).setCell ⟨wd.heap.size,8,none⟩ (.slice a7 st.1.length c7))).heap[wd.heap.size]?=_:=lz.s;have iL:(((W.setCell ⟨wd.heap.size,7,none⟩ (.int .i64 p.t.n)).setCell ⟨wd.heap.size,8,none⟩ (.slice a7 st.1.length c7))).heap[w.heap.size+1]?=_:=lz.r2;have mM:(((W.setCell ⟨wd.heap.size,7,none⟩ (.int .i64 p.t.n)).setCell ⟨wd.heap.size,8,none⟩ (.slice a7 st.1.length c7))).heap[w.heap.size+1+1]?=_:=lz.r3;have tQ:=ab fP;have cR:=ab iL;have zR:=fun o=>aE iL o
  have cE:=ab mM;have zE:=fun o=>aE mM o
  have tQd:=ab lz.s;have cRd:=ab lz.r2;have zRd:=fun o=>aE lz.r2 o
  have cEd:=ab lz.r3;have zEd:=fun o=>aE lz.r3 o
  have WJ:(W.setCell ⟨wd.heap.size,7,none⟩ (.int .i64 p.t.n)).heap[wd.heap.size]?=_:=aF vf.out 7 _;have zs8a:=aE WJ 8;have zs8b:=aE (show (W.setCell ⟨wd.heap.size,7,none⟩ (.int .i64 p.t.n)).drew.heap[wd.heap.size]?=_ from WJ) 8;have Le:BEnd p w wd (.slice pu p.t.cases.length cu) (.slice pv p.a.states.length cv) (.slice a7 st.1.length c7) (.slice av st.2.length cve) xs st D ((W.setCell ⟨wd.heap.size,7,none⟩ (.int .i64 p.t.n)).setCell ⟨wd.heap.size,8,none⟩ (.slice a7 st.1.length c7)):=⟨⟨lz.old.os,lz.old.tape,lz.old.output,lz.old.size,lz.old.block⟩,lz.r2,lz.r3,lz.s,lz.tab,lz.ex,lz.els,lz.d⟩;have iW:=aa (And.intro (ae R' Le.old) (And.intro Le.r2 (And.intro Le.r3 (And.intro Le.d Le))));clear hQ hI lz Le fP iL mM WJ
  go_wp2_with fail
  refine Ok (X:=((W.setCell ⟨wd.heap.size,7,none⟩ (.int .i64 p.t.n)).setCell ⟨wd.heap.size,8,none⟩ (.slice a7 st.1.length c7))) iW.out.1 iW.out.2.1 iW.out.2.2.1 iW.out.2.2.2.1 (by omega) _ _ _ _ _ _ _ _ _ _ rfl rfl (fun Wf CE hff=>?_);rw[Pt.out,fL.out];exact⟨_,rfl,fun _=>⟨_,_,_,_,rfl,Uy iW.out.2.2.2.2 HCP.out (by omega) (by omega) zB.out yu hlx hff⟩,fun e=>absurd rfl e,CE⟩
 case round=>
  intro yl i W hi hl hI;obtain⟨aS,Tg,yu⟩:=hI;have dT:=vT p i hi;have HOVER:=aa (LM HP.out Gc.out (i+1))
  have lS:0<(aI p).length:=by
   rcases Nat.eq_zero_or_pos (aI p).length with h|h
   ·rw[h]at hi;simp at hi
   ·exact h
  have hc:i / (aI p).length<p.t.cases.length:=by rw[Nat.div_lt_iff_lt_mul lS];exact hi
  have hj:i % (aI p).length<(aI p).length:=Nat.mod_lt _ lS;obtain⟨_,_,TU,_,Cp⟩:=Gh.out _ hj;clear TU;unfold QH
  have hwl6:((aI p)[i % (aI p).length]).length<=6:=by
   have:=jR p.a p.rounds.toNat 0 _ (List.getElem_mem (l:=aI p) hj);omega
  obtain⟨pc',cc',ec',_,_,ecc⟩:=HCd.out.at;cases ec';obtain⟨b1,o1,ec1,⟨vi,dvi,uN⟩,_,_⟩:=ecc _ hc
  have gN:p.t.n.toNat<=(p.t.cases[i / (aI p).length]).inp.length:=by
   have:=(di.out _ (List.getElem_mem hc)).inp;omega
  unfold jS at dT;dsimp only at dT;rw[ap default hc,ap [] hj]at dT;generalize p.t.cases[i / (aI p).length]=cs0 at uN gN dT;generalize (aI p)[i % (aI p).length]=word at Cp hwl6 dT;generalize ws.getD (i % (aI p).length) undef=wv at Cp ⊢;generalize i / (aI p).length=ci at hc dvi dT ⊢
  have IX:(stP p i).2.length<=4096:=by
   have h9:=rV p (aI p) ((fo p).take i) ([],[]);have h8:=jl p;have h7:=Gc.out;change (stP p i).2.length=_ at h9;simp at h9;omega
  generalize stP p i=st at aS yu dT IX;have fE:=aa dT;have iA:=aa Cp;have Ip:=aa uN;obtain⟨pwv,cwv,rfl,_⟩:=Cp.at;obtain⟨pvi,cvi,rfl,_⟩:=uN.at;subst ec1;clear dT Cp uN ecc;dsimp only
  gi_wp2
  refine⟨Bod.refl _ _ _,(fun X=>BInv p (.slice pu p.t.cases.length cu) (.slice pv p.a.states.length cv) wd wd.heap.size (wd.heap.size+1+1+1) (wd.heap.size+1+1) (wd.heap.size+1) st.1 st.2 X/\X.heap[W4.heap.size+1]?=some (.cells #[.slice pw (aI p).length cw] 221)),(BInv.sta (by omega) (by omega)).and cI.cells,⟨aS,Tg⟩,fun V hV _=>?_⟩;obtain⟨oZ,xg⟩:=hV;clear aS Tg;obtain⟨ve,xs,fP,iL,mM⟩:=oZ.s;obtain⟨av,cve,rfl⟩:=iL.slice;have qd:=aa oZ;have vf:=aa fP;have pJ:=aa iL;have Az:=aa mM;have cD:=aa xg;have hzV:=oZ.old.size;clear oZ fP iL mM xg;obtain⟨i0,cG,iV,jm,iD⟩:=info_parts Tryz.infoExec
  gi_wp2
  refine xm 17 [49,50,51,52,53,54,55,56,57,58,59,60,61,62,63,64,65] [some (.pointer (some ⟨wd.heap.size,9,none⟩)),
   some (.slice av st.2.length cve),
   some (.int .i64 (ci:Int)),
   some (.slice pwv word.length cwv),
   none,
   some (.pointer (some ⟨wd.heap.size+1+1,0,none⟩)),
   some (.pointer (some ⟨w.heap.size,0,none⟩)),
   some (.pointer (some ⟨w.heap.size,3,none⟩)),
   some (.slice (some ⟨b1,o1,none⟩) p.t.cases.length cc),
   some (.int .i64 (ci:Int)),
   some (.pointer (some ⟨b1,o1+ci * 3,none⟩)),
   some (.pointer (some ⟨b1,o1+ci * 3,none⟩)),
   some (.slice pvi cs0.inp.length cvi),
   some (.slice pwv word.length cwv),
   none,
   none,
   none] (BCore wd.heap.size (wd.heap.size+1+1) (wd.heap.size+1) p.t.n.toNat st.1 (gi p.t.n.toNat cs0.inp word st.1).1 ci word (gi p.t.n.toNat cs0.inp word st.1).2 V) (by kernel_rfl) rfl (by decide) rfl (by kernel_rfl) (by kernel_rfl) (by kernel_rfl) (fun ⟨_,_,h⟩=>h) (by kernel_rfl) (fun _=>⟨hzV,(KeepT.refl _ _ _).drew,qd.out.bld.up (Below.refl _ _).drew,nofun,nofun,nofun,nofun⟩) ?step ?tail
  case step=>
   intro x W D i o s F hi ho hs hD cL bU aj hv aK hF;have fy:i=0\/i=1\/i=2\/i=3\/i=4\/i=5\/i=6\/i=7\/i=8\/i=9\/i=10\/i=11\/i=12\/i=13\/i=14\/i=15\/i=16:=by omega
   rcases fy with rfl|rfl|rfl|rfl|rfl|rfl|rfl|rfl|rfl|rfl|rfl|rfl|rfl|rfl|rfl|rfl|rfl
   all_goals (have dA:=cL _ _ hs hD;obtain rfl:=cU ho.symm;obtain rfl:=cU hs.symm)
   ·clear aj hi hv
    have e7:F.getD 7 undef=.pointer (some ⟨wd.heap.size,0,none⟩):=ln hF (by decide) rfl;clear cL bU;clear hF dA;have e7':=dx e7;have HD:=aa hD;have bh:=aa aK;clear hD aK
    go_wp2_with fail
    refine bR.mk _ fI ?_ rfl;exact bh.out.other _ (by decide) (by decide) (by decide) (by decide)
   ·have g0:=aj ⟨0,.data⟩ (by simp) rfl
    have d0:=hv 0 _ (by omega) g0 rfl;clear aj hi hv;have e49:=fg hF 0 49 (by decide) rfl (by kernel_rfl) d0;clear cL bU;clear hF dA d0;have t1:=ab (aK.keep.keep _ _ _ _ vf.out (by decide)) 9;simp at t1;have e49':=dx e49;have HD:=aa hD;have bh:=aa aK;clear hD aK;clear g0
    go_wp2_with fail
    refine bR.mk _ fI ?_ rfl;exact bh.out.other _ (by decide) (by decide) (by decide) (by decide)
   ·clear aj hi hv
    have e9:F.getD 9 undef=.int .i64 (ci:Int):=ln hF (by decide) rfl;clear cL bU;clear hF dA;have e9':=dx e9;have HD:=aa hD;have bh:=aa aK;clear hD aK
    go_wp2_with fail
    refine bR.mk _ fI ?_ rfl;exact bh.out.other _ (by decide) (by decide) (by decide) (by decide)
   ·clear aj hi hv
    have e10:F.getD 10 undef=.slice pwv word.length cwv:=ln hF (by decide) rfl;clear cL bU;clear hF dA;have e10':=dx e10;have HD:=aa hD;have bh:=aa aK;clear hD aK
    go_wp2_with fail
    refine bR.mk _ fI ?_ rfl;exact bh.out.other _ (by decide) (by decide) (by decide) (by decide)
   ·have g3:=aj ⟨3,.data⟩ (by simp) rfl
    have d3:=hv 3 _ (by omega) g3 rfl;clear aj hi hv;have e52:=fg hF 3 52 (by decide) rfl (by kernel_rfl) d3;clear cL bU;clear hF dA d3;have dq:=KeepT.below9 qd.out.old (KeepT.refl (ms:=[]) [] _ V) aK.keep;have eP:=aa dq;clear dq;have e52':=dx e52;have HD:=aa hD;have bh:=aa aK;clear hD aK;clear g3
    go_wp2_with fail
    refine(uq _ word W (iA.out.up up_round eP.out) (by omega)).mono ?_;rintro e w9 ⟨u9,rfl,jp,eN⟩;have mL:=aa (jp.base (base':=wd.heap.size) eP.out.size);have eO:=aa eN;clear jp eN
    go_wp2_with fail
    refine bR.mk _ (fun c hc=>by cases hc) ?_ rfl;exact bh.out.clone HD.out eO.out mL.out
   ·clear aj hi hv
    have e8:F.getD 8 undef=.pointer (some ⟨wd.heap.size+1+1+1,0,none⟩):=ln hF (by decide) rfl;clear cL bU;clear hF dA;have t1:=ab (aK.keep.keep _ _ _ _ qd.out.bx (by decide)) 0;simp at t1;have e8':=dx e8;have HD:=aa hD;have bh:=aa aK;clear hD aK
    go_wp2_with fail
    refine bR.mk _ fI ?_ rfl;exact bh.out.other _ (by decide) (by decide) (by decide) (by decide)
   ·clear aj hi hv
    have e1:F.getD 1 undef=.pointer (some ⟨w.heap.size,0,none⟩):=ln hF (by decide) rfl;clear cL bU;clear hF dA;have e1':=dx e1;have HD:=aa hD;have bh:=aa aK;clear hD aK
    go_wp2_with fail
    refine bR.mk _ fI ?_ rfl;exact bh.out.other _ (by decide) (by decide) (by decide) (by decide)
   ·have g6:=aj ⟨6,.data⟩ (by simp) rfl
    have d6:=hv 6 _ (by omega) g6 rfl;clear aj hi hv;have e55:=fg hF 6 55 (by decide) rfl (by kernel_rfl) d6;clear cL bU;clear hF dA d6;have e55':=dx e55;have HD:=aa hD;have bh:=aa aK;clear hD aK;clear g6
    go_wp2_with fail
    refine bR.mk _ fI ?_ rfl;exact bh.out.other _ (by decide) (by decide) (by decide) (by decide)
   ·have g7:=aj ⟨7,.data⟩ (by simp) rfl
    have d7:=hv 7 _ (by omega) g7 rfl;clear aj hi hv;have e56:=fg hF 7 56 (by decide) rfl (by kernel_rfl) d7;clear cL bU;clear hF dA d7;have dq:=KeepT.below9 qd.out.old (KeepT.refl (ms:=[]) [] _ V) aK.keep;have t1:=ab (af dq Xx.out) 3;simp at t1;clear dq;have e56':=dx e56;have HD:=aa hD;have bh:=aa aK;clear hD aK;clear g7
    go_wp2_with fail
    refine bR.mk _ fI ?_ rfl;exact bh.out.other _ (by decide) (by decide) (by decide) (by decide)
   ·clear aj hi hv
    have e9:F.getD 9 undef=.int .i64 (ci:Int):=ln hF (by decide) rfl;clear cL bU;clear hF dA;have e9':=dx e9;have HD:=aa hD;have bh:=aa aK;clear hD aK
    go_wp2_with fail
    refine bR.mk _ fI ?_ rfl;exact bh.out.other _ (by decide) (by decide) (by decide) (by decide)
   ·have g8:=aj ⟨8,.data⟩ (by simp) rfl
    have d8:=hv 8 _ (by omega) g8 rfl;have g9:=aj ⟨9,.data⟩ (by simp) rfl;have d9:=hv 9 _ (by omega) g9 rfl;clear aj hi hv;have e57:=fg hF 8 57 (by decide) rfl (by kernel_rfl) d8;have e58:=fg hF 9 58 (by decide) rfl (by kernel_rfl) d9;clear cL bU;clear hF dA d8 d9;have e57':=dx e57;have e58':=dx e58;have HD:=aa hD;have bh:=aa aK;clear hD aK;clear g8;clear g9
    go_wp2_with fail
    refine bR.mk _ fI ?_ rfl;exact bh.out.other _ (by decide) (by decide) (by decide) (by decide)
   ·have g10:=aj ⟨10,.data⟩ (by simp) rfl
    have d10:=hv 10 _ (by omega) g10 rfl;clear aj hi hv;have e59:=fg hF 10 59 (by decide) rfl (by kernel_rfl) d10;clear cL bU;clear hF dA d10;have e59':=dx e59;have HD:=aa hD;have bh:=aa aK;clear hD aK;clear g10
    go_wp2_with fail
    refine bR.mk _ fI ?_ rfl;exact bh.out.other _ (by decide) (by decide) (by decide) (by decide)
   ·have g11:=aj ⟨11,.data⟩ (by simp) rfl
    have d11:=hv 11 _ (by omega) g11 rfl;clear aj hi hv;have e60:=fg hF 11 60 (by decide) rfl (by kernel_rfl) d11;clear cL bU;clear hF dA d11;have dq:=KeepT.below9 qd.out.old (KeepT.refl (ms:=[]) [] _ V) aK.keep;have t1:=ai dq dvi;clear dq;have e60':=dx e60;have HD:=aa hD;have bh:=aa aK;clear hD aK;clear g11
    go_wp2_with fail
    refine bR.mk _ fI ?_ rfl;exact bh.out.other _ (by decide) (by decide) (by decide) (by decide)
   ·clear aj hi hv
    have e10:F.getD 10 undef=.slice pwv word.length cwv:=ln hF (by decide) rfl;clear cL bU;clear hF dA;have e10':=dx e10;have HD:=aa hD;have bh:=aa aK;clear hD aK
    go_wp2_with fail
    refine bR.mk _ fI ?_ rfl;exact bh.out.other _ (by decide) (by decide) (by decide) (by decide)
   ·have g5:=aj ⟨5,.data⟩ (by simp) rfl
    have d5:=hv 5 _ (by omega) g5 rfl;have g12:=aj ⟨12,.data⟩ (by simp) rfl;have d12:=hv 12 _ (by omega) g12 rfl;have g13:=aj ⟨13,.data⟩ (by simp) rfl;have d13:=hv 13 _ (by omega) g13 rfl;clear aj hi hv;have e54:=fg hF 5 54 (by decide) rfl (by kernel_rfl) d5;have e61:=fg hF 12 61 (by decide) rfl (by kernel_rfl) d12;have e62:=fg hF 13 62 (by decide) rfl (by kernel_rfl) d13;clear cL bU;clear hF dA d5 d12 d13;have dq:=KeepT.below9 qd.out.old (KeepT.refl (ms:=[]) [] _ V) aK.keep;have eP:=aa dq;clear dq;have kl:=aK.bld;rw[hD]at kl;have C6:=aa (show BldIs wd.heap.size (wd.heap.size+1+1) (wd.heap.size+1) p.t.n.toNat st.1 W from kl);clear kl;have e54':=dx e54;have e61':=dx e61;have e62':=dx e62;have HD:=aa hD;have bh:=aa aK;clear hD aK;clear g5;clear g12;clear g13
    go_wp2_with fail
    refine(NW wd (wd.heap.size+1+1) (wd.heap.size+1) p.t.n.toNat (by omega) st.1 _ _ cs0.inp word W eP.out Ip.out iA.out gN hwl6 (by omega) C6.out).mono ?_;rintro e w9 ⟨u9,rfl,hf9,eN,yD⟩;have HF9:=aa (bW.lower9 hf9 eP.out.size);have eO:=aa eN;have pS:=aa yD;clear hf9 eN yD
    go_wp2_with fail
    refine bR.mk _ (fun c hc=>by cases hc) ?_ rfl;exact bh.out.play HD.out pS.out eO.out HF9.out
   ·have g2:=aj ⟨2,.data⟩ (by simp) rfl
    have d2:=hv 2 _ (by omega) g2 rfl;have g4:=aj ⟨4,.data⟩ (by simp) rfl;have g14:=aj ⟨14,.data⟩ (by simp) rfl;clear aj hi hv;have e51:=fg hF 2 51 (by decide) rfl (by kernel_rfl) d2;have e53:=fg hF 4 53 (by decide) rfl (by kernel_rfl) rfl;have e63:=fg hF 14 63 (by decide) rfl (by kernel_rfl) rfl;clear cL bU;clear hF dA d2;obtain⟨a4,c4,q4⟩:=(aK.x4 g4).slice;obtain⟨a14,c14,q14⟩:=(aK.x14 g14).slice;rw[q4]at e53;rw[q14]at e63;have HG:=aa (And.intro g4 (And.intro g14 (And.intro q4 q14)));clear q4 q14;have e51':=dx e51;have e53':=dx e53;have e63':=dx e63;have HD:=aa hD;have bh:=aa aK;clear hD aK;clear g2;clear g4;clear g14
    go_wp2_with fail
    refine bR.mk _ (fun c hc=>by cases hc) ?_ rfl;exact bh.out.made HG.out.1 HG.out.2.1 (by rw[HG.out.2.2.1,HG.out.2.2.2])
   ·have g15:=aj ⟨15,.data⟩ (by simp) rfl
    clear aj hi hv;have e64:=fg hF 15 64 (by decide) rfl (by kernel_rfl) rfl;clear cL bU;clear hF dA;obtain⟨g4,g14,q15⟩:=aK.x15 g15;obtain⟨a4,c4,q4⟩:=(aK.x4 g4).slice;obtain⟨a14,c14,q14⟩:=(aK.x14 g14).slice;rw[q15,q4,q14]at e64;have HG:=aa (And.intro g4 (And.intro g14 (And.intro q4 q14)));clear q4 q14 q15 g4 g14;have e64':=dx e64;have HD:=aa hD;have bh:=aa aK;clear hD aK;clear g15
    go_wp2_with fail
    refine bR.mk _ (fun c hc=>by cases hc) ?_ rfl;exact bh.out.row HG.out.1 HG.out.2.1 HG.out.2.2.1 HG.out.2.2.2
  case tail=>
   intro x W' D F aP hv aK hF;have x0:=hv 0 _ (by omega) rfl;have x1:=hv 1 _ (by omega) rfl;have x2:=hv 2 _ (by omega) rfl;have x3:=hv 3 _ (by omega) rfl;have x5:=hv 5 _ (by omega) rfl;have x6:=hv 6 _ (by omega) rfl;have x7:=hv 7 _ (by omega) rfl;have x8:=hv 8 _ (by omega) rfl;have x9:=hv 9 _ (by omega) rfl;have x10:=hv 10 _ (by omega) rfl;have x11:=hv 11 _ (by omega) rfl;have x12:=hv 12 _ (by omega) rfl;have x13:=hv 13 _ (by omega) rfl;obtain⟨g4,g14,gb,q16,mQ⟩:=aK.x16 (aP 16 (by omega));have Cw:=aK.x4 g4;have MT:=aK.x14 g14;have kl:=aK.bld;rw[g14]at kl;obtain⟨a4,c4,q4⟩:=Cw.slice;obtain⟨a14,c14,q14⟩:=MT.slice;rw[q4]at Cw;rw[q14]at MT;rw[q4,q14]at mQ;simp only[bd,cJ,List.setIfInBounds_toArray,List.set_cons_succ,List.set_cons_zero,Nat.reduceAdd,x0,x1,x2,x3,x5,x6,x7,x8,x9,x10,x11,x12,x13,q4,q14,q16]at hF;generalize x 15=y15 at hF;subst hF;have pS:=aa aK.keep;have C6:=aa (show BldIs wd.heap.size (wd.heap.size+1+1) (wd.heap.size+1) p.t.n.toNat (gi p.t.n.toNat cs0.inp word st.1).1 W' from kl);have P0:=aa Cw;have HF14:=aa MT;have HGB:=aa mQ;have HS9:=aa (pS.out.keep _ _ _ _ vf.out (by decide));have yG:=aa (pS.out.own pJ.out (by decide));clear hv aP aK Cw MT kl mQ g4 g14 q4 q14 q16 x0 x1 x2 x3 x5 x6 x7 x8 x9 x10 x11 x12 x13;simp only[List.drop_succ_cons,List.drop_zero];have hzW':=pS.out.old.size
   have bN:∀ j u',[Value.int .i64 (ci:Int),Value.slice a4 word.length c4,Value.slice a14 (gi p.t.n.toNat cs0.inp word st.1).2.length c14][j]?=some u'->W'.cell? (Addr.add ⟨gb,0,none⟩ j)=some u':=fun j u' hj=>by
    have e1:(Addr.add ⟨gb,0,none⟩ j)=⟨gb,j,none⟩:=by unfold Addr.add;split<;>simp_all
    rw[e1,ab HGB.out];simpa using hj
   have bB:=aa bN;clear bN;refine aZ W' rfl (.tmp 50) (.tmp 65) 33 rfl wd.heap.size 89 i0 _ 3 56 Tryz.underlying33 cG iV jm iD rfl (by decide) _ st.2.length xs rfl yG.out ⟨gb,0,none⟩ 1 1 [Value.int .i64 (ci:Int),Value.slice a4 word.length c4,Value.slice a14 (gi p.t.n.toNat cs0.inp word st.1).2.length c14] rfl rfl bB.out (by simp[Value.oneCell']) (by unfold maxLen;omega) (by omega) (by omega) ?_;intro v9 w9 eh dg _;have ry:=fX dg HS9.out (fun e=>yG.out.ne HS9.out (by decide) _ e rfl);have t9:=ab ry 9;have z9:=aE ry 9;simp at t9;obtain⟨a9,c9,rfl⟩:=eh.slice;have HOWN9:=aa eh;have IE:=aa dg;have MB:=aa ry;clear eh dg ry
   go_wp2_with fail
   refine QJ (fun X=>BInv p (.slice pu p.t.cases.length cu) (.slice pv p.a.states.length cv) wd wd.heap.size (wd.heap.size+1+1+1) (wd.heap.size+1+1) (wd.heap.size+1) (gi p.t.n.toNat cs0.inp word st.1).1 (st.2++[⟨ci,word,(gi p.t.n.toNat cs0.inp word st.1).2⟩]) X/\KeepT (bldT++[89,35]) [wd.heap.size+1] wd.heap.size V X) ?_ (fun X hX=>?_)
   ·have kk:KeepT [89,35] [] wd.heap.size W' (w9.setCell ⟨wd.heap.size,9,none⟩ (.slice a9 (st.2.length+1) c9)):=((KeepT.refl _ _ _).grown yG.out (by simp) (Nat.le_refl _) (by omega) IE.out).set MB.out (by simp) (Nat.le_refl _) _
    have kt:KeepT (bldT++[89,35]) [wd.heap.size+1] wd.heap.size V (w9.setCell ⟨wd.heap.size,9,none⟩ (.slice a9 (st.2.length+1) c9)):=(pS.out.mono (fun t h=>List.mem_append_left _ h) (fun _ h=>h)).trans (kk.mono (fun t h=>List.mem_append_right _ h) (by simp));have iw:xs.length=st.2.length * 3:=yG.out.1;refine⟨⟨KeepT.below9 qd.out.old (KeepT.refl (ms:=[]) [] _ V) kt,Nat.le_refl _,kt.keep _ _ _ _ qd.out.bx (by decide),⟨.slice a9 (st.2.length+1) c9,xs++[Value.int .i64 (ci:Int),Value.slice a4 word.length c4,Value.slice a14 (gi p.t.n.toNat cs0.inp word st.1).2.length c14],by rw[aF MB.out];rfl,by rw[List.length_append,List.length_singleton];exact HOWN9.out.put (fun g e=>HOWN9.out.ne MB.out (by decide) g e) _ _,fun i SY=>?_⟩,(C6.out.grown yG.out (by decide) IE.out).set MB.out (by decide) _⟩,kt⟩;rw[List.length_append,List.length_singleton]at SY;by_cases az:i<st.2.length
    ·rw[List.getElem_append_left az]
     obtain⟨a,d,p1,p2,p3,p4,p5⟩:=Az.out i az;exact⟨a,d,by rw[List.getElem?_append_left (by omega)];exact p1,by rw[List.getElem?_append_left (by omega)];exact p2,by rw[List.getElem?_append_left (by omega)];exact p3,kk.own (pS.out.own p4 (by decide)) (by decide),kk.fresh (pS.out.fresh p5 (by decide) (by decide)) (by decide) (by decide)⟩
    ·obtain rfl:i=st.2.length:=by omega
     have e9:(st.2++[(⟨ci,word,(gi p.t.n.toNat cs0.inp word st.1).2⟩:Ex)])[st.2.length]'(by simp)=⟨ci,word,(gi p.t.n.toNat cs0.inp word st.1).2⟩:=by simp
     rw[e9];refine⟨.slice a4 word.length c4,.slice a14 (gi p.t.n.toNat cs0.inp word st.1).2.length c14,?_,?_,?_,kk.own P0.out (by decide),kk.fresh HF14.out (by decide) (by decide)⟩
     ·rw[List.getElem?_append_right (by omega),iw,Nat.sub_self];rfl
     ·rw[List.getElem?_append_right (by omega),iw,Nat.add_sub_cancel_left];rfl
     ·rw[List.getElem?_append_right (by omega),iw,Nat.add_sub_cancel_left];rfl
   obtain⟨Gd,hkX⟩:=hX;have pR:=aa Gd;have mH:=aa hkX;obtain⟨vs9,b1',b2',b3',b4'⟩:=Gd.bld.ex;obtain⟨a7,c7,rfl⟩:=b3'.slice;have tb:=ab b1' 1;have tx:=ab Gd.bx 0;simp at tb tx;clear Gd hkX b1' b2' b3' b4' t9 z9;have FD:=pR.out.old;have PR:=af FD HRd.out;have Pg:=af FD HEd.out;by_cases IG:8192<(gi p.t.n.toNat cs0.inp word st.1).1.length
   ·have hovI:(8192:Int)<((gi p.t.n.toNat cs0.inp word st.1).1.length:Int):=by omega
    have cR:=ab PR;have zR:=fun o=>aE PR o
    have cE:=ab Pg 0;have zE:=aE Pg 0;simp at cE;have Pk:Hid (buildE p=17):=aa (HOVER.out (by rw[fE.out];exact IG));have HRX:=aa PR;have FG:=aa Pg;have bZ:=aa FD;clear PR Pg FD IG
    gi_wp2
    obtain⟨q1,q2,q3,q4⟩:=rW (ae R' bZ.out) (by omega) HRX.out rfl FG.out (.int .i64 0) (.int .i64 0) (.int .i64 0) (.slice none 0 0) (.int .i64 0) (.slice none 0 0) (.int .i64 0) (.int .i64 0) (.slice none 0 0) (.slice none 0 0) 17;refine⟨⟨?_,fun k hk=>?_,fun k o hB ho hc=>?_⟩,rfl,Pk.out,q3,q1,q2⟩
    ·have:=mH.out.old.size
     simpa using this
    ·rcases hk with rfl|⟨ad,e1,rfl⟩
     ·exact(q4 _ (by omega) (by omega)).trans ((mH.out.keep _ _ _ _ cD.out (by decide)).trans cD.out.symm)
     ·have h9:=Wj.out ad e1
      exact(q4 _ (by omega) (by omega)).trans (mH.out.old.block _ h9.2)
    ·exact(q4 _ (by omega) (by omega)).trans (mH.out.oth k o ho hc (by simp;omega))
   ·have hovI:¬ (8192:Int)<((gi p.t.n.toNat cs0.inp word st.1).1.length:Int):=by omega
    clear PR Pg FD
    gi_wp2
    refine⟨⟨mH.out.old.size,fun k hk=>?_,fun k o hB ho hc=>mH.out.oth k o ho hc (by simp;omega)⟩,?_⟩
    ·rcases hk with rfl|⟨ad,e1,rfl⟩
     ·exact(mH.out.keep _ _ _ _ cD.out (by decide)).trans cD.out.symm
     ·exact mH.out.old.block _ (Wj.out ad e1).2
    ·show BInv p (.slice pu p.t.cases.length cu) (.slice pv p.a.states.length cv) wd wd.heap.size (wd.heap.size+1+1+1) (wd.heap.size+1+1) (wd.heap.size+1) (stP p (i+1)).1 (stP p (i+1)).2 X/\X.heap[W4.heap.size+1]?=some (.cells #[.slice pw (aI p).length cw] 221)/\(stP p (i+1)).1.length<=8192
     rw[fE.out];exact⟨pR.out,mH.out.keep _ _ _ _ cD.out (by decide),Nat.le_of_not_lt IG⟩
theorem vU{k:IntKind} {a b:Int} (h:a=b):Value.int k a=Value.int k b:=by rw[h]
theorem Hd{k:Nat} (hk:k<=30):wrap64 ((2:Int) ^ k)=((2 ^ k:Nat):Int):=by
 have h1:(2:Int) ^ k=((2 ^ k:Nat):Int):=by simp
 have h2:(2:Nat) ^ k<=2 ^ 30:=Nat.pow_le_pow_right (by omega) hk;rw[h1];generalize (2:Nat) ^ k=x at h2;unfold wrap64;omega
theorem JV{q:Nat->Bool} {k:Nat} (hk:k<=30) (h:q k=true):bits .or .i64 ((maskN q k:Nat):Int) (wrap64 ((2:Int) ^ k))=(maskN q (k+1):Nat):=by
 have h2:(2:Nat) ^ k<=2 ^ 30:=Nat.pow_le_pow_right (by omega) hk;have h3:=fF q k;rw[Hd hk,vj _ _ (by omega) (by omega),xB h]
theorem A3(s:Sys):(q6 s).length=eS s:=by simp[q6]
theorem lj(s:Sys) (e:Nat):(fc s e).length=nS s:=by simp[fc]
theorem Uz(s:Sys) (e:Nat) (h:e<(q6 s).length):(q6 s)[e]=fc s e:=by simp[q6]
theorem Om(s:Sys) (e p:Nat) (h:p<(fc s e).length):(fc s e)[p]=if hasB (fltS s e) p then -1 else finS s e p:=by simp[fc]
theorem lm{s:Sys} (h:SysOk s) {e p:Nat} (he:e<eS s) (hp:p<nS s):0<=finS s e p/\finS s e p<s.tab.length:=by
 obtain⟨h1,h2⟩:=h.views e he;have hr:s.prob.rounds.toNat<(cF s e).views.length:=by omega
 have h3:=h2 ((cF s e).views[s.prob.rounds.toNat]) (List.getElem_mem hr);have e1:(cF s e).views.getD s.prob.rounds.toNat []=(cF s e).views[s.prob.rounds.toNat]:=by simp[hr]
 have PV:p<((cF s e).views[s.prob.rounds.toNat]).length:=by omega
 unfold finS;rw[e1,show ((cF s e).views[s.prob.rounds.toNat]).getD p 0=((cF s e).views[s.prob.rounds.toNat])[p] by simp[PV]];exact h3.2 _ (List.getElem_mem PV)
theorem A4{s:Sys} (h:SysOk s) {e f p:Nat} (he:e<eS s) (hf:f<eS s) (hp:p<nS s) (x y:Int) (hx:x=if hasB (fltS s e) p then -1 else finS s e p) (hy:y=if hasB (fltS s f) p then -1 else finS s f p):linkB s p e f=(decide (0<=x)&&decide (x=y)):=by
 have h1:=(lm h he hp).1;have h2:=(lm h hf hp).1;unfold linkB;subst hx hy;cases hasB (fltS s e) p<;>cases hasB (fltS s f) p<;>simp<;>omega
theorem FinAt.open{w:World} {B:Nat} {s:Sys} (h:FinAt w B s):∃ pl cl,w.heap[B]?=some (.cells #[.int .i64 (nS s),.slice pl (eS s) cl] 201)/\∀ e,e<eS s->∃ b o,pl=some ⟨b,o,none⟩/\∃ pr cr,w.cell? ⟨b,o+e,none⟩=some (.slice pr (nS s) cr)/\aY w (.slice pr (nS s) cr) (fc s e):=by
 obtain⟨vl,h1,h2⟩:=h.ex;obtain⟨pl,cl,rfl,_,_,ep⟩:=h2.at;rw[A3]at h1;refine⟨pl,cl,h1,fun e he=>?_⟩;obtain⟨b,o,e1,v,hc,hv⟩:=ep e (by rw[A3];exact he);rw[Nat.mul_one]at hc;rw[Uz]at hv;obtain⟨pr,cr,rfl,_⟩:=hv.at;rw[lj]at hc hv;exact⟨b,o,e1,pr,cr,hc,hv⟩
theorem Vj{w:World} {s:Sys} {e p:Nat} {pr:Option Addr} {cr:Nat} (h:aY w (.slice pr (nS s) cr) (fc s e)) (hp:p<nS s):∃ b o,pr=some ⟨b,o,none⟩/\w.cell? ⟨b,o+p,none⟩=some (.int .i64 (if hasB (fltS s e) p then -1 else finS s e p)):=by
 obtain⟨a,c,e1,_,_,ep⟩:=h.at;obtain⟨b,o,e2,h1⟩:=ep p (by rw[lj];exact hp);injection e1 with e3
 rw[Nat.mul_one,Om]at h1;exact⟨b,o,e3.trans e2,h1.1⟩
theorem DE{w:World} {s:Sys} {n e p:Nat} {pr:Option Addr} {cr:Nat} (h:aY w (.slice pr n cr) (fc s e)) (hp:p<n):∃ b o,pr=some ⟨b,o,none⟩/\w.cell? ⟨b,o+p,none⟩=some (.int .i64 (if hasB (fltS s e) p then -1 else finS s e p)):=by
 obtain⟨a,c,e1,_⟩:=h.at;injection e1 with _ e4 _
 rw[lj]at e4;subst e4;exact Vj h hp
theorem B3(s:Sys) (B:Nat) (e:Int) (w:World) (h:FinAt w B s) :
  Calls Tryz.prog 145 #[.pointer (some ⟨B,0,none⟩),.int .i64 e] w fun r w'=>r=.returned (.bool (decide (0<=e)&&decide (e<(eS s:Int))))/\Below w.heap.size w w':=by
 obtain⟨pl,cl,h1,_⟩:=h.open;have t1:=ab h1;clear h1 h;by_cases he:0<=e
 ·have hd:decide ((0:Int)<=e)=true:=by simpa using he
  go_enter Tryz.func145,Tryz.ntmps145
  go_wp2_with fail
  go_ret
  exact⟨aN (by simp[he]),Below.refl _ _⟩
 ·have hd:decide ((0:Int)<=e)=false:=by simpa using he
  go_enter Tryz.func145,Tryz.ntmps145
  go_wp2_with fail
  go_ret
  exact⟨aN (by first|rfl|simp[he]),Below.refl _ _⟩
theorem Ad(s:Sys) (hs:SysOk s) (B:Nat) (e f:Nat) (he:e<eS s) (hf:f<eS s) (w:World) (h:FinAt w B s) :
  Calls Tryz.prog 146 #[.pointer (some ⟨B,0,none⟩),.int .i64 e,.int .i64 f] w fun r w'=>r=.returned (.int .i64 (maskN (fun p=>linkB s p e f) (nS s):Nat))/\w=w':=by
 obtain⟨pl,cl,h1,bV⟩:=h.open;have ic:=hs.n.2.1;obtain⟨b,o,rfl,pr,cr,c1,r1⟩:=bV e he;obtain⟨b',o',e2,ps,cs,c2,r2⟩:=bV f hf;cases e2;have R1:=aa r1;have R2:=aa r2;have HL:Hid (∀ p,p<nS s->linkB s p e f=(decide (0<=if hasB (fltS s e) p then -1 else finS s e p)&&decide ((if hasB (fltS s e) p then -1 else finS s e p)=if hasB (fltS s f) p then -1 else finS s f p))):=aa fun p hp=>A4 hs he hf hp _ _ rfl rfl
 have t1:=ab h1;clear h1 h bV r1 r2;obtain⟨q,hq⟩:∃ q:Nat->Bool,q=fun p=>linkB s p e f:=⟨_,rfl⟩
 have HQ:Hid (∀ p,linkB s p e f=q p):=aa fun p=>by rw[hq]
 rw[<-hq];clear hq;generalize nS s=n at *;generalize eS s=m at *
 go_enter Tryz.func146,Tryz.ntmps146
 go_wp2_with fail
 go_loop [7,14] (fun x i=>∃ k:Nat,k<=n/\i=.int .i64 k/\x=.int .i64 (maskN q k:Nat)) (fun _ i=>n - (intOf i).toNat)
 case atStart=>exact⟨0,by omega,rfl,rfl⟩
 case round=>
  obtain⟨k,hk,rfl,rfl⟩:=hrel;by_cases az:k<n
  ·obtain⟨b1,o1,rfl,d1⟩:=DE R1.out az
   obtain⟨b2,o2,rfl,d2⟩:=DE R2.out az;have hl:=HL.out k az;rw[HQ.out]at hl;generalize (if hasB (fltS s e) k then -1 else finS s e k)=x at d1 hl;generalize (if hasB (fltS s f) k then -1 else finS s f k)=y at d2 hl;have HM:=aa (fF q k);by_cases hx:0<=x
   ·have Tr:decide ((0:Int)<=x)=true:=decide_eq_true hx
    by_cases cO:x=y
    ·subst cO
     have HB:Hid (q k=true):=aa (by rw[hl];simp[hx]);clear hl
     go_wp2_with fail
     go_round
     case rel=>exact⟨k+1,by omega,by go_num,vU (JV (by omega) HB.out)⟩
     case measure=>simp[intOf];omega
    ·have hxy':decide (x=y)=false:=decide_eq_false cO
     have HB:Hid (q k=false):=aa (by rw[hl,hxy'];simp);clear hl
     go_wp2_with fail
     go_round
     case rel=>exact⟨k+1,by omega,by go_num,by rw[<-qJ HB.out]⟩
     case measure=>simp[intOf];omega
   ·have Tr:decide ((0:Int)<=x)=false:=decide_eq_false hx
    have HB:Hid (q k=false):=aa (by rw[hl,Tr];simp);clear hl
    go_wp2_with fail
    go_round
    case rel=>exact⟨k+1,by omega,by go_num,by rw[<-qJ HB.out]⟩
    case measure=>simp[intOf];omega
  ·obtain rfl:k=n:=by omega
   go_wp2_with fail
   go_ret
   exact⟨rfl,rfl⟩
theorem On(a b:Vw) (w:World):(binOp .neq 190 a.v b.v).run Tryz.prog w=.ok (.bool (!decide (a=b))) w:=by
 rw[run_neq_struct,Du 9997];rfl
theorem DF(va vb:Value) (a b:List Vw) (w:World) (ha:mu w va a) (hb:mu w vb b) :
  Calls Tryz.prog 121 #[va,vb] w fun e w'=>e=.returned (.bool (decide (a=b)))/\Below w.heap.size w w':=by
 obtain⟨pa,ca,rfl,la1,la2,ea⟩:=ha.at;obtain⟨pb,cb,rfl,lb1,lb2,eb⟩:=hb.at;clear ha hb;have EA:=aa ea;clear ea;have EB:=aa eb;clear eb;generalize nH:decide (a=b)=res;have jt:=aa nH;clear nH;by_cases hl:a.length=b.length
 case neg=>
  have gt:((a.length:Int) != (b.length:Int))=true:=by simp;omega
  have HR:Hid (res=false):=aa (by rw[<-jt.out];simp;intro h;exact hl (by rw[h]));clear hl
  go_enter Tryz.func121,Tryz.ntmps121
  go_wp2
  go_ret
  exact⟨aN HR.out.symm,Below.refl _ _⟩
 have gt:((a.length:Int) != (b.length:Int))=false:=by simp[hl]
 have HL:=aa hl;clear hl
 go_enter Tryz.func121,Tryz.ntmps121
 go_wp2
 clear gt
 go_loopw [13] (fun i wr=>Below w.heap.size w wr/\∃ k:Nat,k<=a.length/\i=.int .i64 k/\∀ j,j<k->a.getD j default=b.getD j default) (fun i _=>a.length - (intOf i).toNat)
 case atStart=>exact⟨Below.refl _ _,0,by omega,rfl,by simp⟩
 case round=>
  obtain⟨aq,k,hk,rfl,aS⟩:=hrel;have H:=aa aS;clear aS;by_cases az:k<a.length
  ·have iO:k<b.length:=by have:=HL.out;omega
   obtain⟨b1,o1,rfl,⟨⟨c0,_⟩,⟨c1,_⟩,⟨c2,_⟩,⟨c3,_⟩,⟨c4,_⟩,⟨c5,_⟩,⟨c6,_⟩,⟨c7,_⟩⟩⟩:=EA.out k az;obtain⟨b2,o2,rfl,⟨⟨e0,_⟩,⟨e1,_⟩,⟨e2,_⟩,⟨e3,_⟩,⟨e4,_⟩,⟨e5,_⟩,⟨e6,_⟩,⟨e7,_⟩⟩⟩:=EB.out k iO;have c0':∀ y:ExtW wr,y.val.cell? ⟨b1,o1+k * 8,none⟩=_:=fun y=>y.cell (ai aq c0)
   have c1':∀ y:ExtW wr,y.val.cell? ⟨b1,o1+k * 8+1,none⟩=_:=fun y=>y.cell (ai aq c1)
   have c2':∀ y:ExtW wr,y.val.cell? ⟨b1,o1+k * 8+2,none⟩=_:=fun y=>y.cell (ai aq c2)
   have c3':∀ y:ExtW wr,y.val.cell? ⟨b1,o1+k * 8+3,none⟩=_:=fun y=>y.cell (ai aq c3)
   have c4':∀ y:ExtW wr,y.val.cell? ⟨b1,o1+k * 8+4,none⟩=_:=fun y=>y.cell (ai aq c4)
   have c5':∀ y:ExtW wr,y.val.cell? ⟨b1,o1+k * 8+5,none⟩=_:=fun y=>y.cell (ai aq c5)
   have c6':∀ y:ExtW wr,y.val.cell? ⟨b1,o1+k * 8+6,none⟩=_:=fun y=>y.cell (ai aq c6)
   have c7':∀ y:ExtW wr,y.val.cell? ⟨b1,o1+k * 8+7,none⟩=_:=fun y=>y.cell (ai aq c7)
   have e0':∀ y:ExtW wr,y.val.cell? ⟨b2,o2+k * 8,none⟩=_:=fun y=>y.cell (ai aq e0)
   have e1':∀ y:ExtW wr,y.val.cell? ⟨b2,o2+k * 8+1,none⟩=_:=fun y=>y.cell (ai aq e1)
   have e2':∀ y:ExtW wr,y.val.cell? ⟨b2,o2+k * 8+2,none⟩=_:=fun y=>y.cell (ai aq e2)
   have e3':∀ y:ExtW wr,y.val.cell? ⟨b2,o2+k * 8+3,none⟩=_:=fun y=>y.cell (ai aq e3)
   have e4':∀ y:ExtW wr,y.val.cell? ⟨b2,o2+k * 8+4,none⟩=_:=fun y=>y.cell (ai aq e4)
   have e5':∀ y:ExtW wr,y.val.cell? ⟨b2,o2+k * 8+5,none⟩=_:=fun y=>y.cell (ai aq e5)
   have e6':∀ y:ExtW wr,y.val.cell? ⟨b2,o2+k * 8+6,none⟩=_:=fun y=>y.cell (ai aq e6)
   have e7':∀ y:ExtW wr,y.val.cell? ⟨b2,o2+k * 8+7,none⟩=_:=fun y=>y.cell (ai aq e7)
   have HX:=aa (ap default az);have HY:=aa (ap default iO);clear c0 c1 c2 c3 c4 c5 c6 c7 e0 e1 e2 e3 e4 e5 e6 e7;generalize a[k]=x at c0' c1' c2' c3' c4' c5' c6' c7' HX;generalize b[k]=y at e0' e1' e2' e3' e4' e5' e6' e7' HY;have bM:=fun w=>On x y w
   go_wp2
   by_cases cO:x=y
   ·have hd:decide (x=y)=true:=by simpa using cO
    have nA:Hid (a.getD k default=b.getD k default):=aa (by rw[HX.out,HY.out,cO]);rw[hd]at bM;clear cO hd;refine aB (by kernel_rfl) (by kernel_rfl) ?_
    repeat (go_big_quiet_step (fail))
    refine wpQuiet_nil ?_;rintro _ ⟨xq,rfl⟩;clear c0' c1' c2' c3' c4' c5' c6' c7' e0' e1' e2' e3' e4' e5' e6' e7' bM
    go_wp2
    go_roundw
    case rel=>exact⟨ae aq xq.ext,k+1,by omega,by go_num,aT H.out nA.out⟩
    case measure=>simp[intOf];omega
   ·have hd:decide (x=y)=false:=by simpa using cO
    have HR:Hid (res=false):=aa (by rw[<-jt.out];simp;intro h;subst h;rw[HX.out]at HY;exact cO HY.out);rw[hd]at bM;clear cO hd;refine aB (by kernel_rfl) (by kernel_rfl) ?_
    repeat (go_big_quiet_step (fail))
    refine wpQuiet_nil ?_;rintro _ ⟨xq,rfl⟩;clear c0' c1' c2' c3' c4' c5' c6' c7' e0' e1' e2' e3' e4' e5' e6' e7' bM
    go_wp2
    go_ret
    exact⟨aN HR.out.symm,ae aq xq.ext⟩
  ·have HR:Hid (res=true):=aa (by rw[<-jt.out];simp;exact eW default HL.out fun j hj=>H.out j (by omega))
   go_wp2
   go_ret
   exact⟨aN HR.out.symm,aq⟩
theorem DG(va vb:Value) (a b:List (List Int)) (w:World) (ha:dR w va a) (hb:dR w vb b) :
  Calls Tryz.prog 168 #[va,vb,.func (.func 15) #[] #[]] w fun e w'=>e=.returned (.bool (decide (a=b)))/\Below w.heap.size w w':=by
 obtain⟨pa,ca,rfl,la1,la2,ea⟩:=ha.at;obtain⟨pb,cb,rfl,lb1,lb2,eb⟩:=hb.at;clear ha hb;have EA:=aa ea;clear ea;have EB:=aa eb;clear eb;generalize nH:decide (a=b)=res;have jt:=aa nH;clear nH;have g1:=enters_of Tryz.func15 (P:=Tryz.prog) (by kernel_rfl) rfl;by_cases hl:a.length=b.length
 case neg=>
  have gt:((a.length:Int) != (b.length:Int))=true:=by simp;omega
  have HR:Hid (res=false):=aa (by rw[<-jt.out];simp;intro h;exact hl (by rw[h]));clear hl
  go_enter Tryz.func168,Tryz.ntmps168
  go_wp2
  go_ret
  exact⟨aN HR.out.symm,Below.refl _ _⟩
 have gt:((a.length:Int) != (b.length:Int))=false:=by simp[hl]
 have HL:=aa hl;clear hl
 go_enter Tryz.func168,Tryz.ntmps168
 go_wp2
 clear gt
 go_loopw [17] (fun i wr=>Below w.heap.size w wr/\∃ k:Nat,k<=a.length/\i=.int .i64 k/\∀ j,j<k->a.getD j []=b.getD j []) (fun i _=>a.length - (intOf i).toNat)
 case atStart=>exact⟨Below.refl _ _,0,by omega,rfl,by simp⟩
 case round=>
  obtain⟨aq,k,hk,rfl,aS⟩:=hrel;have H:=aa aS;clear aS;by_cases az:k<a.length
  ·have iO:k<b.length:=by have:=HL.out;omega
   obtain⟨b1,o1,rfl,x,c1,hx⟩:=EA.out k az;obtain⟨b2,o2,rfl,y,c2,hy⟩:=EB.out k iO;rw[Nat.mul_one]at c1 c2;have d1:=ai aq c1;have d2:=ai aq c2;have HC:=aa (je x y a[k] b[k] wr (hx.up up_int aq) (hy.up up_int aq));have HX:=aa (ap [] az);have HY:=aa (ap [] iO);obtain⟨px,qx,rfl,_⟩:=hx.at;obtain⟨py,qy,rfl,_⟩:=hy.at;clear hx hy c1 c2;have HE:Hid (eqV a[k] b[k]=decide (a[k]=b[k])):=aa rfl;generalize eqV a[k] b[k]=eb at HC HE
   go_wp2_with fail
   refine HC.out.mono ?_;rintro e w1 ⟨rfl,aG⟩;clear d1 d2;cases eb with
   | true=>
    have nA:Hid (a.getD k []=b.getD k []):=aa (by have h:=HE.out;simp at h;rw[HX.out,HY.out,h])
    go_wp2_with fail
    go_roundw
    case rel=>exact⟨ae aq aG,k+1,by omega,by go_num,aT H.out nA.out⟩
    case measure=>simp[intOf];omega
   | false=>
    have HR:Hid (res=false):=aa (by rw[<-jt.out];simp;intro h;subst h;have h:=HE.out;simp at h)
    go_wp2_with fail
    go_ret
    exact⟨aN HR.out.symm,ae aq aG⟩
  ·have HR:Hid (res=true):=aa (by rw[<-jt.out];simp;exact eW [] HL.out fun j hj=>H.out j (by omega))
   go_wp2
   go_ret
   exact⟨aN HR.out.symm,aq⟩
abbrev He(c:Int) (u v:Value):Array Value:=#[.int .i64 c,u,v]
theorem XL(a b:Ex):decide (a=b)=(decide (a.c=b.c)&&decide (a.word=b.word)&&decide (a.views=b.views)):=by
 obtain⟨c,u,v⟩:=a;obtain⟨d,x,y⟩:=b;simp only[Ex.mk.injEq];by_cases h1:c=d<;>by_cases h2:u=x<;>by_cases h3:v=y<;>simp[h1,h2,h3]
theorem Hf(a b:Ex) (ua va ub vb:Value) (w:World) (h1:ka w ua a.word) (h2:dR w va a.views) (h3:ka w ub b.word) (h4:dR w vb b.views) :
  Calls Tryz.prog 123 #[.agg (He a.c ua va),.agg (He b.c ub vb)] w fun e w'=>e=.returned (.bool (decide (a=b)))/\Below w.heap.size w w':=by
 have H1:=aa h1;have H2:=aa h2;have H3:=aa h3;have H4:=aa h4;obtain⟨_,_,rfl,_⟩:=h1.at;obtain⟨_,_,rfl,_⟩:=h2.at;obtain⟨_,_,rfl,_⟩:=h3.at;obtain⟨_,_,rfl,_⟩:=h4.at;clear h1 h2 h3 h4;have HV:=aa (XL a b);generalize decide (a=b)=res at HV;generalize a.c=x1 at *;generalize b.c=x2 at *
 go_enter Tryz.func123,Tryz.ntmps123
 by_cases hc:x1=x2
 ·subst hc
  go_wp2_with fail
  refine aL (fun W=>Below w.heap.size w W/\(∃ c,W.heap[w.heap.size]?=some (.cells c 89)/\c=He x1 _ _)/\∃ c,W.heap[w.heap.size+1]?=some (.cells c 89)/\c=He x1 _ _) ⟨by go_grown,⟨_,am _ (ak _ _),rfl⟩,_,ba _ _ _,rfl⟩ (fun W0 aW=>?_);obtain⟨aC,⟨_,hA,rfl⟩,⟨_,hB,rfl⟩⟩:=aW;refine(BW _ _ a.word b.word W0 (H1.out.up up_round aC) (H3.out.up up_round aC)).mono ?_;rintro e w1 ⟨rfl,aG⟩;have db:=ae aC aG;have tA:=ab (af aG hA);have tB:=ab (af aG hB);clear hA hB;cases hw:decide (a.word=b.word) with
  | false=>
   have HR:Hid (res=false):=aa (by rw[HV.out,hw];simp);clear hw
   go_wp2_with fail
   go_ret
   exact⟨aN HR.out.symm,db⟩
  | true=>
   have HR:Hid (res=decide (a.views=b.views)):=aa (by rw[HV.out,hw];simp);clear hw
   go_wp2_with fail
   refine(DG _ _ a.views b.views w1 (H2.out.up up_ints db) (H4.out.up up_ints db)).mono ?_;rintro e w2 ⟨rfl,aV⟩;clear tA tB
   go_wp2_with fail
   go_ret
   exact⟨aN HR.out.symm,ae db aV⟩
 ·have hd:decide (x1=x2)=false:=decide_eq_false hc
  have HR:Hid (res=false):=aa (by rw[HV.out,hd];simp)
  go_wp2_with fail
  go_ret
  exact⟨aN HR.out.symm,by go_grown⟩
theorem DH(va vb:Value) (a b:List Ex) (w:World) (ha:zm w va a) (hb:zm w vb b) :
  Calls Tryz.prog 122 #[va,vb,.func (.func 123) #[] #[]] w fun e w'=>e=.returned (.bool (decide (a=b)))/\Below w.heap.size w w':=by
 obtain⟨pa,ca,rfl,la1,la2,ea⟩:=ha.at;obtain⟨pb,cb,rfl,lb1,lb2,eb⟩:=hb.at;clear ha hb;have EA:=aa ea;clear ea;have EB:=aa eb;clear eb;generalize nH:decide (a=b)=res;have jt:=aa nH;clear nH;have g1:=enters_of Tryz.func123 (P:=Tryz.prog) (by kernel_rfl) rfl;by_cases hl:a.length=b.length
 case neg=>
  have gt:((a.length:Int) != (b.length:Int))=true:=by simp;omega
  have HR:Hid (res=false):=aa (by rw[<-jt.out];simp;intro h;exact hl (by rw[h]));clear hl
  go_enter Tryz.func122,Tryz.ntmps122
  go_wp2
  go_ret
  exact⟨aN HR.out.symm,Below.refl _ _⟩
 have gt:((a.length:Int) != (b.length:Int))=false:=by simp[hl]
 have HL:=aa hl;clear hl
 go_enter Tryz.func122,Tryz.ntmps122
 go_wp2
 clear gt
 go_loopw [17] (fun i wr=>Below w.heap.size w wr/\∃ k:Nat,k<=a.length/\i=.int .i64 k/\∀ j,j<k->a.getD j default=b.getD j default) (fun i _=>a.length - (intOf i).toNat)
 case atStart=>exact⟨Below.refl _ _,0,by omega,rfl,by simp⟩
 case round=>
  obtain⟨aq,k,hk,rfl,aS⟩:=hrel;have H:=aa aS;clear aS;by_cases az:k<a.length
  ·have iO:k<b.length:=by have:=HL.out;omega
   obtain⟨b1,o1,rfl,⟨c1,_⟩,⟨u1,c2,h2⟩,⟨v1,c3,h3⟩⟩:=EA.out k az;obtain⟨b2,o2,rfl,⟨d1,_⟩,⟨u2,d2,k2⟩,⟨v2,d3,k3⟩⟩:=EB.out k iO;have c1':=ai aq c1;have c2':=ai aq c2;have c3':=ai aq c3;have hA:Below wr.heap.size wr (wr.alloc (.cells (He a[k].c u1 v1) 89)):=by go_grown
   have d1':=ai hA (ai aq d1);have d2':=ai hA (ai aq d2);have d3':=ai hA (ai aq d3);have H2:=aa (h2.up up_round aq);have H3:=aa (h3.up up_ints aq);have K2:=aa (k2.up up_round aq);have K3:=aa (k3.up up_ints aq);obtain⟨_,_,rfl,_⟩:=h2.at;obtain⟨_,_,rfl,_⟩:=h3.at;obtain⟨_,_,rfl,_⟩:=k2.at;obtain⟨_,_,rfl,_⟩:=k3.at;have HX:=aa (ap default az);have HY:=aa (ap default iO);clear h2 h3 k2 k3 c1 c2 c3 d1 d2 d3 hA;generalize a[k]=x at *;generalize b[k]=y at *
   go_wp2_with fail
   refine aL (fun W=>Below wr.heap.size wr W) (by go_grown) (fun W0 aW=>?_);refine(Hf x y _ _ _ _ W0 (H2.out.up up_round aW) (H3.out.up up_ints aW) (K2.out.up up_round aW) (K3.out.up up_ints aW)).mono ?_;rintro e w1 ⟨rfl,aG⟩;have db:=ae aq (ae aW aG);clear c1' c2' c3' d1' d2' d3';cases cO:decide (x=y) with
   | true=>
    have nA:Hid (a.getD k default=b.getD k default):=aa (by rw[HX.out,HY.out,of_decide_eq_true cO]);clear cO
    go_wp2_with fail
    go_roundw
    case rel=>exact⟨db,k+1,by omega,by go_num,aT H.out nA.out⟩
    case measure=>simp[intOf];omega
   | false=>
    have HR:Hid (res=false):=aa (by rw[<-jt.out];simp;intro h;subst h;rw[HX.out]at HY;exact of_decide_eq_false cO HY.out);clear cO
    go_wp2_with fail
    go_ret
    exact⟨aN HR.out.symm,db⟩
  ·have HR:Hid (res=true):=aa (by rw[<-jt.out];simp;exact eW default HL.out fun j hj=>H.out j (by omega))
   go_wp2
   go_ret
   exact⟨aN HR.out.symm,aq⟩
theorem gD{P:Program} {ops:Array Oper} {Q:Exit->Act->World->Prop} {l:List Oper} {a:Act} {W:World} (I:World->Prop) (h:I W) (k:∀ W0,I W0->wpList P ops Q l a W0):wpList P ops Q l a W:=k W h
theorem bg{w:World} {s:Sys} {vc vs vt ve:Value} (h:IsSys w s vc vs vt ve):(∃ a c,vc=.slice a s.prob.t.cases.length c)/\(∃ a c,vs=.slice a s.prob.a.states.length c)/\(∃ a c,vt=.slice a s.tab.length c)/\∃ a c,ve=.slice a s.ex.length c:=by
 obtain⟨a1,c1,e1,_⟩:=h.cases.at;obtain⟨a2,c2,e2,_⟩:=h.states.at;obtain⟨a3,c3,e3,_⟩:=h.tab.at;obtain⟨a4,c4,e4,_⟩:=h.ex.at;exact⟨⟨a1,c1,e1⟩,⟨a2,c2,e2⟩,⟨a3,c3,e3⟩,a4,c4,e4⟩
theorem oJ(s:Sys) (vc vs vt ve:Value) (w:World) (hs:IsSys w s vc vs vt ve) (hN:movesN s.prob.a.states<1099511627776) :
  Calls Tryz.prog 75 #[.agg (bE s.prob vc vs s.n vt ve)] w fun e w'=>e=.returned (.int .i64 (verifyE s))/\Below w.heap.size w w':=by
 have HS:=aa hs;obtain⟨⟨pc,cc,rfl⟩,⟨ps,cs,rfl⟩,⟨pt,ct,rfl⟩,⟨pe,ce,rfl⟩⟩:=bg hs;clear hs;have HV:Hid (verifyE s=if buildE s.prob≠0 then buildE s.prob else if s.n=(aM s.prob).n/\s.tab=(aM s.prob).tab/\s.ex=(aM s.prob).ex then 0 else 3):=aa rfl;have HT:=aa HS.out.tab;have HE:=aa HS.out.ex;have HC:=aa (fun W (hb:Below w.heap.size w W)=>Ol s.prob (.slice pc s.prob.t.cases.length cc) (.slice ps s.prob.a.states.length cs) W (HS.out.cases.up up_case hb) (HS.out.states.up up_moves hb) hN);clear HS
 go_enter Tryz.func75,Tryz.ntmps75
 go_wp2_with fail
 refine aL (fun W=>Below w.heap.size w W/\∃ c,W.heap[w.heap.size]?=some (.cells c 35)/\c=bE s.prob _ _ s.n _ _) ⟨by go_grown,_,ak _ _,rfl⟩ (fun W0 aW=>?_);obtain⟨aC,_,hA,rfl⟩:=aW;refine(HC.out W0 aC).mono ?_;rintro e w1 ⟨c,rfl,h0,h1,aG⟩;have db:=ae aC aG;have dM:=af aG hA;have dy:=aa dM;have eP:=aa db;have fP:=db.size;have iL:=ar dM;clear hA dM aC aG HC;by_cases lP:buildE s.prob=0
 case neg=>
  obtain rfl:=h1 lP;clear h0 h1;have HR:Hid (verifyE s=buildE s.prob):=aa (by rw[HV.out,if_pos lP]);generalize buildE s.prob=be at lP HR;have hbe':(be != 0)=true:=by simpa using lP
  clear HV lP
  go_wp2_with ((refine wpList_store_row rfl 35 (.tmp 3) (.tmp 9) rfl w1.heap.size zeroSys rfl rfl 35 _ (ak w1 (.cells zeroSys 35)) (by kernel_rfl) rfl (by simp[Value.oneCell']) (gD (fun W=>Below w.heap.size w W) (below_setRow (eP.out.alloc fP _) fP _) ?_);intro W2 eF;have cD:=aa eF;clear eF))
  go_ret
  exact⟨aA HR.out.symm,cD.out⟩
 obtain⟨uc,us,vt,ve,rfl,Sq⟩:=h0 lP;have HR:Hid (verifyE s=if s.n=s.prob.t.n/\s.tab=(aM s.prob).tab/\s.ex=(aM s.prob).ex then 0 else 3):=aa (by rw[HV.out,if_neg (by omega)];rfl);have yL:=aa Sq;obtain⟨⟨qc,dc,e1⟩,⟨qs,ds,e2⟩,⟨qt,dt,e3⟩,⟨qe,de,e4⟩⟩:=bg Sq;clear h1 Sq HV;rw[lP];clear lP;generalize sP:(aM s.prob).tab=bt at *;generalize kF:(aM s.prob).ex=bx at *;have CR:Hid (mu w1 vt bt):=aa (by rw[<-sP];exact yL.out.tab);have kx:Hid (zm w1 ve bx):=aa (by rw[<-kF];exact yL.out.ex);clear sP kF yL;subst e1 e2 e3 e4;have hone:(bE s.prob (.slice qc (aM s.prob).prob.t.cases.length dc) (.slice qs (aM s.prob).prob.a.states.length ds) s.prob.t.n (.slice qt bt.length dt) (.slice qe bx.length de)).all (·.oneCell')=true:=by simp[Value.oneCell']
 by_cases hn:s.n=s.prob.t.n
 case neg=>
  have ze:(s.n != s.prob.t.n)=true:=by simpa using hn
  have dE:Hid (verifyE s=3):=aa (by rw[HR.out,if_neg (fun h=>hn h.1)]);clear hn HR
  go_wp2_with ((refine wpList_store_row rfl 35 (.tmp 3) (.tmp 9) rfl w1.heap.size (bE s.prob (.slice qc (aM s.prob).prob.t.cases.length dc) (.slice qs (aM s.prob).prob.a.states.length ds) s.prob.t.n (.slice qt bt.length dt) (.slice qe bx.length de)) rfl rfl 35 _ (ak w1 (.cells zeroSys 35)) (by kernel_rfl) rfl hone (gD (fun W=>Below w.heap.size w W/\Below w1.heap.size w1 W/\∃ c,W.heap[w1.heap.size]?=some (.cells c 35)/\c=bE s.prob _ _ s.prob.t.n _ _) ⟨below_setRow (eP.out.alloc fP _) fP _,below_setRow ((Below.refl _ w1).alloc (Nat.le_refl _) _) (Nat.le_refl _) _,_,setRow_heap _ _ _ _ _ _ (ak w1 _),rfl⟩ ?_);intro W2 eF;obtain⟨g1,g2,c2,g3,iT⟩:=eF;subst iT;have tS:=ab (af g2 dy.out);have tT:=ab g3;have G1:=aa g1;have G2:=aa g2;have G3:=aa g3;clear g1 g2 g3))
  go_ret
  exact⟨aA dE.out.symm,G1.out⟩
 have ze:(s.n != s.prob.t.n)=false:=by simpa using hn
 have rf:=aa hn;clear hn
 go_wp2_with ((refine wpList_store_row rfl 35 (.tmp 3) (.tmp 9) rfl w1.heap.size (bE s.prob (.slice qc (aM s.prob).prob.t.cases.length dc) (.slice qs (aM s.prob).prob.a.states.length ds) s.prob.t.n (.slice qt bt.length dt) (.slice qe bx.length de)) rfl rfl 35 _ (ak w1 (.cells zeroSys 35)) (by kernel_rfl) rfl hone (gD (fun W=>Below w.heap.size w W/\Below w1.heap.size w1 W/\∃ c,W.heap[w1.heap.size]?=some (.cells c 35)/\c=bE s.prob _ _ s.prob.t.n _ _) ⟨below_setRow (eP.out.alloc fP _) fP _,below_setRow ((Below.refl _ w1).alloc (Nat.le_refl _) _) (Nat.le_refl _) _,_,setRow_heap _ _ _ _ _ _ (ak w1 _),rfl⟩ ?_);intro W2 eF;obtain⟨g1,g2,c2,g3,iT⟩:=eF;subst iT;have tS:=ab (af g2 dy.out);have tT:=ab g3;have G1:=aa g1;have G2:=aa g2;have G3:=aa g3;clear g1 g2 g3))
 refine(DF _ _ s.tab bt W2 (HT.out.up up_view G1.out) (CR.out.up up_view G2.out)).mono ?_;rintro e w3 ⟨rfl,bA⟩;clear tS tT;have tS:=ab (af bA (af G2.out dy.out));have tT:=ab (af bA G3.out);have tV:=ae G1.out bA;have hbw4:=ae G2.out bA;cases ht:decide (s.tab=bt) with
 | false=>
  have dE:Hid (verifyE s=3):=aa (by rw[HR.out,if_neg (fun h=>of_decide_eq_false ht h.2.1)]);clear ht HR
  go_wp2_with fail
  go_ret
  exact⟨aA dE.out.symm,tV⟩
 | true=>
  have dE:Hid (verifyE s=if s.ex=bx then 0 else 3):=aa (by
   rw[HR.out];by_cases h:s.ex=bx
   ·rw[if_pos ⟨rf.out,of_decide_eq_true ht,h⟩,if_pos h]
   ·rw[if_neg (fun h'=>h h'.2.2),if_neg h])
  clear ht HR
  go_wp2_with fail
  refine(DH _ _ s.ex bx w3 (HE.out.up up_ex tV) (kx.out.up up_ex hbw4)).mono ?_;rintro e w4 ⟨rfl,cg⟩;clear tS tT;cases ht:decide (s.ex=bx) with
  | false=>
   have fZ:Hid (verifyE s=3):=aa (by rw[dE.out,if_neg (of_decide_eq_false ht)]);clear ht dE
   go_wp2_with fail
   go_ret
   exact⟨aA fZ.out.symm,ae tV cg⟩
  | true=>
   have fZ:Hid (verifyE s=0):=aa (by rw[dE.out,if_pos (of_decide_eq_true ht)]);clear ht dE
   go_wp2_with fail
   go_ret
   exact⟨aA fZ.out.symm,ae tV cg⟩
end Go.Proofs.YtmeaoneaephjeaaGreatDoor
namespace Go.Proofs.YtmeaoneaephjeaaGreatDoor
open Go.RowKit Go Go.Shelf
def oK(l:List (Int × Int)) (k:Int):Option Int:=(l.find? fun p=>decide (k=p.1)).map (·.2)
def dd(w:World) (b:Nat) (f:Int->Option Int) (n:Nat):Prop:=
 ∃ es clock l,w.heap[b]?=some (.map es clock)/\es.toList.map (fun e=>(e.key,e.val))=l.map (fun p:Int × Int=>(Value.int .i64 p.1,Value.int .i64 p.2))/\l.length=n/\∀ k,oK l k=f k
theorem dd.kept{A A':World} {b n:Nat} {f:Int->Option Int} (h:dd A b f n) (he:A'.heap[b]?=A.heap[b]?):dd A' b f n:=by
 obtain⟨es,clock,l,h1,hf⟩:=h;exact⟨es,clock,l,he.trans h1,hf⟩
theorem dd.lt{w:World} {b n:Nat} {f:Int->Option Int} (h:dd w b f n):b<w.heap.size:=by
 obtain⟨_,_,_,he,_⟩:=h;exact ar he
theorem dd.up{A A':World} {b n:Nat} {f:Int->Option Int} (h:dd A b f n) (hb:Below A.heap.size A A'):dd A' b f n:=h.kept (hb.block b h.lt)
theorem dd.other{A:World} {b n:Nat} {f:Int->Option Int} (h:dd A b f n):∃ o,A.heap[b]?=some o/\o.isCells=false:=by
 obtain⟨es,clock,l,h1,_⟩:=h;exact⟨_,h1,rfl⟩
theorem dd.congr{A:World} {b n m:Nat} {f g:Int->Option Int} (h:dd A b f n) (hf:∀ k,f k=g k) (hn:n=m):dd A b g m:=by
 obtain⟨es,clock,l,h1,h2,h3,h4⟩:=h;exact⟨es,clock,l,h1,h2,hn ▸ h3,fun k=>(h4 k).trans (hf k)⟩
theorem dd.new(w:World):dd (w.alloc (.map #[] 0)) w.heap.size (fun _=>none) 0:=⟨#[],0,[],ak w _,rfl,rfl,fun _=>rfl⟩
theorem LV(k:Int) (d:TypeDesc) (hd:d=.int .i64):∀ (l:List (Int × Int)) (es:List MapEntry) (i:Nat),es.map (fun e=>(e.key,e.val))=l.map (fun p=>(Value.int .i64 p.1,Value.int .i64 p.2)) →
  (oK l k=none/\Instr.findNow d (.int .i64 k) es i=some none)\/∃ j x,oK l k=some x/\Instr.findNow d (.int .i64 k) es i=some (some (i+j,.int .i64 x))/\(l[j]?.map (·.1))=some k/\∀ y k',oK (l.modify j fun p=>(p.1,y)) k'=if k'=k then some y else oK l k'
 | [],es,i,h=>by
  obtain rfl:es=[]:=by simpa using h
  exact .inl ⟨rfl,rfl⟩
 | p :: l,es,i,h=>by
  cases es with
  | nil=>simp at h
  | cons e es=>
   simp only[List.map_cons,List.cons.injEq,Prod.mk.injEq]at h;obtain⟨⟨hk,hv⟩,h⟩:=h;subst hd;have hs:Instr.sameNow (.int .i64) (.int .i64 k) e.key=some (k == p.1):=by rw[hk];simp[Instr.sameNow]
   by_cases e1:k=p.1
   ·subst e1
    refine .inr ⟨0,p.2,by simp[oK],by unfold Instr.findNow;rw[hs];simp[hv],rfl,fun y k'=>?_⟩;simp only[List.modify_zero_cons,oK,List.find?_cons];by_cases e2:k'=p.1
    ·simp[e2]
    ·simp[e2]
   ·have iL:Instr.sameNow (.int .i64) (.int .i64 k) e.key=some false:=by rw[hs];simpa using e1
    have e3:oK (p :: l) k=oK l k:=by simp[oK,e1]
    have hf:Instr.findNow (.int .i64) (.int .i64 k) (e :: es) i=Instr.findNow (.int .i64) (.int .i64 k) es (i+1):=by
     rw[Instr.findNow,iL]
    rcases LV k (.int .i64) rfl l es (i+1) h with ⟨h1,h2⟩|⟨j,x,h1,h2,h3,h4⟩
    ·exact .inl ⟨by rw[e3];exact h1,by rw[hf];exact h2⟩
    ·refine .inr ⟨j+1,x,by rw[e3];exact h1,by rw[hf,h2,show i+1+j=i+(j+1) by omega],by simpa using h3,fun y k'=>?_⟩
     have h5:=h4 y k';simp only[List.modify_succ_cons,oK,List.find?_cons]at h5 ⊢;by_cases e2:k'=p.1
     ·subst e2
      rw[if_neg (fun e=>e1 e.symm)];simp
     ·simp only[e2,decide_false]
      exact h5
theorem LW{P:Program} {kt:TypeId} (hk:P.underlying kt=some (.int .i64)) (k:Int) (es:List MapEntry) (w:World) (r:Option (Nat × Value)) (h:Instr.findNow (.int .i64) (.int .i64 k) es 0=some r):(Instr.findKey kt (.int .i64 k) es).run P w=.ok r w:=by
 unfold Instr.findKey;simp[Sem.run_bind,run_underlying hk,h]
theorem B4{P:Program} {kt:TypeId} (hk:P.underlying kt=some (.int .i64)) (em:Bool) (k:Int) (w:World):(Instr.checkKey em 10000 kt (.int .i64 k)).run P w=.ok () w:=by
 unfold Instr.checkKey;simp[Sem.run_bind,run_underlying hk]
section
variable {P : Program} {kt mt vt : TypeId} {w : World} {b n : Nat} {f : Int → Option Int}
theorem DI(hm:P.underlying mt=some (.map kt vt)) (hk:P.underlying kt=some (.int .i64)) (hz:∀ w,(zeroValue vt).run P w=.ok (.int .i64 0) w) (h:dd w b f n) (k:Int) :
  (Instr.lookup mt (.map (some b)) (.int .i64 k) true).run P w=.ok (.tuple #[.int .i64 ((f k).getD 0),.bool (f k).isSome]) w:=by
 obtain⟨es,clock,l,hb,iN,_,hf⟩:=h;have hg:(getObj b).run P w=.ok (.map es clock) w:=by simp[getObj,Sem.run,hb]
 rw[<-hf k];unfold Instr.lookup;rcases LV k _ rfl l es.toList 0 iN with ⟨h1,h2⟩|⟨j,x,h1,h2,_⟩
 ·simp[Sem.run_bind,run_underlying hm,hg,B4 hk,LW hk k _ w _ h2,hz,h1]
 ·simp[Sem.run_bind,run_underlying hm,hg,B4 hk,LW hk k _ w _ h2,h1]
theorem XU(h:dd w b f n):∃ es clock,w.heap[b]?=some (.map es clock)/\es.size=n:=by
 obtain⟨es,clock,l,hb,iN,hl,_⟩:=h;refine⟨es,clock,hb,?_⟩;have:=congrArg List.length iN;simpa[hl] using this
theorem UA(hm:P.underlying mt=some (.map kt vt)) (ty:TypeId) (h:dd w b f n):(Builtin.len_ #[mt] ty #[.map (some b)]).run P w=.ok (.int .i64 (n:Int)) w:=by
 obtain⟨es,clock,hb,hn⟩:=XU h;have hg:(getObj b).run P w=.ok (.map es clock) w:=by simp[getObj,Sem.run,hb]
 subst hn;simp[Builtin.len_,run_underlying hm,hg,goInt,Result.andThen]
theorem uy(hm:P.underlying mt=some (.map kt vt)) (hk:P.underlying kt=some (.int .i64)) (h:dd w b f n) (k x:Int) :
  ∃ o,(Instr.mapUpdate mt (.map (some b)) (.int .i64 k) (.int .i64 x)).run P w=.ok () (w.putObj b o)/\dd (w.putObj b o) b (fun j=>if j=k then some x else f j) (if (f k).isSome then n else n+1):=by
 obtain⟨es,clock,l,hb,iN,hl,hf⟩:=h;have hg:(getObj b).run P w=.ok (.map es clock) w:=by simp[getObj,Sem.run,hb]
 have hs:∀ o,(setObj b o).run P w=.ok () (w.putObj b o):=fun o=>by simp[setObj,Sem.run,hb,World.putObj]
 rw[<-hf k];rcases LV k _ rfl l es.toList 0 iN with ⟨h1,h2⟩|⟨j,y,h1,h2,h3,h4⟩
 ·refine⟨.map (es.push { key:=.int .i64 k,val:=.int .i64 x,born:=clock }) (clock+1),?_,es.push { key:=.int .i64 k,val:=.int .i64 x,born:=clock },clock+1,l++[(k,x)],World.putObj_heap_same (ar hb),by simp[iN],by rw[h1];simp[hl],fun j=>?_⟩
  ·unfold Instr.mapUpdate
   simp[Sem.run_bind,run_underlying hm,hg,B4 hk,LW hk k _ w _ h2,hs]
  ·unfold oK at h1 ⊢
   rw[List.find?_append]
   show Option.map _ _=if j=k then some x else f j
   by_cases e:j=k
   ·subst e
    rw[Option.map_eq_none_iff]at h1;simp[h1]
   ·rw[if_neg e,<-hf j]
    unfold oK;cases l.find? fun p=>decide (j=p.1)<;>simp[e]
 ·rw[Nat.zero_add]at h2
  have cK:es.toList.length=l.length:=by simpa using congrArg List.length iN
  have hj:j<l.length:=by
   apply Classical.byContradiction;intro hj;rw[List.getElem?_eq_none (by omega)]at h3;simp at h3
  have hje:j<es.size:=by simpa using (show j<es.toList.length by omega)
  have qf:es[j].key=.int .i64 k:=by
   have h5:=congrArg (fun L=>L[j]?) iN;simp only[List.getElem?_map,List.getElem?_eq_getElem hj,List.getElem?_eq_getElem (show j<es.toList.length by omega)]at h5 h3;simp only[Option.map_some,Option.some.injEq,Prod.mk.injEq,Array.getElem_toList]at h5 h3;rw[h5.1,h3]
  refine⟨.map (es.modify j fun e=>{ e with key:=.int .i64 k,val:=.int .i64 x }) clock,?_,es.modify j fun e=>{ e with key:=.int .i64 k,val:=.int .i64 x },clock,l.modify j fun p=>(p.1,x),World.putObj_heap_same (ar hb),?_,by rw[h1];simp[hl],fun j'=>by rw[h4 x j',hf]⟩
  ·unfold Instr.mapUpdate
   have dT:(Instr.keyThatStays (.int .i64 k) (.int .i64 k)).run P w=.ok (.int .i64 k) w:=by
    unfold Instr.keyThatStays;rw[if_pos (by simp[Instr.sameBits])];rfl
   simp[Sem.run_bind,run_underlying hm,hg,B4 hk,LW hk k _ w _ h2,hs,hje,qf,dT]
  ·apply List.ext_getElem?
   intro i;have h5:=congrArg (fun L=>L[i]?) iN;simp only[List.getElem?_map]at h5 ⊢;rw[List.getElem?_modify,Array.getElem?_toList,Array.getElem?_modify];rw[Array.getElem?_toList]at h5;by_cases e:j=i
   ·subst e
    simp only[if_pos,List.getElem?_eq_getElem hj,Array.getElem?_eq_getElem hje,Option.map_some,Option.some.injEq,Prod.mk.injEq]at h5 ⊢;rw[List.getElem?_eq_getElem hj]at h3;simp only[Option.map_some,Option.some.injEq]at h3;simp[h3]
   ·simp only[if_neg e]
    cases h6:l[i]? with
    | none=>rw[h6]at h5;exact h5
    | some q=>rw[h6]at h5;exact h5
end
end Go.Proofs.YtmeaoneaephjeaaGreatDoor
namespace Go.Proofs.YtmeaoneaephjeaaGreatDoor
open Go.RowKit Go Go.Shelf
attribute [local go_sem] Oper.semAt_some
theorem B5(v:Value) (l:List Int) (w:World) (hv:aY w v l) (hp:lK l) (hl:l.length<=65536) :
  Calls Tryz.prog 206 #[v] w fun e w'=>e=.returned (.int .i64 0)/\Below w.heap.size w w':=by
 obtain⟨pa,ca,rfl,la1,la2,ea⟩:=hv.at;have EA:=aa ea;obtain⟨N,hN,hs⟩:=hp;have HS:=aa hs;have HN:=aa hN;clear hv ea hs hN
 go_enter Tryz.func206,Tryz.ntmps206
 go_wp2
 go_loop [3,11] (fun nx i=>∃ k:Nat,k<=l.length/\i=.int .i64 k/\nx=.int .i64 (N k)/\0<=N k/\N k<=k) (fun _ i=>l.length - (intOf i).toNat)
 case atStart=>exact⟨0,by omega,rfl,by rw[HN.out],by rw[HN.out];omega,by rw[HN.out];omega⟩
 case round=>
  obtain⟨k,hk,rfl,rfl,lS,kG⟩:=hrel;by_cases az:k<l.length
  ·obtain⟨b1,o1,rfl,h1⟩:=EA.out k az
   rw[Nat.mul_one]at h1;have c1:=h1.1;obtain⟨cS,dj,dU⟩:=HS.out k az;rw[ap 0 az]at cS dj dU;clear h1;generalize l[k]=x at c1 cS dj dU;have HX:=aa dU;clear dU;generalize N k=nk at lS kG dj HX;by_cases Xt:x=nk
   ·subst Xt
    have fB:Hid (N (k+1)=x+1):=aa (by rw[HX.out,if_pos rfl])
    go_wp2
    go_round
    case rel=>exact⟨k+1,by omega,by go_num,by rw[fB.out],by rw[fB.out];omega,by rw[fB.out];omega⟩
    case measure=>simp[intOf];omega
   ·have hxn':(x == nk)=false:=by simpa using Xt
    have dU:¬ nk<x:=by omega
    have Ff:¬ x<0:=by omega
    have fB:Hid (N (k+1)=nk):=aa (by rw[HX.out,if_neg Xt])
    go_wp2
    go_round
    case rel=>exact⟨k+1,by omega,by go_num,by rw[fB.out],by rw[fB.out];omega,by rw[fB.out];omega⟩
    case measure=>simp[intOf];omega
  ·go_wp2
   go_ret
   exact⟨rfl,by go_grown⟩
theorem Oo(va vb:Value) (a b:List Int) (w:World) (ha:aY w va a) (hb:aY w vb b) (pa:lK a) (pb:lK b) (hl:b.length=a.length) (mD:a.length<=65536) :
  Calls Tryz.prog 174 #[va,vb] w fun e w'=>e=.returned (.int .i64 0)/\Below w.heap.size w w':=by
 have HA:=aa ha;have HB:=aa hb;have HL:=aa hl;have PA:=aa pa;have PB:=aa pb;obtain⟨qa,ca,rfl,_⟩:=ha.at;obtain⟨qb,cb,rfl,_⟩:=hb.at;clear ha hb hl pa pb;have hll:((a.length:Int) != (b.length:Int))=false:=by rw[HL.out];simp
 go_enter Tryz.func174,Tryz.ntmps174
 go_wp2_with fail
 refine bj (fun W=>Below w.heap.size w W/\W.heap[w.heap.size]?=some (.cells #[.slice qa a.length ca,.slice qb b.length cb] 38)) ⟨by go_grown,ak _ _⟩ (fun W0 aW=>?_);obtain⟨aC,br⟩:=aW;have gT:=aa br;clear br
 go_loopw [12] (fun i wr=>∃ k:Nat,k<=2/\i=.int .i64 k/\Below w.heap.size w wr/\Below W0.heap.size W0 wr) (fun i _=>2 - (intOf i).toNat)
 case atStart=>exact⟨0,by omega,rfl,aC,Below.refl _ _⟩
 case round=>
  clear aC;obtain⟨k,hk,rfl,db,aq⟩:=hrel;have tB:=ab (af aq gT.out);by_cases h0:k=0
  ·subst h0
   go_wp2_with fail
   refine(B5 _ _ wr (HA.out.up up_int db) PA.out mD).mono ?_;rintro e w1 ⟨rfl,aG⟩;clear tB
   go_wp2_with fail
   go_roundw
   case rel=>exact⟨1,by omega,by go_num,ae db aG,ae aq aG⟩
   case measure=>simp[intOf]
  by_cases h1:k=1
  ·subst h1
   go_wp2_with fail
   refine(B5 _ _ wr (HB.out.up up_int db) PB.out (by rw[HL.out];exact mD)).mono ?_;rintro e w1 ⟨rfl,aG⟩;clear tB
   go_wp2_with fail
   go_roundw
   case rel=>exact⟨2,by omega,by go_num,ae db aG,ae aq aG⟩
   case measure=>simp[intOf]
  obtain rfl:k=2:=by omega
  clear tB
  go_wp2_with fail
  go_ret
  exact⟨rfl,db⟩
theorem JW(v:Value) (keys:List Int) (w:World) (hv:aY w v keys) (hl:keys.length<=256) :
  Calls Tryz.prog 176 #[v] w fun e w'=>∃ u,e=.returned u/\aY w' u (qX keys)/\Below w.heap.size w w':=by
 obtain⟨pa,ca,rfl,la1,la2,ea⟩:=hv.at;have EA:=aa ea;clear hv ea;obtain⟨f,hf⟩:∃ f,f=fun i=>(qX keys).getD i 0:=⟨_,rfl⟩
 obtain⟨key,qf⟩:∃ key:Nat->Int,key=fun i=>keys.getD i 0:=⟨_,rfl⟩
 obtain⟨q,hq⟩:∃ q:Nat->Nat->Bool,q=fun k i=>decide (keys.getD k 0=keys.getD i 0):=⟨_,rfl⟩
 have HF:Hid ((∀ i,f i=(ig q keys.length).getD i 0)/\(List.range keys.length).map f=qX keys):=aa (by
  subst hf hq;refine⟨fun _=>rfl,?_⟩;refine List.ext_getElem (by simp[qX,oA]) fun i h1 h2=>?_
  simp[h2])
 have HQ:Hid (∀ k,firstIx k (fun j=>q j k)=firstIx k (fun j=>decide (key j=key k))):=aa (fun k=>by subst hq qf;rfl);have HK:Hid (∀ k (h:k<keys.length),key k=keys[k]):=aa (fun k h=>by subst qf;exact ap 0 h);have HC:=aa (jC q);clear hf hq qf;have gL:=kO f keys.length hl;have CT:=@F' Tryz.prog
 go_enter Tryz.func176,Tryz.ntmps176
 go_wp2_with fail
 clear gL CT;refine bj (fun W=>Below w.heap.size w W/\dd W w.heap.size (du key f 0) 0/\W.heap[w.heap.size+1]?=some (.cells (fC keys.length f 0) 3)) ⟨by go_grown,((dd.new w).up (Below.refl _ _ |>.alloc (Nat.le_refl _) _)).congr (fun _=>rfl) rfl,ba _ _ _⟩ (fun W0 aW=>?_);obtain⟨aC,hM0,gS⟩:=aW
 go_loopw [15] (fun i wr=>∃ k:Nat,k<=keys.length/\i=.int .i64 k/\Below w.heap.size w wr/\dd wr w.heap.size (du key f k) (bG q k).2.toNat/\wr.heap[w.heap.size+1]?=some (.cells (fC keys.length f k) 3)) (fun i _=>keys.length - (intOf i).toNat)
 case atStart=>exact⟨0,by omega,rfl,aC,hM0,gS⟩
 case round=>
  clear aC hM0 gS;obtain⟨k,hk,rfl,aq,hM,hO⟩:=hrel;by_cases az:k<keys.length
  ·obtain⟨b1,o1,rfl,h1⟩:=EA.out k az
   rw[Nat.mul_one]at h1;have c1:=ai aq h1.1;have nM:=HK.out k az;clear h1;generalize keys[k]=x at c1 nM;have HX:=aa nM;have yF:=DI (mt:=245) (kt:=3) (vt:=3) Tryz.underlying245 Tryz.underlying3 (fun w=>by kernel_rfl) hM x;have HM:=aa hM;have HO:=aa hO;have aR:=aa aq;have eK:=hM.lt;have Je:=ar hO;have hc:=(HC.out k).1;have iT:=(HC.out k).2.1;cases hs:du key f k x with
   | none=>
    rw[hs]at yF;have hln:=UA (mt:=245) (kt:=3) (vt:=3) Tryz.underlying245 3 hM;obtain⟨nn,fq⟩:∃ nn:Nat,(bG q k).2.toNat=nn:=⟨_,rfl⟩;rw[fq]at hln
    have Bk:Hid (∀ y,du key f (k+1) y=if y=x then some (f k) else du key f k y):=aa (by
     have:=xG (key:=key) (f:=f) (k:=k) (by rw[nM];exact hs)
     rwa [nM]at this)
    have hfi:firstIx k (fun j=>q j k)<0:=by
     rw[HQ.out,nM];unfold du at hs;split at hs
     ·assumption
     ·cases hs
    obtain⟨n1,n2⟩:=GE (q:=q) az hfi;have sT:Hid (f k=nn):=aa ((HF.out.1 k).trans (by omega));have rf:Hid ((bG q (k+1)).2.toNat=if (du key f k x).isSome then(bG q k).2.toNat else(bG q k).2.toNat+1):=aa (by rw[hs,n2];simp;omega);obtain⟨o,KD,rC⟩:=uy (mt:=245) (kt:=3) (vt:=3) Tryz.underlying245 Tryz.underlying3 HM.out x (nn:Int);have xa:=aa rC;have eU:Hid ((wr.putObj w.heap.size o).heap[w.heap.size+1]?=some (.cells (fC keys.length f k) 3)):=aa ((World.putObj_heap_other (by omega)).trans HO.out);have tq:=ab eU.out k;rw[mZ _ _ _ _ az]at tq;have zq:=aE eU.out k;clear rC hM hO aq hs hfi n1 n2 fq nM
    go_wp2_with fail
    go_roundw
    case rel=>
     refine⟨k+1,by omega,by go_num,Below.setCell (eE (Nat.le_refl _) aR.out) (by dsimp only;omega) _,?_,?_⟩
     ·refine dd.congr (dd.kept xa.out (Below.heap_setCell _ _ _ _ (by dsimp only;omega))) (fun y=>?_) rf.out.symm
      rw[Bk.out,sT.out]
     ·rw[aF eU.out,<-xN _ _ _ az,sT.out]
    case measure=>simp[intOf];omega
   | some z=>
    rw[hs]at yF;have yM:Hid (∀ y,du key f (k+1) y=du key f k y):=aa (xH (z:=z) (by rw[nM];exact hs));obtain⟨j,hj,e1,e2,e3⟩:=qL hs;obtain⟨n1,n2⟩:=GF (q:=q) (j:=j) az (by rw[HQ.out,nM];exact e1);have sT:Hid (f k=z):=aa (by rw[HF.out.1 k,n1,<-HF.out.1 j,e3]);have rf:Hid ((bG q (k+1)).2.toNat=(bG q k).2.toNat):=aa (by rw[n2]);have tq:=ab HO.out k;rw[mZ _ _ _ _ az]at tq;have zq:=aE HO.out k;clear hM hO aq hs n1 n2 e1 e2 e3 nM
    go_wp2_with fail
    go_roundw
    case rel=>
     refine⟨k+1,by omega,by go_num,aR.out.setCell (by dsimp only;omega) _,?_,?_⟩
     ·exact dd.congr (dd.kept HM.out (Below.heap_setCell _ _ _ _ (by dsimp only;omega))) (fun y=>(yM.out y).symm) rf.out.symm
     ·rw[aF HO.out,<-xN _ _ _ az,sT.out]
    case measure=>simp[intOf];omega
  ·obtain rfl:k=keys.length:=by omega
   have HO:=aa hO;have aR:=aa aq;clear hM hO aq
   go_wp2_with fail
   go_ret
   refine⟨_,rfl,?_,aR.out⟩;have h1:=HO.out;rw[q7,HF.out.2]at h1;refine vK (by simp[qX,oA]) hl h1 fun i hi=>?_
   have:=tg (oC (fun k i=>decide (keys.getD k 0=keys.getD i 0)) keys.length) i hi;have qo:i<keys.length:=by simpa[qX,oA] using hi
   unfold bI qX;omega
def iK(s:Sys) (p e:Nat):Int:=if hasB (fltS s e) p then -1 else finS s e p
theorem UB{s:Sys} (h:SysOk s) {p e:Nat} (hp:p<nS s) (he:e<eS s):-1<=iK s p e/\iK s p e<=8192:=by
 have h1:=lm h he hp;have h2:=h.tab;unfold iK;split<;>omega
theorem Oq{s:Sys} (h:SysOk s) {p:Nat} (hp:p<nS s) {k:Nat} (hk:k<eS s):(iK s p k<0->firstIx k (fun j=>linkB s p j k)=-1)/\(0<=iK s p k->firstIx k (fun j=>linkB s p j k)=firstIx k fun j=>decide (iK s p j=iK s p k)):=by
 refine⟨fun h1=>eC _ _ fun j hj=>?_,fun h1=>lX _ _ _ fun j hj=>?_⟩
 ·rw[A4 h (show j<eS s by omega) hk hp (iK s p j) (iK s p k) rfl rfl]
  by_cases e:0<=iK s p j
  ·rw[decide_eq_false (show ¬ iK s p j=iK s p k by omega)];simp
  ·rw[decide_eq_false e];rfl
 ·rw[A4 h (show j<eS s by omega) hk hp (iK s p j) (iK s p k) rfl rfl]
  by_cases e:iK s p j=iK s p k
  ·rw[decide_eq_true e,decide_eq_true (by omega)];rfl
  ·rw[decide_eq_false e];simp
theorem xZ(s:Sys) (hs:SysOk s) (hE:eS s<=256) (B p:Nat) (hp:p<nS s) (w:World) (h:FinAt w B s) :
  Calls Tryz.prog 129 #[.pointer (some ⟨B,0,none⟩),.int .i64 p] w fun r w'=>∃ u,r=.returned u/\aY w' u (iI s p)/\Below w.heap.size w w':=by
 obtain⟨pl,cl,h1,bV⟩:=h.open;have H1:=aa h1;have j8:=aa bV;clear h1 bV h;obtain⟨i0,cG,cf,bP,cj⟩:=info_parts Tryz.infoInt;obtain⟨f,hf⟩:∃ f,f=fun i=>(iI s p).getD i 0:=⟨_,rfl⟩
 obtain⟨q,hq⟩:∃ q:Nat->Nat->Bool,q=fun k i=>linkB s p k i:=⟨_,rfl⟩
 obtain⟨lc,hlc⟩:∃ lc:Nat->List Value,lc=fun k=>(List.range k).map fun i=>Value.int .i64 (f i):=⟨_,rfl⟩
 have zc:Hid (lc 0=[]/\(∀ k,lc (k+1)=lc k++[.int .i64 (f k)])/\lc (eS s)=vI (iI s p)):=aa (by
  subst hlc;refine⟨rfl,fun k=>by simp[List.range_succ],?_⟩;subst hf;unfold vI;refine List.ext_getElem (by simp[jV]) fun i h1 h2=>?_
  have h3:i<(iI s p).length:=by simpa using h2
  simp[h3])
 have zc:Hid (lc 0=[]/\∀ k,lc (k+1)=lc k++[.int .i64 (f k)])/\Hid (lc (eS s)=vI (iI s p)):=⟨aa ⟨zc.out.1,zc.out.2.1⟩,aa zc.out.2.2⟩;obtain⟨zc,jM⟩:=zc;have Bk:Hid (∀ k,k<eS s->firstIx k (fun j=>q j k)<0->f k=(bG q k).2/\(bG q (k+1)).2=(bG q k).2+1):=aa (fun k hk h=>by subst hf hq;exact GE hk h);have yM:Hid (∀ k j,k<eS s->firstIx k (fun j=>q j k)=(j:Nat)->f k=f j/\(bG q (k+1)).2=(bG q k).2):=aa (fun k j hk h=>by subst hf hq;exact GF hk h);have RE:Hid (∀ k,k<eS s->(iK s p k<0->firstIx k (fun j=>q j k)=-1)/\(0<=iK s p k->firstIx k (fun j=>q j k)=firstIx k fun j=>decide (iK s p j=iK s p k))):=aa (fun k hk=>by subst hq;exact Oq hs hp hk);have gu:Hid (∀ k,k<eS s->-1<=iK s p k/\iK s p k<=8192):=aa fun k hk=>UB hs hp hk
 have HC:=aa (jC q)
 have k8:Hid (∀ w' u,aD w' w.heap.size 3 1 u (eS s) (vI (iI s p))->aY w' u (iI s p)):=aa (fun w' u h=>by
  have hl:=jV s p;refine aD.ints (base:=w.heap.size) (by rw[hl];exact h) (by omega) fun x hx=>?_
  obtain⟨i,hi,rfl⟩:=List.getElem_of_mem hx;have:=tg (oC (fun k i=>linkB s p k i) (eS s)) i hi;have e:(ig (fun k i=>linkB s p k i) (eS s)).getD i 0=(iI s p)[i]:=ap 0 hi;rw[e]at this
  exact⟨by omega,by omega⟩)
 clear hf hq hlc;have CT:=@F' Tryz.prog;have t1:=ab (am (.map #[] 0) H1.out);obtain⟨n,hn⟩:∃ n,nS s=n:=⟨_,rfl⟩;obtain⟨m,hm⟩:∃ m,eS s=m:=⟨_,rfl⟩;rw[hn]at hp j8 t1;rw[hm]at hE j8 t1 jM Bk yM RE gu k8;obtain⟨key,qf⟩:∃ key:Nat->Int,key=iK s p:=⟨_,rfl⟩;rw[<-qf]at RE gu
 have yz:Hid (∀ e,e<m->∃ b o,pl=some ⟨b,o,none⟩/\∃ b' o' cr,w.cell? ⟨b,o+e,none⟩=some (.slice (some ⟨b',o',none⟩) n cr)/\w.cell? ⟨b',o'+p,none⟩=some (.int .i64 (key e))):=aa (fun e he=>by
  obtain⟨b,o,e1,pr,cr,h1,h2⟩:=j8.out e he;obtain⟨b',o',e2,h3⟩:=DE h2 hp;subst e2
  exact⟨b,o,e1,b',o',cr,h1,by rw[qf];exact h3⟩)
 clear j8 H1 qf hn hm hs
 go_enter Tryz.func129,Tryz.ntmps129
 go_wp2_with fail
 clear CT t1;refine bj (fun W=>Below w.heap.size w W/\dd W w.heap.size (fun _=>none) 0) ⟨by go_grown,dd.new w⟩ (fun W0 aW=>?_);have ST:w.heap.size<=w.heap.size:=Nat.le_refl _;have iA:=aa aW;clear aW;obtain⟨M,hM⟩:∃ M,M=w.heap.size:=⟨_,rfl⟩;have HMM:=aa hM;have ST:w.heap.size<=M:=by omega
 rw[<-hM]at iA ⊢;clear hM
 go_loopw [6,7,19] (fun ov nv i wr=>∃ k:Nat,k<=m/\i=.int .i64 k/\Below w.heap.size w wr/\aD wr w.heap.size 3 1 ov k (lc k)/\nv=.int .i64 (bG q k).2/\∃ g c,dd wr M g c/\∀ y,0<=y->g y=du key f k y) (fun _ _ i _=>m - (intOf i).toNat)
 case atStart=>exact⟨0,by omega,rfl,by have h:=iA.out.1;rw[HMM.out]at h;exact h,by rw[zc.out.1];exact aD.nil _ _ _ _,rfl,_,_,iA.out.2,fun y _=>rfl⟩
 case round=>
  clear iA;obtain⟨k,hk,rfl,aq,aX,rfl,g,c,hM,hg⟩:=hrel;have DW:=aq.size;have hML:=hM.lt;obtain⟨av,cv,rfl⟩:=aX.slice;have bL:=aa aX;have aR:=aa aq;have HG:=aa hg;have HM:=aa hM;clear aX hg;by_cases az:k<m
  ·obtain⟨b,o,rfl,b',o',cr,c1,c2⟩:=yz.out k az
   have d1:=ai aq c1;have d2:=ai aq c2;have sX:=RE.out k az;have cP:=gu.out k az;have hc:=HC.out k;clear c1 c2 aq;obtain⟨x,cS⟩:∃ x,key k=x:=⟨_,rfl⟩;rw[cS]at d2 sX cP;obtain⟨nx,nQ⟩:∃ nx,(bG q k).2=nx:=⟨_,rfl⟩;rw[nQ]at hc ⊢;obtain⟨Jo,kq,_⟩:=hc;have yF:=DI (mt:=245) (kt:=3) (vt:=3) Tryz.underlying245 Tryz.underlying3 (fun w=>by kernel_rfl) hM x;by_cases hx:x<0
   ·have Tr:decide (x<0)=true:=decide_eq_true hx
    obtain⟨e1,e2⟩:=Bk.out k az (by rw[sX.1 hx];omega);have Da:Hid (f k=nx):=aa (e1.trans nQ);have dz:Hid ((bG q (k+1)).2=nx+1):=aa (by rw[e2,nQ])
    have jy:Hid (∀ y,0<=y->(if y=x then some nx else g y)=du key f (k+1) y):=aa (fun y hy=>by
     rw[if_neg (by omega),HG.out y hy];unfold du
     rw[show firstIx (k+1) (fun j=>decide (key j=y))=firstIx k (fun j=>decide (key j=y)) by
      rcases bD k (fun j=>decide (key j=y)) with ⟨e,h⟩|⟨j,hj,e,h,h'⟩
      ·rw[e,eC]
       intro j hj;by_cases ej:j=k
       ·subst ej;exact decide_eq_false (by omega)
       ·exact h j (by omega)
      ·rw[e];exact dF (k+1) j _ (by omega) h' h])
    clear e1 e2 sX nQ cS;cases AN:g x with
    | none=>
     rw[AN]at yF;clear AN;obtain⟨o,KD,rC⟩:=uy (mt:=245) (kt:=3) (vt:=3) Tryz.underlying245 Tryz.underlying3 HM.out x nx;have xa:=aa rC;clear rC hM;have kX:=HM.out.other;obtain⟨om,kX,sQ⟩:=kX;have FE:=aa (And.intro kX sQ);clear kX sQ;have df:=aa ((bL.out.ck (fun b o' fd kH=>(World.putObj_heap_other (fun e=>by subst e;rw[FE.out.1]at fd;cases fd;rw[FE.out.2]at kH;cases kH)).trans fd):aD (wr.putObj M o) w.heap.size 3 1 (.slice av k cv) k (lc k)).up (Below.refl _ _ |>.alloc (Nat.le_refl _) (.cells #[.int .i64 nx] 3)));have bB:=aa (by have h:=eA (wr.putObj M o) [.int .i64 nx] 3;rw[show (wr.putObj M o).heap.size=wr.heap.size by simp]at h;exact h);have y8:=aa (eE (D:=M) (o:=o) ST aR.out)
     go_wp2_with (at_builtin;(refine aZ _ rfl (.tmp 45) (.tmp 47) 38 rfl w.heap.size 3 i0 _ 1 8 Tryz.underlying38 cG cf bP cj rfl (by decide) _ k _ rfl df.out ⟨wr.heap.size,0,none⟩ 1 1 [.int .i64 nx] rfl rfl bB.out (by simp[Value.oneCell']) (by unfold maxLen;omega) (by omega) (by simp;omega) ?_;intro v' w2 fx dk _))
     go_roundw
     case rel=>
      refine⟨k+1,by omega,by go_num,eR y8.out (Nat.le_refl _) df.out dk,?_,?_,?_⟩
      ·rw[zc.out.2 k,Da.out];exact fx
      ·rw[dz.out]
      ·refine⟨_,_,xa.out.kept ?_,fun y hy=>?_⟩
       ·obtain⟨o3,h3,IU⟩:=xa.out.other
        rw[mB df.out dk h3 IU,h3]
       ·rw[jy.out y hy]
        try rw[HG.out y hy]
     case measure=>simp[intOf];omega
    | some z=>
     rw[AN]at yF;clear AN;obtain⟨o,KD,rC⟩:=uy (mt:=245) (kt:=3) (vt:=3) Tryz.underlying245 Tryz.underlying3 HM.out x nx;have xa:=aa rC;clear rC hM;have kX:=HM.out.other;obtain⟨om,kX,sQ⟩:=kX;have FE:=aa (And.intro kX sQ);clear kX sQ;have df:=aa ((bL.out.ck (fun b o' fd kH=>(World.putObj_heap_other (fun e=>by subst e;rw[FE.out.1]at fd;cases fd;rw[FE.out.2]at kH;cases kH)).trans fd):aD (wr.putObj M o) w.heap.size 3 1 (.slice av k cv) k (lc k)).up (Below.refl _ _ |>.alloc (Nat.le_refl _) (.cells #[.int .i64 nx] 3)));have bB:=aa (by have h:=eA (wr.putObj M o) [.int .i64 nx] 3;rw[show (wr.putObj M o).heap.size=wr.heap.size by simp]at h;exact h);have y8:=aa (eE (D:=M) (o:=o) ST aR.out)
     go_wp2_with (at_builtin;(refine aZ _ rfl (.tmp 45) (.tmp 47) 38 rfl w.heap.size 3 i0 _ 1 8 Tryz.underlying38 cG cf bP cj rfl (by decide) _ k _ rfl df.out ⟨wr.heap.size,0,none⟩ 1 1 [.int .i64 nx] rfl rfl bB.out (by simp[Value.oneCell']) (by unfold maxLen;omega) (by omega) (by simp;omega) ?_;intro v' w2 fx dk _))
     go_roundw
     case rel=>
      refine⟨k+1,by omega,by go_num,eR y8.out (Nat.le_refl _) df.out dk,?_,?_,?_⟩
      ·rw[zc.out.2 k,Da.out];exact fx
      ·rw[dz.out]
      ·refine⟨_,_,xa.out.kept ?_,fun y hy=>?_⟩
       ·obtain⟨o3,h3,IU⟩:=xa.out.other
        rw[mB df.out dk h3 IU,h3]
       ·rw[jy.out y hy]
        try rw[HG.out y hy]
     case measure=>simp[intOf];omega
   ·have Tr:decide (x<0)=false:=decide_eq_false hx
    have AN:=HG.out x (by omega);cases An:du key f k x with
    | none=>
     rw[AN,An]at yF
     obtain⟨e1,e2⟩:=Bk.out k az (by
      rw[sX.2 (by omega)];rw[<-cS];unfold du at An;rw[cS];split at An
      ·assumption
      ·cases An)
     have Da:Hid (f k=nx):=aa (e1.trans nQ);have dz:Hid ((bG q (k+1)).2=nx+1):=aa (by rw[e2,nQ])
     have jy:Hid (∀ y,0<=y->(if y=x then some nx else g y)=du key f (k+1) y):=aa (fun y hy=>by
      have h:=xG (key:=key) (f:=f) (k:=k) (by rw[cS];exact An) y;rw[cS,Da.out]at h
      rw[h,HG.out y hy])
     clear e1 e2 sX nQ cS An AN;obtain⟨o,KD,rC⟩:=uy (mt:=245) (kt:=3) (vt:=3) Tryz.underlying245 Tryz.underlying3 HM.out x nx;have xa:=aa rC;clear rC hM;have kX:=HM.out.other;obtain⟨om,kX,sQ⟩:=kX;have FE:=aa (And.intro kX sQ);clear kX sQ;have df:=aa ((bL.out.ck (fun b o' fd kH=>(World.putObj_heap_other (fun e=>by subst e;rw[FE.out.1]at fd;cases fd;rw[FE.out.2]at kH;cases kH)).trans fd):aD (wr.putObj M o) w.heap.size 3 1 (.slice av k cv) k (lc k)).up (Below.refl _ _ |>.alloc (Nat.le_refl _) (.cells #[.int .i64 nx] 3)));have bB:=aa (by have h:=eA (wr.putObj M o) [.int .i64 nx] 3;rw[show (wr.putObj M o).heap.size=wr.heap.size by simp]at h;exact h);have y8:=aa (eE (D:=M) (o:=o) ST aR.out)
     go_wp2_with (at_builtin;(refine aZ _ rfl (.tmp 45) (.tmp 47) 38 rfl w.heap.size 3 i0 _ 1 8 Tryz.underlying38 cG cf bP cj rfl (by decide) _ k _ rfl df.out ⟨wr.heap.size,0,none⟩ 1 1 [.int .i64 nx] rfl rfl bB.out (by simp[Value.oneCell']) (by unfold maxLen;omega) (by omega) (by simp;omega) ?_;intro v' w2 fx dk _))
     go_roundw
     case rel=>
      refine⟨k+1,by omega,by go_num,eR y8.out (Nat.le_refl _) df.out dk,?_,?_,?_⟩
      ·rw[zc.out.2 k,Da.out];exact fx
      ·rw[dz.out]
      ·refine⟨_,_,xa.out.kept ?_,fun y hy=>?_⟩
       ·obtain⟨o3,h3,IU⟩:=xa.out.other
        rw[mB df.out dk h3 IU,h3]
       ·rw[jy.out y hy]
        try rw[HG.out y hy]
     case measure=>simp[intOf];omega
    | some z=>
     rw[AN,An]at yF;obtain⟨j,hj,e3,e4,e5⟩:=qL An;obtain⟨e1,e2⟩:=yM.out k j az (by rw[sX.2 (by omega)];exact e3);have Da:Hid (f k=z):=aa (by rw[e1,e5]);have dz:Hid ((bG q (k+1)).2=nx):=aa (by rw[e2,nQ]);have jy:Hid (∀ y,du key f (k+1) y=du key f k y):=aa (xH (z:=z) (by rw[cS];exact An));clear e1 e2 e3 e4 e5 sX nQ cS An AN;clear hM;have df:=aa (bL.out.up (Below.refl _ _ |>.alloc (Nat.le_refl _) (.cells #[.int .i64 z] 3)));have bB:=aa (eA wr [.int .i64 z] 3)
     go_wp2_with (at_builtin;(refine aZ _ rfl (.tmp 45) (.tmp 47) 38 rfl w.heap.size 3 i0 _ 1 8 Tryz.underlying38 cG cf bP cj rfl (by decide) _ k _ rfl df.out ⟨wr.heap.size,0,none⟩ 1 1 [.int .i64 z] rfl rfl bB.out (by simp[Value.oneCell']) (by unfold maxLen;omega) (by omega) (by simp;omega) ?_;intro v' w2 fx dk _))
     go_roundw
     case rel=>
      refine⟨k+1,by omega,by go_num,eR aR.out (Nat.le_refl _) df.out dk,?_,?_,?_⟩
      ·rw[zc.out.2 k,Da.out];exact fx
      ·rw[dz.out]
      ·refine⟨_,_,HM.out.kept ?_,fun y hy=>?_⟩
       ·obtain⟨o3,h3,IU⟩:=HM.out.other
        rw[mB df.out dk h3 IU,h3]
       ·rw[HG.out y hy,jy.out y]
     case measure=>simp[intOf];omega
  ·obtain rfl:k=m:=by omega
   rw[jM.out]at bL;clear hM
   go_wp2_with fail
   go_ret
   exact⟨_,rfl,k8.out _ _ bL.out,aR.out⟩
theorem ki(l:List Int) (j:Nat) (h:j<l.length):(bJ l)[j]?=some (.int .i64 (l.getD j 0)):=by simp[bJ,h]
theorem x'(l:List Int) (j:Nat) (x:Int):(bJ l).setIfInBounds j (.int .i64 x)=bJ (l.set j x):=by
 unfold bJ;rw[List.map_set,List.setIfInBounds_toArray]
structure Only (B:Nat) (w w':World):Prop where
 os:w'.os=w.os
 tape:w'.tape=w.tape
 output:w'.output=w.output
 size:w'.heap.size=w.heap.size
 same:∀ k,k≠B->w'.heap[k]?=w.heap[k]?
theorem Only.refl(B:Nat) (w:World):Only B w w:=⟨rfl,rfl,rfl,rfl,fun _ _=>rfl⟩
theorem Only.trans{B:Nat} {a b c:World} (h:Only B a b) (k:Only B b c):Only B a c:=⟨k.os.trans h.os,k.tape.trans h.tape,k.output.trans h.output,k.size.trans h.size,fun i hi=>(k.same i hi).trans (h.same i hi)⟩
theorem Only.drew{B:Nat} {a b:World} (h:Only B a b):Only B a b.drew:=⟨h.os,h.tape,h.output,h.size,h.same⟩
theorem Only.setCell{B:Nat} {a b:World} (h:Only B a b) (o:Nat) (v:Value):Only B a (b.setCell ⟨B,o,none⟩ v):=
 ⟨h.os,h.tape,h.output,by simpa using h.size,fun k hk=>(Below.heap_setCell _ _ _ _ hk).trans (h.same k hk)⟩
theorem Only.below{B n:Nat} {w a b:World} (h:Only B a b) (hb:Below n w a) (hn:n<=B):Below n w b:=
 ⟨h.os.trans hb.os,h.tape.trans hb.tape,h.output.trans hb.output,by rw[h.size];exact hb.size,fun k hk=>(h.same k (by omega)).trans (hb.block k hk)⟩
theorem yg(n bx B:Nat) (P:List Int) (hP:Par n P) (i:Nat) (hi:i<n) (w:World) (bM:bx≠B) (h1:w.heap[bx]?=some (.cells #[.slice (some ⟨B,0,none⟩) n n] 38)) (h2:w.heap[B]?=some (.cells (bJ P) 3)) :
  Calls Tryz.prog 175 #[.int .i64 i,.pointer (some ⟨bx,0,none⟩)] w fun e w'=>e=.returned (.int .i64 (rootN P i))/\Only B w w'/\∃ P',w'.heap[B]?=some (.cells (bJ P') 3)/\Par n P'/\∀ j,j<n->rootN P' j=rootN P j:=by
 have H1:=aa h1;have H2:=aa h2;have HP:=aa hP;clear h1 h2 hP
 go_enter Tryz.func175,Tryz.ntmps175
 go_wp2_with fail
 go_loopw [0] (fun x wr=>∃ (j:Nat) (Q:List Int),x=.int .i64 j/\j<n/\Only B w wr/\wr.heap[B]?=some (.cells (bJ Q) 3)/\Par n Q/\(∀ j,j<n->rootN Q j=rootN P j)/\rootN P j=rootN P i) (fun x _=>(intOf x).toNat)
 case atStart=>exact⟨i,P,rfl,hi,Only.refl _ _,H2.out,HP.out,fun _ _=>rfl,rfl⟩
 case round=>
  obtain⟨j,Q,rfl,hj,ho,hB,hQ,hr,pW⟩:=hrel;have kF:wr.heap[bx]?=_:=(ho.same bx bM).trans H1.out;have tx:=ab kF 0;simp at tx;obtain⟨a0,a1⟩:=hQ.le j hj;obtain⟨A,hA⟩:∃ A:Nat,Q.getD j 0=A:=⟨(Q.getD j 0).toNat,by omega⟩;have hl:=hQ.len;have t1:=ab hB j;rw[ki _ _ (by omega),hA]at t1;have HO:=aa ho;have HB:=aa hB;have HQ:=aa hQ;have HR:=aa hr;have HJ:=aa pW;have HA:=aa hA;clear ho hQ hr pW kF;by_cases hd:A=j
  ·subst hd
   clear hB;have k8:Hid (rootN P i=A):=aa (by rw[<-HJ.out,<-HR.out A hj];exact mV HA.out)
   go_wp2_with fail
   go_ret
   exact⟨by rw[k8.out];rfl,HO.out,Q,HB.out,HQ.out,HR.out⟩
  ·have KV:((A:Int) != (j:Int))=true:=by simp;omega
   have hAn:A<n:=by omega
   obtain⟨b0,b1⟩:=HQ.out.le A hAn;obtain⟨C,hC⟩:∃ C:Nat,Q.getD A 0=C:=⟨(Q.getD A 0).toNat,by omega⟩;have hCA:C<=A:=by omega
   have hAj:A<j:=by have:=HA.out;omega
   have t2:=ab hB A;rw[ki _ _ (by omega),hC]at t2;have zq:=aE hB j;have HC:=aa hC
   have kT:(wr.drew.setCell ⟨B,j,none⟩ (.int .i64 C)).heap[B]?=some (.cells (bJ (Q.set j C)) 3):=by
    rw[aF (W:=wr.drew) hB,x']
   have t3:=ab kT j;rw[ki _ _ (by simp;omega),ip _ _ _ _ _ (by omega),if_pos rfl]at t3;have hbx2:(wr.drew.setCell ⟨B,j,none⟩ (.int .i64 C)).heap[bx]?=_:=((HO.out.drew.setCell j (.int .i64 C)).same bx bM).trans H1.out;have tx2:=ab hbx2 0;simp at tx2;have HS:=aa kT;clear kT hbx2 hC hA hB
   go_wp2_with fail
   go_still_tail 10,(by kernel_rfl)
   change wpList _ _ _ _ _ wr.drew
   go_wp2_with fail
   go_roundw
   case rel=>
    have hh:=Nu HQ.out j hj;rw[HA.out,Int.toNat_natCast,HC.out]at hh;refine⟨C,Q.set j C,rfl,by omega,HO.out.drew.setCell j _,HS.out,hh.1,fun x hx=>(hh.2 x hx).trans (HR.out x hx),?_⟩;have e1:=mx HQ.out j hj;have e2:=mx HQ.out A hAn;rw[HA.out,Int.toNat_natCast]at e1;rw[HC.out,Int.toNat_natCast]at e2;rw[<-HR.out C (by omega),e2,e1,HR.out j hj];exact HJ.out
   case measure=>simp[intOf];omega
theorem Uni.same{a b:List Int} {n:Nat} {P Q:List Int} (h:Uni a b n P) (hq:Par n Q) (hr:∀ j,j<n->rootN Q j=rootN P j):Uni a b n Q:=⟨hq,fun i hi=>by rw[hr i hi];exact h.wr i hi⟩
theorem QV{a b l:List Int} {n m j p q:Nat} {P Q Q3:List Int} (hU:Uni a b n Q) (h3:Par n Q3) (hr:∀ i,i<n->rootN Q3 i=rootN Q i) (Jt:ji n P Q) (hD:fk l n m Q) (hm:m<n) (hj:j<m) (e:l.getD j 0=l.getD m 0) (hjq:fQ a b m j=true) (hp:rootN Q m=p) (hq:rootN Q j=q) :
  Uni a b n (Q3.set (max p q) (min p q:Nat))/\ji n P (Q3.set (max p q) (min p q:Nat))/\fk l n (m+1) (Q3.set (max p q) (min p q:Nat)):=by
 have hU3:=hU.same h3 hr;have hu:=hU3.union m j hm (by omega) hjq;have e1:rootN Q3 m=p:=(hr m hm).trans hp;have e2:rootN Q3 j=q:=(hr j (by omega)).trans hq;rw[e1,e2]at hu;have k1:ji n Q (Q3.set (max p q) (min p q:Nat)):=(JH hr).trans (JI hu.2);refine⟨hu.1,Jt.trans k1,hD.join hm hj e k1 ?_⟩;rw[hu.2 m hm,hu.2 j (by omega),e1,e2];rcases Nat.le_total p q with h|h
 ·rw[Nat.max_eq_right h,Nat.min_eq_left h];split<;>simp
 ·rw[Nat.max_eq_left h,Nat.min_eq_right h];simp
theorem Or{a b:List Int} {qa qb:Option Addr} {n ca cb j:Nat} {w:World} {P:List Int} (hj:j<2) (ha:aY w (.slice qa n ca) a) (hb:aY w (.slice qb n cb) b) (yP:a.length=n) (iz:b.length=n) (h1:1<=j->fk a n n P) :
  ∃ (l:List Int) (ql:Option Addr) (cl:Nat),(#[Value.slice qa n ca,Value.slice qb n cb])[j]?=some (.slice ql n cl)/\aY w (.slice ql n cl) l/\l.length=n/\(∀ i k,l.getD i 0=l.getD k 0->fQ a b i k=true)/\∀ Q,fk l n n Q->ji n P Q->(1<=j+1->fk a n n Q)/\(2<=j+1->fk b n n Q):=by
 by_cases e:j=0
 ·subst e
  exact⟨a,qa,ca,rfl,ha,yP,fun i k h=>by unfold fQ;rw[decide_eq_true h];rfl,fun Q h _=>⟨fun _=>h,fun h'=>by omega⟩⟩
 ·obtain rfl:j=1:=by omega
  exact⟨b,qb,cb,rfl,hb,iz,fun i k h=>by unfold fQ;rw[decide_eq_true h,Bool.or_true],fun Q h k=>⟨fun _=>(h1 (by omega)).keep k,fun _=>h⟩⟩
theorem Ot(va vb:Value) (a b:List Int) (w:World) (ha:aY w va a) (hb:aY w vb b) (pa:lK a) (pb:lK b) (hl:b.length=a.length) (hn:a.length<=256) :
  Calls Tryz.prog 130 #[va,vb] w fun e w'=>∃ u,e=.returned (.tuple #[u,.int .i64 0])/\aY w' u (qI a b)/\Below w.heap.size w w':=by
 have HA:=aa ha;have HB:=aa hb;have PA:=aa pa;have PB:=aa pb;obtain⟨n,yP⟩:∃ n,a.length=n:=⟨_,rfl⟩;have iz:b.length=n:=hl.trans yP;obtain⟨qa,ca,rfl,_⟩:=ha.at;obtain⟨qb,cb,rfl,_⟩:=hb.at;have HC:=aa (Oo _ _ a b w HA.out HB.out PA.out PB.out hl (by omega));have Gf:n<=256:=by omega
 rw[yP]at HA HC ⊢;rw[iz]at HB HC ⊢;clear ha hb hl pa pb hn;have HNA:=aa yP;have AM:=aa iz;clear yP iz;obtain⟨f,hf⟩:∃ f:Nat->Int,f=fun i:Nat=>(i:Int):=⟨_,rfl⟩
 have Cz:Hid (∀ i,f i=(i:Int)):=aa fun i=>by rw[hf]
 clear hf;have gL:=kO f n Gf;have eg:=enters_of Tryz.func175 (by kernel_rfl) rfl
 go_enter Tryz.func130,Tryz.ntmps130
 go_wp2_with fail
 refine HC.out.mono ?_;rintro e w1 ⟨rfl,aG⟩
 go_wp2_with fail
 clear gL
 refine bj (fun W=>Below w.heap.size w W/\W.heap[w1.heap.size]?=some (.cells (fC n f 0) 3)/\W.heap[w1.heap.size+1]?=some (.cells #[.slice (some ⟨w1.heap.size,0,none⟩) n n] 38))
  ⟨ae aG (by go_grown),am _ (ak _ _),ba _ _ _⟩ (fun W0 aW=>?_)
 obtain⟨aC,gS,uQ⟩:=aW;have hBw:=aG.size;generalize w1.heap.size=B at gS uQ hBw;clear aG w1;have iA:=aa (And.intro aC (And.intro gS uQ));have tx0:=ab uQ 0;simp at tx0;clear aC gS uQ
 go_wp2_with fail
 clear tx0
 go_loopw [32] (fun i wr=>∃ k:Nat,k<=n/\i=.int .i64 k/\Below w.heap.size w wr/\wr.heap[B]?=some (.cells (fC n f k) 3)/\wr.heap[B+1]?=some (.cells #[.slice (some ⟨B,0,none⟩) n n] 38)) (fun i _=>n - (intOf i).toNat)
 case atStart=>exact⟨0,by omega,rfl,iA.out.1,iA.out.2.1,iA.out.2.2⟩
 case round=>
  clear iA;obtain⟨k,hk,rfl,aq,hO,hX⟩:=hrel;have tx:=ab hX 0;simp at tx;have eK:=ar hX;by_cases az:k<n
  ·have tq:=ab hO k
   rw[mZ _ _ _ _ az]at tq;have zq:=aE hO k;have HO:=aa hO;have HX:=aa hX;have aR:=aa aq;clear hO hX aq
   go_wp2_with fail
   go_roundw
   case rel=>exact⟨k+1,by omega,by go_num,aR.out.setCell (by dsimp only;omega) _,by rw[aF HO.out,<-Cz.out k,xN _ _ _ az],aH HX.out (by omega) _ _⟩
   case measure=>simp[intOf];omega
  obtain rfl:k=n:=by omega
  clear tx;have qr:=hO;rw[q7]at qr;have hU:=Uni.start a b k
  have HU:Hid (Uni a b k ((List.range k).map f)):=aa (by
   have e:(List.range k).map f=(List.range k).map fun i:Nat=>(i:Int):=List.map_congr_left fun i _=>Cz.out i
   rw[e];exact hU)
  have HO:=aa qr;have HX:=aa hX;have aR:=aa aq;clear hO qr hX aq hU;have mn:=aR.out.size
  go_wp2_with fail
  refine bj (fun W=>Below w.heap.size w W/\W.heap[wr.heap.size]?=some (.cells #[.slice qa k ca,.slice qb k cb] 38)/\W.heap[B+1]?=some (.cells #[.slice (some ⟨B,0,none⟩) k k] 38)/\W.heap[B]?=some (.cells (bJ ((List.range k).map f)) 3)) ⟨aR.out.alloc mn _,ak _ _,am _ HX.out,am _ HO.out⟩ (fun W1 cC=>?_);have hLB:=eK;generalize wr.heap.size=L at cC mn hLB;have gc:=aa cC;clear cC HO HX aR eK wr W0
  go_loopw [45] (fun i wr=>∃ (j:Nat) (P:List Int),j<=2/\i=.int .i64 j/\Below w.heap.size w wr/\wr.heap[L]?=some (.cells #[.slice qa k ca,.slice qb k cb] 38)/\wr.heap[B+1]?=some (.cells #[.slice (some ⟨B,0,none⟩) k k] 38)/\wr.heap[B]?=some (.cells (bJ P) 3)/\Uni a b k P/\(1<=j->fk a k k P)/\(2<=j->fk b k k P)) (fun i _=>2 - (intOf i).toNat)
  case atStart=>exact⟨0,_,by omega,rfl,gc.out.1,gc.out.2.1,gc.out.2.2.1,gc.out.2.2.2,HU.out,fun h=>by omega,fun h=>by omega⟩
  case round=>
   clear gc HU;obtain⟨j,P,hj,rfl,aq,hL,hX,hO,hU,T1,Fd⟩:=hrel;by_cases az:j<2
   ·obtain⟨l,ql,cl,sM,yU,Fj,hp4,II⟩:=Or az HA.out HB.out HNA.out AM.out T1
    have tL:=ab hL j;rw[sM]at tL;have CT:=@F' Tryz.prog;have P7:=aa yU;have Xn:=aa Fj;have HP4:=aa hp4;have HP5:=aa II;have HL:=aa hL;have HX:=aa hX;have HO:=aa hO;have HU:=aa hU;have aR:=aa aq;have MC:=ar hL;have DW:=aq.size;clear sM yU Fj hp4 II hL hX hO hU aq T1 Fd
    go_wp2_with fail
    clear CT tL;obtain⟨key,qf⟩:∃ key:Nat->Int,key=fun i=>l.getD i 0:=⟨_,rfl⟩
    have HK:Hid (∀ i,key i=l.getD i 0):=aa fun i=>by rw[qf]
    clear qf;refine bj (fun W=>Below w.heap.size w W/\W.heap[L]?=some (.cells #[.slice qa k ca,.slice qb k cb] 38)/\W.heap[B+1]?=some (.cells #[.slice (some ⟨B,0,none⟩) k k] 38)/\W.heap[B]?=some (.cells (bJ P) 3)/\dd W wr.heap.size (du key f 0) 0) ⟨aR.out.alloc DW _,am _ HL.out,am _ HX.out,am _ HO.out,dd.new wr⟩ (fun W2 eF=>?_);have hML:=MC;generalize wr.heap.size=M at eF hML DW;have cD:=aa eF;clear eF HL HX HO aR MC wr;have hd:decide ((j:Int)<2)=true:=decide_eq_true (by omega);simp only[hd];clear hd
    go_loopw [52] (fun i wr=>∃ (m:Nat) (Q:List Int),m<=k/\i=.int .i64 m/\Below w.heap.size w wr/\wr.heap[L]?=some (.cells #[.slice qa k ca,.slice qb k cb] 38)/\wr.heap[B+1]?=some (.cells #[.slice (some ⟨B,0,none⟩) k k] 38)/\wr.heap[B]?=some (.cells (bJ Q) 3)/\Uni a b k Q/\ji k P Q/\fk l k m Q/\∃ c,dd wr M (du key f m) c) (fun i _=>k - (intOf i).toNat)
    case atStart=>exact⟨0,P,by omega,rfl,cD.out.1,cD.out.2.1,cD.out.2.2.1,cD.out.2.2.2.1,HU.out,ji.refl _ _,fun i _ _ _ h=>by omega,0,cD.out.2.2.2.2⟩
    case round=>
     clear cD;obtain⟨m,Q,hm,rfl,aq,hL,hX,hO,SR,Jt,P3,c,hM⟩:=hrel;have HL:=aa hL;have HX:=aa hX;have HO:=aa hO;have XA:=aa SR;have aR:=aa aq;have HPQ:=aa Jt;have HDQ:=aa P3;have hszM:=hM.lt;have hszr2:=aq.size;by_cases gL:m<k
     ·have lC:m<l.length:=by have:=Xn.out;omega
      obtain⟨ql',cl',e',_,_,ep⟩:=P7.out.at;injection e' with e1 e2 e3
      subst e1;clear e2 e3;obtain⟨b1,o1,rfl,h1⟩:=ep m lC;rw[Nat.mul_one]at h1;have c1:=ai aq h1.1;have nM:key m=l[m]:=(HK.out m).trans (ap 0 lC);clear h1 ep;generalize l[m]=x at c1 nM;clear lC;have yF:=DI (mt:=245) (kt:=3) (vt:=3) Tryz.underlying245 Tryz.underlying3 (fun w=>by kernel_rfl) hM x;have mH:=aa nM;have HM:=aa hM;cases hs:du key f m x with
      | none=>
       rw[hs]at yF;obtain⟨o,KD,rC⟩:=uy (mt:=245) (kt:=3) (vt:=3) Tryz.underlying245 Tryz.underlying3 hM x (m:Int);have xa:=aa rC
       have Bk:Hid (∀ y,du key f (m+1) y=if y=x then some (m:Int) else du key f m y):=aa (by
        have:=xG (key:=key) (f:=f) (k:=m) (by rw[nM];exact hs);rw[nM,Cz.out m]at this
        exact this)
       have uR:Hid (∀ k,k<m->l.getD k 0≠l.getD m 0):=aa (fun k hk=>by
        have:=BB.1 hs k hk;rw[HK.out k]at this
        rw[<-HK.out m,nM];exact this)
       clear rC hM hL hX hO SR Jt P3 hs nM aq
       go_wp2_with fail
       go_roundw
       case rel=>exact⟨m+1,Q,by omega,by go_num,eE (by omega) aR.out,(World.putObj_heap_other (by omega)).trans HL.out,(World.putObj_heap_other (by omega)).trans HX.out,(World.putObj_heap_other (by omega)).trans HO.out,XA.out,HPQ.out,HDQ.out.fresh uR.out,_,xa.out.congr (fun y=>(Bk.out y).symm) rfl⟩
       case measure=>simp[intOf];omega
      | some z=>
       rw[hs]at yF;have yM:Hid (∀ y,du key f (m+1) y=du key f m y):=aa (xH (z:=z) (by rw[nM];exact hs));obtain⟨i,hi,_,e2,e3⟩:=qL hs;rw[Cz.out i]at e3;subst e3;have HE:Hid (l.getD i 0=l.getD m 0):=aa (by rw[<-HK.out i,<-HK.out m,e2,nM]);have jw:i<k:=by omega
       clear hM hL hX hO SR Jt P3 hs nM aq e2
       go_wp2_with fail
       refine(yg k (B+1) B Q XA.out.par m gL wr (by omega) HX.out HO.out).mono ?_;rintro e w2 ⟨rfl,rh,Q2,qr,CC,KE⟩;have eU:=aa rh;have lA:=aa qr;have MZ:=aa CC;have dE:=aa KE;clear rh qr CC KE;obtain⟨p,hp⟩:∃ p,rootN Q m=p:=⟨_,rfl⟩;rw[hp];have sh:p<k:=by rw[<-hp];exact qZ gL
       have HP:=aa hp;clear hp yF
       go_wp2_with fail
       refine(yg k (B+1) B Q2 MZ.out i jw w2 (by omega) ((eU.out.same _ (by omega)).trans HX.out) lA.out).mono ?_;rintro e w3 ⟨rfl,ho3,Q3,hO3,M5,KJ⟩;obtain⟨q,hq⟩:∃ q,rootN Q2 i=q:=⟨_,rfl⟩;rw[hq];have Xi:q<k:=by rw[<-hq];exact qZ jw
       have ho:=eU.out.trans ho3;have dC:=fun e=>QV (l:=l) (m:=m) (j:=i) XA.out M5 (fun x hx=>(KJ x hx).trans (dE.out x hx)) HPQ.out HDQ.out gL hi e (HP4.out m i HE.out.symm) HP.out ((dE.out i jw).symm.trans hq)
       have fE:=aa (dC HE.out);have uF:=aa (And.intro ((ho.same _ (by omega)).trans HL.out) (And.intro ((ho.same _ (by omega)).trans HX.out) (HM.out.kept (ho.same M (by omega)))));have dP:=aa (ho.below aR.out (by omega));have yy:=aa hO3;have sN:=M5.len;have tx:=ab uF.out.2.1 0;simp at tx;have WZ:=aa sN;clear ho3 hO3 M5 KJ hq ho dC sN
       have MJ:∀ qo lo:Nat,qo=max p q->lo=min p q->∃ (m':Nat) (Q':List Int),m'<=k/\Value.int .i64 ((m:Int)+1)=.int .i64 m'/\Below w.heap.size w (w3.setCell ⟨B,qo,none⟩ (.int .i64 lo))/\(w3.setCell ⟨B,qo,none⟩ (.int .i64 lo)).heap[L]?=some (.cells #[.slice qa k ca,.slice qb k cb] 38)/\(w3.setCell ⟨B,qo,none⟩ (.int .i64 lo)).heap[B+1]?=some (.cells #[.slice (some ⟨B,0,none⟩) k k] 38)/\(w3.setCell ⟨B,qo,none⟩ (.int .i64 lo)).heap[B]?=some (.cells (bJ Q') 3)/\Uni a b k Q'/\ji k P Q'/\fk l k m' Q'/\∃ c,dd (w3.setCell ⟨B,qo,none⟩ (.int .i64 lo)) M (du key f m') c:=by
        rintro qo lo rfl rfl;exact⟨m+1,_,by omega,by go_num,dP.out.setCell (by dsimp only;omega) _,aH uF.out.1 (by omega) _ _,aH uF.out.2.1 (by omega) _ _,by rw[aF yy.out,x'],fE.out.1,fE.out.2.1,fE.out.2.2,c,(uF.out.2.2.kept (Below.heap_setCell _ _ _ _ (by dsimp only;omega))).congr (fun y=>(yM.out y).symm) rfl⟩
       have k8:=aa MJ;clear MJ;rcases Nat.lt_trichotomy p q with KM|KM|KM
       ·have tq:=ab yy.out q
        rw[ki _ _ (by have:=WZ.out;omega)]at tq;have zq:=aE yy.out q;have hpq':¬ (q:Int)<p:=by omega
        have Pq:max (p:Int) (q:Int)=(q:Int):=Int.max_eq_right (by omega);have uY:min (p:Int) (q:Int)=(p:Int):=Int.min_eq_left (by omega)
        go_wp2_with fail
        go_roundw
        case rel=>exact k8.out q p (by omega) (by omega)
        case measure=>simp[intOf];omega
       ·subst KM
        have tq:=ab yy.out p;rw[ki _ _ (by have:=WZ.out;omega)]at tq;have zq:=aE yy.out p
        go_wp2_with fail
        go_roundw
        case rel=>exact k8.out p p (by omega) (by omega)
        case measure=>simp[intOf];omega
       ·have tq:=ab yy.out p
        rw[ki _ _ (by have:=WZ.out;omega)]at tq;have zq:=aE yy.out p;have hpq':¬ (p:Int)<q:=by omega
        have Pq:max (p:Int) (q:Int)=(p:Int):=Int.max_eq_left (by omega);have uY:min (p:Int) (q:Int)=(q:Int):=Int.min_eq_right (by omega)
        go_wp2_with fail
        go_roundw
        case rel=>exact k8.out p q (by omega) (by omega)
        case measure=>simp[intOf];omega
     ·obtain rfl:m=k:=by omega
      clear hM
      go_wp2_with fail
      go_roundw
      case rel=>exact⟨j+1,Q,by omega,by go_num,aq,hL,hX,hO,SR,(HP5.out Q P3 Jt).1,(HP5.out Q P3 Jt).2⟩
      case measure=>simp[intOf];omega
   ·obtain rfl:j=2:=by omega
    have HX:=aa hX;have HO:=aa hO;have HU:=aa hU;have aR:=aa aq;have pP:=aa (T1 (by omega));have PT:=aa (Fd (by omega));have MC:=ar hL;have DW:=aq.size;clear hL hX hO hU aq T1 Fd;obtain⟨f2,sA⟩:∃ f2:Nat->Int,f2=fun i:Nat=>(rootN P i:Int):=⟨_,rfl⟩
    have wI:Hid (∀ i,f2 i=(rootN P i:Int)):=aa fun i=>by rw[sA]
    have HJ:Hid (qX ((List.range k).map f2)=qI a b):=aa (by rw[sA];exact Qr HNA.out HU.out pP.out PT.out);clear sA;have gL:=kO f2 k Gf
    go_wp2_with fail
    clear gL;refine bj (fun W=>Below w.heap.size w W/\W.heap[B+1]?=some (.cells #[.slice (some ⟨B,0,none⟩) k k] 38)/\W.heap[B]?=some (.cells (bJ P) 3)/\W.heap[wr.heap.size]?=some (.cells (fC k f2 0) 3)) ⟨aR.out.alloc DW _,am _ HX.out,am _ HO.out,ak _ _⟩ (fun W2 eF=>?_);generalize wr.heap.size=R at eF MC DW;have cD:=aa eF;clear eF HX HO aR wr
    go_loopw [88] (fun i wr=>∃ (m:Nat) (Q:List Int),m<=k/\i=.int .i64 m/\Below w.heap.size w wr/\wr.heap[B+1]?=some (.cells #[.slice (some ⟨B,0,none⟩) k k] 38)/\wr.heap[B]?=some (.cells (bJ Q) 3)/\Par k Q/\(∀ i,i<k->rootN Q i=rootN P i)/\wr.heap[R]?=some (.cells (fC k f2 m) 3)) (fun i _=>k - (intOf i).toNat)
    case atStart=>exact⟨0,P,by omega,rfl,cD.out.1,cD.out.2.1,cD.out.2.2.1,HU.out.par,fun _ _=>rfl,cD.out.2.2.2⟩
    case round=>
     clear cD;obtain⟨m,Q,hm,rfl,aq,hX,hO,hQ,hr,hR⟩:=hrel;by_cases gL:m<k
     ·have HR:=aa hR;have HX:=aa hX;have HO:=aa hO;have aR:=aa aq;have wZ:=aa hr
      have FH:Hid (rootN Q m=rootN P m):=aa (hr m gL);have hc:=yg k (B+1) B Q hQ m gL wr (by omega) hX hO;rw[FH.out]at hc;have HC:=aa hc;have HV:=aa (wI.out m);clear hR hX hO aq hr hQ hc;generalize rootN P m=p at HC HV FH
      go_wp2_with fail
      refine HC.out.mono ?_;rintro e w2 ⟨rfl,rh,Q2,qr,CC,KE⟩;have cB:=aa (rh.below aR.out (by omega));have fB:=aa ((rh.same _ (by omega)).trans HX.out);have lV:=(rh.same R (by omega)).trans HR.out;have dE:=aa lV;have tq:=ab lV m;rw[mZ _ _ _ _ gL]at tq;have zq:=aE lV m;have eU:=aa qr;have MZ:=aa CC;have Lh:=aa KE;clear rh qr CC KE lV
      go_wp2_with fail
      go_roundw
      case rel=>(repeat apply Exists.intro);refine⟨?_,rfl⟩;exact⟨m+1,Q2,by omega,by go_num,cB.out.setCell (by dsimp only;omega) _,aH fB.out (by omega) _ _,aH eU.out (by omega) _ _,MZ.out,fun i hi=>(Lh.out i hi).trans (wZ.out i hi),by rw[aF dE.out,<-xN _ _ _ gL,HV.out]⟩
      case measure=>simp[intOf];omega
     ·obtain rfl:m=k:=by omega
      rw[q7]at hR
      have HRI:Hid (aY wr (.slice (some ⟨R,0,none⟩) m m) ((List.range m).map f2)):=aa (vK (by simp) Gf hR fun i hi=>by
       rw[show ((List.range m).map f2).getD i 0=f2 i by simp at hi;simp[hi],wI.out];have:=Gy P i;simp at hi
       exact⟨by omega,by omega⟩)
      have aR:=aa aq;clear hR hX hO hQ hr aq
      go_wp2_with fail
      refine(JW _ _ wr HRI.out (by simpa using Gf)).mono ?_;rintro e w2 ⟨u,rfl,hu,aV⟩;rw[HJ.out]at hu;have KW:=aa hu;obtain⟨_,_,rfl,_⟩:=hu.at;clear hu
      go_wp2_with fail
      go_ret2
      exact⟨_,rfl,KW.out,ae aR.out aV⟩
end Go.Proofs.YtmeaoneaephjeaaGreatDoor
