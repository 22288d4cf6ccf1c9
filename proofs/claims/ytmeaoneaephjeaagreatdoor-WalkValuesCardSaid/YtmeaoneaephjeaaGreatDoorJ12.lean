/-
  A part of the proof: lemmas and contracts that the parts behind it use. Each one's conditions are its own premises.
-/
import Derived.Test.YtmeaoneaephjeaaGreatDoorJ11
set_option maxRecDepth 100000
set_option maxHeartbeats 8000000
set_option linter.unusedVariables false
set_option linter.unusedSimpArgs false
namespace Go.Proofs.YtmeaoneaephjeaaGreatDoor
open Go.RowKit Go Go.Shelf
attribute [local go_sem] Oper.semAt_some
def XB(vr:List Lk × Bool × Int) (r:Ending) (w':World):Prop:=∃ u,r=.returned (.tuple #[.agg (gm (if vr.2.1 then 1 else 0) u),.bool vr.2.1,.int .i64 vr.2.2])/\bH w' u vr.1
theorem kS(tmps:Array Value) (B:Nat) (W:World) (k e:Int) (ok:Bool) (u:Value) (h2:tmps[2]?.getD undef=.pointer (some ⟨B,0,none⟩)) (h3:tmps[3]?.getD undef=.pointer (some ⟨B+1,0,none⟩)) (h4:tmps[4]?.getD undef=.pointer (some ⟨B+1+1,0,none⟩))
  (hB:W.heap[B]?=some (.cells (gm k u) 58)) (hC:W.heap[B+1]?=some (.cells #[.bool ok] 4)) (hD:W.heap[B+1+1]?=some (.cells #[.int .i64 e] 39)):(results Tryz.f18 tmps).run Tryz.prog W=.ok (.tuple #[.agg (gm k u),.bool ok,.int .i64 e]) W:=by
 have t2:=ab hB;have t3:=ab hC 0;have t4:=ab hD 0;simp at t3 t4;simp[results,Tryz.results18,go_sem,h2,h3,h4,t2,t3,t4]
theorem nz{W:World} {B:Nat} {k e e':Int} {ok ok':Bool} {u:Value} (hB:W.heap[B]?=some (.cells (gm k u) 58)) (hC:W.heap[B+1]?=some (.cells #[.bool ok'] 4)) (hD:W.heap[B+1+1]?=some (.cells #[.int .i64 e'] 39)) :
  ((W.setCell ⟨B+1,0,none⟩ (.bool ok)).setCell ⟨B+1+1,0,none⟩ (.int .i64 e)).heap[B]?=some (.cells (gm k u) 58)/\((W.setCell ⟨B+1,0,none⟩ (.bool ok)).setCell ⟨B+1+1,0,none⟩ (.int .i64 e)).heap[B+1]?=some (.cells #[.bool ok] 4)/\((W.setCell ⟨B+1,0,none⟩ (.bool ok)).setCell ⟨B+1+1,0,none⟩ (.int .i64 e)).heap[B+1+1]?=some (.cells #[.int .i64 e] 39):=
 ⟨aJ (aJ hB (by omega) _ _) (by omega) _ _,aJ (aF hC _ _) (by omega) _ _,aF (aJ hD (by omega) _ _) _ _⟩
theorem xQ(w:World):bH w (.slice none 0 0) []:=⟨none,0,rfl,⟨by simp,by omega,fun _=>rfl⟩,by simp,fun i x hx=>by simp at hx⟩
theorem sD{w w':World} {v:Value} {l:List Lk} (h:bH w v l) (hk:∀ b,v.ownBlock=some b->w'.heap[b]?=w.heap[b]?):bH w' v l:=by
 cases hl:l with
 | nil=>
  subst hl;obtain⟨a,c,e,h1,h2,_⟩:=h;exact⟨a,c,e,h1,h2,fun i x hx=>by simp at hx⟩
 | cons y r=>
  obtain⟨a,c,e,_,_,h3⟩:=h.at;obtain⟨b,o,rfl,_⟩:=h3 0 (by rw[hl];simp);subst e;rw[<-hl];exact jX h (hk b rfl)
def DL(u0 b8:Nat) (l:List Lk) (T:Nat->Prop) (A:World):Prop:=∃ v,A.heap[b8]?=some (.cells (gm 1 v) 58)/\aG A u0 75 2 v l.length (cK l)/\∀ g,v.ownBlock=some g->¬ T g
theorem DL.ch{u0 b8:Nat} {l:List Lk} {T T':Nat->Prop} {A A':World} (h:DL u0 b8 l T A) (hb:b8<u0) (hc:ChT u0 T A A') (hw:gx A A' T T'):DL u0 b8 l T' A':=by
 obtain⟨v,h1,h2,h3⟩:=h;refine⟨v,(hc.low _ hb).trans h1,h2.keep fun g o hg ho=>?_,fun g hg ht=>?_⟩
 ·have eB:o.isCells=true:=by
   rcases h2.2 with ⟨e,_⟩|⟨g',_,_,_,e,_,e2,_⟩
   ·rw[e]at hg;cases hg
   ·rw[e]at hg
    injection hg with hg
    subst hg;rw[e2]at ho;injection ho with ho
    subst ho;rfl
  exact hc.same g o ho eB (h3 g hg)
 ·rcases hw.2 g ht with h5|h5
  ·exact h3 g hg h5
  ·have:=(h2.lt g hg).2;omega
structure FdI (s:Sys) (w4:World) (u0 b8:Nat) (way:List Lk) (i:Nat) (T:Nat->Prop) (A:World):Prop where
 old:Below w4.heap.size w4 A
 sz:u0<=A.heap.size
 out:DL u0 b8 (way.take i) T A
 left:A.heap[b8+1]?=some (.cells #[.int .i64 (comM s (cC (way.take i)):Nat)] 3)
 no:∀ j,j<i->eZ s (way.take (j+1))=false
 le:i<=4096
 len:(way.take i).length=i
 tb:∀ k,T k->k<A.heap.size
theorem FdI.ch{s:Sys} {w4:World} {u0 b8 i:Nat} {way:List Lk} {T T':Nat->Prop} {A A':World} (h:FdI s w4 u0 b8 way i T A) (h4:w4.heap.size<=u0) (hb:b8+1<u0) (hc:ChT u0 T A A') (hw:gx A A' T T'):FdI s w4 u0 b8 way i T' A':=
 ⟨hc.below h4 h.old,Nat.le_trans h.sz hc.size,h.out.ch (by omega) hc hw,(hc.low _ (by omega)).trans h.left,h.no,h.le,h.len,fun k hk=>by
  rcases hw.2 k hk with h1|h1
  ·exact Nat.lt_of_lt_of_le (h.tb k h1) hc.size
  ·exact h1.2⟩
structure FdX (w4:World) (u0 b8:Nat) (F:List Lk) (T:Nat->Prop) (A:World):Prop where
 old:Below w4.heap.size w4 A
 sz:u0<=A.heap.size
 out:DL u0 b8 F T A
 le:F.length<=4096
structure FdY (w:World) (F:List Lk) (A:World):Prop where
 old:Below w.heap.size w A
 r2:A.heap[w.heap.size+1]?=some (.cells (gm 0 (.slice none 0 0)) 58)
 r3:A.heap[w.heap.size+1+1]?=some (.cells #[.bool false] 4)
 r4:A.heap[w.heap.size+1+1+1]?=some (.cells #[.int .i64 17] 39)
 lt:4096<F.length
theorem OW(s:Sys) (hE:eS s<=256) (vc vs vt ve:Value) (w:World) (hT:ij w) (hs:IsSys w s vc vs vt ve) (hN:movesN s.prob.a.states<1099511627776) :
  Calls Tryz.prog 18 #[.agg (bT s.prob vc vs s.n vt ve)] w fun r w'=>XB (findW s) r w'/\Below w.heap.size w w':=by
 have HS:=aa hs;have HT:=aa hT;obtain⟨⟨pc,cc,rfl⟩,⟨ps,cs,rfl⟩,⟨pt,ct,rfl⟩,⟨pe,ce,rfl⟩⟩:=bE hs;clear hs hT;have HC:=aa (fun W (hb:Below w.heap.size w W)=>nr s hE _ _ _ _ W (HS.out.up hb) hN)
 have oE:Hid (readyE s=0->verifyE s=0/\agreeB s.prob.t=true):=aa fun h=>by
  refine⟨rh h,?_⟩;unfold readyE at h;split at h
  ·rename_i h1;exact absurd h h1
  split at h
  ·assumption
  ·omega
 have cZ:Hid (readyE s≠0->findW s=([],false,readyE s)):=aa fun h=>by unfold findW;rw[if_pos h]
 have dN:Hid (readyE s=0->qf s<0->findW s=([],false,0)):=aa fun h h2=>by unfold findW;rw[if_neg (by omega),if_pos h2]
 have fm:Hid (readyE s=0->¬ qf s<0->findW s=if 4096<(uq s).length then([],false,17) else(uq s,true,0)):=aa fun h h2=>by unfold findW;rw[if_neg (by omega),if_neg h2]
 generalize findW s=vr at cZ dN fm ⊢;obtain⟨re,pS⟩:∃ re,readyE s=re:=⟨_,rfl⟩;rw[pS]at cZ dN fm HC oE;clear pS;refine fQ Tryz.func18 rfl ?_;simp only[Tryz.ntmps18,List.size_toArray,List.length_cons,List.length_nil,Nat.reduceAdd,Nat.reduceSub,Array.replicate_succ,Array.replicate_zero,List.push_toArray,List.append_toArray,List.nil_append,List.cons_append]
 go_wp2_with fail
 refine aN (fun W=>Below w.heap.size w W/\W.heap[w.heap.size+1]?=some (.cells (gm 0 (.slice none 0 0)) 58)/\W.heap[w.heap.size+1+1]?=some (.cells #[.bool false] 4)/\W.heap[w.heap.size+1+1+1]?=some (.cells #[.int .i64 0] 39))
  ⟨by go_grown,ap _ (ap _ (bd _ _ _)),ap _ (dW _ _ _ _),by have h:=am (((w.alloc (.cells (bT s.prob (.slice pc s.prob.t.cases.length cc) (.slice ps s.prob.a.states.length cs) s.n (.slice pt s.tab.length ct) (.slice pe s.ex.length ce)) 35)).alloc (.cells (gm 0 (.slice none 0 0)) 58)).alloc (.cells #[.bool false] 4)) (.cells #[.int .i64 0] 39);simpa using h⟩ (fun W0 aV=>?_)
 obtain⟨aH,l3,C5,CJ⟩:=aV;refine(HC.out W0 aH).mono ?_;rintro r w1 ⟨v,rfl,aI,h2,h3⟩;have bF:=aa (ae aH aI);have fF:=aa (af aI l3);have jE:=aa (af aI C5);have kZ:=aa (af aI CJ);have fP:=aB kZ.out;by_cases hr:re=0
 case neg=>
  have HV:=aa (cZ.out hr);obtain rfl:=h2 hr;have E7:(re != 0)=true:=by simpa using hr
  clear aH aI h2 h3 hr HC l3 C5 CJ cZ dN fm oE
  go_wp2_with (refine wpList_store_row rfl 58 (.tmp 2) (.tmp 18) rfl (w.heap.size+1) (gm 0 (.slice none 0 0)) rfl rfl 58 _ (ap _ fF.out) (by kernel_rfl) rfl (by simp[Value.oneCell']) (gD (fun W=>Below w.heap.size w W/\W.heap[w.heap.size+1]?=some (.cells (gm 0 (.slice none 0 0)) 58)/\W.heap[w.heap.size+1+1]?=some (.cells #[.bool false] 4)/\W.heap[w.heap.size+1+1+1]?=some (.cells #[.int .i64 0] 39)) ⟨below_setRow (bF.out.alloc (by omega) _) (by omega) _,setRow_heap _ _ _ _ _ _ (ap _ fF.out),by rw[setRow_other _ _ _ _ (by omega)];exact ap _ jE.out,by rw[setRow_other _ _ _ _ (by omega)];exact ap _ kZ.out⟩ ?_);intro W2 eK;have cH:=aa eK;clear eK;have t3:=ab cH.out.2.2.1 0;have z3:=aE cH.out.2.2.1 0;have t4:=ab cH.out.2.2.2 0;have z4:=aE cH.out.2.2.2 0;simp at t3 t4)
  obtain⟨y1,y2,y3⟩:=nz (ok:=false) (e:=re) cH.out.2.1 cH.out.2.2.1 cH.out.2.2.2;have e1:=HV.out;subst e1;exact ig (kS _ (w.heap.size+1) _ 0 re false _ rfl rfl rfl y1 y2 y3) ⟨⟨_,rfl,xQ _⟩,(cH.out.1.setCell (by dsimp only;omega) _).setCell (by dsimp only;omega) _⟩
 obtain⟨B,rfl,hB,fK⟩:=h3 hr;have cV:=aa (dN.out hr);have rz:=aa (fm.out hr);have sU:=aa (oE.out hr).1;have FE:=aa (oE.out hr).2;have dB:=aa (jc sU.out);have HP:=aa (zc sU.out);have kh:=aa fK;subst hr;clear aH aI h2 h3 HC fK l3 C5 CJ cZ dN fm oE;have tb:=fun o j=>ab (ap o fF.out) j
 go_wp2_with fail
 clear tb;refine aN (fun W=>Below w1.heap.size w1 W/\W.heap[w1.heap.size]?=some (.cells #[.pointer (some ⟨B,0,none⟩)] 94)) ⟨by go_grown,am _ _⟩ (fun W1 cD=>?_);have gr:=aa cD.1;have kj:=aa cD.2;clear cD;have IA:=aa (kh.out.up gr.out);have wg:=aa (ae bF.out gr.out);refine(tU s dB.out HP.out hE B W1 IA.out (HT.out.up wg.out)).mono ?_;rintro r w3 ⟨u,rfl,hu,bC⟩;have pO:=aa (wz u (iO s) (-1) w3 hu);obtain⟨pu,cu,rfl,_⟩:=hu.at;have eo:=aa (ae gr.out bC);have DO:=aa (af bC kj.out);clear hu bC;have PI:Hid (firstIx (iO s).length (fun i=>decide ((-1:Int)=(iO s).getD i 0))=labI s):=aa rfl;rw[PI.out]at pO;have SI:=aa (fun h=>Rk (s:=s) HP.out h);have Fs:=aa (fun h=>Rl (s:=s) HP.out h);obtain⟨cn,CU⟩:∃ cn,(iO s).length=cn:=⟨_,rfl⟩;rw[CU]at pO ⊢;clear PI CU;generalize labI s=lab at pO SI Fs
 go_wp2_with fail
 refine pO.out.mono ?_;rintro r w4 ⟨rfl,bQ⟩;have eQ:=aa (ae eo.out bQ);have DQ:=aa (af bQ DO.out);have yR:=aa (ae bF.out eQ.out);have HH:=aa (af eQ.out fF.out);have M3:=aa (af eQ.out jE.out);have Nc:=aa (af eQ.out kZ.out);clear bQ pO eo DO kj gr IA wg;by_cases Wt:qf s<0
 ·have aA:=SI.out Wt
  have hd:decide (lab<0)=true:=decide_eq_true aA;have e1:=cV.out Wt;subst e1;clear cV rz SI Fs aA
  go_wp2_with (refine wpList_store_row rfl 58 (.tmp 2) (.tmp 25) rfl (w.heap.size+1) (gm 0 (.slice none 0 0)) rfl rfl 58 _ HH.out (by kernel_rfl) rfl (by simp[Value.oneCell']) (gD (fun W=>Below w.heap.size w W/\W.heap[w.heap.size+1]?=some (.cells (gm 0 (.slice none 0 0)) 58)/\W.heap[w.heap.size+1+1]?=some (.cells #[.bool false] 4)/\W.heap[w.heap.size+1+1+1]?=some (.cells #[.int .i64 0] 39)) ⟨below_setRow yR.out (by omega) _,setRow_heap _ _ _ _ _ _ HH.out,by rw[setRow_other _ _ _ _ (by omega)];exact M3.out,by rw[setRow_other _ _ _ _ (by omega)];exact Nc.out⟩ ?_);intro W2 eK;have cH:=aa eK;clear eK;have t3:=ab cH.out.2.2.1 0;have z3:=aE cH.out.2.2.1 0;have t4:=ab cH.out.2.2.2 0;have z4:=aE cH.out.2.2.2 0;simp at t3 t4)
  obtain⟨y1,y2,y3⟩:=nz (ok:=false) (e:=0) cH.out.2.1 cH.out.2.2.1 cH.out.2.2.2;exact ig (kS _ (w.heap.size+1) _ 0 0 false _ rfl rfl rfl y1 y2 y3) ⟨⟨_,rfl,xQ _⟩,(cH.out.1.setCell (by dsimp only;omega) _).setCell (by dsimp only;omega) _⟩
 obtain⟨lR,yQ,hleq⟩:=Fs.out (by omega);have hd:decide (lab<0)=false:=decide_eq_false (by omega);have HV:=aa (rz.out (by omega));have Ak:Hid (uq s=xl s (jA s (memL (partsS s) lab))):=aa (by rw[hleq];rfl);have SO:=aa (UR dB.out lab);clear cV rz SI Fs Wt lR hleq;have Pm:=yR.out.size;have tb:=ab DQ.out 0;simp at tb;have tb':∀ o o',((w4.alloc o).alloc o').cell? ⟨w1.heap.size,0,none⟩=some (.pointer (some ⟨B,0,none⟩)):=fun o o'=>ak (show Below w4.heap.size w4 ((w4.alloc o).alloc o') by go_grown) tb
 go_wp2_with fail
 refine(OV B lab _).mono ?_;rintro r w5 ⟨rfl,rfl⟩;clear tb tb'
 go_wp2_with fail
 refine bm (fun U=>Below w4.heap.size w4 U/\U.heap.size=w4.heap.size+1+1+1+1/\U.heap[w4.heap.size]?=some (.cells (gm 1 (.slice none 0 0)) 58)/\U.heap[w4.heap.size+1]?=some (.cells #[.int .i64 255] 3)/\U.heap[w4.heap.size+1+1]?=some (.cells #[.pointer (some ⟨B,0,none⟩)] 94)/\U.heap[w4.heap.size+1+1+1]?=some (.cells #[.int .i64 lab] 3))
  ⟨by go_grown,by simp,ap _ (ap _ (ap _ (am _ _))),ap _ (ap _ (bd _ _ _)),ap _ (dW _ _ _ _),by have h:=am (((w4.alloc (.cells (gm 1 (.slice none 0 0)) 58)).alloc (.cells #[.int .i64 255] 3)).alloc (.cells #[.pointer (some ⟨B,0,none⟩)] 94)) (.cells #[.int .i64 lab] 3);simpa using h⟩ (fun U hU=>?_)
 obtain⟨tk,rB,nC,ly,rF,IR⟩:=hU;have HSC4:=aa (kh.out.up eQ.out);have cY:=Mj s sU.out hE hN B (w4.heap.size+1+1) (w4.heap.size+1+1+1) lab w4 HSC4.out U tk rF IR;obtain⟨way,Jj⟩:∃ way,jA s (memL (partsS s) lab)=way:=⟨_,rfl⟩;rw[Jj]at cY Ak SO;obtain⟨F,hF⟩:∃ F,uq s=F:=⟨_,rfl⟩;rw[hF]at Ak HV;obtain⟨i0,cU,cg,bV,cj⟩:=info_parts Tryz.infoLink;have cf:=aa (And.intro cU (And.intro cg (And.intro bV cj)))
 have IO:Hid (∀ y∈F,bM y.x/\bM y.p):=aa (fun y hy=>by
  rw[Ak.out]at hy;obtain⟨h1,h2⟩:=SO.out y (List.mem_of_mem_take hy);have:=dB.out.n.2.1
  exact⟨⟨by omega,by omega⟩,⟨by omega,by omega⟩⟩)
 have HU:Hid (FdI s w4 U.heap.size w4.heap.size way 0 (fun _=>False) U):=aa ⟨tk,Nat.le_refl _,⟨_,nC,aG.nil _ _ _ _,fun g hg=>by cases hg⟩,by rw[List.take_zero,show comM s (cC [])=255 from AN s];exact ly,fun j hj=>by omega,by omega,by simp,fun k h=>h.elim⟩;have RT:=aa (fun i T T' A A' (h:FdI s w4 U.heap.size w4.heap.size way i T A) (hc:ChT U.heap.size T A A') (hw:gx A A' T T')=>h.ch (by omega) (by omega) hc hw);have ji:=dB.out.n.2.1;have Tv:=dB.out.outs.2.1;clear tk nC ly rF IR Jj hF cU cg bV cj
 refine Mh (gf:=89) (lb:=#[.pointer (some ⟨w4.heap.size+1+1,0,none⟩),.pointer (some ⟨w4.heap.size+1+1+1,0,none⟩)]) rfl (enters_of Tryz.func89 (by kernel_rfl) rfl) cY (Below.refl _ _) (fun k hk=>by rcases hk with hk|rfl|rfl<;>omega) (fun i args h=>by rw[h];rfl)
  (FdI s w4 U.heap.size w4.heap.size way)
  (fun c i T A=>(c=.exit 0/\FdX w4 U.heap.size w4.heap.size F T A)\/(c=.ret/\FdY w F A))
  (fun i T T' A A' h hc hw=>RT.out i T T' A A' h hc hw)
  (fun c i T T' A A' h hc hw=>by
   rcases h with ⟨h1,h⟩|⟨h1,h⟩
   ·exact .inl ⟨h1,hc.below (by omega) h.old,Nat.le_trans h.sz hc.size,h.out.ch (by omega) hc hw,h.le⟩
   ·exact .inr ⟨h1,hc.below (by omega) h.old,(hc.low _ (by omega)).trans h.r2,(hc.low _ (by omega)).trans h.r3,(hc.low _ (by omega)).trans h.r4,h.lt⟩)
  HU.out ?rnd ?done ?stop
 case done=>
  intro D T A hD mQ hK;have p8:FdX w4 U.heap.size w4.heap.size F T A:=⟨mQ.old,mQ.sz,by rw[Ak.out,Ks mQ.no];have h:=mQ.out;rw[List.take_length]at h;exact h,by rw[Ak.out,Ks mQ.no];exact mQ.le⟩;have AA:Hid (F.length<=4096):=aa p8.le;clear mQ;obtain⟨v,jI,kI,_⟩:=p8.out;have E3:=aB hK;have pX:=sC kI IO.out (by have:=p8.le;omega);obtain⟨pv,cv,rfl⟩:=kI.slice;have VH:=aa p8.old;have hH:=aa pX;have nV:=aa jI;have Y2:=aa (af p8.old HH.out);have Y3:=aa (af p8.old M3.out);have Y4:=aa (af p8.old Nc.out);have t8:=ab jI;have K5:=aa hK;have hbU:w.heap.size+1+1+1<D:=by omega
  have gJ:Hid (∀ b,(Value.slice pv F.length cv).ownBlock=some b->U.heap.size<=b):=aa (fun b hb=>(kI.lt b hb).1);have Fa:Hid (¬ (Value.slice pv F.length cv).ownBlock=some D):=aa (fun e=>kI.isCells hK rfl e.symm);clear jI kI pX cY hK p8
  go_wp2_with (refine wpList_store_row rfl 58 (.tmp 2) (.tmp 54) rfl (w.heap.size+1) (gm 1 (.slice pv F.length cv)) rfl rfl 58 _ Y2.out (by kernel_rfl) rfl (by simp[Value.oneCell']) (gD (fun W=>(Below w.heap.size w W/\bH W (.slice pv F.length cv) F/\W.heap[D]?=some (.deferred (some [])))/\W.heap[w.heap.size+1]?=some (.cells (gm 1 (.slice pv F.length cv)) 58)/\W.heap[w.heap.size+1+1]?=some (.cells #[.bool false] 4)/\W.heap[w.heap.size+1+1+1]?=some (.cells #[.int .i64 0] 39)) ⟨⟨below_setRow (ae yR.out VH.out) (by omega) _,sD hH.out (fun b hb=>by rw[setRow_other _ _ _ _ (by have:=gJ.out b hb;omega)]),by rw[setRow_other _ _ _ _ (by omega)];exact K5.out⟩,setRow_heap _ _ _ _ _ _ Y2.out,by rw[setRow_other _ _ _ _ (by omega)];exact Y3.out,by rw[setRow_other _ _ _ _ (by omega)];exact Y4.out⟩ ?_);intro W2 eK;have cH:=aa eK;clear eK;have t3:=ab cH.out.2.2.1 0;have z3:=aE cH.out.2.2.1 0;have t4:=ab cH.out.2.2.2 0;have z4:=aE cH.out.2.2.2 0;simp at t3 t4)
  obtain⟨y1,y2,y3⟩:=nz (ok:=true) (e:=0) cH.out.2.1 cH.out.2.2.1 cH.out.2.2.2;refine ip (aJ (aJ cH.out.1.2.2 (by omega) _ _) (by omega) _ _) (kS _ (w.heap.size+1) _ 1 0 true _ rfl rfl rfl ((World.putObj_heap_other (by omega)).trans y1) ((World.putObj_heap_other (by omega)).trans y2) ((World.putObj_heap_other (by omega)).trans y3)) ?_;have e1:=HV.out;rw[if_neg (by have:=AA.out;omega)]at e1;subst e1;refine⟨⟨_,rfl,sD cH.out.1.2.1 (fun b hb=>by have h1:=gJ.out b hb;have h2:b≠D:=fun e=>Fa.out (e ▸ hb);rw[World.putObj_heap_other h2,Below.heap_setCell _ _ _ _ (by dsimp only;omega),Below.heap_setCell _ _ _ _ (by dsimp only;omega)])⟩,eH (by omega) ((cH.out.1.1.setCell (by dsimp only;omega) _).setCell (by dsimp only;omega) _)⟩
 case stop=>
  rintro D c i T A hD hi h hK;rcases h with ⟨rfl,p8⟩|⟨rfl,hY⟩
  case inr=>
   have E3:=aB hK
   go_wp2_with fail
   refine ip hK (kS _ (w.heap.size+1) _ 0 17 false _ rfl rfl rfl ((World.putObj_heap_other (by omega)).trans hY.r2) ((World.putObj_heap_other (by omega)).trans hY.r3) ((World.putObj_heap_other (by omega)).trans hY.r4)) ?_;have e1:=HV.out;rw[if_pos hY.lt]at e1;subst e1;exact⟨⟨_,rfl,xQ _⟩,eH (by omega) hY.old⟩
  have AA:Hid (F.length<=4096):=aa p8.le;obtain⟨v,jI,kI,_⟩:=p8.out;have E3:=aB hK;have pX:=sC kI IO.out (by have:=p8.le;omega);obtain⟨pv,cv,rfl⟩:=kI.slice;have VH:=aa p8.old;have hH:=aa pX;have nV:=aa jI;have Y2:=aa (af p8.old HH.out);have Y3:=aa (af p8.old M3.out);have Y4:=aa (af p8.old Nc.out);have t8:=ab jI;have K5:=aa hK;have hbU:w.heap.size+1+1+1<D:=by omega
  have gJ:Hid (∀ b,(Value.slice pv F.length cv).ownBlock=some b->U.heap.size<=b):=aa (fun b hb=>(kI.lt b hb).1);have Fa:Hid (¬ (Value.slice pv F.length cv).ownBlock=some D):=aa (fun e=>kI.isCells hK rfl e.symm);clear jI kI pX cY hK p8
  go_wp2_with (refine wpList_store_row rfl 58 (.tmp 2) (.tmp 54) rfl (w.heap.size+1) (gm 1 (.slice pv F.length cv)) rfl rfl 58 _ Y2.out (by kernel_rfl) rfl (by simp[Value.oneCell']) (gD (fun W=>(Below w.heap.size w W/\bH W (.slice pv F.length cv) F/\W.heap[D]?=some (.deferred (some [])))/\W.heap[w.heap.size+1]?=some (.cells (gm 1 (.slice pv F.length cv)) 58)/\W.heap[w.heap.size+1+1]?=some (.cells #[.bool false] 4)/\W.heap[w.heap.size+1+1+1]?=some (.cells #[.int .i64 0] 39)) ⟨⟨below_setRow (ae yR.out VH.out) (by omega) _,sD hH.out (fun b hb=>by rw[setRow_other _ _ _ _ (by have:=gJ.out b hb;omega)]),by rw[setRow_other _ _ _ _ (by omega)];exact K5.out⟩,setRow_heap _ _ _ _ _ _ Y2.out,by rw[setRow_other _ _ _ _ (by omega)];exact Y3.out,by rw[setRow_other _ _ _ _ (by omega)];exact Y4.out⟩ ?_);intro W2 eK;have cH:=aa eK;clear eK;have t3:=ab cH.out.2.2.1 0;have z3:=aE cH.out.2.2.1 0;have t4:=ab cH.out.2.2.2 0;have z4:=aE cH.out.2.2.2 0;simp at t3 t4)
  obtain⟨y1,y2,y3⟩:=nz (ok:=true) (e:=0) cH.out.2.1 cH.out.2.2.1 cH.out.2.2.2;refine ip (aJ (aJ cH.out.1.2.2 (by omega) _ _) (by omega) _ _) (kS _ (w.heap.size+1) _ 1 0 true _ rfl rfl rfl ((World.putObj_heap_other (by omega)).trans y1) ((World.putObj_heap_other (by omega)).trans y2) ((World.putObj_heap_other (by omega)).trans y3)) ?_;have e1:=HV.out;rw[if_neg (by have:=AA.out;omega)]at e1;subst e1;refine⟨⟨_,rfl,sD cH.out.1.2.1 (fun b hb=>by have h1:=gJ.out b hb;have h2:b≠D:=fun e=>Fa.out (e ▸ hb);rw[World.putObj_heap_other h2,Below.heap_setCell _ _ _ _ (by dsimp only;omega),Below.heap_setCell _ _ _ _ (by dsimp only;omega)])⟩,eH (by omega) ((cH.out.1.1.setCell (by dsimp only;omega) _).setCell (by dsimp only;omega) _)⟩
 case rnd=>
  rintro yl i T V args hi hl hlV hT rfl iw;obtain⟨y,hy⟩:∃ y,way.getD i default=y:=⟨_,rfl⟩;have Xk:way[i]=y:=by rw[<-hy];simp[hi]
  obtain⟨⟨iR,TH⟩,hyp⟩:=SO.out way[i] (List.getElem_mem hi);rw[Xk]at iR TH hyp;have eV:=aa (Rn (s:=s) hi);rw[hy]at eV ⊢;obtain⟨yx,yp⟩:=y;dsimp only at iR TH hyp eV;obtain⟨e,he⟩:∃ e:Nat,yx=e:=⟨yx.toNat,by omega⟩;subst he;rw[Int.toNat_natCast]at TH eV;have nY:=aa iw;have HYW:=aa Xk;clear iw hy Xk cY iR
  gi_wp2
  have SU:Below V.heap.size V (V.alloc (.cells #[.int .i64 e,.int .i64 yp] 75)):=by go_grown
  refine⟨Bod.of_below (fun k hk=>hk.2) SU,fun X=>FdI s w4 U.heap.size w4.heap.size way i T X/\X.heap[V.heap.size]?=some (.cells #[.int .i64 e,.int .i64 yp] 75)/\∀ g v,X.heap[w4.heap.size]?=some (.cells (gm 1 v) 58)->v.ownBlock=some g->g<V.heap.size,?_,⟨RT.out _ _ _ _ _ nY.out (ChT.of_below nY.out.sz SU) (gx.refl _ _ _),am _ _,fun g v h1 h2=>?_⟩,fun X hX jm=>?_⟩
  ·intro A A' c h
   refine⟨RT.out _ _ _ _ _ h.1 (ChT.of_chg c (Nat.le_refl _) h.1.sz) (gx.refl _ _ _),c.same _ _ h.2.1 (.inr rfl),fun g v h1 h2=>?_⟩;obtain⟨v0,h3,_⟩:=h.1.out;have h4:=c.same _ _ h3 (.inr rfl);rw[h1]at h4;have h5:=dp h4;injection h5 with h5
   injection h5 with h5
   simp at h5;exact h.2.2 g v0 h3 (by rw[<-h5];exact h2)
  ·obtain⟨v0,h3,h4,_⟩:=nY.out.out
   have h6:=af SU h3;rw[h1]at h6;have h5:=dp h6;injection h5 with h5
   injection h5 with h5
   simp at h5;exact(h4.lt g (by rw[<-h5];exact h2)).2
  obtain⟨rlp,jm⟩:=jm;have Iu:=aB jm;have hzV:=nY.out.sz;clear jm rlp SU nY;obtain⟨SS,VL⟩:∃ SS:Nat->Prop,(fun k=>(T k\/k<w4.heap.size\/k=w4.heap.size+1+1\/k=w4.heap.size+1+1+1)/\k<V.heap.size)=SS:=⟨_,rfl⟩;rw[VL];have HSS:Hid (∀ k,SS k->(T k\/k<w4.heap.size\/k=w4.heap.size+1+1\/k=w4.heap.size+1+1+1)/\k<V.heap.size):=aa (fun k hk=>by rw[<-VL]at hk;exact hk);clear VL;have HX:=aa hX.1;have bR:=aa hX.2.1;have kE:=aB hX.2.1;obtain⟨v,jI,kI,Pu⟩:=hX.1.out;rw[hX.1.len]at kI;obtain⟨pv,cv,rfl⟩:=kI.slice;have nV:=aa jI;have cV:=aa kI;have HV3':=aa Pu;have t8:=ab jI;have z8:=aE jI;have tb:=ab hX.2.1;have Ja:=fun g h=>hX.2.2 g _ jI h
  have jl:=hX.1.no;have kH:=hX.1.le;by_cases Xd:i=4096
  ·have HLT:Hid (4096<F.length):=aa (by rw[Ak.out,<-Xd];exact Rm hi jl)
   have hdd:((i:Int) == 4096)=true:=by rw[Xd];rfl
   have y2:=af hX.1.old HH.out;have y3:=af hX.1.old M3.out;have y4:=af hX.1.old Nc.out;have Y2:=aa y2;have Y3:=aa y3;have Y4:=aa y4;clear hX jI kI Pu tb jl y2 y3 y4 Ja
   gi_wp2_with (refine xP rfl 58 (.tmp 2) (.tmp 35) rfl (w.heap.size+1) (gm 0 (.slice none 0 0)) rfl rfl 58 _ Y2.out (by kernel_rfl) rfl (by simp[Value.oneCell']) (F2 (fun W=>Bdx U.heap.size X W/\Below w.heap.size w W/\W.heap[w.heap.size+1]?=some (.cells (gm 0 (.slice none 0 0)) 58)/\W.heap[w.heap.size+1+1]?=some (.cells #[.bool false] 4)/\W.heap[w.heap.size+1+1+1]?=some (.cells #[.int .i64 0] 39)) ⟨⟨(below_setRow (Below.refl 0 X) (Nat.zero_le _) _).size,fun k o hk ho hc=>by rw[setRow_other _ _ _ _ (by omega)];exact ho⟩,below_setRow (ae yR.out HX.out.old) (by omega) _,setRow_heap _ _ _ _ _ _ Y2.out,by rw[setRow_other _ _ _ _ (by omega)];exact Y3.out,by rw[setRow_other _ _ _ _ (by omega)];exact Y4.out⟩ ?_);intro W2 eK;have cH:=aa eK;clear eK;have t3:=ab cH.out.2.2.2.1 0;have z3:=aE cH.out.2.2.2.1 0;have t4:=ab cH.out.2.2.2.2 0;have z4:=aE cH.out.2.2.2.2 0;simp at t3 t4)
   obtain⟨q1,q2,q3⟩:=nz (ok:=false) (e:=17) cH.out.2.2.1 cH.out.2.2.2.1 cH.out.2.2.2.2;exact⟨⟨by simpa using cH.out.1.size,fun k o hk ho hc=>aJ (aJ (cH.out.1.same k o hk ho hc) (by omega) _ _) (by omega) _ _⟩,.inr ⟨rfl,(cH.out.2.1.setCell (by dsimp only;omega) _).setCell (by dsimp only;omega) _,q1,q2,q3,HLT.out⟩⟩
  ·have hi5:i<4096:=by omega
   have hdd:((i:Int) == 4096)=false:=beq_eq_false_iff_ne.2 (by omega);have HX':=aa hX.1;have If:∀ g,(Value.slice pv i cv).ownBlock=some g->g≠V.heap.size:=fun g hg=>by have:=Ja g hg;omega
   have bI:=aa (kI.up ((Below.refl _ X).alloc (Nat.le_refl _) (.cells #[.int .i64 e,.int .i64 yp] 75)));have bz:=aa (dF X [.int .i64 (e:Int),.int .i64 yp] 75);have jN:Hid (i+1<=maxLen):=aa (by unfold maxLen;omega);have eJ:Hid ((i+1) * 16<=140737488355328):=aa (by omega);have gq:Hid (U.heap.size<=(X.alloc (.cells #[.int .i64 e,.int .i64 yp] 75)).heap.size):=aa (by have:=HX.out.sz;simp;omega);have hsX:=HX.out.sz;have tbA:∀ o j,(X.alloc o).cell? ⟨V.heap.size,j,none⟩=_:=fun o=>ab (ap o hX.2.1)
   clear hX jI kI Pu jl Xd
   gi_wp2_with (gi_at_builtin;(refine qn _ rfl (.tmp 37) (.tmp 39) 54 rfl U.heap.size 75 i0 _ 2 16 Tryz.underlying54 cf.out.1 cf.out.2.1 cf.out.2.2.1 cf.out.2.2.2 rfl (by decide) _ i _ rfl bI.out ⟨X.heap.size,0,none⟩ 1 1 [.int .i64 (e:Int),.int .i64 yp] rfl rfl bz.out (by simp[Value.oneCell']) jN.out eJ.out gq.out ?_;intro v4 w6 mh eN IZ;obtain⟨av4,cv4,rfl⟩:=mh.slice;have SV:=sh bI.out eN nV.out (by omega);have c8:=ab SV;have f8:=aE SV))
   have SM:=eN.size;simp only[World.size_alloc]at SM;obtain⟨W7,sR⟩:∃ W7,W7=w6.setCell ⟨w4.heap.size,1,none⟩ (.slice av4 (i+1) cv4):=⟨_,rfl⟩;rw[<-sR]
   have hkU:∀ k,k<U.heap.size->k≠w4.heap.size->∀ o,X.heap[k]?=some o->W7.heap[k]?=some o:=fun k hk hn o ho=>by
    rw[sR];exact aJ (sh bI.out eN ho hk) hn _ _
   have h78:W7.heap[w4.heap.size]?=some (.cells (gm 1 (.slice av4 (i+1) cv4)) 58):=by rw[sR];exact(aF SV _ _).trans rfl
   have h7r:aG W7 U.heap.size 75 2 (.slice av4 (i+1) cv4) (i+1) (cK (way.take (i+1))):=by
    rw[sR,List.take_succ_eq_append_getElem hi,HYW.out,ni];exact mh.put (fun g hg e=>by subst e;have:=(mh.lt _ hg).1;omega) _ _
   have SY:Below w4.heap.size w4 W7:=by rw[sR];exact(BM HX.out.old (by omega) (by omega) bI.out eN).setCell (by dsimp only;omega) _
   have h7s:W7.heap.size=w6.heap.size:=by rw[sR];simp
   have h7nc:∀ (k:Nat) (o:Obj),X.heap[k]?=some o->o.isCells=false->W7.heap[k]?=some o:=fun k o ho hc=>by
    rw[sR];exact aJ (mI bI.out eN ho hc) (fun e=>by subst e;rw[nV.out]at ho;cases ho;cases hc) _ _
   have WW:∀ k,k<X.heap.size->k≠w4.heap.size->(∀ g,(Value.slice pv i cv).ownBlock=some g->k≠g)->W7.heap[k]?=X.heap[k]?:=fun k h1 h2 h3=>by
    rw[sR,Below.heap_setCell _ _ _ _ h2,eN.block k (by simp;omega) (fun e=>h3 k e.symm rfl)];exact Below.heap_alloc X _ k h1
   have h7b:W7.heap[V.heap.size]?=some (.cells #[.int .i64 e,.int .i64 yp] 75):=(WW _ kE (by omega) (fun g hg e=>If g hg e.symm)).trans bR.out;have AC:=hkU _ (by omega) (by omega) _ HX.out.left;have h7sc:=HSC4.out.up SY;have H78:=aa h78;have H7R:=aa h7r;have H7O:=aa SY;have H7N:=aa h7nc;have H7K:=aa WW;have H79:=aa AC;obtain⟨qv,kv,t10,ev⟩:=h7sc.val;obtain⟨bv,ov,rfl,tev⟩:=ev e TH;have t5:=ab (af SY DQ.out) 0;have t9:=ab AC 0;have z9:=aE AC 0;have tl:=ab h7b;simp only[List.getElem?_toArray,List.getElem?_cons_zero]at t5 t9;have lF:bits .and .i64 ((comM s (cC (way.take i)):Nat):Int) ((gT s e:Nat):Int)=((comM s (cC (way.take i)) &&& gT s e:Nat):Int):=zx _ _ (by have:=Kk s (cC (way.take i));omega) (by have:=Kj s e;omega);rw[<-eV.out]at lF;have HOB4:=aa IZ;generalize comM s (cC (way.take i))=ma,gT s e=mb at t9 tev lF;obtain⟨mc,tg⟩:∃ mc,comM s (cC (way.take (i+1)))=mc:=⟨_,rfl⟩;rw[tg]at lF;have HMC:=aa tg;clear sR hkU h78 h7r SY h7nc WW h7b AC h7sc ev tg tb tbA t8 z8 mh eN SV c8 f8 IZ eV;refine kN 10 (fun ⟨_,_,h⟩=>h) (by kernel_rfl) (by kernel_rfl) (by kernel_rfl) (fun ops Lq hops hLq=>?_);simp only[List.take_succ_cons,List.take_zero,List.drop_succ_cons,List.drop_zero]at hLq ⊢;have CS:=aa hLq;clear hLq;have Sk:=aa hops;clear hops
   repeat still_step
   refine wpStill_nil ?_;refine CS.out _ ?_;clear t10 tev t5
   go_wp2_with fail
   obtain⟨W8,ol⟩:∃ W8,W8=(W7.setCell ⟨w4.heap.size+1,0,none⟩ (.int .i64 mc)).drew:=⟨_,rfl⟩;rw[<-ol];have h8s:W8.heap.size=W7.heap.size:=by rw[ol];simp
   have PE:∀ k,k≠w4.heap.size+1->W8.heap[k]?=W7.heap[k]?:=fun k hk=>by rw[ol];exact Below.heap_setCell W7 _ _ _ hk
   have Vr:W8.heap[w4.heap.size+1]?=some (.cells #[.int .i64 mc] 3):=by rw[ol];exact(aF (W:=W7) H79.out 0 _).trans rfl
   have h8o:Below w4.heap.size w4 W8:=by rw[ol];exact(H7O.out.setCell (by dsimp only;omega) _).drew
   have h88:=(PE _ (by omega)).trans H78.out;have h8r:aG W8 U.heap.size 75 2 (.slice av4 (i+1) cv4) (i+1) (cK (way.take (i+1))):=H7R.out.keep fun g o hg ho=>(PE g (by have:=(H7R.out.lt g hg).1;omega)).trans ho
   have h8n:∀ (k:Nat) (o:Obj),X.heap[k]?=some o->o.isCells=false->W8.heap[k]?=some o:=fun k o ho hc=>by
    rw[PE k (fun e=>by subst e;rw[HX.out.left]at ho;cases ho;cases hc)];exact H7N.out k o ho hc
   have M8:(way.take (i+1)).length=i+1:=by rw[List.length_take];omega
   have hnT:∀ g,(Value.slice av4 (i+1) cv4).ownBlock=some g->¬ T g:=fun g hg ht=>by
    rcases HOB4.out with h|h
    ·rw[h]at hg;exact HV3'.out g hg ht
    ·rw[h]at hg
     injection hg with hg
     have:=HX.out.tb g ht;simp at hg;omega
   have I5:Hid (DL U.heap.size w4.heap.size (way.take (i+1)) T W8):=aa ⟨_,h88,by rw[M8];exact h8r,hnT⟩
   have gQ:Hid (eZ s (way.take (i+1))=decide (mc=0)):=aa (by
    rw[<-HMC.out]
    exact EJ dB.out fun y hy=>(SO.out y (List.mem_of_mem_take hy)).1.2)
   have Vt:X.heap.size<=W8.heap.size:=by omega
   have H89:=aa Vr;have H8O:=aa h8o;have H8N:=aa h8n;have H8K:=aa PE;have pV:=aa M8;have t9':=ab Vr 0;simp only[List.getElem?_toArray,List.getElem?_cons_zero]at t9';clear ol PE Vr h8o h88 h8r h8n hnT t9 z9 lF tl M8 CS Sk;by_cases uT:mc=0
   ·have HF8:Hid (F=way.take (i+1)):=aa (by rw[Ak.out];exact Vm hi HX'.out.no (by rw[gQ.out,uT];rfl))
    have hmz:((mc:Int) == 0)=true:=by rw[uT];rfl
    clear uT
    gi_wp2
    exact⟨⟨Vt,fun k o _ ho hc=>H8N.out k o ho hc⟩,.inl ⟨rfl,H8O.out,by omega,by rw[HF8.out];exact I5.out,by rw[HF8.out,pV.out];omega⟩⟩
   ·have hmz:((mc:Int) == 0)=false:=beq_eq_false_iff_ne.2 (by omega)
    have fy:Hid (eZ s (way.take (i+1))=false):=aa (by rw[gQ.out];exact decide_eq_false uT);clear uT
    gi_wp2
    refine⟨⟨Vt,fun k hk=>?_,fun k o _ ho hc=>H8N.out k o ho hc⟩,H8O.out,by omega,I5.out,by rw[HMC.out];exact H89.out,aS (p:=fun j=>eZ s (way.take (j+1))=false) HX'.out.no fy.out,by omega,pV.out,fun k hk=>Nat.lt_of_lt_of_le (HX.out.tb k hk) Vt⟩;obtain⟨lV,n8⟩:=HSS.out k hk
    have bJ:k≠w4.heap.size/\k≠w4.heap.size+1:=by
     rcases lV with h|h|h|h
     ·have:=hT k h;omega
     ·omega
     ·omega
     ·omega
    rw[H8K.out k bJ.2];refine H7K.out k (by omega) bJ.1 fun g hg e=>?_
    subst e;have hgU:=(cV.out.lt k hg).1;rcases lV with h|h|h|h
    ·exact HV3'.out k hg h
    ·omega
    ·omega
    ·omega
abbrev Hs(p:Pb) (vc vs vt ve:Value):Value:=.agg #[.int .i64 p.t.n,.int .i64 p.t.ins,.int .i64 p.t.outs,vc,.int .i64 p.a.n,vs,.int .i64 p.rounds,.int .i64 p.t.n,vt,ve]
section
variable {p : Pb} {vc vs vt ve : Value} {w : World}
theorem OX(b:CkB p) (hs:IsSys w (aM p) vc vs vt ve) {x:Int} {l:List Int} (h:valuesR (aM p) x=(l,0)) :
  Calls Tryz.prog 11 #[Hs p vc vs vt ve,.int .i64 x] w fun r w'=>∃ u,r=.returned (.tuple #[u,.int .i64 0])/\aT w' u l/\Below w.heap.size w w':=by
 have h1:=B6 (aM p) x b.size vc vs vt ve w hs b.moves;rw[h]at h1;exact h1
theorem EQ(b:CkB p) (hT:ij w) (hs:IsSys w (aM p) vc vs vt ve) {l:List Int} (h:choiceR (aM p)=(l,0)) :
  Calls Tryz.prog 13 #[Hs p vc vs vt ve] w fun r w'=>∃ u,r=.returned (.tuple #[u,.int .i64 0])/\aT w' u l/\Below w.heap.size w w':=by
 have h1:=B7 (aM p) b.size vc vs vt ve w hT hs b.moves;rw[h]at h1;exact h1
theorem US(b:CkB p) (hT:ij w) (hs:IsSys w (aM p) vc vs vt ve) (h:(ruleR (aM p)).2=(true,0)) :
  Calls Tryz.prog 16 #[Hs p vc vs vt ve] w fun r w'=>∃ a n c,r=.returned (.tuple #[.agg #[.slice a n c],.bool true,.int .i64 0])/\Below w.heap.size w w':=by
 have h1:=OS (aM p) b.size vc vs vt ve w hT hs b.moves;rw[h]at h1;refine h1.mono ?_;rintro r w' ⟨u,rfl,hu,hb⟩;obtain⟨a,c,rfl,_⟩:=hu.at;exact⟨_,_,_,rfl,hb⟩
theorem UT(b:CkB p) (hT:ij w) (hs:IsSys w (aM p) vc vs vt ve) {l:List Lk} (h:findW (aM p)=(l,true,0)) :
  Calls Tryz.prog 18 #[Hs p vc vs vt ve] w fun r w'=>∃ u,r=.returned (.tuple #[.agg (gm 1 u),.bool true,.int .i64 0])/\bH w' u l/\Below w.heap.size w w':=by
 have h1:=OW (aM p) b.size vc vs vt ve w hT hs b.moves;rw[h]at h1;refine h1.mono ?_;rintro r w' ⟨⟨u,rfl,hu⟩,hb⟩;exact⟨u,rfl,hu,hb⟩
theorem ER(b:CkB p) (hs:IsSys w (aM p) vc vs vt ve) {l:List Lk} {vw:Value} {e:Int} (hw:bH w vw l) (h:certE (aM p) ⟨1,l,0,0,0⟩=e) :
  Calls Tryz.prog 24 #[Hs p vc vs vt ve,.agg (gm 1 vw)] w fun r w'=>r=.returned (.int .i64 e)/\Below w.heap.size w w':=by
 have h1:=JW (aM p) b.size vc vs vt ve vw ⟨1,l,0,0,0⟩ none 0 none 0 none 0 w hs b.moves hw;rw[h]at h1;exact h1
theorem Mk(b:CkB p) (hT:ij w) (hs:IsSys w (aM p) vc vs vt ve) {l m:List Lk} {vw:Value} (hw:bH w vw l) (h:shortR (aM p) ⟨1,l,0,0,0⟩=(m,0)) :
  Calls Tryz.prog 22 #[Hs p vc vs vt ve,.agg (gm 1 vw)] w fun r w'=>∃ u,r=.returned (.tuple #[.agg (gm 1 u),.int .i64 0])/\bH w' u m/\Below w.heap.size w w':=by
 have h1:=Hq (aM p) b.size vc vs vt ve vw ⟨1,l,0,0,0⟩ none 0 none 0 none 0 w hT hs b.moves hw;rw[h]at h1;refine h1.mono ?_;rintro r w' ⟨⟨u,rfl,hu⟩,hb⟩;exact⟨u,rfl,hu,hb⟩
end
theorem Cc(k:Int) (a:List Lk) (va vb:Value) (p1 p2 p3 q1 q2 q3:Option Addr) (c1 c2 c3 d1 d2 d3:Nat) (w:World) (ha:bH w va a) (hb:bH w vb a) :
  Calls Tryz.prog 20 #[.agg #[.int .i64 k,va,.slice p1 0 c1,.slice p2 0 c2,.slice p3 0 c3],.agg #[.int .i64 k,vb,.slice q1 0 d1,.slice q2 0 d2,.slice q3 0 d3]] w fun r w'=>r=.returned (.bool true)/\Below w.heap.size w w':=by
 have yw:=aa (fun W (h:Below w.heap.size w W)=>L8 va vb a a W (ha.up up_link h) (hb.up up_link h));obtain⟨pa,ca,rfl,_,_,_⟩:=ha.at;obtain⟨pb,cb,rfl,_,_,_⟩:=hb.at;rw[decide_eq_true (rfl:a=a)]at yw;generalize a.length=n at yw ⊢;clear ha hb
 go_enter Tryz.func20,Tryz.ntmps20
 go_wp2_with fail
 refine aN (fun W=>Below w.heap.size w W/\W.heap[w.heap.size]?=some (.cells #[.int .i64 k,.slice pa n ca,.slice p1 0 c1,.slice p2 0 c2,.slice p3 0 c3] 58)/\W.heap[w.heap.size+1]?=some (.cells #[.int .i64 k,.slice pb n cb,.slice q1 0 d1,.slice q2 0 d2,.slice q3 0 d3] 58)) ⟨by go_grown,ap _ (am _ _),by have h:=am (w.alloc (.cells #[.int .i64 k,.slice pa n ca,.slice p1 0 c1,.slice p2 0 c2,.slice p3 0 c3] 58)) (.cells #[.int .i64 k,.slice pb n cb,.slice q1 0 d1,.slice q2 0 d2,.slice q3 0 d3] 58);simpa using h⟩ (fun W0 aV=>?_);obtain⟨aH,bB,mL⟩:=aV;refine(yw.out W0 aH).mono ?_;rintro r w1 ⟨rfl,aI⟩;have bF:=aa (ae aH aI);have tA:=ab (af aI bB);have tC:=ab (af aI mL);clear aH bB mL aI yw
 go_wp2_with fail
 go_ret
 exact⟨rfl,bF.out⟩
theorem OY{w:World} {b:Nat} {gs:List (Int × Int)} {l:List Value} (h:w.heap[b]?=some (.cells l.toArray 92)) (hl:l=gs.flatMap fun h=>[.int .i64 h.1,.int .i64 h.2]):∀ i (hi:i<gs.length),w.cell? ⟨b,i * 2,none⟩=some (.int .i64 gs[i].1)/\w.cell? ⟨b,i * 2+1,none⟩=some (.int .i64 gs[i].2):=by
 intro i hi;rw[ab h,ab h,hl]
 have key:∀ (gs:List (Int × Int)) (i:Nat) (hi:i<gs.length),(gs.flatMap fun h=>[Value.int .i64 h.1,.int .i64 h.2])[i * 2]?=some (.int .i64 gs[i].1)/\(gs.flatMap fun h=>[Value.int .i64 h.1,.int .i64 h.2])[i * 2+1]?=some (.int .i64 gs[i].2):=by
  intro gs;induction gs with
  | nil=>intro i hi;simp at hi
  | cons a r ih=>
   intro i hi;cases i with
   | zero=>simp
   | succ i=>
    have h2:=ih i (by simpa using hi);simp only[List.flatMap_cons,List.getElem_cons_succ];rw[show (i+1) * 2=i * 2+1+1 by omega];simpa using h2
 have:=key gs i hi;simpa using this
theorem ck_few1:tV (qq 1 [(1,3),(3,3)]):=fun _=>.inl (by decide +kernel)
theorem ck_few2:tV (qq 0 [(3,3)]):=fun _=>.inl (by decide +kernel)
theorem ck_few3:tV (qq 1 [(1,3),(3,2),(3,3)]):=fun _=>.inl (by decide +kernel)
def OZ(p:Pb) (pc ps:Option Addr) (nc cc ns cs:Nat) (w:World):Prop:=Calls Tryz.prog 35 #[qp p (.slice pc nc cc) (.slice ps ns cs)] w fun r w'=>∃ pt pe:Option Addr,∃ ct ce nt ne:Nat,r=.returned (Hs p (.slice pc nc cc) (.slice ps ns cs) (.slice pt nt ct) (.slice pe ne ce))/\(∀ Wf:World,(∀ k,w.heap.size<=k->k<w'.heap.size->Wf.heap[k]?=w'.heap[k]?)->bK Wf (.slice pc nc cc) p.t.cases->bh Wf (.slice ps ns cs) p.a.states->IsSys Wf (aM p) (.slice pc nc cc) (.slice ps ns cs) (.slice pt nt ct) (.slice pe ne ce))/\Below w.heap.size w w'
theorem A2{p:Pb} (b:CkB p) (hf:tV p) (pc ps:Option Addr) (nc cc ns cs:Nat) (w:World) (hc:bK w (.slice pc nc cc) p.t.cases) (hs:bh w (.slice ps ns cs) p.a.states):OZ p pc ps nc cc ns cs w:=by
 have hm:=b.moves;refine(Me p _ _ w hc hs (by omega) hf b.few).mono ?_;rintro r w' ⟨vt,ve,rfl,⟨⟨⟨pt,ct,rfl⟩,pe,ce,rfl⟩,cT⟩,hb⟩;exact⟨_,_,_,_,_,_,rfl,cT,hb⟩
def O1(p:Pb) (rounds:Int) (n b:Nat) (w:World):Prop:=Calls Tryz.prog 36 #[.int .i64 rounds,.slice (some ⟨b,0,none⟩) n n] w fun r w'=>∃ pc ps:Option Addr,∃ cc cs nc ns:Nat,r=.returned (qp p (.slice pc nc cc) (.slice ps ns cs))/\(∀ Wf:World,(∀ k,w.heap.size<=k->k<w'.heap.size->Wf.heap[k]?=w'.heap[k]?)->bK Wf (.slice pc nc cc) p.t.cases/\bh Wf (.slice ps ns cs) p.a.states)/\Below w.heap.size w w'
theorem DM(rounds:Int) (gs:List (Int × Int)) (n:Nat) (hl:gs.length=n) (hn:n<=100) (cO:∀ h∈gs,bM h.1/\bM h.2) (b:Nat) (w:World) (l:List Value) (h:w.heap[b]?=some (.cells l.toArray 92)) (he:l=gs.flatMap fun h=>[.int .i64 h.1,.int .i64 h.2]):O1 (qq rounds gs) rounds n b w:=by
 refine(N' rounds gs n hl hn cO b w (OY h he)).mono ?_;rintro r w' ⟨vc,vs,rfl,jt,hb⟩;obtain⟨hc,hs⟩:=jt w' (fun _ _ _=>rfl);obtain⟨pc,cc,rfl,_⟩:=hc.at;obtain⟨ps,cs,rfl,_⟩:=hs.at;exact⟨_,_,_,_,_,_,rfl,jt,hb⟩
theorem Ml(gs:List (Int × Int)) (h:gs.all (fun x=>decide (0<=x.1/\x.1<100/\0<=x.2/\x.2<100))=true):∀ h∈gs,bM h.1/\bM h.2:=fun x hx=>by
 have:=of_decide_eq_true (List.all_eq_true.1 h x hx);exact⟨⟨by omega,by omega⟩,by omega,by omega⟩
def Xv(n:Nat) (l:List Int):MP:=⟨fun x W=>∃ i,x=.slice (some ⟨i,0,none⟩) n n/\W.heap[i]?=some (.cells (bu l) 3),fun _ _ _ h hb=>by obtain⟨i,e,h⟩:=h;exact⟨i,e,af hb h⟩⟩
theorem xC_nine:xC 9 (-1) 9=bu (List.replicate 9 (-1)):=by unfold xC;rw[pK];simp[List.map_const']
theorem Ht{W:World} {b:Nat} (h:W.heap[b]?=some (.cells #[.int .i64 0,.int .i64 (-1),.int .i64 1,.int .i64 0,.int .i64 2,.int .i64 1] 75)):bH W (.slice (some ⟨b,0,none⟩) 3 3) ckW:=by
 have t:=ab h;refine⟨some ⟨b,0,none⟩,3,rfl,⟨by simp[ckW],by omega,fun e=>by cases e⟩,by simp[ckW],fun i x hx=>⟨b,0,rfl,?_⟩⟩;obtain⟨hi,rfl⟩:=List.getElem?_eq_some_iff.1 hx;have z:∀ x:Int,-2<x->x<100->bM x:=fun x h1 h2=>⟨by omega,by omega⟩
 rcases (show i=0\/i=1\/i=2 by simp[ckW]at hi;omega) with rfl|rfl|rfl
 ·exact⟨⟨t 0,z _ (by simp[ckW]) (by simp[ckW])⟩,t 1,z _ (by simp[ckW]) (by simp[ckW])⟩
 ·exact⟨⟨t 2,z _ (by simp[ckW]) (by simp[ckW])⟩,t 3,z _ (by simp[ckW]) (by simp[ckW])⟩
 ·exact⟨⟨t 4,z _ (by simp[ckW]) (by simp[ckW])⟩,t 5,z _ (by simp[ckW]) (by simp[ckW])⟩
theorem Hu(w:World) (hT:ij w):Calls Tryz.prog 10 #[] w fun r w'=>r=.returned (.bool true)/\Below w.heap.size w w':=by
 have HT:=aa hT;have zX:=aa ck1_b;have lA:=aa ck2_b;have x':=aa ck3_b;clear hT;obtain⟨p1,sF⟩:∃ p,p=qq 1 [(1,3),(3,3)]:=⟨_,rfl⟩;rw[<-sF]at zX;have Sx:Hid (∀ pc ps nc cc ns cs w,bK w (.slice pc nc cc) p1.t.cases->bh w (.slice ps ns cs) p1.a.states->OZ p1 pc ps nc cc ns cs w):=aa (A2 zX.out (by rw[sF];exact ck_few1));have Sp:Hid (∀ (W:World) b,W.heap[b]?=some (.cells #[.int .i64 1,.int .i64 3,.int .i64 3,.int .i64 3] 92)->O1 p1 1 2 b W):=aa (by rw[sF];exact fun W b h=>DM 1 [(1,3),(3,3)] 2 rfl (by omega) (Ml _ (by decide)) b W [.int .i64 1,.int .i64 3,.int .i64 3,.int .i64 3] h rfl);have nV:Hid (valuesR (aM p1) 3=([0,1],0)):=aa (by rw[sF];exact ck1_vals);have VW:Hid (choiceR (aM p1)=([0,0,0,0,1,1],0)):=aa (by rw[sF];exact ck1_choice);have cZ:Hid ((ruleR (aM p1)).2=(true,0)):=aa (by rw[sF];exact ck1_rule);obtain⟨p2,yE⟩:∃ p,p=qq 0 [(3,3)]:=⟨_,rfl⟩;rw[<-yE]at lA;have RS:Hid (∀ pc ps nc cc ns cs w,bK w (.slice pc nc cc) p2.t.cases->bh w (.slice ps ns cs) p2.a.states->OZ p2 pc ps nc cc ns cs w):=aa (A2 lA.out (by rw[yE];exact ck_few2));have RM:Hid (∀ (W:World) b,W.heap[b]?=some (.cells #[.int .i64 3,.int .i64 3] 92)->O1 p2 0 1 b W):=aa (by rw[yE];exact fun W b h=>DM 0 [(3,3)] 1 rfl (by omega) (Ml _ (by decide)) b W [.int .i64 3,.int .i64 3] h rfl);have wP:Hid (findW (aM p2)=(ckW,true,0)):=aa (by rw[yE];exact ck2_find);have mK:Hid (certE (aM p2) ⟨1,ckW,0,0,0⟩=0):=aa (by rw[yE];exact ck2_cert);have eE:Hid (shortR (aM p2) ⟨1,ckW,0,0,0⟩=(ckW,0)):=aa (by rw[yE];exact ck2_short);have rl:Hid (certE (aM p2) ⟨1,ckW.take 2,0,0,0⟩=18):=aa (by rw[yE];exact ck2_not);obtain⟨p3,E9⟩:∃ p,p=qq 1 [(1,3),(3,2),(3,3)]:=⟨_,rfl⟩;rw[<-E9]at x';have RL:Hid (∀ pc ps nc cc ns cs w,bK w (.slice pc nc cc) p3.t.cases->bh w (.slice ps ns cs) p3.a.states->OZ p3 pc ps nc cc ns cs w):=aa (A2 x'.out (by rw[E9];exact ck_few3))
 have Rw:Hid (∀ (W:World) b,W.heap[b]?=some (.cells #[.int .i64 1,.int .i64 3,.int .i64 3,.int .i64 2,.int .i64 3,.int .i64 3] 92)->O1 p3 1 3 b W):=aa (by rw[E9];exact fun W b h=>DM 1 [(1,3),(3,2),(3,3)] 3 rfl (by omega) (Ml _ (by decide)) b W [.int .i64 1,.int .i64 3,.int .i64 3,.int .i64 2,.int .i64 3,.int .i64 3] h rfl);have HH3:Hid (choiceR (aM p3)=(List.replicate 9 (-1),0)):=aa (by rw[E9];exact ck3_choice);clear sF yE E9;unfold OZ at Sx RS RL;unfold O1 at Sp RM Rw
 go_enter Tryz.func10,Tryz.ntmps10
 go_wp2_with fail
 refine aN (fun W=>Below w.heap.size w W/\W.heap[w.heap.size]?=some (.cells #[.int .i64 1,.int .i64 3,.int .i64 3,.int .i64 3] 92)) ⟨by go_grown,am _ _⟩ (fun W0 aV=>?_);refine(Sp.out W0 _ aV.2).mono ?_;rintro r w1 ⟨pc,ps,cc,cs,nc,ns,rfl,jt,aI⟩;have wg:=aa (ae aV.1 aI);have nU:=aa (jt w1 (fun _ _ _=>rfl));have HK:=aa (Sx.out _ _ _ _ _ _ w1 nU.out.1 nU.out.2);clear aI aV jt Sx Sp
 go_wp2_with fail
 refine HK.out.mono ?_;rintro r w2 ⟨pt,pe,ct,ce,nt,ne,rfl,cT,aU⟩;have pU:=aa (cT w2 (fun _ _ _=>rfl) (nU.out.1.up up_case aU) (nU.out.2.up up_moves aU));have MA:=aa (ae wg.out aU);clear cT aU HK nU;have tb:=ab (am w2 (.cells #[.int .i64 p1.t.n,.int .i64 p1.t.ins,.int .i64 p1.t.outs,.slice pc nc cc,.int .i64 p1.a.n,.slice ps ns cs,.int .i64 p1.rounds,.int .i64 p1.t.n,.slice pt nt ct,.slice pe ne ce] 35))
 go_wp2_with fail
 clear tb;refine aN (fun W=>Below w2.heap.size w2 W/\W.heap[w2.heap.size]?=some (.cells #[.int .i64 p1.t.n,.int .i64 p1.t.ins,.int .i64 p1.t.outs,.slice pc nc cc,.int .i64 p1.a.n,.slice ps ns cs,.int .i64 p1.rounds,.int .i64 p1.t.n,.slice pt nt ct,.slice pe ne ce] 35)) ⟨by go_grown,am _ _⟩ (fun W3 rj=>?_);have eo:=aa (ae MA.out rj.1);have jE:=aa rj.2;have Af:=aa (pU.out.up rj.1);have iI:=MA.out.size;clear rj pU;refine(OX zX.out Af.out nV.out).mono ?_;rintro r w4 ⟨u4,rfl,ly,bQ⟩;obtain⟨a4,n4,c4,rfl⟩:∃ a n c,u4=.slice a n c:=by obtain⟨a,c,e,_⟩:=ly.at;exact⟨_,_,_,e⟩
 have lZ:=aa ly;have eQ:=aa (ae eo.out bQ);have kZ:=aa (af bQ jE.out);have KS:=aa (Af.out.up bQ);have tb:=ab kZ.out;clear ly bQ jE Af
 go_wp2_with fail
 clear tb;refine(EQ zX.out (HT.out.up eQ.out) KS.out VW.out).mono ?_;rintro r w5 ⟨u5,rfl,rF,dx⟩;obtain⟨a5,n5,c5,rfl⟩:∃ a n c,u5=.slice a n c:=by obtain⟨a,c,e,_⟩:=rF.at;exact⟨_,_,_,e⟩
 have wM:=aa rF;have lZ:=aa (lZ.out.up up_int dx);have lY:=aa (ae eQ.out dx);have Pr:=aa (af dx kZ.out);have PZ:=aa (KS.out.up dx);have tb:=ab Pr.out;clear rF dx kZ KS
 go_wp2_with fail
 clear tb;refine(US zX.out (HT.out.up lY.out) PZ.out cZ.out).mono ?_;rintro r w6 ⟨a6,n6,c6,rfl,gK⟩;have wM:=aa (wM.out.up up_int gK);have lZ:=aa (lZ.out.up up_int gK);have rN:=aa (ae lY.out gK);have WQ:=aa (af gK Pr.out);have SM:=aB WQ.out;clear gK Pr PZ
 go_wp2_with fail
 refine aN (fun W=>Below w6.heap.size w6 W/\W.heap[w6.heap.size+1]?=some (.cells (bu [0,1]) 3)) ⟨by go_grown,bd _ _ _⟩ (fun W7 sR=>?_);refine(fS _ _ [0,1] [0,1] W7 (lZ.out.up up_int sR.1) (ib [0,1] sR.2 (by decide) (by decide))).mono ?_;rintro r w7 ⟨rfl,sY⟩;rw[show eqV [0,1] [0,1]=true by decide];have M4:=ae sR.1 sY;have wM:=aa (wM.out.up up_int M4);have WD:=aa (ae rN.out M4);have KF:=aa (af M4 WQ.out);clear sY M4 sR WQ lZ
 go_wp2_with fail
 refine aN (fun W=>Below w7.heap.size w7 W/\W.heap[w7.heap.size]?=some (.cells (bu [0,0,0,0,1,1]) 3)) ⟨by go_grown,am _ _⟩ (fun W8 ol=>?_);refine(fS _ _ [0,0,0,0,1,1] [0,0,0,0,1,1] W8 (wM.out.up up_int ol.1) (ib [0,0,0,0,1,1] ol.2 (by decide) (by decide))).mono ?_;rintro r w8 ⟨rfl,z'⟩;rw[show eqV [0,0,0,0,1,1] [0,0,0,0,1,1]=true by decide];have Ru:=ae ol.1 z';have Wc:=aa (ae WD.out Ru);have Wn:=aa (af Ru KF.out);clear z' Ru ol KF wM
 go_wp2_with fail
 refine aN (fun W=>Below w8.heap.size w8 W/\W.heap[w8.heap.size]?=some (.cells #[.int .i64 3,.int .i64 3] 92)) ⟨by go_grown,am _ _⟩ (fun W9 hW9=>?_);refine(RM.out W9 _ hW9.2).mono ?_;rintro r w9 ⟨pc2,ps2,cc2,cs2,nc2,ns2,rfl,jt,fk⟩;have CO:=af (ae hW9.1 fk) Wn.out;have hsz9:=hW9.1.size;have h28:=aB Wn.out;have yK:=aa CO;have fM:=aa (ae Wc.out (ae hW9.1 fk));have Sr:=jt w9 (fun _ _ _=>rfl);have HK:=aa (RS.out _ _ _ _ _ _ w9 Sr.1 Sr.2);have nU:=aa jt;have hsz99:=fk.size;clear fk hW9 jt Sr RS RM CO Wn
 go_wp2_with fail
 refine HK.out.mono ?_;rintro r w10 ⟨pt2,pe2,ct2,ce2,nt2,ne2,rfl,cT,A4⟩;have Bd:=aa (af A4 yK.out);have RW:=aa (ae fM.out A4)
 have HF10:Hid (Below w.heap.size w (w10.setRow w2.heap.size #[.int .i64 p2.t.n,.int .i64 p2.t.ins,.int .i64 p2.t.outs,.slice pc2 nc2 cc2,.int .i64 p2.a.n,.slice ps2 ns2 cs2,.int .i64 p2.rounds,.int .i64 p2.t.n,.slice pt2 nt2 ct2,.slice pe2 ne2 ce2])/\(w10.setRow w2.heap.size #[.int .i64 p2.t.n,.int .i64 p2.t.ins,.int .i64 p2.t.outs,.slice pc2 nc2 cc2,.int .i64 p2.a.n,.slice ps2 ns2 cs2,.int .i64 p2.rounds,.int .i64 p2.t.n,.slice pt2 nt2 ct2,.slice pe2 ne2 ce2]).heap[w2.heap.size]?=some (.cells #[.int .i64 p2.t.n,.int .i64 p2.t.ins,.int .i64 p2.t.outs,.slice pc2 nc2 cc2,.int .i64 p2.a.n,.slice ps2 ns2 cs2,.int .i64 p2.rounds,.int .i64 p2.t.n,.slice pt2 nt2 ct2,.slice pe2 ne2 ce2] 35)/\IsSys (w10.setRow w2.heap.size #[.int .i64 p2.t.n,.int .i64 p2.t.ins,.int .i64 p2.t.outs,.slice pc2 nc2 cc2,.int .i64 p2.a.n,.slice ps2 ns2 cs2,.int .i64 p2.rounds,.int .i64 p2.t.n,.slice pt2 nt2 ct2,.slice pe2 ne2 ce2]) (aM p2) (.slice pc2 nc2 cc2) (.slice ps2 ns2 cs2) (.slice pt2 nt2 ct2) (.slice pe2 ne2 ce2)):=aa (by
  have bJ:∀ k,k≠w2.heap.size->(w10.setRow w2.heap.size #[.int .i64 p2.t.n,.int .i64 p2.t.ins,.int .i64 p2.t.outs,.slice pc2 nc2 cc2,.int .i64 p2.a.n,.slice ps2 ns2 cs2,.int .i64 p2.rounds,.int .i64 p2.t.n,.slice pt2 nt2 ct2,.slice pe2 ne2 ce2]).heap[k]?=w10.heap[k]?:=fun k hk=>setRow_other _ _ _ _ hk
  have Mw:=nU.out (w10.setRow w2.heap.size #[.int .i64 p2.t.n,.int .i64 p2.t.ins,.int .i64 p2.t.outs,.slice pc2 nc2 cc2,.int .i64 p2.a.n,.slice ps2 ns2 cs2,.int .i64 p2.rounds,.int .i64 p2.t.n,.slice pt2 nt2 ct2,.slice pe2 ne2 ce2]) (fun k h1 h2=>(bJ k (by omega)).trans (A4.block k h2))
  exact⟨below_setRow RW.out (by omega) _,setRow_heap _ _ _ _ _ _ Bd.out,cT _ (fun k h1 h2=>bJ k (by omega)) Mw.1 Mw.2⟩)
 clear cT A4 HK nU yK
 go_wp2_with (refine wpList_store_row rfl 35 (.tmp 1) (.tmp 60) rfl w2.heap.size #[.int .i64 p2.t.n,.int .i64 p2.t.ins,.int .i64 p2.t.outs,.slice pc2 nc2 cc2,.int .i64 p2.a.n,.slice ps2 ns2 cs2,.int .i64 p2.rounds,.int .i64 p2.t.n,.slice pt2 nt2 ct2,.slice pe2 ne2 ce2] rfl rfl 35 _ Bd.out (by kernel_rfl) rfl (by simp[Value.oneCell']) (gD (fun W=>Below w.heap.size w W/\W.heap[w2.heap.size]?=some (.cells #[.int .i64 p2.t.n,.int .i64 p2.t.ins,.int .i64 p2.t.outs,.slice pc2 nc2 cc2,.int .i64 p2.a.n,.slice ps2 ns2 cs2,.int .i64 p2.rounds,.int .i64 p2.t.n,.slice pt2 nt2 ct2,.slice pe2 ne2 ce2] 35)/\IsSys W (aM p2) (.slice pc2 nc2 cc2) (.slice ps2 ns2 cs2) (.slice pt2 nt2 ct2) (.slice pe2 ne2 ce2)) HF10.out ?_);intro W11 M2;have HB11:=aa M2.1;have Rv:=aa M2.2.1;have Ry:=aa M2.2.2;clear M2 HF10;have tb:=ab Rv.out)
 clear tb;refine(UT lA.out (HT.out.up HB11.out) Ry.out wP.out).mono ?_;rintro r w12 ⟨u12,rfl,Sg,MT⟩;obtain⟨a12,n12,c12,rfl⟩:∃ a n c,u12=.slice a n c:=by obtain⟨a,c,e,_⟩:=Sg.at;exact⟨_,_,_,e⟩
 have HU12:=aa Sg;have HB12:=aa (ae HB11.out MT);have RA:=aa (af MT Rv.out);have HS12:=aa (Ry.out.up MT);have hs12:=aB RA.out;clear Sg MT Rv Ry;have tb1:=fun o1 o2=>ab (ap o2 (ap o1 (am w12 (.cells #[.int .i64 1,.slice a12 n12 c12,.slice none 0 0,.slice none 0 0,.slice none 0 0] 58))))
 have tb2:=fun o1 o2=>ab (bd (w12.alloc o1) o2 (.cells #[.int .i64 1,.slice (some ⟨w12.heap.size+1,0,none⟩) 3 3,.slice none 0 0,.slice none 0 0,.slice none 0 0] 58))
 simp only[World.size_alloc]at tb2
 go_wp2_with fail
 clear tb1 tb2;refine aN (fun W=>Below w12.heap.size w12 W/\W.heap[w12.heap.size]?=some (.cells #[.int .i64 1,.slice a12 n12 c12,.slice none 0 0,.slice none 0 0,.slice none 0 0] 58)/\W.heap[w12.heap.size+1]?=some (.cells #[.int .i64 0,.int .i64 (-1),.int .i64 1,.int .i64 0,.int .i64 2,.int .i64 1] 75)/\W.heap[w12.heap.size+1+1]?=some (.cells #[.int .i64 1,.slice (some ⟨w12.heap.size+1,0,none⟩) 3 3,.slice none 0 0,.slice none 0 0,.slice none 0 0] 58)) ⟨by go_grown,ap _ (ap _ (am _ _)),ap _ (bd _ _ _),dW _ _ _ _⟩ (fun W13 hW13=>?_);refine(Cc 1 ckW _ _ none none none none none none 0 0 0 0 0 0 W13 (HU12.out.up up_link hW13.1) (Ht hW13.2.2.1)).mono ?_;rintro r w13 ⟨rfl,MY⟩;have Ga:=ae hW13.1 MY;have HB13:=aa (ae HB12.out Ga);have DO:=aa (af Ga RA.out);have R7:=aa (HS12.out.up Ga);have Sf:=aa (Ht (af MY hW13.2.2.1));have R8:=aa (af MY hW13.2.2.2);have tb:=ab DO.out;have tc:=ab R8.out;clear hW13 MY Ga RA HS12 HU12
 go_wp2_with fail
 clear tb tc;refine(ER lA.out R7.out Sf.out mK.out).mono ?_;rintro r w14 ⟨rfl,DS⟩;have HB14:=aa (ae HB13.out DS);have DQ:=aa (af DS DO.out);have Rx:=aa (R7.out.up DS);have Sj:=aa (Sf.out.up up_link DS);have RD:=aa (af DS R8.out);have tb:=ab DQ.out;have tc:=ab RD.out;clear DS DO R7 Sf R8
 go_wp2_with fail
 clear tb tc;refine(Mk lA.out (HT.out.up HB14.out) Rx.out Sj.out eE.out).mono ?_;rintro r w15 ⟨u15,rfl,RQ,DP⟩;obtain⟨a15,n15,c15,rfl⟩:∃ a n c,u15=.slice a n c:=by obtain⟨a,c,e,_⟩:=RQ.at;exact⟨_,_,_,e⟩
 have HU15:=aa RQ;have HB15:=aa (ae HB14.out DP);have HX15:=aa (af DP DQ.out);have HS15:=aa (Rx.out.up DP);have HL15:=aa (Sj.out.up up_link DP);have HT15:=aa (af DP RD.out);clear DP RQ DQ Rx Sj RD
 go_wp2_with fail
 refine aN (fun W=>Below w15.heap.size w15 W/\W.heap[w15.heap.size]?=some (.cells #[.int .i64 1,.slice a15 n15 c15,.slice none 0 0,.slice none 0 0,.slice none 0 0] 58)/\W.heap[w15.heap.size+1]?=some (.cells #[.int .i64 1,.int .i64 3,.int .i64 3,.int .i64 2,.int .i64 3,.int .i64 3] 92)) ⟨by go_grown,ap _ (am _ _),bd _ _ _⟩ (fun W16 hW16=>?_);refine(Rw.out W16 _ hW16.2.2).mono ?_;rintro r w16 ⟨pc3,ps3,cc3,cs3,nc3,ns3,rfl,jt,R5⟩;have v7:=ae hW16.1 R5;have nU:=aa (jt w16 (fun _ _ _=>rfl));have HK:=aa (RL.out _ _ _ _ _ _ w16 nU.out.1 nU.out.2);have HB16:=aa (ae HB15.out v7);have HX16:=aa (af v7 HX15.out);have HS16:=aa (HS15.out.up v7);have HL16:=aa (HL15.out.up up_link v7);have HT16:=aa (af v7 HT15.out);have HU16:=aa (HU15.out.up up_link v7);have HD16:=aa (af R5 hW16.2.1);clear hW16 R5 v7 jt RL Rw HX15 HS15 HL15 HT15 HU15
 go_wp2_with fail
 refine HK.out.mono ?_;rintro r w17 ⟨pt3,pe3,ct3,ce3,nt3,ne3,rfl,cT,tZ⟩;have Af:=aa (cT w17 (fun _ _ _=>rfl) (nU.out.1.up up_case tZ) (nU.out.2.up up_moves tZ));have HB17:=aa (ae HB16.out tZ);have HX17:=aa (af tZ HX16.out);have HS17:=aa (HS16.out.up tZ);have HL17:=aa (HL16.out.up up_link tZ);have HT17:=aa (af tZ HT16.out);have HU17:=aa (HU16.out.up up_link tZ);have HD17:=aa (af tZ HD16.out);clear cT tZ HK nU HX16 HS16 HL16 HT16 HU16 HD16;have tb:=ab (am w17 (.cells #[.int .i64 p3.t.n,.int .i64 p3.t.ins,.int .i64 p3.t.outs,.slice pc3 nc3 cc3,.int .i64 p3.a.n,.slice ps3 ns3 cs3,.int .i64 p3.rounds,.int .i64 p3.t.n,.slice pt3 nt3 ct3,.slice pe3 ne3 ce3] 35))
 go_wp2_with fail
 clear tb;refine aN (fun W=>Below w17.heap.size w17 W) (by go_grown) (fun W18 hW18=>?_);refine(EQ x'.out (HT.out.up (ae HB17.out hW18)) (Af.out.up hW18) HH3.out).mono ?_;rintro r w18 ⟨u18,rfl,Sc,hb18⟩;obtain⟨a18,n18,c18,rfl⟩:∃ a n c,u18=.slice a n c:=by obtain⟨a,c,e,_⟩:=Sc.at;exact⟨_,_,_,e⟩
 have sJ:=ae hW18 hb18;have HV18:=aa Sc;have HB18:=aa (ae HB17.out sJ);have HX18:=aa (af sJ HX17.out);have HS18:=aa (HS17.out.up sJ);have HL18:=aa (HL17.out.up up_link sJ);have HT18:=aa (af sJ HT17.out);have HU18:=aa (HU17.out.up up_link sJ);have HD18:=aa (af sJ HD17.out);clear hW18 hb18 sJ Sc HX17 HS17 HL17 HT17 HU17 HD17 Af
 go_wp2_with fail
 have hS:List.Nodup [107,108,109,110,111,112,113,114,115,116,117,118,119,120,121,122,123,124,125,126,127,128,129,130,0]:=by decide
 refine FO 25 [107,108,109,110,111,112,113,114,115,116,117,118,119,120,121,122,123,124,125,126,127,128,129,130,0] [MP.eq (.int .i64 0),MP.eq (.int .i64 0),MP.eq (.int .i64 0),MP.eq (.bool true),MP.eq (.bool true),MP.eq (.agg #[.int .i64 1,.slice a15 n15 c15,.slice none 0 0,.slice none 0 0,.slice none 0 0]),MP.eq (.agg #[.int .i64 1,.slice (some ⟨w12.heap.size+1,0,none⟩) 3 3,.slice none 0 0,.slice none 0 0,.slice none 0 0]),MP.eq (.bool true),MP.eq (.bool true),MP.eq (.bool true),MP.eq (.slice a18 n18 c18),Xv 1 [-1],Xv 9 (List.replicate 9 (-1)),MP.eq (.bool true),MP.eq (.bool true),MP.eq (.bool true),MP.eq (.agg #[.int .i64 p2.t.n,.int .i64 p2.t.ins,.int .i64 p2.t.outs,.slice pc2 nc2 cc2,.int .i64 p2.a.n,.slice ps2 ns2 cs2,.int .i64 p2.rounds,.int .i64 p2.t.n,.slice pt2 nt2 ct2,.slice pe2 ne2 ce2]),MP.eq (.pointer (some ⟨w12.heap.size+1+1,1,none⟩)),MP.eq (.slice (some ⟨w12.heap.size+1,0,none⟩) 3 3),MP.eq (.slice (some ⟨w12.heap.size+1,0,none⟩) 2 3),MP.eq (.agg #[.int .i64 1,.slice (some ⟨w12.heap.size+1,0,none⟩) 2 3,.slice none 0 0,.slice none 0 0,.slice none 0 0]),MP.eq (.int .i64 18),MP.eq (.bool true),MP.eq (.bool true),MP.eq (.bool true)] (by kernel_rfl) rfl hS rfl (by kernel_rfl) ?step ?tail
 case step=>
  intro x W i o s F hi ho hs hB aq hF;rcases (show i=0\/i=1\/i=2\/i=3\/i=4\/i=5\/i=6\/i=7\/i=8\/i=9\/i=10\/i=11\/i=12\/i=13\/i=14\/i=15\/i=16\/i=17\/i=18\/i=19\/i=20\/i=21\/i=22\/i=23\/i=24 by omega) with rfl|rfl|rfl|rfl|rfl|rfl|rfl|rfl|rfl|rfl|rfl|rfl|rfl|rfl|rfl|rfl|rfl|rfl|rfl|rfl|rfl|rfl|rfl|rfl|rfl
  all_goals (obtain rfl:=dp ho.symm;obtain rfl:=dp hs.symm;clear hi ho hs)
  ·obtain⟨g3,h3⟩:=dC hF 3 (.int .i64 0) (by decide) rfl
   clear hF aq
   go_wp2_with fail
   exact bD.mk (.int .i64 0) (Below.refl _ _) rfl rfl
  ·obtain⟨g5,h5⟩:=dC hF 5 (.int .i64 0) (by decide) rfl
   clear hF aq
   go_wp2_with fail
   exact bD.mk (.int .i64 0) (Below.refl _ _) rfl rfl
  ·obtain⟨e0,f0⟩:=aW hF 0 107 (.int .i64 0) hS rfl (by kernel_rfl) (aq ⟨0,.data⟩ (by simp) rfl)
   obtain⟨e1,f1⟩:=aW hF 1 108 (.int .i64 0) hS rfl (by kernel_rfl) (aq ⟨1,.data⟩ (by simp) rfl);clear hF aq
   go_wp2_with fail
   exact bD.mk (.int .i64 0) (Below.refl _ _) rfl rfl
  ·obtain⟨e2,f2⟩:=aW hF 2 109 (.int .i64 0) hS rfl (by kernel_rfl) (aq ⟨2,.data⟩ (by simp) rfl)
   clear hF aq
   go_wp2_with fail
   exact bD.mk (.bool true) (Below.refl _ _) rfl rfl
  ·obtain⟨e3,f3⟩:=aW hF 3 110 (.bool true) hS rfl (by kernel_rfl) (aq ⟨3,.data⟩ (by simp) rfl)
   clear hF aq
   go_wp2_with fail
   exact bD.mk (.bool true) (Below.refl _ _) rfl rfl
  ·obtain⟨g11,Ts⟩:=dC hF 11 (.pointer (some ⟨w15.heap.size,0,none⟩)) (by decide) rfl
   have m4:=ff hF 4 111 (.bool true) hS rfl (by kernel_rfl) (aq ⟨4,.guard⟩ (by simp) rfl);have tb:=ab (af hB HD18.out);clear hF aq
   go_wp2_with fail
   exact bD.mk (.agg #[.int .i64 1,.slice a15 n15 c15,.slice none 0 0,.slice none 0 0,.slice none 0 0]) (Below.refl _ _) rfl rfl
  ·obtain⟨g10,Ft⟩:=dC hF 10 (.pointer (some ⟨w12.heap.size+1+1,0,none⟩)) (by decide) rfl
   have m4:=ff hF 4 111 (.bool true) hS rfl (by kernel_rfl) (aq ⟨4,.guard⟩ (by simp) rfl);have tb:=ab (af hB HT18.out);clear hF aq
   go_wp2_with fail
   exact bD.mk (.agg #[.int .i64 1,.slice (some ⟨w12.heap.size+1,0,none⟩) 3 3,.slice none 0 0,.slice none 0 0,.slice none 0 0]) (Below.refl _ _) rfl rfl
  ·obtain⟨e5,f5⟩:=aW hF 5 112 (.agg #[.int .i64 1,.slice a15 n15 c15,.slice none 0 0,.slice none 0 0,.slice none 0 0]) hS rfl (by kernel_rfl) (aq ⟨5,.data⟩ (by simp) rfl)
   obtain⟨e6,f6⟩:=aW hF 6 113 (.agg #[.int .i64 1,.slice (some ⟨w12.heap.size+1,0,none⟩) 3 3,.slice none 0 0,.slice none 0 0,.slice none 0 0]) hS rfl (by kernel_rfl) (aq ⟨6,.data⟩ (by simp) rfl);have m4:=ff hF 4 111 (.bool true) hS rfl (by kernel_rfl) (aq ⟨4,.guard⟩ (by simp) rfl);clear hF aq
   go_wp2_with fail
   refine(Cc 1 ckW _ _ none none none none none none 0 0 0 0 0 0 W (HU18.out.up up_link hB) (HL18.out.up up_link hB)).mono ?_;rintro r W' ⟨rfl,gN⟩
   go_wp2_with fail
   exact bD.mk (.bool true) gN rfl rfl
  ·obtain⟨e4,f4⟩:=aW hF 4 111 (.bool true) hS rfl (by kernel_rfl) (aq ⟨4,.data⟩ (by simp) rfl)
   obtain⟨e7,f7⟩:=aW hF 7 114 (.bool true) hS rfl (by kernel_rfl) (aq ⟨7,.data⟩ (by simp) rfl);clear hF aq
   go_wp2_with fail
   exact bD.mk (.bool true) (Below.refl _ _) rfl rfl
  ·obtain⟨e8,f8⟩:=aW hF 8 115 (.bool true) hS rfl (by kernel_rfl) (aq ⟨8,.data⟩ (by simp) rfl)
   clear hF aq
   go_wp2_with fail
   exact bD.mk (.bool true) (Below.refl _ _) rfl rfl
  ·obtain⟨g13,h13⟩:=dC hF 13 (.slice a18 n18 c18) (by decide) rfl
   have m9:=ff hF 9 116 (.bool true) hS rfl (by kernel_rfl) (aq ⟨9,.guard⟩ (by simp) rfl);clear hF aq
   go_wp2_with fail
   exact bD.mk (.slice a18 n18 c18) (Below.refl _ _) rfl rfl
  ·have m9:=ff hF 9 116 (.bool true) hS rfl (by kernel_rfl) (aq ⟨9,.guard⟩ (by simp) rfl)
   clear hF aq
   go_wp2_with fail
   exact bD.mk (.slice (some ⟨W.heap.size,0,none⟩) 1 1) (by go_grown) ⟨_,rfl,am _ _⟩ rfl
  ·have d11:=aq ⟨11,.data⟩ (by simp) rfl
   have m9:=ff hF 9 116 (.bool true) hS rfl (by kernel_rfl) (aq ⟨9,.guard⟩ (by simp) rfl);obtain⟨i1,q11,Ts⟩:=d11;obtain⟨e11,f11⟩:=aW hF 11 118 _ hS rfl (by kernel_rfl) q11;clear hF aq
   go_wp2_with fail
   refine(vO (-1) 9 (by omega) (by omega) i1 W Ts).mono ?_;rintro r W' ⟨rfl,h9,gN⟩;rw[xC_nine]at h9;have H9:=aa h9;clear h9
   go_wp2_with fail
   exact bD.mk (.slice (some ⟨W.heap.size,0,none⟩) 9 9) gN ⟨_,rfl,H9.out⟩ rfl
  ·obtain⟨e10,f10⟩:=aW hF 10 117 (.slice a18 n18 c18) hS rfl (by kernel_rfl) (aq ⟨10,.data⟩ (by simp) rfl)
   have d12:=aq ⟨12,.data⟩ (by simp) rfl;have m9:=ff hF 9 116 (.bool true) hS rfl (by kernel_rfl) (aq ⟨9,.guard⟩ (by simp) rfl);obtain⟨i2,q12,TF⟩:=d12;obtain⟨e12,f12⟩:=aW hF 12 119 _ hS rfl (by kernel_rfl) q12;clear hF aq
   go_wp2_with fail
   refine(fS _ _ (List.replicate 9 (-1)) (List.replicate 9 (-1)) W (HV18.out.up up_int hB) (ib (List.replicate 9 (-1)) TF (by decide) (by decide))).mono ?_;rintro r W' ⟨rfl,gN⟩;rw[show eqV (List.replicate 9 (-1)) (List.replicate 9 (-1))=true by decide]
   go_wp2_with fail
   exact bD.mk (.bool true) gN rfl rfl
  ·obtain⟨e9,f9⟩:=aW hF 9 116 (.bool true) hS rfl (by kernel_rfl) (aq ⟨9,.data⟩ (by simp) rfl)
   obtain⟨e13,f13⟩:=aW hF 13 120 (.bool true) hS rfl (by kernel_rfl) (aq ⟨13,.data⟩ (by simp) rfl);clear hF aq
   go_wp2_with fail
   exact bD.mk (.bool true) (Below.refl _ _) rfl rfl
  ·obtain⟨e14,f14⟩:=aW hF 14 121 (.bool true) hS rfl (by kernel_rfl) (aq ⟨14,.data⟩ (by simp) rfl)
   clear hF aq
   go_wp2_with fail
   exact bD.mk (.bool true) (Below.refl _ _) rfl rfl
  ·obtain⟨g1,h1⟩:=dC hF 1 (.pointer (some ⟨w2.heap.size,0,none⟩)) (by decide) rfl
   have m15:=ff hF 15 122 (.bool true) hS rfl (by kernel_rfl) (aq ⟨15,.guard⟩ (by simp) rfl);have tb:=ab (af hB HX18.out);clear hF aq
   go_wp2_with fail
   exact bD.mk (.agg #[.int .i64 p2.t.n,.int .i64 p2.t.ins,.int .i64 p2.t.outs,.slice pc2 nc2 cc2,.int .i64 p2.a.n,.slice ps2 ns2 cs2,.int .i64 p2.rounds,.int .i64 p2.t.n,.slice pt2 nt2 ct2,.slice pe2 ne2 ce2]) (Below.refl _ _) rfl rfl
  ·obtain⟨g10,Ft⟩:=dC hF 10 (.pointer (some ⟨w12.heap.size+1+1,0,none⟩)) (by decide) rfl
   have m15:=ff hF 15 122 (.bool true) hS rfl (by kernel_rfl) (aq ⟨15,.guard⟩ (by simp) rfl);clear hF aq
   go_wp2_with fail
   exact bD.mk (.pointer (some ⟨w12.heap.size+1+1,1,none⟩)) (Below.refl _ _) rfl rfl
  ·obtain⟨e17,f17⟩:=aW hF 17 124 (.pointer (some ⟨w12.heap.size+1+1,1,none⟩)) hS rfl (by kernel_rfl) (aq ⟨17,.data⟩ (by simp) rfl)
   have m15:=ff hF 15 122 (.bool true) hS rfl (by kernel_rfl) (aq ⟨15,.guard⟩ (by simp) rfl);have tb:=ab (af hB HT18.out) 1;simp at tb;clear hF aq
   go_wp2_with fail
   exact bD.mk (.slice (some ⟨w12.heap.size+1,0,none⟩) 3 3) (Below.refl _ _) rfl rfl
  ·obtain⟨e18,f18⟩:=aW hF 18 125 (.slice (some ⟨w12.heap.size+1,0,none⟩) 3 3) hS rfl (by kernel_rfl) (aq ⟨18,.data⟩ (by simp) rfl)
   have m15:=ff hF 15 122 (.bool true) hS rfl (by kernel_rfl) (aq ⟨15,.guard⟩ (by simp) rfl);clear hF aq
   go_wp2_with fail
   exact bD.mk (.slice (some ⟨w12.heap.size+1,0,none⟩) 2 3) (Below.refl _ _) rfl rfl
  ·obtain⟨e19,f19⟩:=aW hF 19 126 (.slice (some ⟨w12.heap.size+1,0,none⟩) 2 3) hS rfl (by kernel_rfl) (aq ⟨19,.data⟩ (by simp) rfl)
   have m15:=ff hF 15 122 (.bool true) hS rfl (by kernel_rfl) (aq ⟨15,.guard⟩ (by simp) rfl);clear hF aq
   go_wp2_with fail
   exact bD.mk (.agg #[.int .i64 1,.slice (some ⟨w12.heap.size+1,0,none⟩) 2 3,.slice none 0 0,.slice none 0 0,.slice none 0 0]) (Below.refl _ _) rfl rfl
  ·obtain⟨e16,f16⟩:=aW hF 16 123 (.agg #[.int .i64 p2.t.n,.int .i64 p2.t.ins,.int .i64 p2.t.outs,.slice pc2 nc2 cc2,.int .i64 p2.a.n,.slice ps2 ns2 cs2,.int .i64 p2.rounds,.int .i64 p2.t.n,.slice pt2 nt2 ct2,.slice pe2 ne2 ce2]) hS rfl (by kernel_rfl) (aq ⟨16,.data⟩ (by simp) rfl)
   obtain⟨e20,f20⟩:=aW hF 20 127 (.agg #[.int .i64 1,.slice (some ⟨w12.heap.size+1,0,none⟩) 2 3,.slice none 0 0,.slice none 0 0,.slice none 0 0]) hS rfl (by kernel_rfl) (aq ⟨20,.data⟩ (by simp) rfl);have m15:=ff hF 15 122 (.bool true) hS rfl (by kernel_rfl) (aq ⟨15,.guard⟩ (by simp) rfl);clear hF aq
   go_wp2_with fail
   refine(ER lA.out (HS18.out.up hB) (vY (HL18.out.up up_link hB) 2 (by decide)) rl.out).mono ?_;rintro r W' ⟨rfl,gN⟩
   go_wp2_with fail
   exact bD.mk (.int .i64 18) gN rfl rfl
  ·obtain⟨e21,f21⟩:=aW hF 21 128 (.int .i64 18) hS rfl (by kernel_rfl) (aq ⟨21,.data⟩ (by simp) rfl)
   have m15:=ff hF 15 122 (.bool true) hS rfl (by kernel_rfl) (aq ⟨15,.guard⟩ (by simp) rfl);clear hF aq
   go_wp2_with fail
   exact bD.mk (.bool true) (Below.refl _ _) rfl rfl
  ·obtain⟨e15,f15⟩:=aW hF 15 122 (.bool true) hS rfl (by kernel_rfl) (aq ⟨15,.data⟩ (by simp) rfl)
   obtain⟨e22,f22⟩:=aW hF 22 129 (.bool true) hS rfl (by kernel_rfl) (aq ⟨22,.data⟩ (by simp) rfl);clear hF aq
   go_wp2_with fail
   exact bD.mk (.bool true) (Below.refl _ _) rfl rfl
  ·obtain⟨e23,f23⟩:=aW hF 23 130 (.bool true) hS rfl (by kernel_rfl) (aq ⟨23,.data⟩ (by simp) rfl)
   clear hF aq
   go_wp2_with fail
   exact bD.mk (.bool true) (Below.refl _ _) rfl rfl
 case tail=>
  clear hS;intro x w19 F hB aQ hF;have e24:=aQ 24 (by omega);change x 24=_ at e24;clear aQ;simp only[br,cW,List.setIfInBounds_toArray,List.set_cons_succ,List.set_cons_zero,Nat.reduceAdd]at hF;rw[e24]at hF;generalize x 0=r0,x 1=r1,x 2=r2,x 3=r3,x 4=r4,x 5=r5,x 6=r6,x 7=r7,x 8=r8,x 9=r9,x 10=r10,x 11=r11,x 12=r12,x 13=r13,x 14=r14,x 15=r15,x 16=r16,x 17=r17,x 18=r18,x 19=r19,x 20=r20,x 21=r21,x 22=r22,x 23=r23 at hF;subst hF;have HB19:=aa (ae HB18.out hB);clear hB e24
  go_wp2_with fail
  go_ret
  exact⟨rfl,HB19.out⟩
theorem Mm(n:Nat) (hn:n<=4096) (x:Int) (w:World) :
  Calls Tryz.prog 45 #[.int .i64 n,.int .i64 x] w fun r w'=>∃ u,r=.returned u/\aG w' w.heap.size 3 1 u n ((List.replicate n x).map (Value.int .i64))/\Below w.heap.size w w':=by
 obtain⟨i0,cU,cg,bV,cj⟩:=info_parts Tryz.infoInt;have cf:=aa (And.intro cU (And.intro cg (And.intro bV cj)));clear cU cg bV cj;have eV:Hid (∀ k,List.replicate (k+1) x=List.replicate k x++[x]):=aa fun k=>List.replicate_succ'
 go_enter Tryz.func45,Tryz.ntmps45
 go_wp2_with fail
 go_loopw [5,6] (fun o i wr=>∃ k:Nat,k<=n/\i=.int .i64 k/\Below w.heap.size w wr/\aG wr w.heap.size 3 1 o k ((List.replicate k x).map (Value.int .i64))) (fun _ i _=>n - (intOf i).toNat)
 case atStart=>exact⟨0,by omega,rfl,Below.refl _ _,aG.nil _ _ _ _⟩
 case round=>
  obtain⟨k,hk,rfl,ar,aX⟩:=hrel;obtain⟨al,cl2,rfl⟩:=aX.slice;have bI:=aa aX;have aP:=aa ar;clear aX ar;by_cases aA:k<n
  ·have da:=aa (bI.out.up ((Below.refl _ wr).alloc (Nat.le_refl _) (.cells #[.int .i64 x] 3)))
   have bz:=aa (dF wr [.int .i64 x] 3);have kW:Hid (k+1<=maxLen):=aa (by unfold maxLen;omega);have rC:Hid ((k+1) * 8<=140737488355328):=aa (by omega);have gq:Hid (w.heap.size<=(wr.alloc (.cells #[.int .i64 x] 3)).heap.size):=aa (by have:=aP.out.size;simp;omega)
   go_wp2_with (at_builtin;(refine aY _ rfl (.tmp 12) (.tmp 14) 38 rfl w.heap.size 3 i0 _ 1 8 Tryz.underlying38 cf.out.1 cf.out.2.1 cf.out.2.2.1 cf.out.2.2.2 rfl (by decide) _ k _ rfl da.out ⟨wr.heap.size,0,none⟩ 1 1 [.int .i64 x] rfl rfl bz.out (by simp[Value.oneCell']) kW.out rC.out gq.out ?_;intro v6 w6 fc eA _))
   go_roundw
   case rel=>
    refine⟨k+1,by omega,by go_num,ez aP.out (Nat.le_refl _) da.out eA,?_⟩;rw[eV.out,List.map_append];exact fc
   case measure=>simp[intOf];omega
  ·obtain rfl:k=n:=by omega
   go_wp2_with fail
   go_ret
   exact⟨_,rfl,bI.out,aP.out⟩
theorem O2(n:Nat) (hn:n<=4096) (x:Int) (hx:bM x) (w:World) :
  Calls Tryz.prog 45 #[.int .i64 n,.int .i64 x] w fun r w'=>∃ u,r=.returned u/\aT w' u (List.replicate n x)/\Below w.heap.size w w':=by
 refine(Mm n hn x w).mono ?_;rintro r w' ⟨u,rfl,ho,hb⟩;exact⟨_,rfl,gu (l:=List.replicate n x) (base:=w.heap.size) (by rw[List.length_replicate];exact ho) (fun y hy=>by rw[List.eq_of_mem_replicate hy];exact hx) (by simp;omega),hb⟩
theorem Ro(v:Value) (l:List Int) (x:Int) (w:World) (hv:aT w v l) :
  Calls Tryz.prog 44 #[v,.int .i64 x] w fun r w'=>r=.returned (.bool (l.contains x))/\w=w':=by
 obtain⟨pl,cl,rfl,el⟩:=dO hv;obtain⟨_,_,_,_,cG,_⟩:=hv.at;have EL:=aa el;have HY:Hid (∀ k,k<l.length->l.getD k 0=x->l.contains x=true):=aa fun k hk h=>by rw[List.contains_iff_mem,<-h,az 0 hk];exact List.getElem_mem hk
 have fy:Hid ((∀ k,k<l.length->l.getD k 0≠x)->l.contains x=false):=aa fun h=>by
  cases hc:l.contains x with
  | false=>rfl
  | true=>
   obtain⟨k,hk,e⟩:=List.getElem_of_mem (List.contains_iff_mem.1 hc);exact absurd (by rw[az 0 hk];exact e) (h k hk)
 generalize l.contains x=b at HY fy ⊢;clear hv el
 go_enter Tryz.func44,Tryz.ntmps44
 go_wp2_with fail
 go_loop [5] (fun i=>∃ k:Nat,k<=l.length/\i=.int .i64 k/\∀ j,j<k->l.getD j 0≠x) (fun i=>l.length - (intOf i).toNat)
 case atStart=>exact⟨0,by omega,rfl,fun j hj=>by omega⟩
 case round=>
  obtain⟨k,hk,rfl,hz⟩:=hrel;have HZ:=aa hz;clear hz;by_cases aA:k<l.length
  ·obtain⟨b1,o1,rfl,c1⟩:=EL.out k aA
   have PC:=aa (HY.out k aA);have ge:Hid (l.getD k 0≠x->∀ j,j<k+1->l.getD j 0≠x):=aa fun h=>aS HZ.out h
   generalize l.getD k 0=y at c1 PC ge;by_cases bY:y=x
   ·have HR:=aa (PC.out bY)
    have hd:(y == x)=true:=by simp[bY]
    clear bY
    go_wp2_with fail
    go_ret
    exact⟨aO (by rw[HR.out]),rfl⟩
   ·have HN:=aa (ge.out bY)
    have hd:(y == x)=false:=beq_eq_false_iff_ne.2 bY;clear bY
    go_wp2_with fail
    go_round
    case rel=>exact⟨k+1,by omega,by go_num,HN.out⟩
    case measure=>simp[intOf];omega
  ·have HR:=aa (fy.out fun j hj=>HZ.out j (by omega))
   go_wp2_with fail
   go_ret
   exact⟨aO (by rw[HR.out]),rfl⟩
theorem Hv(v:Value) (l:List Int) (x:Int) (hn:l.length<=4096) (w:World) (hv:aT w v l) :
  Calls Tryz.prog 52 #[v,.int .i64 x] w fun r w'=>∃ u,r=.returned u/\aT w' u ((memL l x).map fun e:Nat=>(e:Int))/\Below w.heap.size w w'/\∀ b,u.ownBlock=some b->w.heap.size<=b:=by
 obtain⟨i0,cU,cg,bV,cj⟩:=info_parts Tryz.infoInt;have cf:=aa (And.intro cU (And.intro cg (And.intro bV cj)));clear cU cg bV cj;obtain⟨pl,cl,rfl,el⟩:=dO hv;have EL:=aa el;obtain⟨L,hL⟩:∃ L:Nat->List Int,L=fun k=>(gl l x k).map fun e:Nat=>(e:Int):=⟨_,rfl⟩
 have kJ:Hid (L 0=[]/\(∀ k,l.getD k 0=x->L (k+1)=L k++[(k:Int)])/\(∀ k,l.getD k 0≠x->L (k+1)=L k)/\(∀ k,(L k).length<=k)/\∀ k,k<=4096->∀ y∈L k,bM y):=aa (by
  subst hL;refine⟨rfl,fun k h=>by dsimp only;rw[sB h,List.map_append];rfl,fun k h=>by dsimp only;rw[AX h],fun k=>?_,fun k hk y hy=>?_⟩
  ·dsimp only
   rw[List.length_map];exact Nat.le_trans (List.length_filter_le _ _) (by simp)
  ·obtain⟨j,hj,rfl⟩:=List.mem_map.1 hy
   have:=List.mem_range.1 (List.mem_filter.1 hj).1
   exact⟨by omega,by omega⟩)
 have HF:Hid (L l.length=(memL l x).map fun e:Nat=>(e:Int)):=aa (by subst hL;rfl);generalize ((memL l x).map fun e:Nat=>(e:Int))=F at HF ⊢;obtain⟨n,Am⟩:∃ n,l.length=n:=⟨_,rfl⟩;rw[Am]at EL HF hn ⊢;clear hv el hL Am
 go_enter Tryz.func52,Tryz.ntmps52
 go_wp2_with fail
 go_loopw [5,6] (fun o i wr=>∃ k:Nat,k<=n/\i=.int .i64 k/\Below w.heap.size w wr/\aG wr w.heap.size 3 1 o (L k).length ((L k).map (Value.int .i64))) (fun _ i _=>n - (intOf i).toNat)
 case atStart=>exact⟨0,by omega,rfl,Below.refl _ _,by rw[kJ.out.1];exact aG.nil _ _ _ _⟩
 case round=>
  obtain⟨k,hk,rfl,ar,aX⟩:=hrel;obtain⟨al,cl2,rfl⟩:=aX.slice;have bI:=aa aX;have aP:=aa ar;have Ir:=kJ.out.2.2.2.1 k;by_cases aA:k<n
  ·obtain⟨b1,o1,rfl,c0⟩:=EL.out k aA
   have c1:=ak ar c0;have rJ:=aa (kJ.out.2.1 k);have rO:=aa (kJ.out.2.2.1 k);obtain⟨q,hq⟩:∃ q,(L k).length=q:=⟨_,rfl⟩;rw[hq]at bI Ir ⊢;have HQ:=aa hq;generalize l.getD k 0=y at c1 rJ rO;clear aX ar c0 hq;by_cases bY:y=x
   ·have eV:=aa (rJ.out bY)
    have pV:Hid ((L (k+1)).length=q+1):=aa (by rw[eV.out,List.length_append,HQ.out];rfl);have hd:(y == x)=true:=by simp[bY]
    clear bY;have da:=aa (bI.out.up ((Below.refl _ wr).alloc (Nat.le_refl _) (.cells #[.int .i64 (k:Int)] 3)));have bz:=aa (dF wr [.int .i64 (k:Int)] 3);have kW:Hid (q+1<=maxLen):=aa (by unfold maxLen;omega);have rC:Hid ((q+1) * 8<=140737488355328):=aa (by omega);have gq:Hid (w.heap.size<=(wr.alloc (.cells #[.int .i64 (k:Int)] 3)).heap.size):=aa (by have:=aP.out.size;simp;omega)
    go_wp2_with (at_builtin;(refine aY _ rfl (.tmp 19) (.tmp 21) 38 rfl w.heap.size 3 i0 _ 1 8 Tryz.underlying38 cf.out.1 cf.out.2.1 cf.out.2.2.1 cf.out.2.2.2 rfl (by decide) _ q _ rfl da.out ⟨wr.heap.size,0,none⟩ 1 1 [.int .i64 (k:Int)] rfl rfl bz.out (by simp[Value.oneCell']) kW.out rC.out gq.out ?_;intro v6 w6 fc eA _))
    go_roundw
    case rel=>
     refine⟨k+1,by omega,by go_num,ez aP.out (Nat.le_refl _) da.out eA,?_⟩;rw[pV.out,eV.out,List.map_append];exact fc
    case measure=>simp[intOf];omega
   ·have eV:=aa (rO.out bY)
    have hd:(y == x)=false:=beq_eq_false_iff_ne.2 bY;clear bY
    go_wp2_with fail
    go_roundw
    case rel=>
     refine⟨k+1,by omega,by go_num,aP.out,?_⟩;rw[eV.out,HQ.out];exact bI.out
    case measure=>simp[intOf];omega
  ·obtain rfl:k=n:=by omega
   have HQ:Hid (aT wr (.slice al (L k).length cl2) F):=aa (by rw[<-HF.out];exact gu (l:=L k) (base:=w.heap.size) aX (kJ.out.2.2.2.2 k hn) (by omega));have P3:Hid (∀ b,(Value.slice al (L k).length cl2).ownBlock=some b->w.heap.size<=b):=aa (fun b hb=>(aX.lt b hb).1);clear aX ar
   go_wp2_with fail
   go_ret
   exact⟨_,rfl,HQ.out,aP.out,P3.out⟩
theorem Hw(x0:Value) (p1:Option Addr) (n1 c1:Nat) (p2:Option Addr) (n2 c2:Nat) (f:Int) (w:World) (h0:∃ a n c,x0=.slice a n c) :
  Calls Tryz.prog 80 #[.agg #[x0,.slice p1 n1 c1,.slice p2 n2 c2],.int .i64 f] w fun e w'=>e=.returned (if f=0/\0<n2 then .slice p2 n2 c2 else .slice p1 n1 c1)/\Below w.heap.size w w':=by
 obtain⟨a0,m0,k0,rfl⟩:=h0;by_cases hf:f=0
 ·have hd:(f == 0)=true:=by simp[hf]
  by_cases hl:0<n2
  ·have e1:decide ((0:Int)<(n2:Int))=true:=decide_eq_true (by omega)
   have e2:decide (0<n2)=true:=decide_eq_true hl;rw[if_pos ⟨hf,hl⟩];clear hf hl
   go_enter Tryz.func80,Tryz.ntmps80
   go_wp2_with fail
   go_ret
   exact⟨rfl,by go_grown⟩
  ·have e1:decide ((0:Int)<(n2:Int))=false:=decide_eq_false (by omega)
   have e2:decide (0<n2)=false:=decide_eq_false hl;rw[if_neg (fun h=>hl h.2)];clear hf hl
   go_enter Tryz.func80,Tryz.ntmps80
   go_wp2_with fail
   go_ret
   exact⟨rfl,by go_grown⟩
 ·have hd:(f == 0)=false:=beq_eq_false_iff_ne.2 hf
  rw[if_neg (fun h=>hf h.1)];clear hf
  go_enter Tryz.func80,Tryz.ntmps80
  go_wp2_with fail
  go_ret
  exact⟨rfl,by go_grown⟩
theorem Kt(s:Sys) (hs:SysOk s) (e:Nat) (he:e<eS s) (vc vs vt ve:Value) (w:World) (cT:IsSys w s vc vs vt ve) :
  Calls Tryz.prog 40 #[.agg (bT s.prob vc vs s.n vt ve),.int .i64 e] w fun r w'=>∃ u,r=.returned u/\aT w' u (valuesS s e)/\Below w.heap.size w w':=by
 obtain⟨i0,cU,cg,bV,cj⟩:=info_parts Tryz.infoInt;have cf:=aa (And.intro cU (And.intro cg (And.intro bV cj)));clear cU cg bV cj;have HS:=aa cT;obtain⟨⟨pc,cc,rfl⟩,⟨ps,cs,rfl⟩,⟨pt,ct,rfl⟩,⟨pe,ce,rfl⟩⟩:=bE cT;clear cT;obtain⟨b,o,_,ce',e0,rfl,pw,nw,cw,pv,cv,c1,c2,c3,lP,eF,gI,-⟩:=it hs HS.out.ex he;injection e0 with e01 e02 e03
 subst e01;have A6:nw<=6:=by have:=hs.rounds;omega
 clear e02 e03 lP;have ym:=aa (fun W (hb:Below w.heap.size w W)=>zT (cA s e).c (fltS s e) pw nw cw (.slice pv (s.prob.rounds.toNat+1) cv) W A6 (fun h=>by obtain⟨b1,o1,q1,q2⟩:=eF h;exact⟨b1,o1,q1,ak hb q2⟩) gI);obtain⟨eP,lV⟩:=hs.cas e he;obtain⟨k,hk⟩:∃ k:Nat,(cA s e).c=k:=⟨(cA s e).c.toNat,by omega⟩;rw[hk,Int.toNat_natCast]at lV;obtain⟨pc',cc',e1,_,_,ec⟩:=HS.out.cases.at;injection e1 with e11 e12 e13
 subst e11;clear e12 e13;obtain⟨bc,oc,rfl,⟨x0,cx0,cN⟩,⟨x1,cx1,df⟩,⟨x2,cx2,dM⟩⟩:=ec k lV;have Fz:s.prob.t.cases[k]=s.prob.t.cases.getD (cA s e).c.toNat default:=by rw[hk,Int.toNat_natCast];exact(az default lV).symm
 rw[Fz]at cN df dM;obtain⟨p0,q0,rfl,_⟩:=cN;have kj:=aa df;have fF:=aa dM;obtain⟨p1,q1,rfl,_⟩:=df;obtain⟨p2,q2,rfl,_⟩:=dM
 have oE:Hid (dR w (if fltS s e=0/\0<(s.prob.t.cases.getD (cA s e).c.toNat default).calm.length then .slice p2 (s.prob.t.cases.getD (cA s e).c.toNat default).calm.length q2 else .slice p1 (s.prob.t.cases.getD (cA s e).c.toNat default).out.length q1) (vecE s e)):=aa (by
  unfold vecE fT;split
  ·exact fF.out
  ·exact kj.out)
 have VI:Hid (∃ a n c,(if fltS s e=0/\0<(s.prob.t.cases.getD (cA s e).c.toNat default).calm.length then Value.slice p2 (s.prob.t.cases.getD (cA s e).c.toNat default).calm.length q2 else .slice p1 (s.prob.t.cases.getD (cA s e).c.toNat default).out.length q1)=.slice a n c):=aa (by
  split
  ·exact⟨_,_,_,rfl⟩
  ·exact⟨_,_,_,rfl⟩)
 have Ie:=aa (fun W=>Hw (.slice p0 (s.prob.t.cases.getD (cA s e).c.toNat default).inp.length q0) p1 (s.prob.t.cases.getD (cA s e).c.toNat default).out.length q1 p2 (s.prob.t.cases.getD (cA s e).c.toNat default).calm.length q2 (fltS s e) W ⟨_,_,_,rfl⟩);have wL:Hid (∀ v:Nat,valB s e v=hasV (vecE s e) (List.replicate (nS s) (v:Int))):=aa fun v=>rfl
 have fg:=hs.n.2.2.1;have ji:=hs.n.2.1;have qG:=hs.outs.2.2;have Tv:=hs.outs.2.1;have V6:Hid (im s e (oS s)=valuesS s e):=aa rfl;have Ao:=aa (AY s e);have HVY:=aa (fun k (h:valB s e k=true)=>Hk h);have HVN:=aa (fun k (h:valB s e k=false)=>Kl h);have oA:im s e 0=[]:=rfl;have CR:=aa oA;generalize (if fltS s e=0/\0<(s.prob.t.cases.getD (cA s e).c.toNat default).calm.length then Value.slice p2 (s.prob.t.cases.getD (cA s e).c.toNat default).calm.length q2 else .slice p1 (s.prob.t.cases.getD (cA s e).c.toNat default).out.length q1)=V at oE VI Ie;obtain⟨va,vn,vk,rfl⟩:=VI.out;rw[hk]at ym c1;obtain⟨n,hn⟩:∃ n,nS s=n:=⟨_,rfl⟩;obtain⟨oo,hoq⟩:∃ oo,oS s=oo:=⟨_,rfl⟩;obtain⟨m,hm⟩:∃ m,s.ex.length=m:=⟨_,rfl⟩;have uR:e<m:=by rw[<-hm];exact he
 rw[hn]at fg ji wL;rw[hoq]at qG Tv V6;rw[hm];obtain⟨vl,wR⟩:∃ vl,vecE s e=vl:=⟨_,rfl⟩;rw[wR]at oE wL;have mV:=aa fg;have HOO:=aa qG;generalize valuesS s e=vs0 at V6 ⊢;generalize (s.prob.t.cases.getD (cA s e).c.toNat default).inp.length=l0 at cx0 Ie;generalize (s.prob.t.cases.getD (cA s e).c.toNat default).out.length=l1 at cx1 Ie;generalize (s.prob.t.cases.getD (cA s e).c.toNat default).calm.length=l2 at cx2 Ie;generalize fltS s e=fl at ym Ie;obtain⟨rn,hrn⟩:∃ rn,s.prob.rounds.toNat+1=rn:=⟨_,rfl⟩;rw[hrn]at ym c3;clear VI eF gI hn hoq hm wR hk eP Fz fg qG kj fF ec oA hrn
 go_enter Tryz.func40,Tryz.ntmps40
 have d1:∀ o',(w.alloc o').cell? ⟨b,o+e * 3,none⟩=_:=fun o'=>ak (by go_grown) c1
 have d2:∀ o',(w.alloc o').cell? ⟨b,o+e * 3+1,none⟩=_:=fun o'=>ak (by go_grown) c2
 have d3:∀ o',(w.alloc o').cell? ⟨b,o+e * 3+2,none⟩=_:=fun o'=>ak (by go_grown) c3
 go_wp2_with fail
 clear d1 d2 d3 c1 c2 c3;refine bm (fun W=>Below w.heap.size w W/\(∃ c,W.heap[w.heap.size]?=some (.cells c 35)/\c=bT s.prob (.slice (some ⟨bc,oc,none⟩) s.prob.t.cases.length cc) (.slice ps s.prob.a.states.length cs) s.n (.slice pt s.tab.length ct) (.slice (some ⟨b,o,none⟩) m ce))/\W.heap[w.heap.size+1]?=some (.cells #[.int .i64 k,.slice pw nw cw,.slice pv rn cv] 89)) ⟨by go_grown,⟨_,ap _ (am _ _),rfl⟩,bd _ _ _⟩ (fun W0 aV=>?_);obtain⟨aH,⟨_,hA,rfl⟩,hX⟩:=aV;have fj:=aa aH;have HA:=aa hA;have HX:=aa hX;have yC:∀ z:ExtW W0,z.val.cell? ⟨w.heap.size,3,none⟩=some (.slice (some ⟨bc,oc,none⟩) s.prob.t.cases.length cc):=fun z=>(ab (af z.ext HA.out) 3).trans rfl
 have yX:∀ z:ExtW W0,∀ j,z.val.cell? ⟨w.heap.size+1,j,none⟩=_:=fun z=>ab (af z.ext HX.out)
 have y0:∀ z:ExtW W0,z.val.cell? ⟨bc,oc+k * 3,none⟩=_:=fun z=>ak (ae fj.out z.ext) cx0
 have y1:∀ z:ExtW W0,z.val.cell? ⟨bc,oc+k * 3+1,none⟩=_:=fun z=>ak (ae fj.out z.ext) cx1
 have y2:∀ z:ExtW W0,z.val.cell? ⟨bc,oc+k * 3+2,none⟩=_:=fun z=>ak (ae fj.out z.ext) cx2
 have K1:Hid (∀ y:ExtW W0,Calls Tryz.prog 61 #[.agg #[.int .i64 (k:Int),.slice pw nw cw,.slice pv rn cv]] y.val fun r w''=>r=.returned (.int .i64 fl)/\∃ z:ExtW W0,w''=z.val):=aa (fun y=>Calls.ext_of (ym.out y.val (ae fj.out y.ext)));have K2:Hid (∀ y:ExtW W0,Calls Tryz.prog 80 #[.agg #[.slice p0 l0 q0,.slice p1 l1 q1,.slice p2 l2 q2],.int .i64 fl] y.val fun r w''=>r=.returned (.slice va vn vk)/\∃ z:ExtW W0,w''=z.val):=aa (fun y=>Calls.ext_of (Ie.out y.val));clear aH hA hX cx0 cx1 cx2 ym Ie;refine aC (by kernel_rfl) (by kernel_rfl) ?_
 repeat (go_big_quiet_step (first|(go_at_call 61;with_reducible exact K1.out _)|(go_at_call 80;with_reducible exact K2.out _)))
 refine wpQuiet_nil ?_;rintro _ ⟨xq,rfl⟩;have bR:=aa (ae fj.out xq.ext);have HAX:=aa (af xq.ext HA.out);clear yC yX y0 y1 y2;generalize xq.val=W1 at bR HAX ⊢;have hsw1:=bR.out.size
 go_wp2_with fail
 go_loopw [7,8] (fun q i wr=>∃ k:Nat,k<=oo/\i=.int .i64 k/\Below W1.heap.size W1 wr/\aG wr W1.heap.size 3 1 q (im s e k).length ((im s e k).map (Value.int .i64))) (fun _ i _=>oo - (intOf i).toNat)
 case atStart=>exact⟨0,by omega,rfl,Below.refl _ _,by rw[CR.out];exact aG.nil _ _ _ _⟩
 case round=>
  obtain⟨v,hv,rfl,ar,aX⟩:=hrel;obtain⟨al,cl2,rfl⟩:=aX.slice;have bI:=aa aX;have aP:=aa ar;have sW:=af ar HAX.out;have tO:wr.cell? ⟨w.heap.size,2,none⟩=some (.int .i64 (oo:Int)):=(ab sW 2).trans (by rw[<-HOO.out];rfl);have tN:wr.cell? ⟨w.heap.size,7,none⟩=some (.int .i64 (n:Int)):=(ab sW 7).trans (by rw[<-mV.out];rfl);have Ir:=Ao.out v;clear aX ar sW;by_cases aA:v<oo
  ·have nR:(v:Int)<(oo:Int):=by omega
   have yw:=aa (O2 n (by omega) (v:Int) ⟨by omega,by omega⟩ wr)
   go_wp2_with fail
   clear tO tN;refine yw.out.mono ?_;rintro r w2 ⟨u,rfl,hu,aU⟩;have HU:=aa hu;have cL:=aa (ae aP.out aU);have MA:=aa aU;obtain⟨au,cu,rfl,_⟩:=hu.at;have WN:=aa (Et _ _ vl _ w2 (oE.out.up up_ints (ae bR.out cL.out)) HU.out);rw[<-wL.out]at WN;rw[List.length_replicate]at WN ⊢;clear hu aU yw
   go_wp2_with fail
   refine WN.out.mono ?_;rintro r w3 ⟨rfl,bC⟩;have eo:=aa (ae cL.out bC);have HOWN2:=aa (bI.out.up (ae MA.out bC));clear bC bI;have bI:=HOWN2;obtain⟨wr4,kr⟩:∃ x,x=wr:=⟨_,rfl⟩;subst kr;obtain⟨wr,kr⟩:∃ x,x=w3:=⟨_,rfl⟩;subst kr;clear aP;have aP:=eo;obtain⟨q,hq⟩:∃ q,(im s e v).length=q:=⟨_,rfl⟩;rw[hq]at bI Ir ⊢;have HQ:=aa hq;clear hq;cases hb:valB s e v with
   | true=>
    have eV:=aa (HVY.out v hb);have pV:Hid ((im s e (v+1)).length=q+1):=aa (by rw[eV.out,List.length_append,HQ.out];rfl);clear hb;have da:=aa (bI.out.up ((Below.refl _ wr).alloc (Nat.le_refl _) (.cells #[.int .i64 (v:Int)] 3)));have bz:=aa (dF wr [.int .i64 (v:Int)] 3);have kW:Hid (q+1<=maxLen):=aa (by unfold maxLen;omega);have rC:Hid ((q+1) * 8<=140737488355328):=aa (by omega);have gq:Hid (W1.heap.size<=(wr.alloc (.cells #[.int .i64 (v:Int)] 3)).heap.size):=aa (by have:=aP.out.size;simp;omega)
    go_wp2_with (at_builtin;(refine aY _ rfl (.tmp 40) (.tmp 42) 38 rfl W1.heap.size 3 i0 _ 1 8 Tryz.underlying38 cf.out.1 cf.out.2.1 cf.out.2.2.1 cf.out.2.2.2 rfl (by decide) _ q _ rfl da.out ⟨wr.heap.size,0,none⟩ 1 1 [.int .i64 (v:Int)] rfl rfl bz.out (by simp[Value.oneCell']) kW.out rC.out gq.out ?_;intro v6 w6 fc eA _))
    go_roundw
    case rel=>
     refine⟨v+1,by omega,by go_num,ez aP.out (Nat.le_refl _) da.out eA,?_⟩;rw[pV.out,eV.out,List.map_append];exact fc
    case measure=>simp[intOf];omega
   | false=>
    have eV:=aa (HVN.out v hb);clear hb
    go_wp2_with fail
    go_roundw
    case rel=>
     refine⟨v+1,by omega,by go_num,aP.out,?_⟩;rw[eV.out,HQ.out];exact bI.out
    case measure=>simp[intOf];omega
  ·obtain rfl:v=oo:=by omega
   clear tN
   have HI:Hid (aT wr (.slice al (im s e v).length cl2) vs0):=aa (by
    rw[<-V6.out];refine gu (l:=im s e v) bI.out (fun y hy=>?_) (by omega);obtain⟨j,hj,rfl⟩:=List.mem_map.1 hy;have:=List.mem_range.1 (List.mem_filter.1 hj).1
    exact⟨by omega,by omega⟩)
   go_wp2_with fail
   go_ret
   exact⟨_,rfl,HI.out,ae bR.out aP.out⟩
theorem Mn(t:Tk) (vc:Value) (w:World) (hv:bK w vc t.cases) :
  Calls Tryz.prog 79 #[.agg #[.int .i64 t.n,.int .i64 t.ins,.int .i64 t.outs,vc]] w fun e w'=>e=.returned (.bool (agreeB t))/\Below w.heap.size w w':=by
 obtain⟨pc,cc,rfl,l1,m1,e1⟩:=hv.at;clear hv;have E:=aa e1;clear e1
 have fy:Hid (∀ k j,k<t.cases.length->j<(t.cases.getD k default).out.length->constB ((t.cases.getD k default).out.getD j [])=false->agreeB t=false):=aa fun k j hk hj h=>by
  cases ha:agreeB t with
  | false=>rfl
  | true=>rw[(pI t).1 ha k hk j hj]at h;cases h
 have jp:Hid ((∀ k,k<t.cases.length->∀ j,j<(t.cases.getD k default).out.length->constB ((t.cases.getD k default).out.getD j [])=true)->agreeB t=true):=aa fun h=>(pI t).2 h
 generalize agreeB t=ag at fy jp
 go_enter Tryz.func79,Tryz.ntmps79
 go_wp2_with fail
 refine bm (fun W=>Below w.heap.size w W/\W.heap[w.heap.size]?=some (.cells #[.int .i64 t.n,.int .i64 t.ins,.int .i64 t.outs,.slice pc t.cases.length cc] 24)) ⟨by go_grown,am _ _⟩ (fun W0 aV=>?_);have fj:=aa aV.1;have kV:=aa aV.2;clear aV
 go_loopw [3] (fun i wr=>∃ k:Nat,k<=t.cases.length/\i=.int .i64 k/\Below W0.heap.size W0 wr/\∀ q,q<k->∀ j,j<(t.cases.getD q default).out.length->constB ((t.cases.getD q default).out.getD j [])=true) (fun i _=>t.cases.length - (intOf i).toNat)
 case atStart=>exact⟨0,by omega,rfl,Below.refl _ _,fun q hq=>by omega⟩
 case round=>
  obtain⟨k,hk,rfl,ar,aR⟩:=hrel;have H:=aa aR;clear aR;have dm:=ae fj.out ar;have eD:=aa dm;have HBR0:=aa ar;have tA:=ab (af ar kV.out);by_cases aA:k<t.cases.length
  ·obtain⟨b1,o1,rfl,⟨x0,cx0,cN⟩,⟨x1,cx1,df⟩,⟨x2,cx2,dM⟩⟩:=E.out k aA
   have HG:=aa (az default aA);obtain⟨p1,q1,rfl,wh,RU,ex⟩:=df.at;have EX:=aa ex;have D1:=aa cx1;have pY:=aa (fun j=>fy.out k j aA);rw[HG.out]at pY;clear cx0 cx1 cx2 cN df dM ex;generalize t.cases[k]=c at D1 EX HG pY wh RU
   go_wp2_with fail
   clear tA;obtain⟨wrA,kG⟩:∃ x,x=wr:=⟨_,rfl⟩;subst kG
   go_loopw [4] (fun i wr=>∃ j:Nat,j<=c.out.length/\i=.int .i64 j/\Below W0.heap.size W0 wr/\∀ q,q<j->constB (c.out.getD q [])=true) (fun i _=>c.out.length - (intOf i).toNat)
   case atStart=>exact⟨0,by omega,rfl,HBR0.out,fun q hq=>by omega⟩
   case round=>
    obtain⟨j,hj,rfl,kn,aR⟩:=hrel;have H2:=aa aR;clear aR;have eC:=aa kn;have bR:=aa (ae fj.out kn);have tA:=ab (af kn kV.out);have d1:=ak bR.out D1.out;by_cases fx:j<c.out.length
    ·obtain⟨b3,o3,rfl,vx,cvx,Fb⟩:=EX.out j fx
     have dv:=ak bR.out cvx;have CV:=aa (Fb.up up_int bR.out);have z5:=aa (az [] fx);rw[Nat.mul_one]at dv;clear cvx Fb kn
     go_wp2_with fail
     refine(L9 vx _ wr CV.out).mono ?_;rintro e w4 ⟨rfl,bQ⟩;have eQ:=aa (ae eC.out bQ);clear dv bQ tA d1;cases hc:constB c.out[j] with
     | false=>
      have HR:=aa (pY.out j fx (by rw[z5.out];exact hc));clear hc
      go_wp2_with fail
      go_ret
      exact⟨aO (by rw[HR.out]),ae fj.out eQ.out⟩
     | true=>
      have HN:=aa (aS (p:=fun q=>constB (c.out.getD q [])=true) H2.out (by rw[z5.out];exact hc));clear hc
      go_wp2_with fail
      go_roundw
      case rel=>exact⟨j+1,by omega,by go_num,eQ.out,HN.out⟩
      case measure=>simp[intOf];omega
    ·obtain rfl:j=c.out.length:=by omega
     have HN:Hid (∀ q,q<k+1->∀ j,j<(t.cases.getD q default).out.length->constB ((t.cases.getD q default).out.getD j [])=true):=aa (aS (p:=fun q=>∀ j,j<(t.cases.getD q default).out.length->constB ((t.cases.getD q default).out.getD j [])=true) H.out (by rw[HG.out];exact H2.out));clear kn
     go_wp2_with fail
     go_roundw
     case rel=>exact⟨k+1,by omega,by go_num,eC.out,HN.out⟩
     case measure=>simp[intOf];omega
  ·obtain rfl:k=t.cases.length:=by omega
   have HR:=aa (jp.out fun q hq=>H.out q hq)
   go_wp2_with fail
   go_ret
   exact⟨aO (by rw[HR.out]),eD.out⟩
theorem UU{s:Sys} {e v:Nat} (hv:v<oS s):(valuesS s e).contains (v:Int)=valB s e v:=by
 cases h:valB s e v with
 | true=>
  rw[List.contains_iff_mem];exact List.mem_map.2 ⟨v,List.mem_filter.2 ⟨List.mem_range.2 hv,h⟩,rfl⟩
 | false=>
  cases hc:(valuesS s e).contains (v:Int) with
  | false=>rfl
  | true=>
   rw[List.contains_iff_mem]at hc;obtain⟨y,hy,e1⟩:=List.mem_map.1 hc;have h2:=(List.mem_filter.1 hy).2;have:y=v:=by omega
   rw[this,h]at h2;cases h2
def Xu(l:List Int):MP:=⟨fun x W=>aT W x l,fun _ _ _ h hb=>h.up up_int hb⟩
theorem J0(s:Sys) (hs:SysOk s) (l:List Nat) (hl:∀ e∈l,e<eS s) (vl vc vs vt ve:Value) (w:World) (cT:IsSys w s vc vs vt ve) (hv:aT w vl (l.map fun e:Nat=>(e:Int))) :
  Calls Tryz.prog 86 #[.agg (bT s.prob vc vs s.n vt ve),vl] w fun r w'=>r=.returned (.int .i64 (comB s l))/\Below w.heap.size w w':=by
 have HS:=aa cT;obtain⟨⟨qc,kc,rfl⟩,⟨qs,ks,rfl⟩,⟨qt,kt,rfl⟩,⟨qe,ke,rfl⟩⟩:=bE cT;have xS:=aa (fun e (he:e<eS s) W (hb:Below w.heap.size w W)=>Kt s hs e he _ _ _ _ W (HS.out.up hb));obtain⟨pl,cl,rfl,el⟩:=dO hv;obtain⟨_,_,_,_,cG,_⟩:=hv.at;rw[List.length_map]at el cG ⊢
 have EL:Hid (∀ i (hi:i<l.length),∃ b o,pl=some ⟨b,o,none⟩/\w.cell? ⟨b,o+i,none⟩=some (.int .i64 (l[i]:Nat))):=aa (fun i hi=>by
  obtain⟨b,o,e1,h1⟩:=el i hi;refine⟨b,o,e1,?_⟩;rw[h1]
  simp[hi])
 have HLM:Hid (∀ i (hi:i<l.length),l[i]<eS s):=aa (fun i hi=>hl _ (List.getElem_mem hi));have HHV:Hid (∀ e v,v<oS s->(valuesS s e).contains (v:Int)=valB s e v):=aa (fun e v h=>UU h);have Ck:Hid (∀ v,v<oS s->(∀ j,j<v->l.all (fun e=>valB s e j)=false)->l.all (fun e=>valB s e v)=true->comB s l=v):=aa (fun v h1 h2 h3=>dj (oS s) v _ h1 h2 h3)
 have MU:Hid ((∀ j,j<oS s->l.all (fun e=>valB s e j)=false)->comB s l=-1):=aa (fun h=>by
  unfold comB;rcases bG (oS s) (fun v=>l.all fun e=>valB s e v) with ⟨e,_⟩|⟨k,hk,_,h2,_⟩
  ·exact e
  ·rw[h k hk]at h2;cases h2)
 have km:Hid (∀ v i (hi:i<l.length),((l.take (i+1)).all fun e=>valB s e v)=(((l.take i).all fun e=>valB s e v)&&valB s l[i] v)):=aa (fun v i hi=>by rw[List.take_succ_eq_append_getElem hi,List.all_append];simp);have P4:Hid (∀ v,((l.take l.length).all fun e=>valB s e v)=l.all fun e=>valB s e v):=aa (fun v=>by rw[List.take_length]);have IX:Hid (∀ v,((l.take 0).all fun e=>valB s e v)=true):=aa (fun v=>by simp);generalize hA:(fun (v i:Nat)=>(l.take i).all fun e=>valB s e v)=A at *;have km:Hid (∀ v i (hi:i<l.length),A v (i+1)=(A v i&&valB s l[i] v)):=aa (fun v i hi=>by rw[<-hA];exact km.out v i hi);have P4:Hid (∀ v,A v l.length=l.all fun e=>valB s e v):=aa (fun v=>by rw[<-hA];exact P4.out v);have IX:Hid (∀ v,A v 0=true):=aa (fun v=>by rw[<-hA];exact IX.out v);generalize comB s l=r at Ck MU ⊢;have Xh:s.prob.t.outs=(oS s:Int):=by have:=hs.outs;unfold oS at *;omega
 have Tv:oS s<=8:=hs.outs.2.1;obtain⟨no,jl⟩:∃ no,oS s=no:=⟨_,rfl⟩;rw[jl]at HHV Ck MU Xh Tv;obtain⟨n,hn⟩:∃ n,l.length=n:=⟨_,rfl⟩;have HN:=aa hn;rw[hn]at cG ⊢;have HOS:=aa Xh;clear cT hv el hl hA jl hn Xh
 go_enter Tryz.func86,Tryz.ntmps86
 go_wp2_with fail
 refine bm (fun W=>Below w.heap.size w W/\∃ c,W.heap[w.heap.size]?=some (.cells c 35)/\c=bT s.prob (.slice qc s.prob.t.cases.length kc) (.slice qs s.prob.a.states.length ks) s.n (.slice qt s.tab.length kt) (.slice qe s.ex.length ke)) ⟨by go_grown,_,am _ _,rfl⟩ (fun W1 cD=>?_);obtain⟨aI,_,dZ,rfl⟩:=cD;have bF:=aa aI;have du:=aa dZ;clear aI dZ
 go_loopw [5] (fun i wr=>∃ v:Nat,v<=no/\i=.int .i64 v/\Below W1.heap.size W1 wr/\∀ j,j<v->(l.all fun e=>valB s e j)=false) (fun i _=>no - (intOf i).toNat)
 case atStart=>exact⟨0,by omega,rfl,Below.refl _ _,fun j hj=>by omega⟩
 case round=>
  obtain⟨v,hv,rfl,ar,aR⟩:=hrel;have H:=aa aR;have aP:=aa ar;have tA:=ab (af ar du.out);clear aR;by_cases aA:v<no
  ·have hd:decide ((v:Int)<s.prob.t.outs)=true:=decide_eq_true (by have:=HOS.out;omega)
   have HAV:Hid (A v 0=true):=aa (IX.out v);clear ar
   go_wp2_with fail
   clear tA hd;obtain⟨wrA,kG⟩:∃ x,x=wr:=⟨_,rfl⟩;subst kG
   go_loopw [6,7] (fun a i wr=>∃ k:Nat,k<=n/\i=.int .i64 k/\a=.bool (A v k)/\Below W1.heap.size W1 wr) (fun _ i _=>n - (intOf i).toNat)
   case atStart=>exact⟨0,by omega,rfl,by rw[HAV.out],aP.out⟩
   case round=>
    obtain⟨k,hk,rfl,rfl,IY⟩:=hrel;have CL:=aa IY;by_cases Cy:k<n
    ·have lX:k<l.length:=by rw[HN.out];exact Cy
     obtain⟨b1,o1,rfl,c1⟩:=EL.out k lX;have E8:=aa (km.out v k lX);have iJ:=HLM.out k lX;generalize l[k]'lX=e at c1 E8 iJ;have C1:=aa (ak (ae bF.out IY) c1);have FB:=aa (af IY du.out);have nV:=aa (HHV.out e v aA);cases Cp:A v k with
     | false=>
      rw[Cp]at E8;clear IY c1 Cp iJ
      go_wp2_with fail
      refine aC (by kernel_rfl) (by kernel_rfl) ?_
      repeat (go_big_quiet_step (fail))
      refine wpQuiet_nil ?_;rintro _ ⟨xq,rfl⟩
      go_wp2_with fail
      go_roundw
      case rel=>exact⟨k+1,by omega,by go_num,by rw[E8.out];rfl,ae CL.out xq.ext⟩
      case measure=>simp[intOf];omega
     | true=>
      rw[Cp]at E8;have PQ:=aa iJ;generalize valB s e v=bv at E8 nV;generalize s.prob.t.cases.length=nc,s.prob.a.states.length=ns,s.tab.length=nt,s.ex.length=ne at FB xS;clear IY c1 Cp iJ
      go_wp2_with fail
      have hS:List.Nodup [22,23,24,25,26,27,28,29,30,31,32]:=by decide
      refine fU 11 [22,23,24,25,26,27,28,29,30,31,32] [MP.eq (.bool true),MP.eq (.bool true),MP.eq (.agg #[.int .i64 s.prob.t.n,.int .i64 s.prob.t.ins,.int .i64 s.prob.t.outs,.slice qc nc kc,.int .i64 s.prob.a.n,.slice qs ns ks,.int .i64 s.prob.rounds,.int .i64 s.n,.slice qt nt kt,.slice qe ne ke]),MP.eq (.slice (some ⟨b1,o1,none⟩) n cl),MP.eq (.int .i64 k),MP.eq (.pointer (some ⟨b1,o1+k,none⟩)),MP.eq (.int .i64 (e:Nat)),Xu (valuesS s e),MP.eq (.int .i64 v),MP.eq (.bool bv),MP.eq (.bool bv)] (by kernel_rfl) (by simp) hS rfl (by kernel_rfl) (by kernel_rfl) (by kernel_rfl) ?step ?tail
      case step=>
       intro xq Wq iq oq sq F hi ho hs hB aq hF;rcases (show iq=0\/iq=1\/iq=2\/iq=3\/iq=4\/iq=5\/iq=6\/iq=7\/iq=8\/iq=9\/iq=10 by omega) with rfl|rfl|rfl|rfl|rfl|rfl|rfl|rfl|rfl|rfl|rfl
       all_goals (obtain rfl:=dp ho.symm;obtain rfl:=dp hs.symm;clear hi ho hs)
       ·obtain⟨g6,h6⟩:=dC hF 6 (.bool true) (by decide) rfl
        clear hF aq
        go_wp2_with fail
        exact bD.mk (.bool true) (Below.refl _ _) rfl rfl
       ·obtain⟨e0,f0⟩:=aW hF 0 22 (.bool true) hS rfl (by kernel_rfl) (aq ⟨0,.data⟩ (by simp) rfl)
        clear hF aq
        go_wp2_with fail
        exact bD.mk (.bool true) (Below.refl _ _) rfl rfl
       ·obtain⟨g2,h2⟩:=dC hF 2 (.pointer (some ⟨w.heap.size,0,none⟩)) (by decide) rfl
        have m1:=ff hF 1 23 (.bool true) hS rfl (by kernel_rfl) (aq ⟨1,.guard⟩ (by simp) rfl);have tb:=ab (af hB FB.out);clear hF aq
        go_wp2_with fail
        exact bD.mk (.agg #[.int .i64 s.prob.t.n,.int .i64 s.prob.t.ins,.int .i64 s.prob.t.outs,.slice qc nc kc,.int .i64 s.prob.a.n,.slice qs ns ks,.int .i64 s.prob.rounds,.int .i64 s.n,.slice qt nt kt,.slice qe ne ke]) (Below.refl _ _) rfl rfl
       ·obtain⟨g1,h1⟩:=dC hF 1 (.slice (some ⟨b1,o1,none⟩) n cl) (by decide) rfl
        have m1:=ff hF 1 23 (.bool true) hS rfl (by kernel_rfl) (aq ⟨1,.guard⟩ (by simp) rfl);clear hF aq
        go_wp2_with fail
        exact bD.mk (.slice (some ⟨b1,o1,none⟩) n cl) (Below.refl _ _) rfl rfl
       ·obtain⟨g7,h7⟩:=dC hF 7 (.int .i64 k) (by decide) rfl
        have m1:=ff hF 1 23 (.bool true) hS rfl (by kernel_rfl) (aq ⟨1,.guard⟩ (by simp) rfl);clear hF aq
        go_wp2_with fail
        exact bD.mk (.int .i64 k) (Below.refl _ _) rfl rfl
       ·obtain⟨e3,f3⟩:=aW hF 3 25 (.slice (some ⟨b1,o1,none⟩) n cl) hS rfl (by kernel_rfl) (aq ⟨3,.data⟩ (by simp) rfl)
        obtain⟨e4,f4⟩:=aW hF 4 26 (.int .i64 k) hS rfl (by kernel_rfl) (aq ⟨4,.data⟩ (by simp) rfl);have m1:=ff hF 1 23 (.bool true) hS rfl (by kernel_rfl) (aq ⟨1,.guard⟩ (by simp) rfl);clear hF aq
        go_wp2_with fail
        exact bD.mk (.pointer (some ⟨b1,o1+k,none⟩)) (Below.refl _ _) rfl rfl
       ·obtain⟨e5,f5⟩:=aW hF 5 27 (.pointer (some ⟨b1,o1+k,none⟩)) hS rfl (by kernel_rfl) (aq ⟨5,.data⟩ (by simp) rfl)
        have m1:=ff hF 1 23 (.bool true) hS rfl (by kernel_rfl) (aq ⟨1,.guard⟩ (by simp) rfl);have tb:=ak hB C1.out;clear hF aq
        go_wp2_with fail
        exact bD.mk (.int .i64 (e:Nat)) (Below.refl _ _) rfl rfl
       ·obtain⟨e2,f2⟩:=aW hF 2 24 (.agg #[.int .i64 s.prob.t.n,.int .i64 s.prob.t.ins,.int .i64 s.prob.t.outs,.slice qc nc kc,.int .i64 s.prob.a.n,.slice qs ns ks,.int .i64 s.prob.rounds,.int .i64 s.n,.slice qt nt kt,.slice qe ne ke]) hS rfl (by kernel_rfl) (aq ⟨2,.data⟩ (by simp) rfl)
        obtain⟨e6,f6⟩:=aW hF 6 28 (.int .i64 (e:Nat)) hS rfl (by kernel_rfl) (aq ⟨6,.data⟩ (by simp) rfl);have m1:=ff hF 1 23 (.bool true) hS rfl (by kernel_rfl) (aq ⟨1,.guard⟩ (by simp) rfl);clear hF aq
        go_wp2_with fail
        refine(xS.out e PQ.out Wq (ae bF.out (ae CL.out hB))).mono ?_;rintro r w9 ⟨u9,rfl,hu9,fk⟩;have HU9:=aa hu9;clear hu9
        go_wp2_with fail
        exact bD.mk _ fk HU9.out rfl
       ·obtain⟨g5,h5⟩:=dC hF 5 (.int .i64 v) (by decide) rfl
        have m1:=ff hF 1 23 (.bool true) hS rfl (by kernel_rfl) (aq ⟨1,.guard⟩ (by simp) rfl);clear hF aq
        go_wp2_with fail
        exact bD.mk (.int .i64 v) (Below.refl _ _) rfl rfl
       ·have d7:=aq ⟨7,.data⟩ (by simp) rfl
        obtain⟨e8,f8⟩:=aW hF 8 30 (.int .i64 v) hS rfl (by kernel_rfl) (aq ⟨8,.data⟩ (by simp) rfl);have m1:=ff hF 1 23 (.bool true) hS rfl (by kernel_rfl) (aq ⟨1,.guard⟩ (by simp) rfl);have d7':aT Wq (xq 7) (valuesS s e):=d7;obtain⟨e7,f7⟩:=aW hF 7 29 _ hS rfl (by kernel_rfl) rfl;clear hF aq
        go_wp2_with fail
        refine(Ro _ (valuesS s e) v Wq d7').mono ?_;rintro r w9 ⟨rfl,rfl⟩;rw[nV.out]
        go_wp2_with fail
        exact bD.mk (.bool bv) (Below.refl _ _) rfl rfl
       ·obtain⟨e1,f1⟩:=aW hF 1 23 (.bool true) hS rfl (by kernel_rfl) (aq ⟨1,.data⟩ (by simp) rfl)
        obtain⟨e9,f9⟩:=aW hF 9 31 (.bool bv) hS rfl (by kernel_rfl) (aq ⟨9,.data⟩ (by simp) rfl);clear hF aq
        go_wp2_with fail
        exact bD.mk (.bool bv) (Below.refl _ _) rfl rfl
      case tail=>
       clear hS;intro xq W3 F hB aQ hF;have e11:xq 10=.bool bv:=aQ 10 (by omega);clear aQ;simp only[br,cW,List.setIfInBounds_toArray,List.set_cons_succ,List.set_cons_zero,Nat.reduceAdd]at hF;rw[e11]at hF;generalize xq 0=s0,xq 1=s1,xq 2=s2,xq 3=s3,xq 4=s4,xq 5=s5,xq 6=s6,xq 7=s7,xq 8=s8,xq 9=s9 at hF;subst hF;have bR:=aa (ae CL.out hB);clear hB e11;simp only[List.drop_succ_cons,List.drop_zero]
       go_wp2_with fail
       go_roundw
       case rel=>exact⟨k+1,by omega,by go_num,by rw[E8.out];rfl,bR.out⟩
       case measure=>simp[intOf];omega
    ·obtain rfl:k=n:=by omega
     have O8:=aa (P4.out v);rw[HN.out]at O8;cases Cp:A v k with
     | true=>
      have HR:=aa (Ck.out v aA H.out (by rw[<-O8.out];exact Cp));clear Cp IY
      go_wp2_with fail
      go_ret
      exact⟨aD (by rw[HR.out]),ae bF.out CL.out⟩
     | false=>
      have rO:=aa (aS (p:=fun j=>(l.all fun e=>valB s e j)=false) H.out (by rw[<-O8.out];exact Cp));clear Cp IY
      go_wp2_with fail
      go_roundw
      case rel=>exact⟨v+1,by omega,by go_num,CL.out,rO.out⟩
      case measure=>simp[intOf];omega
  ·obtain rfl:v=no:=by omega
   have hd:decide ((v:Int)<s.prob.t.outs)=false:=decide_eq_false (by have:=HOS.out;omega);have HR:=aa (MU.out H.out);clear ar
   go_wp2_with fail
   go_ret
   exact⟨aD (by rw[HR.out]),ae bF.out aP.out⟩
def Rp(q:Nat->Nat->Bool) (i k:Nat) (x:Int):Prop:=(x=-1/\∀ j,j<k->q j i=false)\/∃ m,m<i/\firstIx i (fun k=>q k i)=m/\x=(a8 q i).1.getD m 0/\0<=x
theorem UV{q:Nat->Nat->Bool} {i:Nat} {x:Int} (h:Rp q i i x):(x<0->a8 q (i+1)=((a8 q i).1++[(a8 q i).2],(a8 q i).2+1))/\(0<=x->a8 q (i+1)=((a8 q i).1++[x],(a8 q i).2)):=by
 rcases h with ⟨rfl,h⟩|⟨m,hm,h1,h2,h3⟩
 ·refine⟨fun _=>?_,fun h=>by omega⟩
  rw[a8];rw[dG _ _ h,if_pos (by omega)]
 ·refine⟨fun h=>by omega,fun _=>?_⟩
  rw[a8];rw[h1,if_neg (by omega),Int.toNat_natCast,h2]
theorem zV(q:Nat->Nat->Bool):∀ i,0<=(a8 q i).2/\(a8 q i).2<=i/\∀ x∈(a8 q i).1,0<=x/\x<=i
 | 0=>⟨by simp[a8],by simp[a8],fun x hx=>by simp[a8]at hx⟩
 | i+1=>by
  obtain⟨h1,h2,h3⟩:=zV q i;have hl:=jL q i;rw[a8];split
  ·refine⟨by dsimp only;omega,by dsimp only;omega,fun x hx=>?_⟩
   rcases List.mem_append.1 hx with hx|hx
   ·have:=h3 x hx;omega
   ·rw[List.mem_singleton.1 hx];omega
  ·rename_i h4
   refine⟨h1,by dsimp only;omega,fun x hx=>?_⟩;rcases List.mem_append.1 hx with hx|hx
   ·have:=h3 x hx;omega
   ·rw[List.mem_singleton.1 hx]
    rcases bG i (fun k=>q k i) with ⟨e,_⟩|⟨k,hk,e,_⟩
    ·omega
    ·rw[e,Int.toNat_natCast,az 0 (by omega)]
     have:=h3 _ (List.getElem_mem (l:=(a8 q i).1) (n:=k) (by omega));omega
theorem zW(v:Value) (l:List Int) (hl:l.length<=4096) (w:World) (hv:aT w v l) :
  Calls Tryz.prog 140 #[v] w fun r w'=>∃ u,r=.returned u/\aT w' u (kO l)/\Below w.heap.size w w':=by
 obtain⟨pl,cl,rfl,el⟩:=dO hv;have EL:=aa el;obtain⟨i0,cU,cg,bV,cj⟩:=info_parts Tryz.infoInt;have cf:=aa (And.intro cU (And.intro cg (And.intro bV cj)));obtain⟨q,hq⟩:∃ q:Nat->Nat->Bool,q=fun k i=>decide (l.getD k 0=l.getD i 0):=⟨_,rfl⟩
 have HQ:Hid (∀ k i,q k i=decide (l.getD k 0=l.getD i 0)):=aa fun k i=>by rw[hq]
 have hH:Hid (kO l=(a8 q l.length).1):=aa (by rw[hq];rfl);have lU:=aa (zV q);have pV:=aa (jL q);have iY:=aa (fun i x=>UV (q:=q) (i:=i) (x:=x));obtain⟨n,hn⟩:∃ n,l.length=n:=⟨_,rfl⟩;rw[hn]at EL hl hH ⊢;clear hv el hq hn cU cg bV cj
 go_enter Tryz.func140,Tryz.ntmps140
 go_wp2_with fail
 go_loopw [3,4,5] (fun o nx i wr=>∃ k:Nat,k<=n/\i=.int .i64 k/\nx=.int .i64 (a8 q k).2/\Below w.heap.size w wr/\aG wr w.heap.size 3 1 o k ((a8 q k).1.map (Value.int .i64))) (fun _ _ i _=>n - (intOf i).toNat)
 case atStart=>exact⟨0,by omega,rfl,rfl,Below.refl _ _,aG.nil _ _ _ _⟩
 case round=>
  obtain⟨i,hi,rfl,rfl,ar,aX⟩:=hrel;obtain⟨al,cl2,rfl⟩:=aX.slice;have bI:=aa aX;have aP:=aa ar;have AE:=ar.size;clear aX ar;obtain⟨wrA,kG⟩:∃ x,x=wr:=⟨_,rfl⟩;subst kG;by_cases aA:i<n
  ·obtain⟨bi,oi,rfl,ci⟩:=EL.out i aA
   have di:=ak aP.out ci;have KP:=lU.out i
   go_wp2_with fail
   go_loopw [6,7] (fun x j wr=>∃ k:Nat,k<=i/\j=.int .i64 k/\Below wrA.heap.size wrA wr/\∃ y:Int,x=.int .i64 y/\Rp q i k y) (fun _ j _=>i - (intOf j).toNat)
   case atStart=>exact⟨0,by omega,rfl,Below.refl _ _,-1,rfl,.inl ⟨rfl,fun j hj=>by omega⟩⟩
   case round=>
    obtain⟨k,hk,rfl,kn,y,rfl,MW⟩:=hrel;have RG:=aa MW;have eC:=aa kn;by_cases oz:k<i/\y<0
    ·obtain⟨Cr,hy⟩:=oz
     have Fr:decide ((k:Int)<(i:Int))=true:=decide_eq_true (by omega);have Rz:decide (k<i)=true:=decide_eq_true Cr;have fY:decide (y<0)=true:=decide_eq_true hy;obtain⟨bk,ok,e1,ck⟩:=EL.out k (by omega);injection e1 with e1
     injection e1 with e11 e12
     subst e11 e12;have y1:∀ z:ExtW wr,z.val.cell? ⟨bi,oi+k,none⟩=_:=fun z=>ak (ae aP.out (ae eC.out z.ext)) ck
     have y2:∀ z:ExtW wr,z.val.cell? ⟨bi,oi+i,none⟩=_:=fun z=>ak (ae aP.out (ae eC.out z.ext)) ci
     have Cy:k<n:=by omega
     have fy:Hid (∀ j,j<k->q j i=false):=aa (by
      rcases RG.out with ⟨_,h⟩|⟨m,_,_,_,h⟩
      ·exact h
      ·omega)
     cases Au:q k i with
     | true=>
      have bY:l.getD k 0=l.getD i 0:=of_decide_eq_true ((HQ.out k i).symm.trans Au);have HF:Hid (firstIx i (fun k=>q k i)=k):=aa (dj _ _ _ Cr fy.out Au);have cG:=pV.out i;have qm:((a8 q i).1.map (Value.int .i64))[k]?=some (.int .i64 ((a8 q i).1.getD k 0)):=by rw[List.getElem?_map,List.getElem?_eq_getElem (by omega),az 0 (by omega)];rfl
      obtain⟨g,c',ev,cv⟩:=bI.out.cell k _ qm;injection ev with ev1 ev2 ev3
      subst ev1;clear ev2 ev3;have dv:=ak eC.out cv;have HY:Hid (0<=(a8 q i).1.getD k 0):=aa (by rw[az 0 (by omega)];exact(KP.2.2 _ (List.getElem_mem _)).1);rw[bY]at y1;clear MW kn bY Au qm cv ck cG;generalize l.getD i 0=x at y1 y2;have kY:(x == x)=true:=by simp
      go_wp2_with fail
      refine aC (by kernel_rfl) (by kernel_rfl) ?_
      repeat (go_big_quiet_step (fail))
      refine wpQuiet_nil ?_;rintro _ ⟨xq,rfl⟩;have dv2:=ak xq.ext dv;clear y1 y2
      go_wp2_with fail
      go_roundw
      case rel=>exact⟨k+1,by omega,by go_num,ae eC.out xq.ext,_,rfl,.inr ⟨k,Cr,HF.out,rfl,HY.out⟩⟩
      case measure=>simp[intOf];omega
     | false=>
      have bY:¬ l.getD k 0=l.getD i 0:=of_decide_eq_false ((HQ.out k i).symm.trans Au)
      have Pw:Hid (y=-1):=aa (by
       rcases RG.out with ⟨h,_⟩|⟨m,_,_,_,h⟩
       ·exact h
       ·omega)
      have Sv:Hid (∀ j,j<k+1->q j i=false):=aa (aS fy.out Au);have kY:(l.getD k 0 == l.getD i 0)=false:=beq_eq_false_iff_ne.2 bY;clear MW kn bY Au ck;generalize l.getD i 0=x at y1 y2 kY;generalize l.getD k 0=x2 at y1 kY
      go_wp2_with fail
      refine aC (by kernel_rfl) (by kernel_rfl) ?_
      repeat (go_big_quiet_step (fail))
      refine wpQuiet_nil ?_;rintro _ ⟨xq,rfl⟩;clear y1 y2
      go_wp2_with fail
      go_roundw
      case rel=>exact⟨k+1,by omega,by go_num,ae eC.out xq.ext,_,rfl,.inl ⟨Pw.out,Sv.out⟩⟩
      case measure=>simp[intOf];omega
    ·have HE:Hid (Rp q i i y):=aa (by
      rcases RG.out with ⟨h,h2⟩|h
      ·have:k=i:=by omega
       rw[this]at h2;exact .inl ⟨h,h2⟩
      ·exact .inr h)
     have bR:=aa (ae aP.out kn);have M9:=aa (bI.out.up kn);have kW:Hid (i+1<=maxLen):=aa (by unfold maxLen;omega);have eJ:Hid ((i+1) * 8<=140737488355328):=aa (by omega);have PQ:=aa (iY.out i y HE.out);obtain⟨nx,lQ⟩:∃ nx,(a8 q i).2=nx:=⟨_,rfl⟩;rw[lQ]at KP PQ;clear MW kn;by_cases hy:y<0
     ·have Cr:¬ k<i:=fun h=>oz ⟨h,hy⟩
      have Fr:decide ((k:Int)<(i:Int))=false:=decide_eq_false (by omega);have Rz:decide (k<i)=false:=decide_eq_false Cr;have fY:decide (y<0)=true:=decide_eq_true hy;have eV:=aa (PQ.out.1 hy);clear oz Cr;have da:=aa (M9.out.up ((Below.refl _ wr).alloc (Nat.le_refl _) (.cells #[.int .i64 nx] 3)));have bz:=aa (dF wr [.int .i64 nx] 3);have gq:Hid (w.heap.size<=(wr.alloc (.cells #[.int .i64 nx] 3)).heap.size):=aa (by have:=bR.out.size;simp;omega)
      go_wp2_with (at_builtin;(refine aY _ rfl (.tmp 41) (.tmp 43) 38 rfl w.heap.size 3 i0 _ 1 8 Tryz.underlying38 cf.out.1 cf.out.2.1 cf.out.2.2.1 cf.out.2.2.2 rfl (by decide) _ i _ rfl da.out ⟨wr.heap.size,0,none⟩ 1 1 [.int .i64 nx] rfl rfl bz.out (by simp[Value.oneCell']) kW.out eJ.out gq.out ?_;intro v6 w6 fc eA _))
      go_roundw
      case rel=>
       refine⟨i+1,by omega,by go_num,qU (by rw[eV.out]),ez bR.out (Nat.le_refl _) da.out eA,?_⟩;rw[eV.out,List.map_append];exact fc
      case measure=>simp[intOf];omega
     ·have fY:decide (y<0)=false:=decide_eq_false hy
      have eV:=aa (PQ.out.2 (by omega));by_cases Cr:k<i
      ·have Fr:decide ((k:Int)<(i:Int))=true:=decide_eq_true (by omega)
       have Rz:decide (k<i)=true:=decide_eq_true Cr;clear oz;have da:=aa (M9.out.up ((Below.refl _ wr).alloc (Nat.le_refl _) (.cells #[.int .i64 y] 3)));have bz:=aa (dF wr [.int .i64 y] 3);have gq:Hid (w.heap.size<=(wr.alloc (.cells #[.int .i64 y] 3)).heap.size):=aa (by have:=bR.out.size;simp;omega)
       go_wp2_with (at_builtin;(refine aY _ rfl (.tmp 41) (.tmp 43) 38 rfl w.heap.size 3 i0 _ 1 8 Tryz.underlying38 cf.out.1 cf.out.2.1 cf.out.2.2.1 cf.out.2.2.2 rfl (by decide) _ i _ rfl da.out ⟨wr.heap.size,0,none⟩ 1 1 [.int .i64 y] rfl rfl bz.out (by simp[Value.oneCell']) kW.out eJ.out gq.out ?_;intro v6 w6 fc eA _))
       go_roundw
       case rel=>
        refine⟨i+1,by omega,by go_num,qU (by rw[eV.out]),ez bR.out (Nat.le_refl _) da.out eA,?_⟩;rw[eV.out,List.map_append];exact fc
       case measure=>simp[intOf];omega
      ·have Fr:decide ((k:Int)<(i:Int))=false:=decide_eq_false (by omega)
       have Rz:decide (k<i)=false:=decide_eq_false Cr;clear oz;have da:=aa (M9.out.up ((Below.refl _ wr).alloc (Nat.le_refl _) (.cells #[.int .i64 y] 3)));have bz:=aa (dF wr [.int .i64 y] 3);have gq:Hid (w.heap.size<=(wr.alloc (.cells #[.int .i64 y] 3)).heap.size):=aa (by have:=bR.out.size;simp;omega)
       go_wp2_with (at_builtin;(refine aY _ rfl (.tmp 41) (.tmp 43) 38 rfl w.heap.size 3 i0 _ 1 8 Tryz.underlying38 cf.out.1 cf.out.2.1 cf.out.2.2.1 cf.out.2.2.2 rfl (by decide) _ i _ rfl da.out ⟨wr.heap.size,0,none⟩ 1 1 [.int .i64 y] rfl rfl bz.out (by simp[Value.oneCell']) kW.out eJ.out gq.out ?_;intro v6 w6 fc eA _))
       go_roundw
       case rel=>
        refine⟨i+1,by omega,by go_num,qU (by rw[eV.out]),ez bR.out (Nat.le_refl _) da.out eA,?_⟩;rw[eV.out,List.map_append];exact fc
       case measure=>simp[intOf];omega
  ·obtain rfl:i=n:=by omega
   go_wp2_with fail
   go_ret
   refine⟨_,rfl,?_,aP.out⟩;rw[hH.out];have h1:=pV.out i;exact gu (l:=(a8 q i).1) (base:=w.heap.size) (by rw[h1];exact bI.out) (fun x hx=>by have:=(lU.out i).2.2 x hx;exact⟨by omega,by omega⟩) (by omega)
def A3(R:Nat->Bool) (e j:Nat) (x:Int):Prop:=(x=e/\∀ f,j<=f->f<e->R f=false)\/∃ m,j<=m/\m<e/\x=m/\R m=true/\∀ f,j<=f->f<m->R f=false
theorem UW{R:Nat->Bool} {e j:Nat} (hj:j<e) (h:R j=true):A3 R e j j:=.inr ⟨j,Nat.le_refl _,hj,rfl,h,fun f h1 h2=>by omega⟩
theorem Vn{R:Nat->Bool} {e j:Nat} {x:Int} (h:R j=false) (hk:A3 R e (j+1) x):A3 R e j x:=by
 rcases hk with ⟨h1,h2⟩|⟨m,h1,h2,h3,h4,h5⟩
 ·refine .inl ⟨h1,fun f g1 g2=>?_⟩
  by_cases e1:f=j
  ·subst e1;exact h
  ·exact h2 f (by omega) g2
 ·refine .inr ⟨m,by omega,h2,h3,h4,fun f g1 g2=>?_⟩
  by_cases e1:f=j
  ·subst e1;exact h
  ·exact h5 f (by omega) g2
theorem UX{R:Nat->Nat->Bool} {e:Nat} {x:Int} (h:A3 (R e) e 0 x):x=q8 R e:=by
 unfold q8;rcases h with ⟨h1,h2⟩|⟨m,_,h2,h3,h4,h5⟩
 ·rw[dG _ _ (fun f hf=>h2 f (by omega) hf),if_pos (by omega)];exact h1
 ·rw[dj _ _ _ h2 (fun f hf=>h5 f (by omega) hf) h4,if_neg (by omega)];exact h3
theorem O3{R:Nat->Nat->Bool} (e:Nat):0<=q8 R e/\q8 R e<=e:=by
 rcases vE R e with ⟨h,_⟩|⟨k,hk,h,_⟩
 ·rw[h];omega
 ·rw[h];omega
theorem Mo(s:Sys) (hs:SysOk s) (p:Nat) (hp:p<nS s) (vc vs vt ve:Value) (w:World) (cT:IsSys w s vc vs vt ve) :
  Calls Tryz.prog 91 #[.agg (bT s.prob vc vs s.n vt ve),.int .i64 p] w fun r w'=>∃ u,r=.returned u/\aT w' u (classL s p)/\Below w.heap.size w w':=by
 have HS:=aa cT;obtain⟨⟨pc,cc,rfl⟩,⟨ps,cs,rfl⟩,⟨pt,ct,rfl⟩,⟨pe,ce,rfl⟩⟩:=bE cT;clear cT;have hH:=aa (fun e f (he:e<eS s) (hf:f<eS s) W (hb:Below w.heap.size w W)=>L2 s hs p e f hp he hf _ _ _ _ W (HS.out.up hb));have ld:=hs.count;obtain⟨i0,cU,cg,bV,cj⟩:=info_parts Tryz.infoInt;have cf:=aa (And.intro cU (And.intro cg (And.intro bV cj)));obtain⟨R,hR⟩:∃ R:Nat->Nat->Bool,R=fun e f=>linkB s p e f:=⟨_,rfl⟩
 have HR:Hid (∀ e f,linkB s p e f=R e f):=aa fun e f=>by rw[hR]
 obtain⟨L,hL⟩:∃ L:Nat->List Int,L=fun k=>(List.range k).map (q8 R):=⟨_,rfl⟩
 have kJ:Hid (L 0=[]/\(∀ k,L (k+1)=L k++[q8 R k])/\(∀ k,(L k).length=k)/\∀ k,k<=4096->∀ x∈L k,bM x):=aa (by
  subst hL;refine⟨rfl,fun k=>by simp[List.range_succ],fun k=>by simp,fun k hk x hx=>?_⟩;obtain⟨j,hj,rfl⟩:=List.mem_map.1 hx;have h1:=O3 (R:=R) j;have h2:=List.mem_range.1 hj
  exact⟨by omega,by omega⟩)
 have ki:Hid (kO (L (eS s))=classL s p):=aa (by
  subst hL;subst hR;rw[GB];unfold classL
  exact nd fun i hi k hk=>TY (R:=fun e f=>linkB s p e f) (fun a b=>qK s p a b) (fun a b c h1 h2=>tz h1 h2) i k hk)
 obtain⟨m,hm⟩:∃ m,eS s=m:=⟨_,rfl⟩;have Ay:s.ex.length=m:=hm;rw[hm]at hH ld ki;rw[Ay]at hH ⊢;generalize classL s p=cl0 at ki ⊢;clear hR hL hm Ay cU cg bV cj
 go_enter Tryz.func91,Tryz.ntmps91
 go_wp2_with fail
 refine bm (fun W=>Below w.heap.size w W/\∃ c,W.heap[w.heap.size]?=some (.cells c 35)/\c=bT s.prob (.slice pc s.prob.t.cases.length cc) (.slice ps s.prob.a.states.length cs) s.n (.slice pt s.tab.length ct) (.slice pe m ce)) ⟨by go_grown,_,am _ _,rfl⟩ (fun W0 aV=>?_);obtain⟨aH,_,hA,rfl⟩:=aV;have fj:=aa aH;have HA:=aa hA;clear aH hA
 go_loopw [5,6] (fun o i wr=>∃ k:Nat,k<=m/\i=.int .i64 k/\Below W0.heap.size W0 wr/\aG wr W0.heap.size 3 1 o k ((L k).map (Value.int .i64))) (fun _ i _=>m - (intOf i).toNat)
 case atStart=>exact⟨0,by omega,rfl,Below.refl _ _,by rw[kJ.out.1];exact aG.nil _ _ _ _⟩
 case round=>
  obtain⟨e,he,rfl,ar,aX⟩:=hrel;obtain⟨al,cl2,rfl⟩:=aX.slice;have bI:=aa aX;have aP:=aa ar;have AE:=ar.size;have tS:=ab (af ar HA.out);clear aX ar;obtain⟨wrA,kG⟩:∃ x,x=wr:=⟨_,rfl⟩;subst kG;by_cases aA:e<m
  ·go_wp2_with fail
   clear tS
   go_loopw [7,8] (fun x j wr=>∃ k:Nat,k<=e/\j=.int .i64 ((k:Int) - 1)/\Below wrA.heap.size wrA wr/\∃ y:Int,x=.int .i64 y/\A3 (R e) e k y) (fun _ j _=>((intOf j)+1).toNat)
   case atStart=>exact⟨e,Nat.le_refl _,rfl,Below.refl _ _,_,rfl,.inl ⟨rfl,fun f h1 h2=>by omega⟩⟩
   case round=>
    obtain⟨k,hk,rfl,kn,y,rfl,my⟩:=hrel;have DU:=aa my;have eC:=aa kn;have bR:=aa (ae aP.out kn);have tS:=ab (af bR.out HA.out);clear my kn;by_cases eP:0<k
    ·obtain⟨j,rfl⟩:∃ j,k=j+1:=⟨k - 1,by omega⟩
     have Pg:(((j+1:Nat):Int) - 1)=(j:Int):=by omega
     rw[Pg];have Fr:decide ((0:Int)<=(j:Int))=true:=decide_eq_true (by omega);have uU:=aa (hH.out e j aA (by omega) wr (ae fj.out bR.out));clear Pg eP
     go_wp2_with fail
     clear tS;refine uU.out.mono ?_;rintro r w2 ⟨rfl,aU⟩;rw[HR.out];have cL:=aa (ae eC.out aU);clear aU;cases hb:R e j with
     | true=>
      have HN:Hid (A3 (R e) e j j):=aa (UW (by omega) hb);clear hb
      go_wp2_with fail
      go_roundw
      case rel=>exact⟨j,by omega,by go_num,cL.out,_,rfl,HN.out⟩
      case measure=>simp[intOf]
     | false=>
      have HN:Hid (A3 (R e) e j y):=aa (Vn hb DU.out);clear hb
      go_wp2_with fail
      go_roundw
      case rel=>exact⟨j,by omega,by go_num,cL.out,_,rfl,HN.out⟩
      case measure=>simp[intOf]
    ·obtain rfl:k=0:=by omega
     have HY:=aa (UX DU.out);have Pg:(((0:Nat):Int) - 1)=-1:=by omega
     rw[Pg];have da:=aa ((bI.out.up eC.out).up ((Below.refl _ wr).alloc (Nat.le_refl _) (.cells #[.int .i64 y] 3)));have bz:=aa (dF wr [.int .i64 y] 3);have kW:Hid (e+1<=maxLen):=aa (by unfold maxLen;omega);have eJ:Hid ((e+1) * 8<=140737488355328):=aa (by omega);have gq:Hid (W0.heap.size<=(wr.alloc (.cells #[.int .i64 y] 3)).heap.size):=aa (by have:=bR.out.size;simp;omega);clear Pg tS
     go_wp2_with (at_builtin;(refine aY _ rfl (.tmp 29) (.tmp 31) 38 rfl W0.heap.size 3 i0 _ 1 8 Tryz.underlying38 cf.out.1 cf.out.2.1 cf.out.2.2.1 cf.out.2.2.2 rfl (by decide) _ e _ rfl da.out ⟨wr.heap.size,0,none⟩ 1 1 [.int .i64 y] rfl rfl bz.out (by simp[Value.oneCell']) kW.out eJ.out gq.out ?_;intro v6 w6 fc eA _))
     go_roundw
     case rel=>
      refine⟨e+1,by omega,by go_num,ez bR.out (Nat.le_refl _) da.out eA,?_⟩;rw[kJ.out.2.1,<-HY.out,List.map_append];exact fc
     case measure=>simp[intOf];omega
  ·obtain rfl:e=m:=by omega
   have Ir:=kJ.out.2.2.1 e;have HI:Hid (aT wrA (.slice al e cl2) (L e)):=aa (gu (l:=L e) (base:=W0.heap.size) (by rw[Ir];exact bI.out) (kJ.out.2.2.2 e ld) (by omega));have Lb:=aa (zW _ (L e) (by omega) wrA HI.out);clear Ir
   go_wp2_with fail
   refine Lb.out.mono ?_;rintro r w2 ⟨u,rfl,hu,aU⟩;obtain⟨au,cu,rfl,_⟩:=hu.at;have HU:=aa hu;have cL:=aa (ae fj.out (ae aP.out aU));clear hu aU tS
   go_wp2_with fail
   go_ret
   exact⟨_,rfl,by rw[<-ki.out];exact HU.out,cL.out⟩
end Go.Proofs.YtmeaoneaephjeaaGreatDoor
