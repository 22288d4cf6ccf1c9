/-
  A part of the proof: lemmas and contracts that the parts behind it use. Each one's conditions are its own premises.
-/
import Derived.Test.YtmeaoneaephjeaaGreatDoorE5
set_option maxRecDepth 100000
set_option maxHeartbeats 8000000
set_option linter.unusedVariables false
set_option linter.unusedSimpArgs false
namespace Go.Proofs.YtmeaoneaephjeaaGreatDoor
open Go.RowKit Go Go.Shelf
attribute [local go_sem] Oper.semAt_some
theorem Ep(d:Nat) (a b:Vw) (w:World):(Op.equalIn (d+3) 190 a.v b.v).run Tryz.prog w=.ok (decide (a=b)) w:=by
 have hS:Tryz.prog.underlying 190=some (.struct (Tryz.prog.fieldsOf 190)):=by kernel_rfl
 have hp:Tryz.prog.stoodInHeld 190=false:=by kernel_rfl
 rw[run_equalIn_struct w (d+2) 190 _ _ hS hp];have ag:=Tryz.isAgg3;have ah:=Tryz.isAgg137;have zh:=Tryz.sizeOf137;have u3:=Tryz.underlying3;simp only[Program.fieldsOf,Tryz.underlying190];simp[Op.eqFields,part,ag,ah,zh,run_equalIn_int w (d+1) 3 _ .i64 _ _ u3,Il d];obtain⟨n,k,j,h0,h1,h2,h3,h4⟩:=a;obtain⟨m,l,i,g0,g1,g2,g3,g4⟩:=b;by_cases hn:n=m
 case neg=>simp[hn]
 by_cases hk:k=l
 case neg=>simp[hn,hk]
 by_cases hj:j=i
 case neg=>simp[hn,hk,hj]
 by_cases hh:h0=g0/\h1=g1/\h2=g2/\h3=g3/\h4=g4<;>simp[hn,hk,hj,hh]
theorem kit_vw:KeyKit Tryz.prog 190 Vw.v:=
 ⟨fun a b w=>Ep 9997 a b w,fun em a w=>by kernel_rfl,⟨_,Tryz.underlying190⟩⟩
theorem Tryz.infoView:(Tryz.prog.info? 190).map (fun i=>(i.zero,i.size,i.bytes))=some (some (.agg #[.int .i64 0,.int .i64 0,.int .i64 0,.int .i64 0,.int .i64 0,.int .i64 0,.int .i64 0,.int .i64 0]),8,64):=by kernel_rfl
abbrev silV:Value:=.agg #[.int .i64 (-1),.int .i64 (-1),.int .i64 (-1),.int .i64 (-1),.int .i64 (-1)]
theorem AH(w:World):Calls Tryz.prog 201 #[] w fun e w'=>e=.returned silV/\Below w.heap.size w w':=by
 go_enter Tryz.func201,Tryz.ntmps201
 go_wp2_with fail
 refine bC (fun W=>Below w.heap.size w W/\W.heap[w.heap.size]?=some (.cells (hC (fun _=>-1) 0) 137)/\W.heap[w.heap.size+1]?=some (.cells (hC (fun _=>-1) 0) 137)) ⟨by go_grown,by rw[Em];exact ar _ (ap _ _),by rw[Em];exact aZ _ _ _⟩ (fun W0 aX=>?_);obtain⟨aG,eB,gM⟩:=aX
 go_loopw [3] (fun i wr=>∃ q:Nat,q<=5/\i=.int .i64 q/\Below w.heap.size w wr/\wr.heap[w.heap.size]?=some (.cells (hC (fun _=>-1) 0) 137)/\wr.heap[w.heap.size+1]?=some (.cells (hC (fun _=>-1) q) 137)) (fun i _=>5 - (intOf i).toNat)
 ·exact⟨0,by omega,rfl,aG,eB,gM⟩
 ·
  clear aG eB gM;obtain⟨q,hq,rfl,aA,hR,hO⟩:=hrel;by_cases aC:q<5
  ·have zq:=aH hO q;have tq:=ab hO q;rw[Iz _ _ _ aC]at tq;have HR:=aa hR;have HO:=aa hO;clear hR hO;have oD:(q:Int)<5:=by omega
   go_wp2_with fail
   go_roundw
   ·exact⟨q+1,by omega,by go_num,aA.setCell (by dsimp only;omega) _,aM HR.o (by omega) _ _,by rw[aI HO.o,<-Wp (fun _=>-1) q aC]⟩
   ·simp[intOf];omega
  ·obtain rfl:q=5:=by omega
   have tq:=ab hO;have HR:=aa hR;have HO:=aa hO;have zq:=fun o=>aH hR o
   have tq0:=ab hR;rw[Vr]at tq;simp[Em]at tq0;clear hR hO
   go_wp2_with fail
   have h5:=aI (aI (aI (aI (aI HR.o 0 (.int .i64 (-1))) 1 (.int .i64 (-1))) 2 (.int .i64 (-1))) 3 (.int .i64 (-1))) 4 (.int .i64 (-1));refine bodyPost_ret (KF _ _ 0 rfl w.heap.size _ (-1) (-1) (-1) (-1) (-1) 137 rfl (h5.trans rfl)) rfl ⟨rfl,?_⟩;exact((((aA.setCell (by dsimp only;omega) _).setCell (by dsimp only;omega) _).setCell (by dsimp only;omega) _).setCell (by dsimp only;omega) _).setCell (by dsimp only;omega) _
abbrev bldT:List TypeId:=[190,234]
structure BldIs (base b mb n:Nat) (tab:List Vw) (W:World):Prop where
 lo:base<=b
 ex:∃ vs,W.heap[b]?=some (.cells #[.int .i64 n,vs,.map (some mb)] 234)/\base<=mb/\aJ W base 190 8 vs tab.length (fe tab)/\mf Vw.v W mb (uJ tab)
theorem BldIs.up{base b mb n:Nat} {tab:List Vw} {W W':World} (h:BldIs base b mb n tab W) (hb:Below W.heap.size W W'):BldIs base b mb n tab W':=by
 obtain⟨vs,h1,h2,h3,h4⟩:=h.ex;exact⟨h.lo,vs,af hb h1,h2,h3.up hb,h4.up hb⟩
theorem MN(v:Vw):∀ u∈v.c.toList,u.oneCell'=true:=fun u hu=>FD [v] u (by simpa[fe] using hu)
theorem Vu(tb:List Vw) (v:Vw):(putV tb v).2<=tb.length:=by
 unfold putV;split
 ·exact List.idxOf_le_length
 ·exact Nat.le_refl _
theorem Lg(base b mb n:Nat) (tab:List Vw) (v:Vw) (w:World) (hB:BldIs base b mb n tab w) (hl:tab.length<=100000) :
  Calls Tryz.prog 200 #[.pointer (some ⟨b,0,none⟩),v.v] w fun e w'=>e=.returned (.int .i64 (putV tab v).2)/\BldIs base b mb n (putV tab v).1 w'/\KeepT bldT [mb] base w w':=by
 have xP:=hB.lo;obtain⟨vs,h1,h2,h3,h4⟩:=hB.ex;have df:=aD h1;obtain⟨av,cv,rfl⟩:=h3.slice;have H1:=aa h1;have H3:=aa h3;have H4:=aa h4;clear h1 h3 h4 hB
 go_enter Tryz.func200,Tryz.ntmps200
 go_wp2_with fail
 refine bC (fun W=>Below w.heap.size w W/\W.heap[w.heap.size]?=some (.cells v.c 190)) ⟨by go_grown,ap _ _⟩ (fun W0 aX=>?_);obtain⟨aG,Ya⟩:=aX;have DR:=aa Ya;have k1:∀ x:ExtW W0,∀ o,x.val.cell? ⟨w.heap.size,o,none⟩=_:=fun x=>ab (af x.ext Ya)
 have k2:∀ x:ExtW W0,∀ o,x.val.cell? ⟨b,o,none⟩=_:=fun x=>ab (af (ae aG x.ext) H1.o)
 have Rc:∀ x:ExtW W0,mf Vw.v x.val mb (uJ tab):=fun x=>H4.o.up (ae aG x.ext)
 have kw:=aa Rc;have qW:=RQ tab v;clear Ya Rc;by_cases hm:v∈tab
 ·have HP:am (putV tab v=(tab,tab.idxOf v)):=aa (by unfold putV;rw[if_pos hm]);rw[if_pos hm]at qW
  have k3:∀ x:ExtW W0,(Instr.lookup 232 (.map (some mb)) v.v true).run Tryz.prog x.val=.ok (.tuple #[.int .i64 (tab.idxOf v:Nat),.bool true]) x.val:=fun x=>by
   have:=Io kit_vw (mt:=232) (vt:=3) (z:=.int .i64 0) Tryz.underlying232 (fun w=>by kernel_rfl) (kw.o x) v;rw[qW]at this;exact this
  clear qW;refine aB (by kernel_rfl) (by kernel_rfl) ?_
  repeat (go_big_quiet_step (fail))
  refine wpQuiet_nil ?_;intro _ eJ;obtain⟨xq,dj⟩:=eJ;subst dj;clear k1 k2 k3
  go_wp2_with fail
  go_ret
  rw[HP.o];have hx:=ae aG xq.ext;exact⟨rfl,⟨xP,_,af hx H1.o,h2,H3.o.up hx,H4.o.up hx⟩,KeepT.of_below _ hx (by omega)⟩
 ·have HP:am (putV tab v=(tab++[v],tab.length)):=aa (by unfold putV;rw[if_neg hm]);rw[if_neg hm]at qW
  have k3:∀ x:ExtW W0,(Instr.lookup 232 (.map (some mb)) v.v true).run Tryz.prog x.val=.ok (.tuple #[.int .i64 0,.bool false]) x.val:=fun x=>by
   have:=Io kit_vw (mt:=232) (vt:=3) (z:=.int .i64 0) Tryz.underlying232 (fun w=>by kernel_rfl) (kw.o x) v;rw[qW]at this;exact this
  have HGET:=aa qW;clear qW;refine aB (by kernel_rfl) (by kernel_rfl) ?_
  repeat (go_big_quiet_step (fail))
  refine wpQuiet_nil ?_;intro _ eJ;obtain⟨xq,dj⟩:=eJ;subst dj;clear k1 k2 k3;have hx:=ae aG xq.ext;have AP:=af xq.ext DR.o;generalize xq.val=W1 at hx AP;have HX:=aa hx;have QB:=aa AP;have t1:=ab (af hx H1.o);have tv:=ab AP;obtain⟨o,ku,hG2⟩:=Vm kit_vw (mt:=232) (vt:=3) Tryz.underlying232 (w:=W1.drew) (b:=mb) (f:=uJ tab) (H4.o.up hx.drew) v (.int .i64 (tab.length:Nat)) HGET.o;have se:=aa hG2;clear hx AP hG2
  go_wp2_with fail
  go_still_tail 6,(by kernel_rfl)
  change wpList _ _ _ _ _ W1.drew
  go_wp2_with fail
  have lF:∃ o2,W1.drew.heap[mb]?=some o2/\o2.isCells=false:=by
   obtain⟨es,ck,p1,_⟩:=H4.o.up HX.o.drew;exact⟨_,p1,rfl⟩
  obtain⟨o2,lF,sk⟩:=lF;have Gm:b≠mb:=fun e=>by rw[<-e,(af HX.o.drew H1.o)]at lF;cases lF;cases sk
  have hvn:w.heap.size≠mb:=fun e=>by
   have h9:W1.drew.heap[w.heap.size]?=some (.cells v.c 190):=QB.o;rw[e,lF]at h9;cases h9;cases sk
  refine bC (fun W=>W.heap[b]?=some (.cells #[.int .i64 n,.slice av tab.length cv,.map (some mb)] 234)/\aJ W base 190 8 (.slice av tab.length cv) tab.length (fe tab)/\mf Vw.v W mb (uJ (tab++[v]))/\W.heap[w.heap.size]?=some (.cells v.c 190)/\KeepT bldT [mb] base w W/\w.heap.size<W.heap.size)
   ⟨(World.putObj_heap_other Gm).trans (af HX.o.drew H1.o),(H3.o.up HX.o.drew).keepT fun g o' e1 e2=>(World.putObj_heap_other (fun e=>(H3.o.up HX.o.drew).isCells (B:=mb) lF sk (by rw[e1,e]))).trans e2,by rw[O2];exact se.o,(World.putObj_heap_other hvn).trans QB.o,(KeepT.of_below _ HX.o.drew (by omega)).put lF sk h2 (by simp),by have:=aD QB.o;simpa using this⟩ (fun W2 eI=>?_)
  obtain⟨g1,g3,g4,g5,g6,g7⟩:=eI;have G1:=aa g1;have G3:=aa g3;have G4:=aa g4;have G5:=aa g5;have G6:=aa g6;clear g1 g3 g4 g5 g6 lF sk ku t1 tv;obtain⟨i0,cX,cD,bX,cF⟩:=info_parts Tryz.infoView
  refine mO 8 [29,30,31,32,33,34,35,36] [some (.pointer (some ⟨b,0,none⟩)),
   some (.pointer (some ⟨b,0,none⟩)),
   some (.pointer (some ⟨b,0,none⟩)),
   some (.pointer (some ⟨b,1,none⟩)),
   some (.slice av tab.length cv),
   some (v.v),
   none,
   none] (CAppS W2 W2 base 190 8 (.slice av tab.length cv) tab.length 1 (fe tab) v.c.toList 6 7) (by kernel_rfl) rfl (by decide) rfl (by kernel_rfl) (by kernel_rfl) (by kernel_rfl) (fun _=>CAppS.start (by omega) (KeepT.refl _ _ _).drew (Nat.le_refl _) (fun _ _ h _=>h) G3.o) ?step ?tail
  case step=>
   intro x W D i o s F hi ho hs hD cN bW aq hv aP hF;have fR:i=0\/i=1\/i=2\/i=3\/i=4\/i=5\/i=6\/i=7:=by omega
   rcases fR with rfl|rfl|rfl|rfl|rfl|rfl|rfl|rfl
   all_goals (have dR:=cN _ _ hs hD;obtain rfl:=dy ho.symm;obtain rfl:=dy hs.symm)
   ·clear aq hi hv;have e0:F.getD 0 undef=.pointer (some ⟨b,0,none⟩):=lT hF (by decide) rfl;clear cN bW;clear hF dR;have e0':=dH e0;have HD:=aa hD;have bz:=aa aP;clear hD aP
    go_wp2_with fail
    refine bY.mk _ fV ?_ rfl;exact bz.o.other _ (by decide) (by decide)
   ·clear aq hi hv;have e0:F.getD 0 undef=.pointer (some ⟨b,0,none⟩):=lT hF (by decide) rfl;clear cN bW;clear hF dR;have e0':=dH e0;have HD:=aa hD;have bz:=aa aP;clear hD aP
    go_wp2_with fail
    refine bY.mk _ fV ?_ rfl;exact bz.o.other _ (by decide) (by decide)
   ·have g1:=aq ⟨1,.data⟩ (by simp) rfl;have d1:=hv 1 _ (by omega) g1 rfl;clear aq hi hv;have e30:=fG hF 1 30 (by decide) rfl (by kernel_rfl) d1;clear cN bW;clear hF dR d1;have e30':=dH e30;have HD:=aa hD;have bz:=aa aP;clear hD aP;clear g1
    go_wp2_with fail
    refine bY.mk _ fV ?_ rfl;exact bz.o.other _ (by decide) (by decide)
   ·have g2:=aq ⟨2,.data⟩ (by simp) rfl;have d2:=hv 2 _ (by omega) g2 rfl;clear aq hi hv;have e31:=fG hF 2 31 (by decide) rfl (by kernel_rfl) d2;clear cN bW;clear hF dR d2;have e31':=dH e31;have HD:=aa hD;have bz:=aa aP;clear hD aP;clear g2
    go_wp2_with fail
    refine bY.mk _ fV ?_ rfl;exact bz.o.other _ (by decide) (by decide)
   ·have g3:=aq ⟨3,.data⟩ (by simp) rfl;have d3:=hv 3 _ (by omega) g3 rfl;clear aq hi hv;have e32:=fG hF 3 32 (by decide) rfl (by kernel_rfl) d3;clear cN bW;clear hF dR d3;have t1:=ab (aP.kept _ _ G1.o (fun e=>G3.o.ne G1.o (by decide) _ e rfl)) 1;simp at t1;have e32':=dH e32;have HD:=aa hD;have bz:=aa aP;clear hD aP;clear g3
    go_wp2_with fail
    refine bY.mk _ fV ?_ rfl;exact bz.o.other _ (by decide) (by decide)
   ·clear aq hi hv;have e3:F.getD 3 undef=.pointer (some ⟨w.heap.size,0,none⟩):=lT hF (by decide) rfl;clear cN bW;clear hF dR;have t1:=ab (aP.kept _ _ G5.o (fun e=>by have:=(H3.o.lt _ e).2;omega));have e3':=dH e3;have HD:=aa hD;have bz:=aa aP;clear hD aP
    go_wp2_with fail
    refine bY.mk _ fV ?_ rfl;exact bz.o.other _ (by decide) (by decide)
   ·have g5:=aq ⟨5,.data⟩ (by simp) rfl;have d5:=hv 5 _ (by omega) g5 rfl;clear aq hi hv;have e34:=fG hF 5 34 (by decide) rfl (by kernel_rfl) d5;clear cN bW;clear hF dR d5;have e34':=dH e34;have HD:=aa hD;have bz:=aa aP;clear hD aP;clear g5
    go_wp2_with fail
    refine bY.mk _ (fun c hc=>by cases hc) ?_ rfl;exact bz.o.build (by decide)
   ·have g4:=aq ⟨4,.data⟩ (by simp) rfl;have d4:=hv 4 _ (by omega) g4 rfl;have g6:=aq ⟨6,.data⟩ (by simp) rfl;clear aq hi hv;have e33:=fG hF 4 33 (by decide) rfl (by kernel_rfl) d4;have e35:=fG hF 6 35 (by decide) rfl (by kernel_rfl) rfl;clear cN bW;clear hF dR d4;obtain⟨gb,qx,nJ,_⟩:=aP.sb g6 hD;rw[qx]at e35;have bU:=aP.rd;rw[hD]at bU;have Dg:=aa (show aJ W base 190 8 (.slice av tab.length cv) tab.length (fe tab) from bU)
    have bQ:∀ j u',v.c.toList[j]?=some u'->W.cell? (Addr.add ⟨gb,0,none⟩ j)=some u':=fun j u' hj=>by
     have e1:(Addr.add ⟨gb,0,none⟩ j)=⟨gb,j,none⟩:=by unfold Addr.add;split<;>simp_all
     rw[e1,ab nJ];simpa using hj
    have bF:=aa bQ;have iy:=aP.old.old.size;clear bQ bU nJ qx;have e33':=dH e33;have e35':=dH e35;have HD:=aa hD;have bz:=aa aP;clear hD aP;clear g4;clear g6;refine bg W rfl (.tmp 33) (.tmp 35) 30 rfl base 190 i0 _ 8 64 Tryz.underlying30 cX cD bX cF rfl (by decide) _ tab.length (fe tab) e33 Dg.o ⟨gb,0,none⟩ 1 1 v.c.toList e35 rfl bF.o (MN v) (by unfold maxLen;omega) (by omega) (by omega) ?_;intro v9 w3 oP kj _;refine bY.mk v9 (fun c hc=>by cases hc) ?_ rfl;exact bz.o.app HD.o oP kj
  case tail=>
   intro x W' D F aU hv aP hF;have x0:=hv 0 _ (by omega) rfl;have x1:=hv 1 _ (by omega) rfl;have x2:=hv 2 _ (by omega) rfl;have x3:=hv 3 _ (by omega) rfl;have x4:=hv 4 _ (by omega) rfl;have x5:=hv 5 _ (by omega) rfl;have Dw:=aP.rd;rw[aU 7 (by omega)]at Dw;have N9:aJ W' base 190 8 (x 7) (tab.length+1) (fe tab++v.c.toList):=Dw;obtain⟨g9,c9,q9⟩:=N9.slice;rw[q9]at N9;have Gy:=aa N9;have dU:=aP.kept _ _ G1.o (fun e=>G3.o.ne G1.o (by decide) _ e rfl)
   have hm9:mf Vw.v W' mb (uJ (tab++[v])):=by
    obtain⟨es,ck,p1,p2⟩:=G4.o;exact⟨es,ck,aP.kept _ _ p1 (fun e=>G3.o.isCells p1 rfl e.symm),p2⟩
   have HM9:=aa hm9;have fr:=aa dU;have qD:=aa aP.old;have t1:=ab dU 1;have z1:=aH dU 1;simp only[bA,cW,List.setIfInBounds_toArray,List.set_cons_succ,List.set_cons_zero,Nat.reduceAdd,x0,x1,x2,x3,x4,x5,q9]at hF;generalize x 6=y6 at hF;subst hF;clear hv aU aP Dw N9 q9 dU hm9 x0 x1 x2 x3 x4 x5;simp only[List.drop_succ_cons,List.drop_zero]
   go_wp2_with fail
   go_ret
   rw[HP.o];have bK:∀ g,Value.ownBlock (.slice g9 (tab.length+1) c9)=some g->g≠b:=fun g e=>Gy.o.ne fr.o (by decide) g e
   refine⟨rfl,⟨xP,_,aI fr.o 1 _,h2,?_,?_⟩,?_⟩
   ·rw[List.length_append,List.length_singleton,FC];exact Gy.o.put bK _ _
   ·obtain⟨es,ck,p1,p2⟩:=HM9.o;exact⟨es,ck,aM p1 (fun e=>by rw[e,fr.o]at p1;cases p1) _ _,p2⟩
   ·exact(G6.o.trans (qD.o.mono (by simp) (by simp))).set fr.o (by simp) xP _
theorem KeepT.grownNew{ts:List TypeId} {ms:List Nat} {base:Nat} {w w' w'':World} {row:Option Nat} (h:KeepT ts ms base w w') (hs:base<=w.heap.size) (hr:∀ g,row=some g->w.heap.size<=g) (hg:w'.grownBy w'' row):KeepT ts ms base w w'':=by
 refine⟨Below.grown h.old hg (Nat.le_trans hs h.old.size) (fun g e=>Nat.le_trans hs (hr g e)),fun j c t f h1 h2=>?_,fun j o h1 h2 h3=>?_⟩
 ·have h3:=h.keep j c t f h1 h2;exact(hg.block j (aD h3) (fun e'=>by have:=hr j e'.symm;have:=aD h1;omega)).trans h3
 ·have h4:=h.oth j o h1 h2 h3;exact(hg.block j (aD h4) (fun e'=>by have:=hr j e'.symm;have:=aD h1;omega)).trans h4
theorem KeepT.setNew{ts:List TypeId} {ms:List Nat} {base:Nat} {w w':World} {B o:Nat} (h:KeepT ts ms base w w') (hs:base<=w.heap.size) (hb:w.heap.size<=B) (v:Value):KeepT ts ms base w (w'.setCell ⟨B,o,none⟩ v):=by
 refine⟨h.old.setCell (Nat.le_trans hs hb) v,fun j c' t' f' h1 h2=>aM (h.keep j c' t' f' h1 h2) ?_ o v,fun j o' h1 h2 h3=>aM (h.oth j o' h1 h2 h3) ?_ o v⟩
 ·have:=aD h1;omega
 ·have:=aD h1;omega
theorem BldIs.set{base b mb n:Nat} {tab:List Vw} {W:World} {B o:Nat} {c:Array Value} {t:TypeId} {f:Nat × Nat} (h:BldIs base b mb n tab W) (hB:W.heap[B]?=some (.cells c t f)) (ht:t∉bldT) (v:Value):BldIs base b mb n tab (W.setCell ⟨B,o,none⟩ v):=by
 obtain⟨vs,h1,h2,h3,es,ck,p1,p2⟩:=h.ex;refine⟨h.lo,vs,aM h1 (fun e=>?_) _ _,h2,h3.put (fun g e=>h3.ne hB (fun e=>ht (by simp[<-e])) g e) _ _,es,ck,aM p1 (fun e=>?_) _ _,p2⟩
 ·rw[<-e,h1]at hB;cases hB;exact ht (by simp)
 ·rw[<-e,p1]at hB;cases hB
theorem BldIs.grown{base b mb n:Nat} {tab:List Vw} {W W':World} {e:TypeId} {b' k m:Nat} {u:Value} {xs:List Value} (h:BldIs base b mb n tab W) (ho:aJ W b' e k u m xs) (he:e∉bldT) (hg:W.grownBy W' u.ownBlock):BldIs base b mb n tab W':=by
 obtain⟨vs,h1,h2,h3,es,ck,p1,p2⟩:=h.ex;refine⟨h.lo,vs,gm hg h1 (fun e'=>ho.ne h1 (fun e=>he (by simp[e])) b e' rfl),h2,h3.keepT fun g o e1 e2=>gm hg e2 (fun e'=>?_),es,ck,gm hg p1 (fun e'=>ho.isCells p1 rfl e'.symm),p2⟩;rcases h3.2 with ⟨rfl,_⟩|⟨g',cap,cur,fz,rfl,_,q3,_⟩
 ·cases e1
 ·cases e1
  exact ho.ne q3 (fun e=>he (by simp[e])) _ e' rfl
theorem KeepT.below9{ts us:List TypeId} {ms ns:List Nat} {w0 w w1 w2:World} (h0:Below w0.heap.size w0 w) (h1:KeepT ts ms w0.heap.size w w1) (h2:KeepT us ns w0.heap.size w1 w2):Below w0.heap.size w0 w2:=
 ⟨(h2.old.os.trans h1.old.os).trans h0.os,(h2.old.tape.trans h1.old.tape).trans h0.tape,(h2.old.output.trans h1.old.output).trans h0.output,Nat.le_trans h0.size (Nat.le_trans h1.old.size h2.old.size),fun k hk=>((h2.old.block k hk).trans (h1.old.block k hk)).trans (h0.block k hk)⟩
def lY(n:Nat) (l:List Int):Array Value:=((List.range n).map fun j=>Value.int .i64 (l.getD j 0)).toArray
theorem yN(n:Nat) (l:List Int):(lY n l).size=n:=by simp[lY]
theorem wS(n:Nat) (l:List Int) (j:Nat) (h:j<n):(lY n l)[j]?=some (.int .i64 (l.getD j 0)):=by simp[lY,h]
theorem IF(n:Nat):lY n []=fC n (fun _=>0) 0:=by
 unfold lY fC;simp
theorem IG(n:Nat) (l:List Int) (z:Int) (h:l.length<n):(lY n l).setIfInBounds l.length (.int .i64 z)=lY n (l++[z]):=by
 apply Array.ext_getElem?;intro j;rw[Array.getElem?_setIfInBounds];by_cases hj:j<n
 ·rw[wS _ _ _ hj,wS _ _ _ hj];by_cases e:l.length=j
  ·subst e;rw[if_pos rfl,if_pos (by rw[yN];exact hj)];simp
  ·rw[if_neg e];by_cases h2:j<l.length
   ·simp[List.getD_eq_getElem?_getD,List.getElem?_append_left h2]
   ·rw[List.getD_eq_getElem?_getD,List.getD_eq_getElem?_getD,List.getElem?_eq_none (by omega),List.getElem?_eq_none (by simp;omega)]
 ·have h1:(lY n l)[j]?=none:=by rw[Array.getElem?_eq_none];rw[yN];omega
  have h2:(lY n (l++[z]))[j]?=none:=by rw[Array.getElem?_eq_none];rw[yN];omega
  rw[h1,h2,if_neg (by omega)]
theorem II(l:List Int):lY l.length l=bH l:=by
 unfold lY bH;congr 1;apply List.ext_getElem (by simp);intro i h1 h2;simp at h1;simp[List.getD_eq_getElem?_getD,h1]
structure PCore (base b mb n:Nat) (tab tab':List Vw) (k:Nat) (Wr:World) (D:Nat->Bool) (x:Nat->Value) (W:World):Prop where
 lo:base<=Wr.heap.size
 keep:KeepT bldT [mb] base Wr W
 bld:BldIs base b mb n (bif D k then tab' else tab) W
section
variable {base b mb n k : Nat} {tab tab' : List Vw} {Wr : World} {D : Nat → Bool} {x : Nat → Value} {W : World}
theorem PCore.other(h:PCore base b mb n tab tab' k Wr D x W) {i:Nat} (u:Value) (hi:k≠i):PCore base b mb n tab tab' k Wr (bJ D i) (cG x i u) W:=
 ⟨h.lo,h.keep,by simpa only[bJ,if_neg hi] using h.bld⟩
theorem PCore.grow(h:PCore base b mb n tab tab' k Wr D x W) {W':World} (hb:Below W.heap.size W W'):PCore base b mb n tab tab' k Wr D x W':=⟨h.lo,h.keep.trans (.of_below _ hb (Nat.le_trans h.lo h.keep.old.size)),h.bld.up hb⟩
theorem PCore.put(h:PCore base b mb n tab tab' k Wr D x W) {W':World} (u:Value) (hk:KeepT bldT [mb] base W W') (hb:BldIs base b mb n tab' W'):PCore base b mb n tab tab' k Wr (bJ D k) (cG x k u) W':=⟨h.lo,h.keep.trans hk,by simpa[bJ] using hb⟩
end
abbrev gq(inp:List Int) (n:Nat):List Vw:=(List.range n).map (dX inp)
abbrev fP(n k:Nat) (r:Rd) (now:List Int):List Vw:=(List.range n).map (nextV n k r now)
theorem IJ{α:Type} (n:Nat) (f:Nat->α) (i:Nat) (h:i<((List.range n).map f).length):((List.range n).map f)[i]=f i:=by simp
theorem iG(n:Nat) (inp:List Int) (word:List Rd) (tb:List Vw):∀ k,(playTo n inp word tb k).2.length=k+1/\((playTo n inp word tb k).2.getLastD []).length=n/\(playTo n inp word tb k).1.length<=tb.length+n * (k+1)
 | 0=>by
  have h:=fO (gq inp n) (tb,[]);change (addAll tb (gq inp n)).2.length=_/\(addAll tb (gq inp n)).1.length<=_ at h;simp only[List.length_nil,List.length_map,List.length_range,Nat.zero_add]at h;exact⟨rfl,h.1,by have:=h.2;show (addAll tb (gq inp n)).1.length<=_;omega⟩
 | k+1=>by
  have ih:=iG n inp word tb k;have h:=fO (fP n k (word.getD k default) ((playTo n inp word tb k).2.getLastD [])) ((playTo n inp word tb k).1,[]);change (addAll (playTo n inp word tb k).1 _).2.length=_/\(addAll (playTo n inp word tb k).1 _).1.length<=_ at h;simp only[List.length_nil,List.length_map,List.length_range,Nat.zero_add]at h;have e:(playTo n inp word tb (k+1)).2=(playTo n inp word tb k).2++[(addAll (playTo n inp word tb k).1 (fP n k (word.getD k default) ((playTo n inp word tb k).2.getLastD []))).2]:=rfl;rw[e];refine⟨by rw[List.length_append,ih.1];rfl,?_,?_⟩
  ·rw[List.getLastD_concat];exact h.1
  ·have:n * (k+1+1)=n * (k+1)+n:=Nat.mul_succ n (k+1)
   show (addAll (playTo n inp word tb k).1 (fP n k (word.getD k default) ((playTo n inp word tb k).2.getLastD []))).1.length<=_
   omega
def yO(n k:Nat) (r:Rd) (now:List Int) (p q:Nat):Vw:=
 let g:=fun j=>if j<q/\hasB (r.g.hear p) j=true then now.getD j 0 else -1
 ⟨p,k+1,0,g 0,g 1,g 2,g 3,g 4⟩
theorem Vv(n k:Nat) (r:Rd) (now:List Int) (p:Nat):yO n k r now p n=nextV n k r now p:=rfl
theorem RZ(n k:Nat) (r:Rd) (now:List Int) (p:Nat):yO n k r now p 0=⟨p,k+1,0,-1,-1,-1,-1,-1⟩:=by simp[yO]
theorem Vx(n k:Nat) (r:Rd) (now:List Int) (p q:Nat) (h:hasB (r.g.hear p) q=false):yO n k r now p (q+1)=yO n k r now p q:=by
 have key:∀ j,(if j<q+1/\hasB (r.g.hear p) j=true then now.getD j 0 else -1)=if j<q/\hasB (r.g.hear p) j=true then now.getD j 0 else -1:=fun j=>by
  by_cases e:j=q
  ·subst e;simp[h]
  ·have:j<q+1↔j<q:=by omega
   simp only[this]
 simp only[yO,key]
theorem Vy(n k:Nat) (r:Rd) (now:List Int) (p q:Nat) (hq:q<5) (h:hasB (r.g.hear p) q=true):(yO n k r now p q).c.setIfInBounds (3+q) (.int .i64 (now.getD q 0))=(yO n k r now p (q+1)).c:=by
 have:q=0\/q=1\/q=2\/q=3\/q=4:=by omega
 rcases this with e|e|e|e|e<;>subst e<;>simp[yO,h]
theorem MO(r:Rd) (k:Nat) (hk:k<5) (w:World) (B:Nat) (t:TypeId) (hw:w.heap[B]?=some (.cells r.c t)):w.cell? ⟨B,1+k,none⟩=some (.int .i64 (r.g.hear k)):=by
 have:k=0\/k=1\/k=2\/k=3\/k=4:=by omega
 rcases this with h|h|h|h|h<;>subst h<;>simp[World.cell?,hw,Gr.hear]
theorem Lh{W:World} {base B n:Nat} {l:List Int} (h:W.heap[B]?=some (.cells (bH l) 3)) (hl:l.length=n) (hb:base<=B) (hn:n<=256):aJ W base 3 1 (.slice (some ⟨B,0,none⟩) n n) n (l.map (Value.int .i64)):=
 ⟨by simp[hl],.inr ⟨B,n,_,(0,0),rfl,hb,h,fun i _ h=>by have:=h.2;simp at this,Nat.le_refl _,by unfold maxLen;omega,by simp[bH,hl],by simp only[bH];rw[Nat.mul_one,List.take_of_length_le (by simp;omega)]⟩⟩
theorem Pu(w0:World) (b mb n:Nat) (hn:n<=5) (tab:List Vw) (vi vw:Value) (inp:List Int) (word:List Rd) (w:World) (h0:Below w0.heap.size w0 w) (hi:aQ w0 vi inp) (hw:kK w0 vw word) (gL:n<=inp.length) (Jn:word.length<=6) (hl:tab.length+100<=100000) (hB:BldIs w0.heap.size b mb n tab w) :
  Calls Tryz.prog 166 #[.pointer (some ⟨b,0,none⟩),vi,vw] w fun e w'=>∃ u,e=.returned u/\cQ w' w.heap.size u (gC n inp word tab).2/\BldIs w0.heap.size b mb n (gC n inp word tab).1 w'/\KeepT bldT [mb] w0.heap.size w w':=by
 obtain⟨pi,ci,rfl,li1,li2,ei⟩:=hi.at;obtain⟨pw,cw,rfl,lw1,lw2,ew⟩:=hw.at;have EI:=aa ei;have EW:=aa ew;have HB:=aa hB;have H0:=aa h0;have cD:=h0.size;clear hi hw ei ew hB h0;obtain⟨vs,h1,_⟩:=HB.o.ex;have t1:=ab h1 0;simp at t1;have gg:=jD (fun _=>0) n (by omega);clear h1
 go_enter Tryz.func166,Tryz.ntmps166
 go_wp2_with fail
 clear t1 gg;refine bC (fun W=>KeepT bldT [mb] w0.heap.size w W/\BldIs w0.heap.size b mb n tab W/\W.heap[w.heap.size]?=some (.cells (lY n []) 3)) ⟨KeepT.of_below _ (by go_grown) cD,HB.o.up (by go_grown),by rw[IF];exact ap _ _⟩ (fun W0 aX=>?_);obtain⟨ff,aG,sr⟩:=aX
 go_loopw [24] (fun i wr=>∃ q:Nat,q<=n/\i=.int .i64 q/\KeepT bldT [mb] w0.heap.size w wr/\BldIs w0.heap.size b mb n (addAll tab ((gq inp n).take q)).1 wr/\wr.heap[w.heap.size]?=some (.cells (lY n (addAll tab ((gq inp n).take q)).2) 3)) (fun i _=>n - (intOf i).toNat)
 ·exact⟨0,by omega,rfl,ff,aG,sr⟩
 ·
  clear ff aG sr;obtain⟨q,hq,rfl,hk,hb,hr⟩:=hrel;by_cases aC:q<n
  ·have iu:=aa (uD tab (gq inp n) q (by simpa using aC));have cC:=(fO ((gq inp n).take q) (tab,[])).1;have oA:=(fO ((gq inp n).take q) (tab,[])).2;have QS:((gq inp n).take q).length=q:=by simp;omega
   rw[IJ]at iu;change (addAll tab ((gq inp n).take q)).2.length=_ at cC;change (addAll tab ((gq inp n).take q)).1.length<=_ at oA;simp only[List.length_nil,QS,Nat.zero_add]at cC oA;obtain⟨b1,o1,rfl,hx⟩:=EI.o q (by omega);have HX:=aa hx.1;have QG:=aa hk;have eU:=aa hb;have Bm:=aa hr;have Ys:=hk.old.size;rw[Nat.mul_one]at HX;have Kn:am (dX inp q=⟨q,0,inp[q],-1,-1,-1,-1,-1⟩):=aa (by unfold dX;rw[az 0 (by omega)]);generalize inp[q]=y at HX Kn;clear hx hk hb hr QS;generalize (addAll tab ((gq inp n).take q))=st at iu cC oA eU Bm
   go_wp2_with fail
   refine mO 11 [27,28,29,30,31,32,33,34,35,36,37] [some (.slice (some ⟨w.heap.size,0,none⟩) n n),
    some (.int .i64 q),
    some (.pointer (some ⟨b,0,none⟩)),
    some (.int .i64 q),
    some (.slice (some ⟨b1,o1,none⟩) inp.length ci),
    some (.int .i64 q),
    some (.pointer (some ⟨b1,o1+q,none⟩)),
    some (.int .i64 y),
    some (silV),
    some ((dX inp q).v),
    some (.int .i64 ((putV st.1 (dX inp q)).2:Nat))] (PCore w0.heap.size b mb n st.1 (putV st.1 (dX inp q)).1 10 wr) (by kernel_rfl) rfl (by decide) rfl (by kernel_rfl) (by kernel_rfl) (by kernel_rfl) (fun _=>⟨by omega,(KeepT.refl _ _ _).drew,eU.o.up (Below.refl _ _).drew⟩) ?step ?tail
   case step=>
    intro x W D i o s F hi ho hs hD cN bW aq hv aP hF;have fR:i=0\/i=1\/i=2\/i=3\/i=4\/i=5\/i=6\/i=7\/i=8\/i=9\/i=10:=by omega
    rcases fR with rfl|rfl|rfl|rfl|rfl|rfl|rfl|rfl|rfl|rfl|rfl
    all_goals (have dR:=cN _ _ hs hD;obtain rfl:=dy ho.symm;obtain rfl:=dy hs.symm)
    ·clear aq hi hv;have e7:F.getD 7 undef=.slice (some ⟨w.heap.size,0,none⟩) n n:=lT hF (by decide) rfl;clear cN bW;clear hF dR;have e7':=dH e7;have HD:=aa hD;have bz:=aa aP;clear hD aP
     go_wp2_with fail
     refine bY.mk _ fV ?_ rfl;exact bz.o.other _ (by decide)
    ·clear aq hi hv;have e8:F.getD 8 undef=.int .i64 q:=lT hF (by decide) rfl;clear cN bW;clear hF dR;have e8':=dH e8;have HD:=aa hD;have bz:=aa aP;clear hD aP
     go_wp2_with fail
     refine bY.mk _ fV ?_ rfl;exact bz.o.other _ (by decide)
    ·clear aq hi hv;have e0:F.getD 0 undef=.pointer (some ⟨b,0,none⟩):=lT hF (by decide) rfl;clear cN bW;clear hF dR;have e0':=dH e0;have HD:=aa hD;have bz:=aa aP;clear hD aP
     go_wp2_with fail
     refine bY.mk _ fV ?_ rfl;exact bz.o.other _ (by decide)
    ·clear aq hi hv;have e8:F.getD 8 undef=.int .i64 q:=lT hF (by decide) rfl;clear cN bW;clear hF dR;have e8':=dH e8;have HD:=aa hD;have bz:=aa aP;clear hD aP
     go_wp2_with fail
     refine bY.mk _ fV ?_ rfl;exact bz.o.other _ (by decide)
    ·clear aq hi hv;have e1:F.getD 1 undef=.slice (some ⟨b1,o1,none⟩) inp.length ci:=lT hF (by decide) rfl;clear cN bW;clear hF dR;have e1':=dH e1;have HD:=aa hD;have bz:=aa aP;clear hD aP
     go_wp2_with fail
     refine bY.mk _ fV ?_ rfl;exact bz.o.other _ (by decide)
    ·clear aq hi hv;have e8:F.getD 8 undef=.int .i64 q:=lT hF (by decide) rfl;clear cN bW;clear hF dR;have e8':=dH e8;have HD:=aa hD;have bz:=aa aP;clear hD aP
     go_wp2_with fail
     refine bY.mk _ fV ?_ rfl;exact bz.o.other _ (by decide)
    ·have g4:=aq ⟨4,.data⟩ (by simp) rfl;have d4:=hv 4 _ (by omega) g4 rfl;have g5:=aq ⟨5,.data⟩ (by simp) rfl;have d5:=hv 5 _ (by omega) g5 rfl;clear aq hi hv;have e31:=fG hF 4 31 (by decide) rfl (by kernel_rfl) d4;have e32:=fG hF 5 32 (by decide) rfl (by kernel_rfl) d5;clear cN bW;clear hF dR d4 d5;have e31':=dH e31;have e32':=dH e32;have HD:=aa hD;have bz:=aa aP;clear hD aP;clear g4;clear g5
     go_wp2_with fail
     refine bY.mk _ fV ?_ rfl;exact bz.o.other _ (by decide)
    ·have g6:=aq ⟨6,.data⟩ (by simp) rfl;have d6:=hv 6 _ (by omega) g6 rfl;clear aq hi hv;have e33:=fG hF 6 33 (by decide) rfl (by kernel_rfl) d6;clear cN bW;clear hF dR d6;have t1:=ak (KeepT.below9 H0.o QG.o aP.keep) HX.o;have e33':=dH e33;have HD:=aa hD;have bz:=aa aP;clear hD aP;clear g6
     go_wp2_with fail
     refine bY.mk _ fV ?_ rfl;exact bz.o.other _ (by decide)
    ·clear aq hi hv;clear cN bW;clear hF dR;have HD:=aa hD;have bz:=aa aP;clear hD aP
     go_wp2_with fail
     refine(AH W).mono ?_;rintro e w9 ⟨rfl,dU⟩
     go_wp2_with fail
     refine bY.mk _ fV ?_ rfl;exact(bz.o.grow dU).other _ (by decide)
    ·have g3:=aq ⟨3,.data⟩ (by simp) rfl;have d3:=hv 3 _ (by omega) g3 rfl;have g7:=aq ⟨7,.data⟩ (by simp) rfl;have d7:=hv 7 _ (by omega) g7 rfl;have g8:=aq ⟨8,.data⟩ (by simp) rfl;have d8:=hv 8 _ (by omega) g8 rfl;clear aq hi hv;have e30:=fG hF 3 30 (by decide) rfl (by kernel_rfl) d3;have e34:=fG hF 7 34 (by decide) rfl (by kernel_rfl) d7;have e35:=fG hF 8 35 (by decide) rfl (by kernel_rfl) d8;clear cN bW;clear hF dR d3 d7 d8;have HFV9:=Kn;have e30':=dH e30;have e34':=dH e34;have e35':=dH e35;have HD:=aa hD;have bz:=aa aP;clear hD aP;clear g3;clear g7;clear g8
     go_wp2_with fail
     refine bY.mk _ (fun c hc=>by rw[<-dy hc,Kn.o]) ?_ rfl;exact bz.o.other _ (by decide)
    ·have g2:=aq ⟨2,.data⟩ (by simp) rfl;have d2:=hv 2 _ (by omega) g2 rfl;have g9:=aq ⟨9,.data⟩ (by simp) rfl;have d9:=hv 9 _ (by omega) g9 rfl;clear aq hi hv;have e29:=fG hF 2 29 (by decide) rfl (by kernel_rfl) d2;have e36:=fG hF 9 36 (by decide) rfl (by kernel_rfl) d9;clear cN bW;clear hF dR d2 d9;have ox:=aP.bld;rw[hD]at ox;have Dy:=aa (show BldIs w0.heap.size b mb n st.1 W from ox);clear ox;have e29':=dH e29;have e36':=dH e36;have HD:=aa hD;have bz:=aa aP;clear hD aP;clear g2;clear g9
     go_wp2_with fail
     refine(Lg w0.heap.size b mb n st.1 (dX inp q) W Dy.o (by omega)).mono ?_;rintro e w9 ⟨rfl,dU,zI⟩;have fr:=aa dU;have qD:=aa zI;clear dU zI
     go_wp2_with fail
     refine bY.mk _ fV ?_ rfl;exact bz.o.put _ qD.o fr.o
   case tail=>
    intro x W' D F aU hv aP hF;have x0:=hv 0 _ (by omega) rfl;have x1:=hv 1 _ (by omega) rfl;have x2:=hv 2 _ (by omega) rfl;have x3:=hv 3 _ (by omega) rfl;have x4:=hv 4 _ (by omega) rfl;have x5:=hv 5 _ (by omega) rfl;have x6:=hv 6 _ (by omega) rfl;have x7:=hv 7 _ (by omega) rfl;have x8:=hv 8 _ (by omega) rfl;have x9:=hv 9 _ (by omega) rfl;have x10:=hv 10 _ (by omega) rfl;have ox:=aP.bld;rw[aU 10 (by omega)]at ox;have Dy:=aa (show BldIs w0.heap.size b mb n (putV st.1 (dX inp q)).1 W' from ox);have qD:=aa aP.keep;have bU:=qD.o.keep _ _ _ _ Bm.o (by decide);have jd:=aa bU;have z1:=aH bU q;have c1:=ab bU q;rw[wS _ _ _ aC]at c1;have hltI:(q:Int)<(n:Int):=by omega
    simp only[bA,cW,List.setIfInBounds_toArray,List.set_cons_succ,List.set_cons_zero,Nat.reduceAdd,x0,x1,x2,x3,x4,x5,x6,x7,x8,x9,x10]at hF;subst hF;clear hv aU aP ox bU x0 x1 x2 x3 x4 x5 x6 x7 x8 x9 x10;simp only[List.drop_succ_cons,List.drop_zero]
    go_wp2_with fail
    go_roundw
    ·
     refine⟨q+1,by omega,by go_num,(QG.o.trans qD.o).setNew cD (Nat.le_refl _) _,?_,?_⟩
     ·rw[iu.o];exact Dy.o.set jd.o (by decide) _
     ·rw[iu.o,aI jd.o];have:=IG n st.2 ((putV st.1 (dX inp q)).2:Nat) (by omega);rw[cC]at this;rw[this];rfl
    ·simp[intOf];omega
  ·obtain rfl:q=n:=by omega
   have aU:=fO (gq inp q) (tab,[]);change (addAll tab (gq inp q)).2.length=_/\(addAll tab (gq inp q)).1.length<=_ at aU;simp only[List.length_nil,List.length_map,List.length_range,Nat.zero_add]at aU;rw[List.take_of_length_le (by simp)]at hb hr
   have F3:wr.heap[w.heap.size]?=some (.cells (bH (addAll tab (gq inp q)).2) 3):=by
    rw[hr,<-II,aU.1]
   have QG:=aa hk;have eU:=aa hb;have Bm:=aa F3;have m5:=aa aU;have Ys:=hk.old.size;clear hk hb hr F3 aU
   go_wp2_with fail
   refine bC (fun W=>KeepT bldT [mb] w0.heap.size w W/\BldIs w0.heap.size b mb q (playTo q inp word tab 0).1 W/\cQ W w.heap.size (.slice (some ⟨wr.heap.size,0,none⟩) 1 1) (playTo q inp word tab 0).2/\W.heap[w.heap.size]?=some (.cells (bH ((playTo q inp word tab 0).2.getLastD [])) 3))
    ⟨QG.o.trans (.of_below _ (by go_grown) (by omega)),eU.o.up (by go_grown),⟨[.slice (some ⟨w.heap.size,0,none⟩) q q],⟨by simp[playTo],.inr ⟨wr.heap.size,1,_,(0,0),rfl,by omega,ap _ _,fun i _ h=>by have:=h.2;simp at this,by simp[playTo],by unfold maxLen;omega,by simp,by simp[playTo]⟩⟩,fun i hi=>by
     have cX:i=0:=by simp[playTo]at hi;omega
     subst cX;refine⟨_,rfl,?_⟩;have:=(Lh Bm.o m5.o.1 (Nat.le_refl w.heap.size) (by omega)).up (w':=wr.alloc (.cells #[.slice (some ⟨w.heap.size,0,none⟩) q q] 38)) (by go_grown)
     simpa[playTo,uZ,m5.o.1] using this⟩,by simpa[playTo,uZ] using ar _ Bm.o⟩ (fun W1 cM=>?_)
   obtain⟨mo,aK,eV,xR⟩:=cM;clear QG eU Bm m5
   go_loopw [7,9,44] (fun nv ov i wr=>∃ k:Nat,k<=word.length/\i=.int .i64 k/\KeepT bldT [mb] w0.heap.size w wr/\BldIs w0.heap.size b mb q (playTo q inp word tab k).1 wr/\cQ wr w.heap.size ov (playTo q inp word tab k).2/\∃ Bn,nv=.slice (some ⟨Bn,0,none⟩) q q/\wr.heap[Bn]?=some (.cells (bH ((playTo q inp word tab k).2.getLastD [])) 3)) (fun _ _ i _=>word.length - (intOf i).toNat)
   ·exact⟨0,by omega,rfl,mo,aK,eV,_,rfl,xR⟩
   ·
    clear mo aK eV xR;obtain⟨k,mq,rfl,hk,hb,hf,Bn,rfl,Gm⟩:=hrel;have DT:=aa hk;have cf:=aa hb;have sg:=aa hf;have si:=aa Gm;by_cases aC:k<word.length
    ·obtain⟨wrA,B4⟩:∃ x,x=wr:=⟨_,rfl⟩;subst B4;have eD:=iG q inp word tab k;have iu:am (playTo q inp word tab (k+1)=Mm q k (word.getD k default) (playTo q inp word tab k)):=aa rfl;obtain⟨b3,o3,rfl,⟨d0,_⟩,⟨d1,_⟩,⟨d2,_⟩,⟨d3,_⟩,⟨d4,_⟩,⟨d5,_⟩,⟨d6,_⟩⟩:=EW.o k aC;rw[az default aC]at iu;generalize word[k]=r at d0 d1 d2 d3 d4 d5 d6 iu;have F4:=KeepT.below9 H0.o hk (KeepT.refl (ms:=[mb]) bldT _ wrA)
     replace d0:=ak F4 d0
     replace d1:=ak F4 d1
     replace d2:=ak F4 d2
     replace d3:=ak F4 d3
     replace d4:=ak F4 d4
     replace d5:=ak F4 d5
     replace d6:=ak F4 d6
     obtain⟨vs',lm,_⟩:=hb.ex;have t1:=ab lm 0;have hbsz:=aD lm;simp at t1;have gg:=jD (fun _=>0) q (by omega)
     have hkq:(playTo q inp word tab k).1.length<=tab.length+40:=by
      have h9:q * (k+1)<=5 * (k+1):=Nat.mul_le_mul_right _ hn;omega
     have hzw:=hk.old.size;clear hk hb hf Gm F4 lm;generalize playTo q inp word tab k=st at cf sg si iu eD hkq;generalize mZ:st.2.getLastD []=now at si eD;have HNOW:=aa mZ;clear mZ;obtain⟨fZ,je,nK⟩:=eD
     go_wp2_with fail
     clear d0 d1 d2 d3 d4 d5 d6 t1 gg;refine bC (fun W=>KeepT bldT [mb] w0.heap.size wrA W/\BldIs w0.heap.size b mb q st.1 W/\W.heap[wrA.heap.size]?=some (.cells r.c 141)/\W.heap[wrA.heap.size+1]?=some (.cells (lY q []) 3)) ⟨.of_below _ (by go_grown) (by omega),cf.o.up (by go_grown),ar _ (ap _ _),by rw[IF];exact aZ _ _ _⟩ (fun W1 cM=>?_);obtain⟨mo,aK,xR,dm⟩:=cM
     go_loopw [56] (fun i wrB=>∃ p:Nat,p<=q/\i=.int .i64 p/\KeepT bldT [mb] w0.heap.size wrA wrB/\BldIs w0.heap.size b mb q (addAll st.1 ((fP q k r now).take p)).1 wrB/\wrB.heap[wrA.heap.size]?=some (.cells r.c 141)/\wrB.heap[wrA.heap.size+1]?=some (.cells (lY q (addAll st.1 ((fP q k r now).take p)).2) 3)) (fun i _=>q - (intOf i).toNat)
     ·exact⟨0,by omega,rfl,mo,aK,xR,dm⟩
     ·
      clear mo aK xR dm;obtain⟨p,hp,rfl,iw,bG,LD,xN⟩:=hrel;obtain⟨wrB,hwrB⟩:∃ x,x=wr:=⟨_,rfl⟩;subst hwrB;by_cases jI:p<q
      ·have J7:=aa (uD st.1 (fP q k r now) p (by simpa using jI));have cC:=(fO ((fP q k r now).take p) (st.1,[])).1;have oA:=(fO ((fP q k r now).take p) (st.1,[])).2;have QS:((fP q k r now).take p).length=p:=by simp;omega
       rw[IJ]at J7;change (addAll st.1 ((fP q k r now).take p)).2.length=_ at cC;change (addAll st.1 ((fP q k r now).take p)).1.length<=_ at oA;simp only[List.length_nil,QS,Nat.zero_add]at cC oA;have oN:=aa iw;have dE:=aa bG;have fT:=aa LD;have jb:=aa xN;clear QS;clear iw bG LD xN;generalize (addAll st.1 ((fP q k r now).take p))=st2 at J7 cC oA dE jb
       go_wp2_with fail
       refine(AH _).mono ?_;rintro e w9 ⟨rfl,dU⟩
       go_wp2_with fail
       refine bC (fun W=>Below w9.heap.size w9 W/\W.heap[w9.heap.size]?=some (.cells (yO q k r now p 0).c 190)) ⟨by go_grown,by rw[RZ];exact ap _ _⟩ (fun W4 hW4=>?_);obtain⟨bS,hv4⟩:=hW4;have fr:=aa dU;clear dU
       go_loopw [66] (fun i wr=>∃ j:Nat,j<=q/\i=.int .i64 j/\Below w9.heap.size w9 wr/\wr.heap[w9.heap.size]?=some (.cells (yO q k r now p j).c 190)) (fun i _=>q - (intOf i).toNat)
       ·exact⟨0,by omega,rfl,bS,hv4⟩
       ·
        clear bS hv4;obtain⟨j,hj,rfl,dS,zN⟩:=hrel;have Gf:=aa zN;by_cases Yy:j<q
        ·have Dx:=af (ae fr.o dS) fT.o;have tr:=MO r p (by omega) wr _ _ Dx;have iP:=af (ae fr.o dS) (oN.o.keep _ _ _ _ si.o (by decide));have tn:=ab iP j;rw[Fz _ _ (by omega)]at tn
         obtain⟨x0,tv⟩:∃ x0,wr.cell? ⟨w9.heap.size,3+j,none⟩=some (.int .i64 x0):=by
          have h9:j=0\/j=1\/j=2\/j=3\/j=4:=by omega
          rcases h9 with h|h|h|h|h<;>subst h<;>exact⟨_,ab zN _⟩
         have zv:=aH zN (3+j);have hj5:(j:Int)<5:=by omega
         have zu:(p:Int)<5:=by omega
         have gR:=rx (r.g.hear p) j;have so:=dS.size;cases xW:hasB (r.g.hear p) j with
         | false=>
          rw[xW]at gR;have Xw:=aa (Vx q k r now p j xW);clear zN Dx iP xW
          go_wp2_with fail
          go_roundw
          ·exact⟨j+1,by omega,by go_num,dS,by rw[Xw.o];exact Gf.o⟩
          ·simp[intOf];omega
         | true=>
          rw[xW]at gR;have WX:=Vy q k r now p j (by omega) xW;rw[az 0 (by omega)]at WX;have Xw:=aa WX;clear WX;clear zN Dx iP xW
          go_wp2_with fail
          go_roundw
          ·exact⟨j+1,by omega,by go_num,dS.setCell (Nat.le_refl _) _,by rw[aI Gf.o,Xw.o]⟩
          ·simp[intOf];omega
        ·obtain rfl:j=q:=by omega
         rw[Vv]at Gf;generalize nextV j k r now p=vv at Gf J7;have tv:=ab Gf.o;have Dy:=aa (dE.o.up (ae fr.o dS));have DG:=aa (af (ae fr.o dS) jb.o);have xM:=aa (af (ae fr.o dS) fT.o);have hlpI:(p:Int)<(j:Int):=by omega
         have UO:=oN.o.old.size;have QW:=fr.o.size;clear zN
         go_wp2_with fail
         refine(Lg w0.heap.size b mb j st2.1 vv wr Dy.o (by omega)).mono ?_;rintro e w10 ⟨rfl,B2,NP⟩;have B3:=aa (NP.keep _ _ _ _ DG.o (by decide));have HR10:=aa (NP.keep _ _ _ _ xM.o (by decide));have Tz:=aa B2;have HK10:=aa NP;have z1:=aH B3.o p;have c1:=ab B3.o p;rw[wS _ _ _ jI]at c1;clear B2 NP tv
         go_wp2_with fail
         go_roundw
         ·
          refine⟨p+1,by omega,by go_num,((oN.o.trans (.of_below _ (ae fr.o dS) (by omega))).trans HK10.o).setNew (by omega) (by omega) _,?_,aM HR10.o (by omega) _ _,?_⟩
          ·rw[J7.o];exact Tz.o.set B3.o (by decide) _
          ·rw[J7.o,aI B3.o];have:=IG j st2.2 ((putV st2.1 vv).2:Nat) (by omega);rw[cC]at this;rw[this];rfl
         ·simp[intOf];omega
      ·obtain rfl:p=q:=by omega
       have aU:=fO (fP p k r now) (st.1,[]);change (addAll st.1 (fP p k r now)).2.length=_/\(addAll st.1 (fP p k r now)).1.length<=_ at aU;simp only[List.length_nil,List.length_map,List.length_range,Nat.zero_add]at aU;rw[List.take_of_length_le (by simp)]at bG xN
       have SD:wrB.heap[wrA.heap.size+1]?=some (.cells (bH (addAll st.1 (fP p k r now)).2) 3):=by
        rw[xN,<-II,aU.1]
       have kx:am (playTo p inp word tab (k+1)=((addAll st.1 (fP p k r now)).1,st.2++[(addAll st.1 (fP p k r now)).2])):=aa (by rw[iu.o];unfold Mm;rw[HNOW.o]);have hfB:=iw.fresh sg.o (by decide) (by decide);obtain⟨xs,qI,cZ⟩:=hfB;obtain⟨a9,c9,rfl⟩:=qI.slice;generalize addAll st.1 (fP p k r now)=st3 at kx aU bG SD;have hA:Below wrB.heap.size wrB (wrB.alloc (.cells #[(Value.slice (some ⟨wrA.heap.size+1,0,none⟩) p p)] 38)):=by go_grown
       have dx:=aa (qI.up hA)
       have bQ:∀ j u',[(Value.slice (some ⟨wrA.heap.size+1,0,none⟩) p p)][j]?=some u'->(wrB.alloc (.cells #[(Value.slice (some ⟨wrA.heap.size+1,0,none⟩) p p)] 38)).cell? (Addr.add ⟨wrB.heap.size,0,none⟩ j)=some u':=fun j u' hj=>by
        cases j with
        | zero=>simp at hj;subst hj;simp[Addr.add,ab (ap wrB _)]
        | succ j=>simp at hj
       have bF:=aa bQ;have iv:=aa cZ;have oN:=aa iw;have dE:=aa bG;have jb:=aa SD;obtain⟨i0,cX,fM,jK,iN⟩:=info_parts Tryz.infoInts;have hzB:=iw.old.size;clear bQ cZ iw bG xN SD LD qI
       go_wp2_with (at_builtin;(refine bg _ rfl (.tmp 92) (.tmp 94) 56 rfl w.heap.size 38 i0 _ 1 24 Tryz.underlying56 cX fM jK iN rfl (by decide) _ st.2.length xs rfl dx.o ⟨wrB.heap.size,0,none⟩ 1 1 [(Value.slice (some ⟨wrA.heap.size+1,0,none⟩) p p)] rfl rfl bF.o (by simp[Value.oneCell']) (by unfold maxLen;omega) (by omega) (by simp;omega) ?_;intro v' w2 fQ dA _))
       go_roundw
       ·
        have bU:=af hA jb.o;refine⟨k+1,by omega,by go_num,((DT.o.trans oN.o).trans (.of_below _ hA (by omega))).grownNew cD (fun g e=>(dx.o.lt g e).1) dA,?_,?_,_,rfl,?_⟩
        ·rw[kx.o];exact(dE.o.up hA).grown dx.o (by decide) dA
        ·rw[kx.o];exact cj.snoc dx.o (fun i hi=>by obtain⟨y,q1,q2⟩:=iv.o i hi;exact⟨y,q1,q2.up hA⟩) (by decide) (by rw[aU.1];exact Lh bU aU.1 (by omega) (by omega)) dA fQ
        ·rw[kx.o,List.getLastD_concat];exact gm dA bU (fun e=>dx.o.ne bU (by decide) _ e rfl)
       ·simp[intOf];omega
    ·obtain rfl:k=word.length:=by omega
     obtain⟨xs,qI,_⟩:=hf;obtain⟨a9,c9,rfl⟩:=qI.slice;clear hk hb Gm qI
     go_wp2_with fail
     go_ret
     exact⟨_,rfl,sg.o,cf.o,DT.o⟩
def mU(w:World) (k:Nat) (v:Value) (n:Nat) (xs:List Value):Prop:=
 ∃ a cap,v=.slice a n cap/\(a=none->n=0/\cap=0)/\xs.length=n * k/\(∀ j u,xs[j]?=some u->∃ b o,a=some ⟨b,o,none⟩/\w.cell? ⟨b,o+j,none⟩=some u)/\∀ u∈xs,u.oneCell'=true
theorem CC{α:Type} {k:Nat} {R:World->Nat->Nat->α->Prop} {w:World} {v:Value} {l:List α} (h:fj k R w v l) (hk:0<k) (hR:∀ b o x j,R w b o x->j<k->∃ u,w.cell? ⟨b,o+j,none⟩=some u/\u.oneCell'=true):∃ xs,mU w k v l.length xs:=by
 obtain⟨a,cap,rfl,h1,h2,h3⟩:=h
 have key:∀ i:Fin (l.length * k),∃ u:Value,∃ b o,a=some ⟨b,o,none⟩/\w.cell? ⟨b,o+i.1,none⟩=some u/\u.oneCell'=true:=fun i=>by
  have hi:i.1 / k<l.length:=by rw[Nat.div_lt_iff_lt_mul hk];exact i.2
  obtain⟨b,o,ha,hr⟩:=h3 (i.1 / k) _ (List.getElem?_eq_getElem hi);obtain⟨u,hu,h1⟩:=hR b _ _ (i.1 % k) hr (Nat.mod_lt _ hk);refine⟨u,b,o,ha,?_,h1⟩;rw[<-hu];congr 2;have:=Nat.div_add_mod i.1 k;rw[Nat.mul_comm]at this;omega
 refine⟨List.ofFn fun i=>Classical.choose (key i),a,cap,rfl,fun e=>?_,by simp,fun j u hj=>?_,fun u hu=>?_⟩
 ·have:=h1.2.2 e;have:=h1.1;omega
 ·have hi:j<l.length * k:=by have:=(List.getElem?_eq_some_iff.1 hj).1;simpa using this
  have e:u=Classical.choose (key ⟨j,hi⟩):=by
   rw[List.getElem?_ofFn]at hj;simp[hi]at hj;exact hj.symm
  obtain⟨b,o,ha,hc,_⟩:=Classical.choose_spec (key ⟨j,hi⟩);exact⟨b,o,ha,by rw[e];exact hc⟩
 ·obtain⟨i,rfl⟩:=(List.mem_ofFn).1 hu;obtain⟨_,_,_,_,hs⟩:=Classical.choose_spec (key i);exact hs
theorem CD{α:Type} {k:Nat} {R:World->Nat->Nat->α->Prop} {w:World} {b o:Nat} {l:List α} (h:mK k R w b o l):∃ u,w.cell? ⟨b,o,none⟩=some u/\u.oneCell'=true:=by
 obtain⟨v,hc,hs⟩:=h;exact⟨v,hc,GQ hs⟩
theorem Pv{w:World} {v:Value} {l:List Cs} (h:bM w v l):∃ xs,mU w 3 v l.length xs:=CC h (by decide) fun b o x j hr hj=>by
 obtain⟨h0,h1,h2⟩:=hr;have:j=0\/j=1\/j=2:=by omega
 rcases this with rfl|rfl|rfl
 ·exact CD h0
 ·exact CD h1
 ·exact CD h2
theorem MQ{w:World} {v:Value} {l:List (List Mv)} (h:bu w v l):∃ xs,mU w 1 v l.length xs:=CC h (by decide) fun b o x j hr hj=>by
 obtain rfl:j=0:=by omega
 exact CD hr
abbrev Mv.c(m:Mv):Array Value:=#[.int .i64 m.r.g.n,.int .i64 m.r.g.h0,.int .i64 m.r.g.h1,.int .i64 m.r.g.h2,.int .i64 m.r.g.h3,.int .i64 m.r.g.h4,.int .i64 m.r.f,.int .i64 m.to]
def fK(xs:List Mv):List Value:=xs.flatMap fun m=>m.c.toList
theorem CE(xs:List Mv):(fK xs).length=xs.length * 8:=by
 unfold fK;induction xs with
 | nil=>rfl
 | cons x r ih=>rw[List.flatMap_cons,List.length_append,ih];simp;omega
theorem Pw{w:World} {v:Value} {l:List Mv} (h:pI w v l):mU w 8 v l.length (fK l):=by
 obtain⟨a,cap,rfl,h1,h2,h3⟩:=h;refine⟨a,cap,rfl,fun e=>?_,CE l,fun j u hu=>?_,fun u hu=>?_⟩
 ·have:=h1.2.2 e;have:=h1.1;omega
 ·have hj:=(List.getElem?_eq_some_iff.1 hu).1;rw[CE]at hj;obtain⟨i,s,hs,rfl⟩:∃ i s,s<8/\j=i * 8+s:=⟨j / 8,j % 8,by omega,by omega⟩;have hi:i<l.length:=by omega
  unfold fK at hu;rw[pW Mv.c 8 (fun _=>rfl) l i s hi hs]at hu;obtain⟨b,o,ha,⟨⟨c0,_⟩,⟨c1,_⟩,⟨c2,_⟩,⟨c3,_⟩,⟨c4,_⟩,⟨c5,_⟩,⟨c6,_⟩⟩,⟨c7,_⟩⟩:=h3 i _ (List.getElem?_eq_getElem hi);refine⟨b,o,ha,?_⟩;rw[<-Nat.add_assoc];rcases (show s=0\/s=1\/s=2\/s=3\/s=4\/s=5\/s=6\/s=7 by omega) with rfl|rfl|rfl|rfl|rfl|rfl|rfl|rfl<;>(simp at hu;subst hu;first|exact c0|exact c1|exact c2|exact c3|exact c4|exact c5|exact c6|exact c7)
 ·obtain⟨m,_,hm⟩:=List.mem_flatMap.1 hu;simp at hm;rcases hm with h|h|h|h|h|h|h|h<;>subst h<;>rfl
theorem FE{w:World} {base:Nat} {v:Value} {l:List Mv} (h:aJ w base 143 8 v l.length (fK l)) (hx:∀ m∈l,pX m.r/\bR m.to) (hn:l.length<=17592186044416):pI w v l:=by
 have aU:=fun i (hi:i<l.length) j (u:Value) (hj:j<8) (hu:l[i].c[j]?=some u)=>h.cell (i * 8+j) u (by unfold fK;rw[pW Mv.c 8 (fun _=>rfl) l i j hi hj];exact hu)
 rcases h.2 with ⟨hz,h0⟩|⟨g,cap,cur,fz,rfl,_,hg,_,kR,jl,_⟩
 ·refine⟨none,0,by rw[hz,h0],⟨by omega,by omega,fun _=>rfl⟩,hn,fun i x hi=>?_⟩;have:=(List.getElem?_eq_some_iff.1 hi).1;omega
 ·refine⟨some ⟨g,0,none⟩,cap,rfl,⟨kR,by simp only[maxLen]at jl;omega,fun e=>by cases e⟩,hn,fun i x hi=>⟨g,0,rfl,?_⟩⟩;obtain⟨gL,rfl⟩:=List.getElem?_eq_some_iff.1 hi;obtain⟨⟨r0,r1,r2,r3,r4,r5,r6⟩,r7⟩:=hx _ (List.getElem_mem gL)
  have key:∀ j u,j<8->l[i].c[j]?=some u->w.cell? ⟨g,0+i * 8+j,none⟩=some u:=fun j u hj hu=>by
   obtain⟨g',c',e1,e2⟩:=aU i gL j u hj hu;have:g=g':=by simp at e1;exact e1.1
   rw[this,Nat.zero_add];exact e2
  exact⟨⟨⟨key 0 _ (by omega) rfl,r0⟩,⟨key 1 _ (by omega) rfl,r1⟩,⟨key 2 _ (by omega) rfl,r2⟩,⟨key 3 _ (by omega) rfl,r3⟩,⟨key 4 _ (by omega) rfl,r4⟩,⟨key 5 _ (by omega) rfl,r5⟩,⟨key 6 _ (by omega) rfl,r6⟩⟩,⟨key 7 _ (by omega) rfl,r7⟩⟩
theorem R0{w:World} {v:Value} {l:List Mv} (h:pI w v l):∀ m∈l,pX m.r/\bR m.to:=fun m hm=>by
 obtain⟨i,hi,rfl⟩:=List.getElem_of_mem hm;obtain⟨a,cap,rfl,_,_,e⟩:=h;obtain⟨b,o,ha,⟨⟨_,c0⟩,⟨_,c1⟩,⟨_,c2⟩,⟨_,c3⟩,⟨_,c4⟩,⟨_,c5⟩,⟨_,c6⟩⟩,⟨_,c7⟩⟩:=e i _ (List.getElem?_eq_getElem hi);exact⟨⟨c0,c1,c2,c3,c4,c5,c6⟩,c7⟩
theorem Tryz.infoCase:(Tryz.prog.info? 135).map (fun i=>(i.zero,i.size,i.bytes))=some (some (.agg #[.slice none 0 0,.slice none 0 0,.slice none 0 0]),3,72):=by kernel_rfl
theorem Tryz.infoMoves:(Tryz.prog.info? 136).map (fun i=>(i.zero,i.size,i.bytes))=some (some (.slice none 0 0),1,24):=by kernel_rfl
theorem Tryz.infoMove:(Tryz.prog.info? 143).map (fun i=>(i.zero,i.size,i.bytes))=some (some (.agg #[.int .i64 0,.int .i64 0,.int .i64 0,.int .i64 0,.int .i64 0,.int .i64 0,.int .i64 0,.int .i64 0]),8,64):=by kernel_rfl
theorem Er(v:Value) (n:Nat) (xs:List Value) (w:World) (hv:mU w 3 v n xs) (hn:n<=1048576) :
  Calls Tryz.prog 194 #[v] w fun e w'=>∃ u,e=.returned u/\aJ w' w.heap.size 135 3 u n xs/\Below w.heap.size w w':=by
 obtain⟨i0,hi,cD,bX,cF⟩:=info_parts Tryz.infoCase;obtain⟨a,cap,rfl,j9,iQ,hc,h1⟩:=hv;have ka:=fun w=>Lib.run_eql_slice_nil (P:=Tryz.prog) w 22
 cases a with
 | none=>
  obtain⟨rfl,rfl⟩:=j9 rfl;have dk:xs=[]:=List.eq_nil_of_length_eq_zero (by omega);subst dk
  go_enter Tryz.func194,Tryz.ntmps194
  go_wp2_with fail
  go_ret
  exact⟨_,rfl,aJ.nil _ _ _ _,Below.refl _ _⟩
 | some ad=>
  have bQ:∀ j u,xs[j]?=some u->(w.alloc (.cells #[] 135)).cell? (ad.add j)=some u:=fun j u hj=>by
   obtain⟨b,o,e,eP⟩:=hc j u hj;cases e;have:(Addr.add ⟨b,o,none⟩ j)=⟨b,o+j,none⟩:=by unfold Addr.add;split<;>simp_all
   rw[this];exact ak (by go_grown) eP
  have bd:aJ (w.alloc (.cells #[] 135)) w.heap.size 135 3 (.slice (some ⟨w.heap.size,0,none⟩) 0 0) 0 []:=⟨by simp,.inr ⟨w.heap.size,0,#[],(0,0),rfl,Nat.le_refl _,ap _ _,fun i hi=>by simp at hi,by omega,by simp[maxLen],by simp,by simp⟩⟩;have bF:=aa bQ;have bO:=aa bd;have H1:=aa h1;have zD:=aa iQ;clear bQ bd j9 hc h1 iQ
  go_enter Tryz.func194,Tryz.ntmps194
  go_wp2_with (at_builtin;(refine bg _ rfl (.tmp 5) (.tmp 6) 22 rfl w.heap.size 135 i0 _ 3 72 Tryz.underlying22 hi cD bX cF rfl (by decide) _ 0 [] rfl bO.o ad n cap xs rfl zD.o bF.o H1.o (by unfold maxLen;omega) (by omega) (by simp) ?_;intro v' w1 gY lK _;obtain⟨av',cv',rfl⟩:=gY.slice))
  go_ret
  rw[Nat.zero_add,List.nil_append]at gY;refine⟨_,rfl,by simpa using gY,Below.grown (w:=w.alloc (.cells #[] 135)) (by go_grown) lK (by simp) (fun k hk=>?_)⟩;cases hk;exact Nat.le_refl _
theorem CF(v:Value) (n:Nat) (xs:List Value) (w:World) (hv:mU w 1 v n xs) (hn:n<=1048576) :
  Calls Tryz.prog 197 #[v] w fun e w'=>∃ u,e=.returned u/\aJ w' w.heap.size 136 1 u n xs/\Below w.heap.size w w':=by
 obtain⟨i0,hi,cD,bX,cF⟩:=info_parts Tryz.infoMoves;obtain⟨a,cap,rfl,j9,iQ,hc,h1⟩:=hv;have ka:=fun w=>Lib.run_eql_slice_nil (P:=Tryz.prog) w 25
 cases a with
 | none=>
  obtain⟨rfl,rfl⟩:=j9 rfl;have dk:xs=[]:=List.eq_nil_of_length_eq_zero (by omega);subst dk
  go_enter Tryz.func197,Tryz.ntmps197
  go_wp2_with fail
  go_ret
  exact⟨_,rfl,aJ.nil _ _ _ _,Below.refl _ _⟩
 | some ad=>
  have bQ:∀ j u,xs[j]?=some u->(w.alloc (.cells #[] 136)).cell? (ad.add j)=some u:=fun j u hj=>by
   obtain⟨b,o,e,eP⟩:=hc j u hj;cases e;have:(Addr.add ⟨b,o,none⟩ j)=⟨b,o+j,none⟩:=by unfold Addr.add;split<;>simp_all
   rw[this];exact ak (by go_grown) eP
  have bd:aJ (w.alloc (.cells #[] 136)) w.heap.size 136 1 (.slice (some ⟨w.heap.size,0,none⟩) 0 0) 0 []:=⟨by simp,.inr ⟨w.heap.size,0,#[],(0,0),rfl,Nat.le_refl _,ap _ _,fun i hi=>by simp at hi,by omega,by simp[maxLen],by simp,by simp⟩⟩;have bF:=aa bQ;have bO:=aa bd;have H1:=aa h1;have zD:=aa iQ;clear bQ bd j9 hc h1 iQ
  go_enter Tryz.func197,Tryz.ntmps197
  go_wp2_with (at_builtin;(refine bg _ rfl (.tmp 5) (.tmp 6) 25 rfl w.heap.size 136 i0 _ 1 24 Tryz.underlying25 hi cD bX cF rfl (by decide) _ 0 [] rfl bO.o ad n cap xs rfl zD.o bF.o H1.o (by unfold maxLen;omega) (by omega) (by simp) ?_;intro v' w1 gY lK _;obtain⟨av',cv',rfl⟩:=gY.slice))
  go_ret
  rw[Nat.zero_add,List.nil_append]at gY;refine⟨_,rfl,by simpa using gY,Below.grown (w:=w.alloc (.cells #[] 136)) (by go_grown) lK (by simp) (fun k hk=>?_)⟩;cases hk;exact Nat.le_refl _
theorem Es(v:Value) (n:Nat) (xs:List Value) (w:World) (hv:mU w 8 v n xs) (hn:n<=1048576) :
  Calls Tryz.prog 198 #[v] w fun e w'=>∃ u,e=.returned u/\aJ w' w.heap.size 143 8 u n xs/\Below w.heap.size w w':=by
 obtain⟨i0,hi,cD,bX,cF⟩:=info_parts Tryz.infoMove;obtain⟨a,cap,rfl,j9,iQ,hc,h1⟩:=hv;have ka:=fun w=>Lib.run_eql_slice_nil (P:=Tryz.prog) w 136
 cases a with
 | none=>
  obtain⟨rfl,rfl⟩:=j9 rfl;have dk:xs=[]:=List.eq_nil_of_length_eq_zero (by omega);subst dk
  go_enter Tryz.func198,Tryz.ntmps198
  go_wp2_with fail
  go_ret
  exact⟨_,rfl,aJ.nil _ _ _ _,Below.refl _ _⟩
 | some ad=>
  have bQ:∀ j u,xs[j]?=some u->(w.alloc (.cells #[] 143)).cell? (ad.add j)=some u:=fun j u hj=>by
   obtain⟨b,o,e,eP⟩:=hc j u hj;cases e;have:(Addr.add ⟨b,o,none⟩ j)=⟨b,o+j,none⟩:=by unfold Addr.add;split<;>simp_all
   rw[this];exact ak (by go_grown) eP
  have bd:aJ (w.alloc (.cells #[] 143)) w.heap.size 143 8 (.slice (some ⟨w.heap.size,0,none⟩) 0 0) 0 []:=⟨by simp,.inr ⟨w.heap.size,0,#[],(0,0),rfl,Nat.le_refl _,ap _ _,fun i hi=>by simp at hi,by omega,by simp[maxLen],by simp,by simp⟩⟩;have bF:=aa bQ;have bO:=aa bd;have H1:=aa h1;have zD:=aa iQ;clear bQ bd j9 hc h1 iQ
  go_enter Tryz.func198,Tryz.ntmps198
  go_wp2_with (at_builtin;(refine bg _ rfl (.tmp 5) (.tmp 6) 136 rfl w.heap.size 143 i0 _ 8 64 Tryz.underlying136 hi cD bX cF rfl (by decide) _ 0 [] rfl bO.o ad n cap xs rfl zD.o bF.o H1.o (by unfold maxLen;omega) (by omega) (by simp) ?_;intro v' w1 gY lK _;obtain⟨av',cv',rfl⟩:=gY.slice))
  go_ret
  rw[Nat.zero_add,List.nil_append]at gY;refine⟨_,rfl,by simpa using gY,Below.grown (w:=w.alloc (.cells #[] 143)) (by go_grown) lK (by simp) (fun k hk=>?_)⟩;cases hk;exact Nat.le_refl _
theorem td(v:Value) (l:List (List Int)) (w:World) (hv:dL w v l) (hn:l.length<=1048576) (oM:∀ x∈l,x.length<=1099511627776) :
  Calls Tryz.prog 196 #[v] w fun e w'=>∃ u,e=.returned u/\cQ w' w.heap.size u l/\Below w.heap.size w w':=by
 obtain⟨i0,hi,cD,bX,cF⟩:=info_parts Tryz.infoInts;obtain⟨p,cap,rfl,la1,la2,ea⟩:=hv.at;have EA:=aa ea;have si:=aa oM;clear ea hv oM
 go_enter Tryz.func196,Tryz.ntmps196
 go_wp2_with fail
 go_loopw [3,8] (fun o i wr=>Below w.heap.size w wr/\∃ k:Nat,k<=l.length/\i=.int .i64 k/\cQ wr w.heap.size o (l.take k)) (fun _ i _=>l.length - (intOf i).toNat)
 ·exact⟨Below.refl _ _,0,by omega,rfl,cj.nil _ _⟩
 ·
  obtain⟨aA,k,hk,rfl,ri⟩:=hrel;have wc:=aa ri;by_cases aC:k<l.length
  ·obtain⟨b1,o1,rfl,x,cx,hx⟩:=EA.o k aC;rw[Nat.mul_one]at cx;have d1:=ak aA cx;have it:=aa (si.o _ (List.getElem_mem aC));have kU:am (l.take (k+1)=l.take k++[l[k]]):=aa (List.take_succ_eq_append_getElem aC);generalize l[k]=y at hx it kU;have HX:=aa (hx.up up_int aA);obtain⟨px,qx,rfl,_⟩:=hx;clear cx;obtain⟨xs,bd,kh⟩:=ri;have mq:(l.take k).length=k:=by simp;omega
   rw[mq]at bd;have bO:=aa bd;have Df:=aa kh;have U1:=aa mq;obtain⟨ao,co,rfl⟩:=bd.slice;clear bd kh mq
   go_wp2_with fail
   refine(vp _ y wr HX.o it.o).mono ?_;rintro e w1 ⟨u,rfl,hu,aK⟩;obtain⟨au,cu,rfl⟩:=hu.slice;have xW:=ae aA aK;have hA:Below w1.heap.size w1 (w1.alloc (.cells #[(Value.slice au y.length cu)] 38)):=by go_grown
   have dx:=aa ((bO.o.up aK).up hA)
   have bQ:∀ j u',[(Value.slice au y.length cu)][j]?=some u'->(w1.alloc (.cells #[(Value.slice au y.length cu)] 38)).cell? (Addr.add ⟨w1.heap.size,0,none⟩ j)=some u':=fun j u' hj=>by
    cases j with
    | zero=>simp at hj;subst hj;simp[Addr.add,ab (ap w1 _)]
    | succ j=>simp at hj
   have bF:=aa bQ;have HU:=aa hu;clear bQ hu d1;have iy:=xW.size
   go_wp2_with (at_builtin;(refine bg _ rfl (.tmp 12) (.tmp 15) 56 rfl w.heap.size 38 i0 _ 1 24 Tryz.underlying56 hi cD bX cF rfl (by decide) _ k xs rfl dx.o ⟨w1.heap.size,0,none⟩ 1 1 [(Value.slice au y.length cu)] rfl rfl bF.o (by simp[Value.oneCell']) (by unfold maxLen;omega) (by omega) (by simp;omega) ?_;intro v' w2 fQ dA _))
   go_roundw
   ·
    refine⟨Below.grown (w:=w1.alloc (.cells #[(Value.slice au y.length cu)] 38)) (xW.alloc iy _) dA (by simp;omega) (fun g hg=>(dx.o.lt g hg).1),k+1,by omega,by go_num,?_⟩;rw[kU.o];exact cj.snoc (l:=l.take k) (by rw[U1.o];exact dx.o) (fun i hi=>by obtain⟨z,q1,q2⟩:=Df.o i hi;exact⟨z,q1,(q2.up aK).up hA⟩) (by decide) ((HU.o.base aA.size).up hA) dA (by rw[U1.o];exact fQ)
   ·simp[intOf];omega
  ·obtain rfl:k=l.length:=by omega
   rw[List.take_length]at wc ri;obtain⟨xs,bd,_⟩:=ri;obtain⟨ao,co,rfl⟩:=bd.slice;clear bd
   go_wp2_with fail
   go_ret
   exact⟨_,rfl,wc.o,aA⟩
def ed(p:Pb):Int × Int:=
 if probE p≠0 then(0,probE p) else if (countedR 1048576 p.a p.rounds).2≠0 then(0,(countedR 1048576 p.a p.rounds).2)
 else if 1048576<(countedR 1048576 p.a p.rounds).1 * p.t.cases.length then(0,17) else((countedR 1048576 p.a p.rounds).1 * p.t.cases.length,0)
theorem G0(L:Int) (hL:0<=L) (a:Adv) (r:Int):0<=(countedR L a r).1/\(countedR L a r).1<=L:=by
 unfold countedR;have h:=(uY hL (BF hL a r.toNat) 0);change 0<=numberL L a r.toNat/\_ at h;split
 ·simp;omega
 ·split
  ·simp;omega
  ·split
   ·simp;omega
   ·simp;omega
theorem G7(p:Pb) (vc vs:Value) (w:World) (hc:bM w vc p.t.cases) (hs:bu w vs p.a.states) (hN:movesN p.a.states<1099511627776) (bW:probE p=0->p.t.cases.length<=1048576) :
  Calls Tryz.prog 161 #[nX p vc vs] w fun e w'=>e=.returned (.tuple #[.int .i64 (ed p).1,.int .i64 (ed p).2])/\Below w.heap.size w w':=by
 have GC:=aa hc;have GS:=aa hs;obtain⟨pc,cc,rfl,_⟩:=hc.at;obtain⟨ps,cs,rfl,_⟩:=hs.at;clear hc hs;have HV:am (ed p=if probE p≠0 then(0,probE p) else if (countedR 1048576 p.a p.rounds).2≠0 then(0,(countedR 1048576 p.a p.rounds).2) else if 1048576<(countedR 1048576 p.a p.rounds).1 * p.t.cases.length then(0,17) else((countedR 1048576 p.a p.rounds).1 * p.t.cases.length,0)):=by exact rfl
 go_enter Tryz.func161,Tryz.ntmps161
 go_wp2_with fail
 refine aO (fun W=>Below w.heap.size w W/\W.heap[w.heap.size]?=some (.cells #[.int .i64 p.t.n,.int .i64 p.t.ins,.int .i64 p.t.outs,.slice pc p.t.cases.length cc,.int .i64 p.a.n,.slice ps p.a.states.length cs,.int .i64 p.rounds] 29)) ⟨by go_grown,ap _ _⟩ (fun W0 aX=>?_);obtain⟨aG,bB⟩:=aX;refine(GY p _ _ W0 (GC.o.up up_case aG) (GS.o.up up_moves aG) hN).mono ?_;rintro e w1 ⟨rfl,aK⟩;have gw:=ae aG aK;have eW:=af aK bB;have t1:=ab eW;have jR:=aa bW;have du:=aa eW;clear eW bB bW;generalize probE p=et at HV jR;by_cases oQ:et=0
 case neg=>
  have Od:(et != 0)=true:=by simpa using oQ
  have dd:am (ed p=(0,et)):=aa (by rw[HV.o,if_pos oQ]);clear HV
  go_wp2_with fail
  go_ret2
  refine⟨kF ?_ ?_,gw⟩<;>rw[dd.o]
 subst oQ;have bW:=jR.o rfl
 go_wp2_with fail
 refine(IA p.a _ p.rounds w1 (GS.o.up up_moves gw) hN).mono ?_;rintro e w2 ⟨rfl,aT⟩;have kI:=ae gw aT;have t2:=ab (af aT du.o);have q7:=G0 1048576 (by omega) p.a p.rounds;clear t1;generalize countedR 1048576 p.a p.rounds=cr at HV q7;obtain⟨c1,c2⟩:=cr;dsimp only at HV q7 ⊢;by_cases jl:c2=0
 case neg=>
  have hc2':(c2 != 0)=true:=by simpa using jl
  have dd:am (ed p=(0,c2)):=aa (by rw[HV.o,if_neg (by simp),if_pos jl]);clear HV
  go_wp2_with fail
  go_ret2
  refine⟨kF ?_ ?_,kI⟩<;>rw[dd.o]
 subst jl;have hprod:0<=c1 * (p.t.cases.length:Int)/\c1 * (p.t.cases.length:Int)<=1048576 * 1048576:=⟨Int.mul_nonneg q7.1 (by omega),Int.mul_le_mul q7.2 (by omega) (by omega) (by omega)⟩;have kV:IntKind.i64.wrap (c1 * (p.t.cases.length:Int))=c1 * (p.t.cases.length:Int):=IntWalk.i64_in _ (by omega);by_cases hx:1048576<c1 * (p.t.cases.length:Int)
 ·have dd:am (ed p=(0,17)):=aa (by rw[HV.o,if_neg (by simp),if_neg (by simp),if_pos hx]);clear HV
  go_wp2_with fail
  go_ret2
  refine⟨kF ?_ ?_,kI⟩<;>rw[dd.o]
 ·have dd:am (ed p=(c1 * (p.t.cases.length:Int),0)):=aa (by rw[HV.o,if_neg (by simp),if_neg (by simp),if_neg hx]);clear HV
  go_wp2_with fail
  go_ret2
  refine⟨kF ?_ ?_,kI⟩<;>rw[dd.o]
def TQ(B:Nat):List Obj:=[iC [0,0],iC [0,0],.cells #[sV (B+1) 2] 38,iC [0,1],iC [0,0],iC [1,1],.cells #[sV (B+4) 2,sV (B+5) 2] 38,iC [1,1],iC [1,1],.cells #[sV (B+8) 2] 38,
 .cells #[sV B 2,sV (B+2) 1,.slice none 0 0,sV (B+3) 2,sV (B+6) 2,.slice none 0 0,sV (B+7) 2,sV (B+9) 1,.slice none 0 0] 135,.cells #[.int .i64 2,.int .i64 2,.int .i64 2,sV (B+10) 3] 24]
theorem IK(w:World):dL w (.slice none 0 0) []:=⟨none,0,rfl,⟨by simp,by omega,fun _=>rfl⟩,by simp,fun i x hx=>by simp at hx⟩
theorem R3{B:Nat} {X:World} (g:∀ i o,(TQ B)[i]?=some o->X.heap[B+i]?=some o):bM X (sV (B+10) 3) ckCs:=by
 have t:=ab (g 10 _ rfl);refine⟨some ⟨B+10,0,none⟩,3,rfl,⟨by simp[ckCs],by omega,fun e=>by cases e⟩,by simp[ckCs],fun i x hx=>⟨B+10,0,rfl,?_⟩⟩;obtain⟨hi,rfl⟩:=List.getElem?_eq_some_iff.1 hx;rcases (show i=0\/i=1\/i=2 by simp[ckCs]at hi;omega) with rfl|rfl|rfl
 ·exact⟨⟨_,t 0,ib [0,0] (g 0 _ rfl) (by decide) (by decide)⟩,⟨_,t 1,yK (g 2 _ rfl) (ib [0,0] (g 1 _ rfl) (by decide) (by decide))⟩,⟨_,t 2,IK _⟩⟩
 ·exact⟨⟨_,t 3,ib [0,1] (g 3 _ rfl) (by decide) (by decide)⟩,⟨_,t 4,Pk (g 6 _ rfl) (ib [0,0] (g 4 _ rfl) (by decide) (by decide)) (ib [1,1] (g 5 _ rfl) (by decide) (by decide))⟩,⟨_,t 5,IK _⟩⟩
 ·exact⟨⟨_,t 6,ib [1,1] (g 7 _ rfl) (by decide) (by decide)⟩,⟨_,t 7,yK (g 9 _ rfl) (ib [1,1] (g 8 _ rfl) (by decide) (by decide))⟩,⟨_,t 8,IK _⟩⟩
def mV(h:Int × Int):Mv:=⟨TO h,0⟩
theorem IL(tmps:Array Value) (B:Nat) (W:World) (c0 c1 c2 c3 c4 c5 c6:Value) (h2:tmps[4]?.getD undef=.pointer (some ⟨B,0,none⟩))
  (hB:W.heap[B]?=some (.cells #[c0,c1,c2,c3,c4,c5,c6] 29)):(results Tryz.f36 tmps).run Tryz.prog W=.ok (.agg #[c0,c1,c2,c3,c4,c5,c6]) W:=by
 have t2:=ab hB;simp[results,Tryz.results36,go_sem,h2,t2]
theorem Px(rounds:Int) (gs:List (Int × Int)) (n:Nat) (hl:gs.length=n) (hn:n<=100) (cZ:∀ h∈gs,bR h.1/\bR h.2) (b:Nat) (w:World) (hb:∀ i (hi:i<gs.length),w.cell? ⟨b,i * 2,none⟩=some (.int .i64 gs[i].1)/\w.cell? ⟨b,i * 2+1,none⟩=some (.int .i64 gs[i].2)) :
  Calls Tryz.prog 36 #[.int .i64 rounds,.slice (some ⟨b,0,none⟩) n n] w fun r w'=>∃ vc vs,r=.returned (nX (qX rounds gs) vc vs)/\(∀ Wf:World,(∀ k,w.heap.size<=k->k<w'.heap.size->Wf.heap[k]?=w'.heap[k]?)->bM Wf vc (qX rounds gs).t.cases/\bu Wf vs (qX rounds gs).a.states)/\Below w.heap.size w w':=by
 obtain⟨i0,cX,cD,bX,cF⟩:=info_parts Tryz.infoMove;have cB:=aa (And.intro cX (And.intro cD (And.intro bX cF)));have HG:=aa hb;have HL:=aa hl
 have HFS:am (∀ k (hk:k<gs.length),fK ((gs.take (k+1)).map mV)=fK ((gs.take k).map mV)++(mV gs[k]).c.toList):=aa fun k hk=>by
  rw[List.take_succ_eq_append_getElem hk,List.map_append];simp[fK]
 have Yt:am (fK ((gs.take gs.length).map mV)=fK (gs.map mV)):=aa (by rw[List.take_length])
 have iv:am (∀ m∈gs.map mV,pX m.r/\bR m.to):=aa (fun m hm=>by
  obtain⟨h,hh,rfl⟩:=List.mem_map.1 hm;have z0:bR 0:=⟨by omega,by omega⟩
  exact⟨⟨⟨by simp[mV,TO],by simp[mV,TO]⟩,(cZ h hh).1,(cZ h hh).2,z0,z0,z0,z0⟩,z0⟩)
 clear cX cD bX cF hb hl cZ
 go_enter Tryz.func36,Tryz.ntmps36
 go_wp2_with fail
 refine bC (fun W=>Below w.heap.size w W/\W.heap[w.heap.size]?=some (.cells #[.int .i64 0,.int .i64 0,.int .i64 0,.slice none 0 0,.int .i64 0,.slice none 0 0,.int .i64 0] 29)/\∀ i o,(TQ (w.heap.size+1))[i]?=some o->W.heap[w.heap.size+1+i]?=some o) ⟨by go_grown,Cw (TQ (w.heap.size+1)) (w.alloc _) (ap _ _),fun i o h=>by
  have:=MH (TQ (w.heap.size+1)) (w.alloc (.cells #[.int .i64 0,.int .i64 0,.int .i64 0,.slice none 0 0,.int .i64 0,.slice none 0 0,.int .i64 0] 29)) i h;rw[World.size_alloc]at this
  exact this⟩ (fun W1 cM=>?_)
 have bI:=aa cM.1;have cO:=aa cM.2.1;have gr:=aa cM.2.2;have fZ:=aD cM.2.1;have Kc:=aa (cM.2.2 11 _ rfl);have je:=aD Kc.o;clear cM
 go_loopw [6,26] (fun o i wr=>∃ k:Nat,k<=n/\i=.int .i64 k/\Below W1.heap.size W1 wr/\aJ wr W1.heap.size 143 8 o k (fK ((gs.take k).map mV))) (fun _ i _=>n - (intOf i).toNat)
 ·exact⟨0,by omega,rfl,Below.refl _ _,aJ.nil _ _ _ _⟩
 ·
  obtain⟨k,hk,rfl,aA,bd⟩:=hrel;obtain⟨al,cl,rfl⟩:=bd.slice;have bO:=aa bd;have aV:=aa aA;clear bd aA;by_cases aC:k<n
  ·obtain⟨g1,g2⟩:=HG.o k (by rw[HL.o];exact aC);have df:=ae bI.o aV.o;have t1:=ak df g1;have t2:=ak df g2;have Xz:=HFS.o k (by rw[HL.o];exact aC);generalize gs[k]'(by rw[HL.o];exact aC)=h at t1 t2 Xz;obtain⟨h1,h2⟩:=h;dsimp only at t1 t2;have oE:am (fK ((gs.take (k+1)).map mV)=fK ((gs.take k).map mV)++[.int .i64 2,.int .i64 h1,.int .i64 h2,.int .i64 0,.int .i64 0,.int .i64 0,.int .i64 0,.int .i64 0]):=aa Xz;have GG:Below wr.heap.size wr ((wr.alloc (.cells #[.int .i64 h1,.int .i64 h2] 92)).alloc (.cells #[.int .i64 2,.int .i64 h1,.int .i64 h2,.int .i64 0,.int .i64 0,.int .i64 0,.int .i64 0,.int .i64 0] 143)):=by go_grown
   have tb:=ab (ap wr (.cells #[.int .i64 h1,.int .i64 h2] 92));have se:=aa GG;have sh:=aa (bO.o.up GG);have bQ:=dQ (wr.alloc (.cells #[.int .i64 h1,.int .i64 h2] 92)) [.int .i64 2,.int .i64 h1,.int .i64 h2,.int .i64 0,.int .i64 0,.int .i64 0,.int .i64 0,.int .i64 0] 143;rw[World.size_alloc]at bQ;have bF:=aa bQ;have kw:am (k+1<=maxLen):=aa (by unfold maxLen;omega);have fc:am ((k+1) * 64<=140737488355328):=aa (by omega);have gu:am (W1.heap.size<=((wr.alloc (.cells #[.int .i64 h1,.int .i64 h2] 92)).alloc (.cells #[.int .i64 2,.int .i64 h1,.int .i64 h2,.int .i64 0,.int .i64 0,.int .i64 0,.int .i64 0,.int .i64 0] 143)).heap.size):=aa (by have:=aV.o.size;simp;omega);clear Xz GG bQ g1 g2 df
   go_wp2_with (at_builtin;(refine bg _ rfl (.tmp 30) (.tmp 39) 136 rfl W1.heap.size 143 i0 _ 8 64 Tryz.underlying136 cB.o.1 cB.o.2.1 cB.o.2.2.1 cB.o.2.2.2 rfl (by decide) _ k _ rfl sh.o ⟨wr.heap.size+1,0,none⟩ 1 1 [.int .i64 2,.int .i64 h1,.int .i64 h2,.int .i64 0,.int .i64 0,.int .i64 0,.int .i64 0,.int .i64 0] rfl rfl bF.o (by simp[Value.oneCell']) kw.o fc.o gu.o ?_;intro v9 w9 gt eC _))
   go_roundw
   ·
    refine⟨k+1,by omega,by go_num,Below.grown (ae aV.o se.o) eC gu.o (fun g hg=>(sh.o.lt g hg).1),?_⟩;rw[oE.o];exact gt
   ·simp[intOf];omega
  ·obtain rfl:k=n:=by omega
   have aA:=aV.o;have eh:=aa (ar (.cells #[.slice al k cl] 136) (af aA cO.o));have tT:=ab (ar (.cells #[.slice al k cl] 136) (af aA Kc.o));have tT2:=ab (af aA Kc.o);clear aA
   go_wp2_with (refine wpList_store_row rfl 29 (.tmp 4) (.tmp 47) rfl w.heap.size #[.int .i64 2,.int .i64 2,.int .i64 2,sV (w.heap.size+1+10) 3,.int .i64 2,.slice (some ⟨wr.heap.size,0,none⟩) 1 1,.int .i64 rounds] rfl rfl 29 _ eh.o (by kernel_rfl) rfl (by simp[Value.oneCell']) ?_)
   have oJ:Below W1.heap.size W1 (wr.alloc (.cells #[.slice al k cl] 136)):=aV.o.alloc aV.o.size _;have xm:=below_setRow (ae bI.o oJ) (Nat.le_refl _) #[.int .i64 2,.int .i64 2,.int .i64 2,sV (w.heap.size+1+10) 3,.int .i64 2,.slice (some ⟨wr.heap.size,0,none⟩) 1 1,.int .i64 rounds];have hRt:∀ q,q≠w.heap.size->((wr.alloc (.cells #[.slice al k cl] 136)).setRow w.heap.size #[.int .i64 2,.int .i64 2,.int .i64 2,sV (w.heap.size+1+10) 3,.int .i64 2,.slice (some ⟨wr.heap.size,0,none⟩) 1 1,.int .i64 rounds]).heap[q]?=(wr.alloc (.cells #[.slice al k cl] 136)).heap[q]?:=fun _ hk=>setRow_other _ _ _ _ hk
   refine bodyPost_ret (IL _ w.heap.size _ _ _ _ _ _ _ _ rfl (setRow_heap _ _ _ _ _ _ eh.o)) rfl ⟨sV (w.heap.size+1+10) 3,.slice (some ⟨wr.heap.size,0,none⟩) 1 1,rfl,fun Wf JM=>?_,xm⟩;have eT:(wr.alloc (.cells #[.slice al k cl] 136)).heap.size<=((wr.alloc (.cells #[.slice al k cl] 136)).setRow w.heap.size #[.int .i64 2,.int .i64 2,.int .i64 2,sV (w.heap.size+1+10) 3,.int .i64 2,.slice (some ⟨wr.heap.size,0,none⟩) 1 1,.int .i64 rounds]).heap.size:=(below_setRow (Below.refl w.heap.size _) (Nat.le_refl _) _).size;have DJ:∀ g o,w.heap.size<g->(wr.alloc (.cells #[.slice al k cl] 136)).heap[g]?=some o->Wf.heap[g]?=some o:=fun g o hg ho=>(JM g (by omega) (Nat.lt_of_lt_of_le (aD ho) eT)).trans ((setRow_other _ _ _ _ (by omega)).trans ho)
   have sw:=aV.o.size;refine⟨R3 fun i o h=>DJ _ _ (by omega) (af oJ (gr.o i o h)),?_⟩
   have hm:pI Wf (.slice al k cl) (gs.map mV):=by
    have h1:=bO.o;have e1:fK ((gs.take k).map mV)=fK (gs.map mV):=by rw[<-Yt.o,HL.o]
    rw[e1]at h1;have h2:=h1.keep (w':=Wf) (fun g o hg ho=>DJ g o (by have:=(h1.lt g hg).1;omega) (ar _ ho));refine FE (l:=gs.map mV) (base:=W1.heap.size) (by rw[List.length_map,HL.o];exact h2) iv.o (by rw[List.length_map,HL.o];omega)
   exact yK (DJ _ _ (by omega) (ap _ _)) hm
theorem R4{w:World} {v:Value} {l:List Cs} {xs:List Value} (h:bM w v l) (hr:mU w 3 v l.length xs) (i:Nat) (hi:i<l.length) :
  ∃ a b c,xs[i * 3]?=some a/\xs[i * 3+1]?=some b/\xs[i * 3+2]?=some c/\aQ w a l[i].inp/\dL w b l[i].out/\dL w c l[i].calm:=by
 obtain⟨p,cap,rfl,_,iQ,hc,_⟩:=hr;obtain⟨p',cap',e,_,_,h3⟩:=h;cases e;obtain⟨b,o,rfl,⟨a0,q0,r0⟩,⟨a1,q1,r1⟩,⟨a2,q2,r2⟩⟩:=h3 i _ (List.getElem?_eq_getElem hi)
 have key:∀ s u,s<3->w.cell? ⟨b,o+i * 3+s,none⟩=some u->xs[i * 3+s]?=some u:=fun s u hs hu=>by
  have aC:i * 3+s<xs.length:=by omega
  obtain⟨b',o',e,hq⟩:=hc (i * 3+s) xs[i * 3+s] (List.getElem?_eq_getElem aC);cases e;rw[<-Nat.add_assoc,hu]at hq;rw[List.getElem?_eq_getElem aC,<-dy hq]
 exact⟨a0,a1,a2,key 0 _ (by omega) q0,key 1 _ (by omega) q1,key 2 _ (by omega) q2,r0,r1,r2⟩
theorem Py{w:World} {v:Value} {l:List (List Mv)} {xs:List Value} (h:bu w v l) (hr:mU w 1 v l.length xs) (i:Nat) (hi:i<l.length):∃ a,xs[i]?=some a/\pI w a l[i]:=by
 obtain⟨p,cap,rfl,_,iQ,hc,_⟩:=hr;obtain⟨p',cap',e,_,_,h3⟩:=h;cases e;obtain⟨b,o,rfl,a0,q0,r0⟩:=h3 i _ (List.getElem?_eq_getElem hi);refine⟨a0,?_,r0⟩;have aC:i<xs.length:=by omega
 obtain⟨b',o',e,hq⟩:=hc i xs[i] (List.getElem?_eq_getElem aC);cases e;rw[Nat.mul_one]at q0;rw[q0]at hq;rw[List.getElem?_eq_getElem aC,<-dy hq]
def Vz(W:World) (base:Nat) (cur:Array Value) (i:Nat) (c:Cs):Prop:=
 ∃ a b d,cur[i * 3]?=some a/\cur[i * 3+1]?=some b/\cur[i * 3+2]?=some d/\aJ W base 3 1 a c.inp.length (c.inp.map (Value.int .i64))/\cQ W base b c.out/\cQ W base d c.calm
structure CaseRow (base g cap:Nat) (raw:List Value) (cs:List Cs) (k:Nat) (W:World):Prop where
 lo:base<=g
 fit:cs.length<=cap/\cap<=maxLen
 row:∃ cur fz,W.heap[g]?=some (.cells cur 135 fz)/\(∀ i,i<cur.size->¬ (fz.1<=i/\i<fz.2))/\cur.size=cap * 3/\(∀ i (hi:i<cs.length),i<k->Vz W base cur i cs[i])/\∀ j,k * 3<=j->j<cs.length * 3->cur[j]?=raw[j]?
theorem cj.setT{α:Type} {to ti:TypeId} {k:Nat} {flat:List α->List Value} {w:World} {base:Nat} {v:Value} {l:List (List α)} {B:Nat} {cs:Array Value} {t:TypeId} {f:Nat × Nat} (h:cj to ti k flat w base v l) (hB:w.heap[B]?=some (.cells cs t f)) (h1:to≠t) (h2:ti≠t) (o:Nat) (x:Value):cj to ti k flat (w.setCell ⟨B,o,none⟩ x) base v l:=by
 obtain⟨xs,q1,q2⟩:=h;exact⟨xs,q1.put (fun g e=>q1.ne hB h1 g e) _ _,fun i hi=>by obtain⟨y,p1,p2⟩:=q2 i hi;exact⟨y,p1,p2.put (fun g e=>p2.ne hB h2 g e) _ _⟩⟩
theorem CaseRow.up{base g cap:Nat} {raw:List Value} {cs:List Cs} {k:Nat} {W W':World} (h:CaseRow base g cap raw cs k W) (hb:Below W.heap.size W W'):CaseRow base g cap raw cs k W':=by
 obtain⟨cur,fz,q1,q2,q3,q4,q5⟩:=h.row;exact⟨h.lo,h.fit,cur,fz,af hb q1,q2,q3,fun i hi hk=>by obtain⟨a,b,d,p1,p2,p3,p4,p5,p6⟩:=q4 i hi hk;exact⟨a,b,d,p1,p2,p3,p4.up hb,p5.up hb,p6.up hb⟩,q5⟩
theorem CaseRow.put{base g cap:Nat} {raw:List Value} {cs:List Cs} {k:Nat} {W:World} (h:CaseRow base g cap raw cs k W) (hk:k<cs.length) {a b d:Value} (h1:aJ W base 3 1 a cs[k].inp.length (cs[k].inp.map (Value.int .i64))) (h2:cQ W base b cs[k].out) (h3:cQ W base d cs[k].calm) :
  CaseRow base g cap raw cs (k+1) (((W.setCell ⟨g,k * 3,none⟩ a).setCell ⟨g,k * 3+1,none⟩ b).setCell ⟨g,k * 3+2,none⟩ d):=by
 obtain⟨cur,fz,q1,q2,q3,q4,q5⟩:=h.row;have e1:=aI q1 (k * 3) a;have e2:=aI e1 (k * 3+1) b;have e3:=aI e2 (k * 3+2) d
 have ko:∀ {x:Value} {n:Nat} {xs:List Value},aJ W base 3 1 x n xs->aJ (((W.setCell ⟨g,k * 3,none⟩ a).setCell ⟨g,k * 3+1,none⟩ b).setCell ⟨g,k * 3+2,none⟩ d) base 3 1 x n xs:=fun hq=>
  have w1:=hq.put (fun g' e=>hq.ne q1 (by decide) g' e) (k * 3) a;have w2:=w1.put (fun g' e=>w1.ne e1 (by decide) g' e) (k * 3+1) b
  w2.put (fun g' e=>w2.ne e2 (by decide) g' e) (k * 3+2) d
 have kf:∀ {x:Value} {l:List (List Int)},cQ W base x l->cQ (((W.setCell ⟨g,k * 3,none⟩ a).setCell ⟨g,k * 3+1,none⟩ b).setCell ⟨g,k * 3+2,none⟩ d) base x l:=fun hq=>
  ((hq.setT q1 (by decide) (by decide) _ _).setT e1 (by decide) (by decide) _ _).setT e2 (by decide) (by decide) _ _
 have eT:k * 3+2<cur.size:=by have:=h.fit.1;omega
 refine⟨h.lo,h.fit,_,fz,e3,fun i hi=>q2 i (by simpa using hi),by simpa using q3,fun i hi kQ=>?_,fun j hj Gw=>?_⟩
 ·by_cases aC:i<k
  ·obtain⟨x,y,z,p1,p2,p3,p4,p5,p6⟩:=q4 i hi aC;refine⟨x,y,z,?_,?_,?_,ko p4,kf p5,kf p6⟩
   ·rw[Array.getElem?_setIfInBounds_ne (by omega),Array.getElem?_setIfInBounds_ne (by omega),Array.getElem?_setIfInBounds_ne (by omega)];exact p1
   ·rw[Array.getElem?_setIfInBounds_ne (by omega),Array.getElem?_setIfInBounds_ne (by omega),Array.getElem?_setIfInBounds_ne (by omega)];exact p2
   ·rw[Array.getElem?_setIfInBounds_ne (by omega),Array.getElem?_setIfInBounds_ne (by omega),Array.getElem?_setIfInBounds_ne (by omega)];exact p3
  ·obtain rfl:i=k:=by omega
   refine⟨a,b,d,?_,?_,?_,ko h1,kf h2,kf h3⟩
   ·rw[Array.getElem?_setIfInBounds_ne (by omega),Array.getElem?_setIfInBounds_ne (by omega),Array.getElem?_setIfInBounds_self_of_lt (by omega)]
   ·rw[Array.getElem?_setIfInBounds_ne (by omega),Array.getElem?_setIfInBounds_self_of_lt (by simp;omega)]
   ·rw[Array.getElem?_setIfInBounds_self_of_lt (by simp;omega)]
 ·rw[Array.getElem?_setIfInBounds_ne (by omega),Array.getElem?_setIfInBounds_ne (by omega),Array.getElem?_setIfInBounds_ne (by omega)];exact q5 j (by omega) Gw
theorem nZ{W:World} {base:Nat} {v:Value} {l:List (List Int)} (h:cQ W base v l) (hr:∀ x∈l,∀ y∈x,bR y) (hn:l.length<=1048576) (oM:∀ x∈l,x.length<=1048576):dL W v l:=
 cj.sl h (fun x a ha ho=>gp ho (hr a ha) (by have:=oM a ha;omega)) (by omega)
theorem wT{w:World} {v:Value} {l:List Cs} (h:bM w v l):∀ c∈l,(∀ y∈c.inp,bR y)/\(∀ x∈c.out,∀ y∈x,bR y)/\∀ x∈c.calm,∀ y∈x,bR y:=fun c hc=>by
 have hv:∀ {b o:Nat} {q:List (List Int)},uT w b o q->∀ x∈q,∀ y∈x,bR y:=fun {b o q} hq x hx=>by
  obtain⟨u,_,p,cap,rfl,_,_,e⟩:=hq;obtain⟨i,hi,rfl⟩:=List.getElem_of_mem hx;obtain⟨_,_,_,u2,_,h2⟩:=e i _ (List.getElem?_eq_getElem hi);exact Im h2
 obtain⟨i,hi,rfl⟩:=List.getElem_of_mem hc;obtain⟨p,cap,rfl,_,_,e⟩:=h;obtain⟨_,_,_,⟨_,_,h0⟩,h1,h2⟩:=e i _ (List.getElem?_eq_getElem hi);exact⟨Im h0,hv h1,hv h2⟩
theorem CaseRow.done{base g cap:Nat} {raw:List Value} {t:Tk} {k:Nat} {W:World} (h:CaseRow base g cap raw t.cases k W) (hk:t.cases.length<=k) (ht:taskE t=0) (cZ:∀ c∈t.cases,(∀ y∈c.inp,bR y)/\(∀ x∈c.out,∀ y∈x,bR y)/\∀ x∈c.calm,∀ y∈x,bR y):bM W (.slice (some ⟨g,0,none⟩) t.cases.length cap) t.cases:=by
 obtain⟨cur,fz,q1,q2,q3,q4,q5⟩:=h.row;obtain⟨⟨_,jf⟩,_,_,⟨_,hl⟩,eN⟩:=fy ht;have hf:=h.fit;refine⟨some ⟨g,0,none⟩,cap,rfl,⟨hf.1,by have:=hf.2;unfold maxLen at this;omega,fun e=>by cases e⟩,by omega,fun i x hx=>⟨g,0,rfl,?_⟩⟩;obtain⟨hi,rfl⟩:=List.getElem?_eq_some_iff.1 hx;obtain⟨a,b,d,p1,p2,p3,p4,p5,p6⟩:=q4 i hi (by omega);obtain⟨r1,r2,r3⟩:=cZ _ (List.getElem_mem hi);have ho:=eN _ (List.getElem_mem hi);rw[Nat.zero_add];have c1:=ho.inp;have c2:=ho.out2;have c3:=ho.calm;refine⟨⟨a,(ab q1 _).trans p1,gp p4 r1 (by omega)⟩,⟨b,(ab q1 _).trans p2,nZ p5 r2 (by omega) (fun x hx=>by have:=ho.outs x hx;omega)⟩,⟨d,(ab q1 _).trans p3,nZ p6 r3 (by omega) (fun x hx=>by have:=ho.outs x (ho.calms x hx);omega)⟩⟩
structure StateRow (base g cap:Nat) (raw:List Value) (l:List (List Mv)) (k:Nat) (W:World):Prop where
 lo:base<=g
 fit:l.length<=cap/\cap<=maxLen
 row:∃ cur fz,W.heap[g]?=some (.cells cur 136 fz)/\(∀ i,i<cur.size->¬ (fz.1<=i/\i<fz.2))/\cur.size=cap/\(∀ i (hi:i<l.length),i<k->∃ a,cur[i]?=some a/\aJ W base 143 8 a l[i].length (fK l[i]))/\∀ j,k<=j->j<l.length->cur[j]?=raw[j]?
theorem StateRow.up{base g cap:Nat} {raw:List Value} {l:List (List Mv)} {k:Nat} {W W':World} (h:StateRow base g cap raw l k W) (hb:Below W.heap.size W W'):StateRow base g cap raw l k W':=by
 obtain⟨cur,fz,q1,q2,q3,q4,q5⟩:=h.row;exact⟨h.lo,h.fit,cur,fz,af hb q1,q2,q3,fun i hi hk=>by obtain⟨a,p1,p2⟩:=q4 i hi hk;exact⟨a,p1,p2.up hb⟩,q5⟩
theorem StateRow.put{base g cap:Nat} {raw:List Value} {l:List (List Mv)} {k:Nat} {W:World} (h:StateRow base g cap raw l k W) (hk:k<l.length) {a:Value} (h1:aJ W base 143 8 a l[k].length (fK l[k])):StateRow base g cap raw l (k+1) (W.setCell ⟨g,k,none⟩ a):=by
 obtain⟨cur,fz,q1,q2,q3,q4,q5⟩:=h.row;have eT:k<cur.size:=by have:=h.fit.1;omega
 refine⟨h.lo,h.fit,_,fz,aI q1 k a,fun i hi=>q2 i (by simpa using hi),by simpa using q3,fun i hi kQ=>?_,fun j hj Gw=>?_⟩
 ·by_cases aC:i<k
  ·obtain⟨x,p1,p2⟩:=q4 i hi aC;exact⟨x,by rw[Array.getElem?_setIfInBounds_ne (by omega)];exact p1,p2.put (fun g' e=>p2.ne q1 (by decide) g' e) _ _⟩
  ·obtain rfl:i=k:=by omega
   exact⟨a,by rw[Array.getElem?_setIfInBounds_self_of_lt (by omega)],h1.put (fun g' e=>h1.ne q1 (by decide) g' e) _ _⟩
 ·rw[Array.getElem?_setIfInBounds_ne (by omega)];exact q5 j (by omega) Gw
theorem StateRow.done{base g cap:Nat} {raw:List Value} {l:List (List Mv)} {k:Nat} {W:World} (h:StateRow base g cap raw l k W) (hk:l.length<=k) (hl:l.length<=256) (nA:∀ x∈l,x.length<=1048576) (cZ:∀ x∈l,∀ m∈x,pX m.r/\bR m.to):bu W (.slice (some ⟨g,0,none⟩) l.length cap) l:=by
 obtain⟨cur,fz,q1,q2,q3,q4,q5⟩:=h.row;have hf:=h.fit;refine⟨some ⟨g,0,none⟩,cap,rfl,⟨hf.1,by have:=hf.2;unfold maxLen at this;omega,fun e=>by cases e⟩,by omega,fun i x hx=>⟨g,0,rfl,?_⟩⟩;obtain⟨hi,rfl⟩:=List.getElem?_eq_some_iff.1 hx;obtain⟨a,p1,p2⟩:=q4 i hi (by omega);rw[Nat.zero_add,Nat.mul_one];exact⟨a,(ab q1 _).trans p1,FE p2 (cZ _ (List.getElem_mem hi)) (by have:=nA _ (List.getElem_mem hi);omega)⟩
theorem MR{w:World} {v:Value} {l:List (List Mv)} (h:bu w v l):∀ x∈l,∀ m∈x,pX m.r/\bR m.to:=fun x hx=>by
 obtain⟨i,hi,rfl⟩:=List.getElem_of_mem hx;obtain⟨p,cap,rfl,_,_,e⟩:=h;obtain⟨_,_,_,u,_,hu⟩:=e i _ (List.getElem?_eq_getElem hi);exact R0 hu
theorem Below.trans3{w a b c:World} (h1:Below w.heap.size w a) (h2:Below a.heap.size a b) (h3:Below b.heap.size b c):Below w.heap.size w c:=ae h1 (ae h2 h3)
theorem cj.lower9{α:Type} {to ti:TypeId} {k:Nat} {flat:List α->List Value} {w:World} {base b:Nat} {v:Value} {l:List (List α)} (h:cj to ti k flat w base v l) (hb:b<=base):cj to ti k flat w b v l:=by
 obtain⟨xs,q1,q2⟩:=h;exact⟨xs,q1.base hb,fun i hi=>by obtain⟨x,p1,p2⟩:=q2 i hi;exact⟨x,p1,p2.base hb⟩⟩
abbrev zPb:Array Value:=#[.int .i64 0,.int .i64 0,.int .i64 0,.slice none 0 0,.int .i64 0,.slice none 0 0,.int .i64 0]
theorem aJ.from{w w':World} {base sz:Nat} {e:TypeId} {v:Value} {n:Nat} {xs:List Value} (h:aJ w base e sz v n xs) (hk:∀ k o,base<=k->w.heap[k]?=some o->w'.heap[k]?=some o):aJ w' base e sz v n xs:=
 h.keepT fun g o e1 e2=>hk g o (h.lt g e1).1 e2
theorem cj.from{α:Type} {to ti:TypeId} {k:Nat} {flat:List α->List Value} {w w':World} {base:Nat} {v:Value} {l:List (List α)} (h:cj to ti k flat w base v l) (hk:∀ k o,base<=k->w.heap[k]?=some o->w'.heap[k]?=some o):cj to ti k flat w' base v l:=by
 obtain⟨xs,q1,q2⟩:=h;exact⟨xs,q1.from hk,fun i hi=>by obtain⟨x,p1,p2⟩:=q2 i hi;exact⟨x,p1,p2.from hk⟩⟩
theorem CaseRow.from{base g cap:Nat} {raw:List Value} {cs:List Cs} {k:Nat} {W W':World} (h:CaseRow base g cap raw cs k W) (hk:∀ k o,base<=k->W.heap[k]?=some o->W'.heap[k]?=some o):CaseRow base g cap raw cs k W':=by
 obtain⟨cur,fz,q1,q2,q3,q4,q5⟩:=h.row;exact⟨h.lo,h.fit,cur,fz,hk _ _ h.lo q1,q2,q3,fun i hi kQ=>by obtain⟨a,b,d,p1,p2,p3,p4,p5,p6⟩:=q4 i hi kQ;exact⟨a,b,d,p1,p2,p3,p4.from hk,p5.from hk,p6.from hk⟩,q5⟩
theorem StateRow.from{base g cap:Nat} {raw:List Value} {l:List (List Mv)} {k:Nat} {W W':World} (h:StateRow base g cap raw l k W) (hk:∀ k o,base<=k->W.heap[k]?=some o->W'.heap[k]?=some o):StateRow base g cap raw l k W':=by
 obtain⟨cur,fz,q1,q2,q3,q4,q5⟩:=h.row;exact⟨h.lo,h.fit,cur,fz,hk _ _ h.lo q1,q2,q3,fun i hi kQ=>by obtain⟨a,p1,p2⟩:=q4 i hi kQ;exact⟨a,p1,p2.from hk⟩,q5⟩
theorem CaseRow.keep{base g cap:Nat} {raw:List Value} {cs:List Cs} {k:Nat} {W W':World} {ts:List TypeId} {ms:List Nat} {b:Nat} (h:CaseRow base g cap raw cs k W) (hk:KeepT ts ms b W W') (h1:135∉ts) (h2:3∉ts) (h3:38∉ts):CaseRow base g cap raw cs k W':=by
 obtain⟨cur,fz,q1,q2,q3,q4,q5⟩:=h.row;exact⟨h.lo,h.fit,cur,fz,hk.keep _ _ _ _ q1 h1,q2,q3,fun i hi kQ=>by obtain⟨a,b,d,p1,p2,p3,p4,p5,p6⟩:=q4 i hi kQ;exact⟨a,b,d,p1,p2,p3,hk.own p4 h2,hk.fresh p5 h3 h2,hk.fresh p6 h3 h2⟩,q5⟩
theorem StateRow.keep{base g cap:Nat} {raw:List Value} {l:List (List Mv)} {k:Nat} {W W':World} {ts:List TypeId} {ms:List Nat} {b:Nat} (h:StateRow base g cap raw l k W) (hk:KeepT ts ms b W W') (h1:136∉ts) (h2:143∉ts):StateRow base g cap raw l k W':=by
 obtain⟨cur,fz,q1,q2,q3,q4,q5⟩:=h.row;exact⟨h.lo,h.fit,cur,fz,hk.keep _ _ _ _ q1 h1,q2,q3,fun i hi kQ=>by obtain⟨a,p1,p2⟩:=q4 i hi kQ;exact⟨a,p1,hk.own p2 h2⟩,q5⟩
def VA(base:Nat) (l:List Mv):MP:=⟨fun x W=>aJ W base 143 8 x l.length (fK l),fun _ _ _ h hb=>h.up hb⟩
theorem List.single_le_sum9(l:List Nat) (x:Nat) (h:x∈l):x<=l.sum:=by
 induction l with
 | nil=>simp at h
 | cons a r ih=>
  rw[List.sum_cons];rcases List.mem_cons.1 h with rfl|h
  ·omega
  ·have:=ih h;omega
theorem IM(l:List (List Mv)) (k:Nat) (h:k<l.length):l[k].length<=movesN l:=by
 unfold movesN;exact List.single_le_sum9 (l.map List.length) _ (List.mem_map.2 ⟨_,List.getElem_mem h,rfl⟩)
theorem rD{W:World} {g:Nat} {cur:Array Value} {t:TypeId} {fz:Nat × Nat} (h:W.heap[g]?=some (.cells cur t fz)) (hf:∀ i,i<cur.size->¬ (fz.1<=i/\i<fz.2)) (o:Nat) (ho:o<cur.size):W.frozen? ⟨g,o,none⟩=false:=by
 simp only[World.frozen?,h];have:=hf o ho;simpa using this
def Wu(base:Nat) (l:List Int):MP:=⟨fun x W=>aJ W base 3 1 x l.length (l.map (Value.int .i64)),fun _ _ _ h hb=>h.up hb⟩
def Pz(base:Nat) (l:List (List Int)):MP:=⟨fun x W=>cQ W base x l,fun _ _ _ h hb=>h.up hb⟩
def PC(base:Nat) (c:Cs):MP:=⟨fun x W=>∃ a b d,x=.agg #[a,b,d]/\aJ W base 3 1 a c.inp.length (c.inp.map (Value.int .i64))/\cQ W base b c.out/\cQ W base d c.calm,fun _ _ _ h hb=>by obtain⟨a,b,d,h1,h2,h3,h4⟩:=h;exact⟨a,b,d,h1,h2.up hb,h3.up hb,h4.up hb⟩⟩
theorem PD{base:Nat} {c:Cs} {W:World} {a b d:Value} (h2:aJ W base 3 1 a c.inp.length (c.inp.map (Value.int .i64))) (h3:cQ W base b c.out) (h4:cQ W base d c.calm):(PC base c).p (.agg #[a,b,d]) W:=⟨a,b,d,rfl,h2,h3,h4⟩
theorem cj.slice{α:Type} {to ti:TypeId} {k:Nat} {flat:List α->List Value} {w:World} {base:Nat} {v:Value} {l:List (List α)} (h:cj to ti k flat w base v l):∃ a c,v=.slice a l.length c:=by
 obtain⟨xs,q,_⟩:=h;exact q.slice
theorem Et(p:Pb) (vc vs:Value) (w:World) (hc:bM w vc p.t.cases) (hs:bu w vs p.a.states) (ht:taskE p.t=0) (ha:advE p.a=0) (hN:movesN p.a.states<=4096) :
  Calls Tryz.prog 163 #[nX p vc vs] w fun e w'=>∃ uc us,e=.returned (nX p uc us)/\(∀ W:World,(∀ k o,w.heap.size<=k->w'.heap[k]?=some o->W.heap[k]?=some o)->bM W uc p.t.cases/\bu W us p.a.states)/\Below w.heap.size w w':=by
 obtain⟨raw,hraw⟩:=Pv hc;obtain⟨raw2,hraw2⟩:=MQ hs;have HC:=aa hc;have HS:=aa hs;have HR:=aa hraw;have eh:=aa hraw2;obtain⟨⟨_,jf⟩,_,_,⟨xg,bW⟩,eN⟩:=fy ht;obtain⟨⟨fZ,je⟩,_⟩:=ip ha;have dD:=aa eN;obtain⟨pc,cc,rfl,_⟩:=hc.at;obtain⟨ps,cs,rfl,_⟩:=hs.at;clear hc hs hraw hraw2 eN
 go_enter Tryz.func163,Tryz.ntmps163
 go_wp2_with fail
 refine aO (fun W=>Below w.heap.size w W/\W.heap[w.heap.size]?=some (.cells #[.int .i64 p.t.n,.int .i64 p.t.ins,.int .i64 p.t.outs,.slice pc p.t.cases.length cc,.int .i64 p.a.n,.slice ps p.a.states.length cs,.int .i64 p.rounds] 29)/\W.heap[w.heap.size+1]?=some (.cells zPb 29)) ⟨by go_grown,ar _ (ap _ _),aZ _ _ _⟩ (fun W0 aX=>?_);obtain⟨aG,bB,gM⟩:=aX;have cD:=aG.size;refine(Er _ p.t.cases.length raw W0 ?_ (by omega)).mono ?_
 ·obtain⟨q,cap,e,h1,h2,h3,h4⟩:=HR.o;exact⟨q,cap,e,h1,h2,fun j u hj=>by obtain⟨b,o,e1,e2⟩:=h3 j u hj;exact⟨b,o,e1,ak aG e2⟩,h4⟩
 rintro e w1 ⟨u,rfl,hu,aK⟩
 have bU:∃ g cap,u=.slice (some ⟨g,0,none⟩) p.t.cases.length cap/\CaseRow w.heap.size g cap raw p.t.cases 0 w1:=by
  rcases hu.2 with ⟨_,h0⟩|⟨g,cap,cur,fz,rfl,h1,h2,h3,h4,h5,h6,h7⟩
  ·omega
  ·refine⟨g,cap,rfl,by omega,⟨h4,h5⟩,cur,fz,h2,h3,h6,fun i hi hk=>by omega,fun j _ hj=>?_⟩;rw[<-h7,List.getElem?_take_of_lt hj];simp
 obtain⟨g,cap,rfl,bU⟩:=bU;have jt:=ae aG aK;have eW:=af aK bB;have L1:=af aK gM;have t1:=ab eW;have z1:=fun o=>aH eW o
 have jd:=aa bU;have du:=aa eW;have gh:=aa L1;have bX:=aK.size;have X1:=aD L1;clear hu bU bB gM eW L1
 go_wp2_with fail
 clear t1 z1;refine bC (fun W=>Below w.heap.size w W/\W.heap[w.heap.size]?=some (.cells #[.int .i64 p.t.n,.int .i64 p.t.ins,.int .i64 p.t.outs,.slice (some ⟨g,0,none⟩) p.t.cases.length cap,.int .i64 p.a.n,.slice ps p.a.states.length cs,.int .i64 p.rounds] 29)/\W.heap[w.heap.size+1]?=some (.cells zPb 29)/\CaseRow w.heap.size g cap raw p.t.cases 0 W) ?_ (fun W2 eI=>?_)
 ·refine⟨jt.setCell (Nat.le_refl _) _,by rw[aI du.o];rfl,aM gh.o (by omega) _ _,?_⟩;obtain⟨cur,fz,q1,q2,q3,q4,q5⟩:=jd.o.row;exact⟨jd.o.lo,jd.o.fit,cur,fz,aM q1 (fun e=>by have:=du.o;rw[<-e,q1]at this;cases this) _ _,q2,q3,fun i hi hk=>by omega,q5⟩
 obtain⟨aT,hA2,q8,ur⟩:=eI
 go_loopw [17] (fun i wr=>∃ k:Nat,k<=p.t.cases.length/\i=.int .i64 k/\Below w.heap.size w wr/\wr.heap[w.heap.size]?=some (.cells #[.int .i64 p.t.n,.int .i64 p.t.ins,.int .i64 p.t.outs,.slice (some ⟨g,0,none⟩) p.t.cases.length cap,.int .i64 p.a.n,.slice ps p.a.states.length cs,.int .i64 p.rounds] 29)/\wr.heap[w.heap.size+1]?=some (.cells zPb 29)/\CaseRow w.heap.size g cap raw p.t.cases k wr) (fun i _=>p.t.cases.length - (intOf i).toNat)
 ·exact⟨0,by omega,rfl,aT,hA2,q8,ur⟩
 ·
  clear aT hA2 q8 ur;obtain⟨k,hk,rfl,aA,hA,hO,bU⟩:=hrel;have HA:=aa hA;have HO:=aa hO;have Af:=aa bU;by_cases aC:k<p.t.cases.length
  ·obtain⟨va,vb,vd,q1,q2,q3,i1,i2,i3⟩:=R4 HC.o HR.o k aC;obtain⟨cur,fz,p1,p2,p3,_,p5⟩:=bU.row;have Kf:=bU.fit.1;have d0:wr.cell? ⟨g,k * 3,none⟩=some va:=by rw[ab p1,p5 _ (by omega) (by omega),q1]
   have d1:wr.cell? ⟨g,k * 3+1,none⟩=some vb:=by rw[ab p1,p5 _ (by omega) (by omega),q2]
   have d2:wr.cell? ⟨g,k * 3+2,none⟩=some vd:=by rw[ab p1,p5 _ (by omega) (by omega),q3]
   have I1:=aa i1;have I2:=aa i2;have I3:=aa i3;obtain⟨pa,ca,rfl,_⟩:=i1.at;obtain⟨pb,cb,rfl,_⟩:=i2.at;obtain⟨pd,cd,rfl,_⟩:=i3.at;have gr:=aa (dD.o _ (List.getElem_mem aC));have Kg:=aa (fun (W:World) (h:CaseRow w.heap.size g cap raw p.t.cases k W) (a b d:Value)=>h.put aC (a:=a) (b:=b) (d:=d));have Ys:=aD p1;clear q1 q2 q3 i1 i2 i3 p1 p2 p3 p5 hA hO bU;generalize p.t.cases[k]=c at I1 I2 I3 gr Kg d0 d1 d2
   go_wp2_with fail
   clear d0 d1 d2;refine bC (fun W=>Below wr.heap.size wr W/\W.heap[wr.heap.size]?=some (.cells #[.slice pa c.inp.length ca,.slice pb c.out.length cb,.slice pd c.calm.length cd] 135)) ⟨by go_grown,ap _ _⟩ (fun W4 hW4=>?_);obtain⟨bS,hx4⟩:=hW4;have jF:=aa hx4;have Uu:=aa (af bS HA.o);have AY:=aA.size;have UO:=aD HA.o;have X1:=aD HO.o;clear hx4
   refine gk 14 [22,23,24,25,26,27,28,29,30,31,32,33,34,35] [MP.eq (.pointer (some ⟨w.heap.size,0,none⟩)),
    MP.eq (.pointer (some ⟨w.heap.size,3,none⟩)),
    MP.eq (.slice (some ⟨g,0,none⟩) p.t.cases.length cap),
    MP.eq (.int .i64 k),
    MP.eq (.pointer (some ⟨wr.heap.size,0,none⟩)),
    MP.eq (.slice pa c.inp.length ca),
    Wu w.heap.size c.inp,
    MP.eq (.pointer (some ⟨wr.heap.size,1,none⟩)),
    MP.eq (.slice pb c.out.length cb),
    Pz w.heap.size c.out,
    MP.eq (.pointer (some ⟨wr.heap.size,2,none⟩)),
    MP.eq (.slice pd c.calm.length cd),
    Pz w.heap.size c.calm,
    PC w.heap.size c] (by kernel_rfl) (by simp) (by decide) rfl (by kernel_rfl) (by kernel_rfl) (by kernel_rfl) ?step ?tail
   case step=>
    intro x W i o s F hi ho hs hB aq hF;have fR:i=0\/i=1\/i=2\/i=3\/i=4\/i=5\/i=6\/i=7\/i=8\/i=9\/i=10\/i=11\/i=12\/i=13:=by omega
    rcases fR with rfl|rfl|rfl|rfl|rfl|rfl|rfl|rfl|rfl|rfl|rfl|rfl|rfl|rfl
    all_goals (obtain rfl:=dy ho.symm;obtain rfl:=dy hs.symm;simp only[bA,cW,List.setIfInBounds_toArray,List.set_cons_succ,List.set_cons_zero,Nat.reduceAdd]at hF)
    ·clear aq hi ho hs;subst hF
     go_wp2_with fail
     exact k8 _ (Below.refl _ _) rfl
    ·have d0:=pK (aq ⟨0,.data⟩ (by simp) rfl);clear aq hi ho hs;simp only[d0]at hF;subst hF
     go_wp2_with fail
     exact k8 _ (Below.refl _ _) rfl
    ·have d1:=pK (aq ⟨1,.data⟩ (by simp) rfl);clear aq hi ho hs;have t1:=ab (af hB Uu.o) 3;simp at t1;simp only[d1]at hF;subst hF
     go_wp2_with fail
     exact k8 _ (Below.refl _ _) rfl
    ·clear aq hi ho hs;subst hF
     go_wp2_with fail
     exact k8 _ (Below.refl _ _) rfl
    ·clear aq hi ho hs;subst hF
     go_wp2_with fail
     exact k8 _ (Below.refl _ _) rfl
    ·have d4:=pK (aq ⟨4,.data⟩ (by simp) rfl);clear aq hi ho hs;have t1:=ab (af hB jF.o) 0;simp at t1;simp only[d4]at hF;subst hF
     go_wp2_with fail
     exact k8 _ (Below.refl _ _) rfl
    ·have d5:=pK (aq ⟨5,.data⟩ (by simp) rfl);clear aq hi ho hs;simp only[d5]at hF;subst hF
     go_wp2_with fail
     refine(vp _ c.inp W (I1.o.up up_int (Below.trans3 aA bS hB)) (by have:=gr.o.inp;omega)).mono ?_;rintro e w9 ⟨u9,rfl,jJ,dU⟩;have ny:=aa (jJ.base (show w.heap.size<=W.heap.size by have:=hB.size;have:=bS.size;omega));clear jJ
     go_wp2_with fail
     exact k8 _ dU ny.o
    ·clear aq hi ho hs;subst hF
     go_wp2_with fail
     exact k8 _ (Below.refl _ _) rfl
    ·have d7:=pK (aq ⟨7,.data⟩ (by simp) rfl);clear aq hi ho hs;have t1:=ab (af hB jF.o) 1;simp at t1;simp only[d7]at hF;subst hF
     go_wp2_with fail
     exact k8 _ (Below.refl _ _) rfl
    ·have d8:=pK (aq ⟨8,.data⟩ (by simp) rfl);clear aq hi ho hs;simp only[d8]at hF;subst hF
     go_wp2_with fail
     refine(td _ c.out W (I2.o.up up_ints (Below.trans3 aA bS hB)) (by have:=gr.o.out2;have:=gr.o.calm;omega) (fun x hx=>by have:=gr.o.outs x hx;omega)).mono ?_;rintro e w9 ⟨u9,rfl,jJ,dU⟩;have ny:=aa (cj.lower9 jJ (show w.heap.size<=W.heap.size by have:=hB.size;have:=bS.size;omega));clear jJ
     go_wp2_with fail
     exact k8 _ dU ny.o
    ·clear aq hi ho hs;subst hF
     go_wp2_with fail
     exact k8 _ (Below.refl _ _) rfl
    ·have d10:=pK (aq ⟨10,.data⟩ (by simp) rfl);clear aq hi ho hs;have t1:=ab (af hB jF.o) 2;simp at t1;simp only[d10]at hF;subst hF
     go_wp2_with fail
     exact k8 _ (Below.refl _ _) rfl
    ·have d11:=pK (aq ⟨11,.data⟩ (by simp) rfl);clear aq hi ho hs;simp only[d11]at hF;subst hF
     go_wp2_with fail
     refine(td _ c.calm W (I3.o.up up_ints (Below.trans3 aA bS hB)) (by have:=gr.o.out2;have:=gr.o.calm;omega) (fun x hx=>by have:=gr.o.outs x (gr.o.calms x hx);omega)).mono ?_;rintro e w9 ⟨u9,rfl,jJ,dU⟩;have ny:=aa (cj.lower9 jJ (show w.heap.size<=W.heap.size by have:=hB.size;have:=bS.size;omega));clear jJ
     go_wp2_with fail
     exact k8 _ dU ny.o
    ·have d6:=aq ⟨6,.data⟩ (by simp) rfl;have d9:=aq ⟨9,.data⟩ (by simp) rfl;have d12:=aq ⟨12,.data⟩ (by simp) rfl;clear aq hi ho hs;obtain⟨a6,c6,e6⟩:=aJ.slice d6;obtain⟨a9,c9,e9⟩:=cj.slice d9;obtain⟨a12,c12,e12⟩:=cj.slice d12;rw[e6]at d6;rw[e9]at d9;rw[e12]at d12;have HD6:=aa (show aJ W w.heap.size 3 1 (.slice a6 c.inp.length c6) c.inp.length (c.inp.map (Value.int .i64)) from d6);have Qv:=aa (show cQ W w.heap.size (.slice a9 c.out.length c9) c.out from d9);have HD12:=aa (show cQ W w.heap.size (.slice a12 c.calm.length c12) c.calm from d12);clear d6 d9 d12;simp only[e6,e9,e12]at hF;subst hF
     go_wp2_with fail
     refine bh.mk (.agg #[.slice a6 c.inp.length c6,.slice a9 c.out.length c9,.slice a12 c.calm.length c12]) ?_ ?_ ?_
     ·exact(Below.refl _ _)
     ·exact PD HD6.o Qv.o HD12.o
     ·first
      | rfl
      | simp only[List.setIfInBounds_toArray,List.set_cons_succ,List.set_cons_zero]
   case tail=>
    intro x W3 F hB aU hF;have d2:x 2=.slice (some ⟨g,0,none⟩) p.t.cases.length cap:=aU 2 (by omega);have d3:x 3=.int .i64 k:=aU 3 (by omega);have d13:=aU 13 (by omega);obtain⟨ya,yb,yd,e13,h2,h3,h4⟩:∃ a b d,x 13=.agg #[a,b,d]/\aJ W3 w.heap.size 3 1 a c.inp.length (c.inp.map (Value.int .i64))/\cQ W3 w.heap.size b c.out/\cQ W3 w.heap.size d c.calm:=d13;clear aU;simp only[bA,cW,List.setIfInBounds_toArray,List.set_cons_succ,List.set_cons_zero,Nat.reduceAdd]at hF;obtain⟨y1,z1,rfl⟩:=h2.slice;obtain⟨y2,z2,rfl⟩:=h3.slice;obtain⟨y3,z3,rfl⟩:=h4.slice;rw[d2,d3,e13]at hF;generalize x 0=s0,x 1=s1,x 4=s4,x 5=s5,x 6=s6,x 7=s7,x 8=s8,x 9=s9,x 10=s10,x 11=s11,x 12=s12 at hF;subst hF;have Ai:=Af.o.up (ae bS hB);have Ah:=aa Ai;have H2:=aa h2;have H3:=aa h3;have H4:=aa h4;obtain⟨cur3,fz3,q1,q2,q3,_,q5⟩:=Ai.row;have c0:∃ u,W3.cell? ⟨g,k * 3,none⟩=some u:=⟨cur3[k * 3]'(by omega),by rw[ab q1];exact Array.getElem?_eq_getElem _⟩;have c1:∃ u,W3.cell? ⟨g,k * 3+1,none⟩=some u:=⟨cur3[k * 3+1]'(by omega),by rw[ab q1];exact Array.getElem?_eq_getElem _⟩;have c2:∃ u,W3.cell? ⟨g,k * 3+2,none⟩=some u:=⟨cur3[k * 3+2]'(by omega),by rw[ab q1];exact Array.getElem?_eq_getElem _⟩;obtain⟨o0,c0⟩:=c0;obtain⟨o1,c1⟩:=c1;obtain⟨o2,c2⟩:=c2;have f0:=rD q1 q2 (k * 3) (by omega);have f1:=rD q1 q2 (k * 3+1) (by omega);have f2:=rD q1 q2 (k * 3+2) (by omega);have A1:=af (ae bS hB) HA.o;have AW:=af (ae bS hB) HO.o;have BB:w.heap.size≠g:=mT A1 q1 (by decide);have pF:w.heap.size+1≠g:=mT AW q1 (by decide);have Yv:=aa A1;have X8:=aa AW;have mx:=aa (Below.trans3 aA bS hB);have xP:=Ah.o.lo;clear d2 d3 e13 h2 h3 h4 Ai q1 q2 q3 q5 A1 AW hB
    simp only[List.drop_succ_cons,List.drop_zero]
    go_wp2_with fail
    go_roundw
    ·exact⟨k+1,by omega,by go_num,((mx.o.setCell xP _).setCell xP _).setCell xP _,aM (aM (aM Yv.o BB _ _) BB _ _) BB _ _,aM (aM (aM X8.o pF _ _) pF _ _) pF _ _,Kg.o _ Ah.o _ _ _ H2.o H3.o H4.o⟩
    ·simp[intOf];omega
  ·obtain rfl:k=p.t.cases.length:=by omega
   obtain⟨wrA,B4⟩:∃ x,x=wr:=⟨_,rfl⟩;subst B4;have t1:=ab hA;have z1:=fun o=>aH hA o
   have AY:=aA.size;have UO:=aD hA;have X1:=aD hO;clear hA hO bU
   go_wp2_with fail
   refine(CF _ p.a.states.length raw2 wrA ?_ (by omega)).mono ?_
   ·obtain⟨q,cap,e,h1,h2,h3,h4⟩:=eh.o;exact⟨q,cap,e,h1,h2,fun j u hj=>by obtain⟨b,o,e1,e2⟩:=h3 j u hj;exact⟨b,o,e1,ak aA e2⟩,h4⟩
   rintro e w3 ⟨u,rfl,hu,bG⟩
   have bU:∃ g2 cap2,u=.slice (some ⟨g2,0,none⟩) p.a.states.length cap2/\StateRow w.heap.size g2 cap2 raw2 p.a.states 0 w3:=by
    rcases hu.2 with ⟨_,h0⟩|⟨g2,cap2,cur,fz,rfl,h1,h2,h3,h4,h5,h6,h7⟩
    ·omega
    ·refine⟨g2,cap2,rfl,by omega,⟨h4,h5⟩,cur,fz,h2,h3,by omega,fun i hi hk=>by omega,fun j _ hj=>?_⟩;rw[<-h7,List.getElem?_take_of_lt (by omega)];simp
   obtain⟨g2,cap2,rfl,bU⟩:=bU;clear t1 z1;have Ub:=af bG HA.o;have t1:=ab Ub;have z1:=fun o=>aH Ub o
   have uP:=ae aA bG;have Dg:=aa bU;have GL:=aa Ub;have lV:=aa (af bG HO.o);have Ah:=aa (Af.o.up bG);clear hu bU Ub
   go_wp2_with fail
   clear t1 z1;refine bC (fun W=>Below w.heap.size w W/\W.heap[w.heap.size]?=some (.cells #[.int .i64 p.t.n,.int .i64 p.t.ins,.int .i64 p.t.outs,.slice (some ⟨g,0,none⟩) p.t.cases.length cap,.int .i64 p.a.n,.slice (some ⟨g2,0,none⟩) p.a.states.length cap2,.int .i64 p.rounds] 29)/\W.heap[w.heap.size+1]?=some (.cells zPb 29)/\CaseRow w.heap.size g cap raw p.t.cases p.t.cases.length W/\StateRow w.heap.size g2 cap2 raw2 p.a.states 0 W) ?_ (fun W5 hW5=>?_)
   ·have zm:=KeepT.set (o:=5) (KeepT.refl (ms:=[]) [29] w.heap.size w3) GL.o (by simp) (Nat.le_refl _) (.slice (some ⟨g2,0,none⟩) p.a.states.length cap2);exact⟨uP.setCell (Nat.le_refl _) _,by rw[aI GL.o];rfl,aM lV.o (by omega) _ _,Ah.o.keep zm (by decide) (by decide) (by decide),Dg.o.keep zm (by decide) (by decide)⟩
   obtain⟨dS,A1,AW,hrow5,hst5⟩:=hW5
   go_loopw [48] (fun i wr=>∃ k:Nat,k<=p.a.states.length/\i=.int .i64 k/\Below w.heap.size w wr/\wr.heap[w.heap.size]?=some (.cells #[.int .i64 p.t.n,.int .i64 p.t.ins,.int .i64 p.t.outs,.slice (some ⟨g,0,none⟩) p.t.cases.length cap,.int .i64 p.a.n,.slice (some ⟨g2,0,none⟩) p.a.states.length cap2,.int .i64 p.rounds] 29)/\wr.heap[w.heap.size+1]?=some (.cells zPb 29)/\CaseRow w.heap.size g cap raw p.t.cases p.t.cases.length wr/\StateRow w.heap.size g2 cap2 raw2 p.a.states k wr) (fun i _=>p.a.states.length - (intOf i).toNat)
   ·exact⟨0,by omega,rfl,dS,A1,AW,hrow5,hst5⟩
   ·
    clear dS A1 AW hrow5 hst5;obtain⟨k,hk,rfl,aA,hA,hO,bU,eD⟩:=hrel;have HA:=aa hA;have HO:=aa hO;have HROW6:=aa bU;have HST6:=aa eD;by_cases aC:k<p.a.states.length
    ·obtain⟨va,q1,i1⟩:=Py HS.o eh.o k aC;obtain⟨cur,fz,p1,p2,p3,_,p5⟩:=eD.row;have Kf:=eD.fit.1;have d0:wr.cell? ⟨g2,k,none⟩=some va:=by rw[ab p1,p5 _ (by omega) (by omega),q1]
     have I1:=aa i1;obtain⟨pa,ca,rfl,_⟩:=i1.at;have Kg:=aa (fun (W:World) (h:StateRow w.heap.size g2 cap2 raw2 p.a.states k W) (a:Value)=>h.put aC (a:=a));have pk:am (p.a.states[k].length<=1048576):=aa (by have:=IM p.a.states k aC;omega);have Ys:=aD p1;clear q1 i1 p1 p2 p3 p5 hA hO bU eD;generalize p.a.states[k]=c at I1 Kg pk d0;have AY:=aA.size;have UO:=aD HA.o
     go_wp2_with fail
     clear d0
     refine gk 6 [53,54,55,56,57,58] [MP.eq (.pointer (some ⟨w.heap.size,4,none⟩)),
      MP.eq (.pointer (some ⟨w.heap.size,5,none⟩)),
      MP.eq (.slice (some ⟨g2,0,none⟩) p.a.states.length cap2),
      MP.eq (.int .i64 k),
      MP.eq (.slice pa c.length ca),
      VA w.heap.size c] (by kernel_rfl) (by simp) (by decide) rfl (by kernel_rfl) (by kernel_rfl) (by kernel_rfl) ?step ?tail
     case step=>
      intro x W i o s F hi ho hs hB aq hF;have fR:i=0\/i=1\/i=2\/i=3\/i=4\/i=5:=by omega
      rcases fR with rfl|rfl|rfl|rfl|rfl|rfl
      all_goals (obtain rfl:=dy ho.symm;obtain rfl:=dy hs.symm;simp only[bA,cW,List.setIfInBounds_toArray,List.set_cons_succ,List.set_cons_zero,Nat.reduceAdd]at hF)
      ·clear aq hi ho hs;subst hF
       go_wp2_with fail
       exact k8 _ (Below.refl _ _) rfl
      ·have d0:=pK (aq ⟨0,.data⟩ (by simp) rfl);clear aq hi ho hs;simp only[d0]at hF;subst hF
       go_wp2_with fail
       exact k8 _ (Below.refl _ _) rfl
      ·have d1:=pK (aq ⟨1,.data⟩ (by simp) rfl);clear aq hi ho hs;have t1:=ab (af hB HA.o) 5;simp at t1;simp only[d1]at hF;subst hF
       go_wp2_with fail
       exact k8 _ (Below.refl _ _) rfl
      ·clear aq hi ho hs;subst hF
       go_wp2_with fail
       exact k8 _ (Below.refl _ _) rfl
      ·clear aq hi ho hs;subst hF
       go_wp2_with fail
       exact k8 _ (Below.refl _ _) rfl
      ·have d4:=pK (aq ⟨4,.data⟩ (by simp) rfl);clear aq hi ho hs;simp only[d4]at hF;subst hF
       go_wp2_with fail
       refine(Es _ c.length (fK c) W (Pw (I1.o.up up_move (ae aA hB))) pk.o).mono ?_;rintro e w9 ⟨u9,rfl,jJ,dU⟩;have ny:=aa (jJ.base (show w.heap.size<=W.heap.size by have:=hB.size;omega));clear jJ
       go_wp2_with fail
       exact k8 _ dU ny.o
     case tail=>
      intro x W3 F hB aU hF;have d2:x 2=.slice (some ⟨g2,0,none⟩) p.a.states.length cap2:=aU 2 (by omega);have d3:x 3=.int .i64 k:=aU 3 (by omega);have h2:aJ W3 w.heap.size 143 8 (x 5) c.length (fK c):=aU 5 (by omega);clear aU;simp only[bA,cW,List.setIfInBounds_toArray,List.set_cons_succ,List.set_cons_zero,Nat.reduceAdd]at hF;obtain⟨y1,z1,e5⟩:=h2.slice;rw[d2,d3,e5]at hF;rw[e5]at h2;generalize x 0=s0,x 1=s1,x 4=s4 at hF;subst hF;have SK:=HST6.o.up hB;have HST3:=aa SK;have Ah:=aa (HROW6.o.up hB);have H2:=aa h2;obtain⟨cur3,fz3,q1,q2,q3,_,q5⟩:=SK.row;have c0:∃ u,W3.cell? ⟨g2,k,none⟩=some u:=⟨cur3[k]'(by omega),by rw[ab q1];exact Array.getElem?_eq_getElem _⟩;obtain⟨o0,c0⟩:=c0;have f0:=rD q1 q2 k (by omega);have A1:=af hB HA.o;have AW:=af hB HO.o;have BB:w.heap.size≠g2:=mT A1 q1 (by decide);have pF:w.heap.size+1≠g2:=mT AW q1 (by decide);have Yv:=aa A1;have X8:=aa AW;have mx:=aa (ae aA hB);have xP:=HST3.o.lo;have DF:=aa q1;clear d2 d3 e5 h2 SK q1 q2 q3 q5 A1 AW hB;simp only[List.drop_succ_cons,List.drop_zero]
      go_wp2_with fail
      go_roundw
      ·exact⟨k+1,by omega,by go_num,mx.o.setCell xP _,aM Yv.o BB _ _,aM X8.o pF _ _,Ah.o.keep (KeepT.set (KeepT.refl (ms:=[]) [136] w.heap.size W3) DF.o (by simp) xP _) (by decide) (by decide) (by decide),Kg.o _ HST3.o _ H2.o⟩
      ·simp[intOf];omega
    ·obtain rfl:k=p.a.states.length:=by omega
     have tA:=ab hA;have tO:=ab hO;have zO:=fun o=>aH hO o
     have AY:=aA.size;have UO:=aD HA.o;clear hA hO bU eD
     go_wp2_with fail
     have e0:=aI HO.o 0 (.int .i64 p.t.n);have e1:=aI e0 1 (.int .i64 p.t.ins);have e2:=aI e1 2 (.int .i64 p.t.outs);have e3:=aI e2 3 (.slice (some ⟨g,0,none⟩) p.t.cases.length cap);have e4:=aI e3 4 (.int .i64 p.a.n);have e5:=aI e4 5 (.slice (some ⟨g2,0,none⟩) p.a.states.length cap2);have e6:=aI e5 6 (.int .i64 p.rounds);have tP:w.heap.size<=w.heap.size+1:=by omega
     have zm:=((((((((KeepT.refl (ms:=[]) [29] w.heap.size wr).set (o:=0) HO.o (by simp) tP (.int .i64 p.t.n)).set (o:=1) e0 (by simp) tP (.int .i64 p.t.ins)).set (o:=2) e1 (by simp) tP (.int .i64 p.t.outs)).set (o:=3) e2 (by simp) tP (.slice (some ⟨g,0,none⟩) p.t.cases.length cap)).set (o:=4) e3 (by simp) tP (.int .i64 p.a.n)).set (o:=5) e4 (by simp) tP (.slice (some ⟨g2,0,none⟩) p.a.states.length cap2)).set (o:=6) e5 (by simp) tP (.int .i64 p.rounds));have Dn:=((((((aA.setCell tP (p:=⟨w.heap.size+1,0,none⟩) (.int .i64 p.t.n)).setCell tP (p:=⟨w.heap.size+1,1,none⟩) (.int .i64 p.t.ins)).setCell tP (p:=⟨w.heap.size+1,2,none⟩) (.int .i64 p.t.outs)).setCell tP (p:=⟨w.heap.size+1,3,none⟩) (.slice (some ⟨g,0,none⟩) p.t.cases.length cap)).setCell tP (p:=⟨w.heap.size+1,4,none⟩) (.int .i64 p.a.n)).setCell tP (p:=⟨w.heap.size+1,5,none⟩) (.slice (some ⟨g2,0,none⟩) p.a.states.length cap2)).setCell tP (p:=⟨w.heap.size+1,6,none⟩) (.int .i64 p.rounds);have t7:=ab e6;refine bodyPost_ret (v:=nX p (.slice (some ⟨g,0,none⟩) p.t.cases.length cap) (.slice (some ⟨g2,0,none⟩) p.a.states.length cap2)) (by simp[results,Tryz.results163,go_sem,t7]) rfl ⟨_,_,rfl,fun W' Uh=>⟨?_,?_⟩,Dn⟩
     ·exact((HROW6.o.keep zm (by decide) (by decide) (by decide)).from Uh).done (Nat.le_refl _) ht (wT HC.o)
     ·exact((HST6.o.keep zm (by decide) (by decide)).from Uh).done (Nat.le_refl _) je (fun x hx=>by obtain⟨i,hi,rfl⟩:=List.getElem_of_mem hx;have:=IM p.a.states i hi;omega) (MR HS.o)
theorem uK(n:Nat):∀ c,iX c n=(List.range (c * n)).map fun i=>(i / n,i % n)
 | 0=>by simp[iX]
 | c+1=>by
  have ih:=uK n c;unfold iX at ih ⊢;rw[List.range_succ,List.flatMap_append,ih,Nat.succ_mul,List.range_add,List.map_append,List.map_map];congr 1;simp only[List.flatMap_cons,List.flatMap_nil,List.append_nil];refine List.map_congr_left fun j hj=>?_
  have hj:=List.mem_range.1 hj;simp only[Function.comp];rw[show c * n+j=n * c+j by rw[Nat.mul_comm],Nat.mul_add_div (by omega),Nat.div_eq_of_lt hj,Nat.mul_add_mod,Nat.mod_eq_of_lt hj,Nat.add_zero]
theorem VB{α:Type} {k:Nat} {R:World->Nat->Nat->α->Prop} {w:World} {v:Value} {l:List (List α)} (h:fj 1 (mK k R) w v l):∃ ws:List Value,ws.length=l.length/\∃ a cap,v=.slice a l.length cap/\∀ i (hi:i<l.length),∃ b o,a=some ⟨b,o,none⟩/\w.cell? ⟨b,o+i,none⟩=some (ws.getD i undef)/\fj k R w (ws.getD i undef) l[i]:=by
 obtain⟨a,cap,rfl,h1,h2,h3⟩:=h
 have key:∀ i:Fin l.length,∃ x:Value,∃ b off,a=some ⟨b,off,none⟩/\w.cell? ⟨b,off+i.1,none⟩=some x/\fj k R w x l[i.1]:=fun i=>by
  obtain⟨b,off,ha,x,hx,hs⟩:=h3 i.1 _ (List.getElem?_eq_getElem i.2);exact⟨x,b,off,ha,by rwa [Nat.mul_one]at hx,hs⟩
 refine⟨List.ofFn fun i=>Classical.choose (key i),by simp,a,cap,rfl,fun i hi=>?_⟩
 have e:(List.ofFn fun i=>Classical.choose (key i)).getD i undef=Classical.choose (key ⟨i,hi⟩):=by
  rw[List.getD_eq_getElem?_getD,List.getElem?_ofFn];simp[hi]
 rw[e];exact Classical.choose_spec (key ⟨i,hi⟩)
theorem Eu(p:Pb) (pc:Option Addr) (nc cc:Nat) (ps:Option Addr) (ns cs:Nat) (pw:Option Addr) (nw cw:Nat) (w:World) :
  Calls Tryz.prog 164 #[nX p (.slice pc nc cc) (.slice ps ns cs),.slice pw nw cw] w fun e w'=>e=.returned (.func (.func 199) #[] #[.pointer (some ⟨w.heap.size,0,none⟩),.pointer (some ⟨w.heap.size+1,0,none⟩)]) ∧
   w'=(w.alloc (.cells #[.int .i64 p.t.n,.int .i64 p.t.ins,.int .i64 p.t.outs,.slice pc nc cc,.int .i64 p.a.n,.slice ps ns cs,.int .i64 p.rounds] 29)).alloc (.cells #[.slice pw nw cw] 221):=by
 go_enter Tryz.func164,Tryz.ntmps164
 go_wp2
 go_ret
 exact⟨rfl,rfl⟩
def R5(n:Nat) (ws:List Value) (i:Nat):Array Value:=#[.int .i64 ((i / n:Nat):Int),ws.getD (i % n) undef]
theorem CG(wd:World) (C n:Nat) (pw:Option Addr) (cw:Nat) (ws:List Value) (hn:n<=1048576) (hC:C<=1048576) (hws:∀ j,j<n->∃ b o,pw=some ⟨b,o,none⟩/\b<wd.heap.size/\wd.cell? ⟨b,o+j,none⟩=some (ws.getD j undef)/\∃ a m c,ws.getD j undef=.slice a m c) (hcw:n<=cw/\cw<=9223372036854775807)
  (w:World) (hb:Below wd.heap.size wd w) (Bp Bw:Nat) (x0 x1 x2 x4 x5 x6:Value) (pc:Option Addr) (cc:Nat) (hp:w.heap[Bp]?=some (.cells #[x0,x1,x2,.slice pc C cc,x4,x5,x6] 29)) (hw:w.heap[Bw]?=some (.cells #[.slice pw n cw] 221)) :
  sE Tryz.prog 199 #[.pointer (some ⟨Bp,0,none⟩),.pointer (some ⟨Bw,0,none⟩)] (R5 n ws) (C * n) (fun k=>k=Bw\/∃ ad,pw=some ad/\k=ad.block) w:=by
 intro yl J Jx W hW hJ oU hY h0;have ux:=ab (af hW hp) 3;simp at ux;have jn:=af hW hw;have ff:∀ ad,pw=some ad->ad.block<wd.heap.size->W.heap[ad.block]?=wd.heap[ad.block]?:=fun ad _ hk=>(hW.block _ (Nat.lt_of_lt_of_le hk hb.size)).trans (hb.block _ hk)
 clear hW hb hp hw;have LG:=aa hws;clear hws;have HJ:=aa hJ;clear hJ;have Jr:=aa oU;clear oU;have HY:=aa hY;clear hY;refine(callsIn_wide (n:=0)).1 ?_;refine callsIn_of_wp Tryz.func199 rfl trivial ?_ rfl;simp only[Tryz.ntmps199,List.size_toArray,List.length_cons,List.length_nil,Nat.reduceAdd,Nat.reduceSub,Array.replicate_succ,Array.replicate_zero,List.push_toArray,List.append_toArray,List.nil_append,List.cons_append]
 gi_wp2
 clear ux
 gi_loopw [11] (fun i wr=>∃ s:Nat,s<=C/\i=.int .i64 s/\(∀ ad,pw=some ad->ad.block<wd.heap.size->wr.heap[ad.block]?=wd.heap[ad.block]?)/\wr.heap[Bw]?=some (.cells #[.slice pw n cw] 221)/\J (s * n) wr) (fun i _=>C - (intOf i).toNat)
 ·exact⟨0,by omega,rfl,ff,jn,by rw[Nat.zero_mul];exact h0⟩
 ·
  obtain⟨s,hs,rfl,gc,kV,hj⟩:=hrel;have kr:=aa gc;clear gc;have jo:=aa hj;clear hj;have Dm:=aa kV;by_cases aC:s<C
  ·have tw:=ab kV 0;simp at tw;clear kV
   gi_wp2
   clear tw;obtain⟨W0,aX⟩:∃ W0:World,W0=wr:=⟨_,rfl⟩;rw[<-aX]at kr jo Dm ⊢;clear aX wr
   gi_loopw [16] (fun i wr=>∃ j:Nat,j<=n/\i=.int .i64 j/\(∀ ad,pw=some ad->ad.block<wd.heap.size->wr.heap[ad.block]?=wd.heap[ad.block]?)/\wr.heap[Bw]?=some (.cells #[.slice pw n cw] 221)/\J (s * n+j) wr) (fun i _=>n - (intOf i).toNat)
   ·exact⟨0,by omega,rfl,kr.o,Dm.o,jo.o⟩
   ·
    obtain⟨j,hj,rfl,gc,kV,zc⟩:=hrel;have ou:=aa gc;clear gc;have JD:=aa zc;clear zc;have HWR2:=aa kV;clear kV;by_cases LL:j<n
    ·obtain⟨b2,o2,rfl,YJ,c0,a9,m9,c9,e9⟩:=LG.o j LL
     have d0:wr.cell? ⟨b2,o2+j,none⟩=some (ws.getD j undef):=by
      rw[<-c0];simp only[World.cell?,ou.o _ rfl YJ]
     have lh:s * n+j<C * n:=by
      have h1:(s+1) * n<=C * n:=Nat.mul_le_mul_right _ aC;rw[Nat.succ_mul]at h1;omega
     have hdiv:(s * n+j) / n=s:=by rw[Nat.mul_comm,Nat.mul_add_div (by omega),Nat.div_eq_of_lt LL,Nat.add_zero]
     have hmod:(s * n+j) % n=j:=by rw[Nat.mul_comm,Nat.mul_add_mod,Nat.mod_eq_of_lt LL]
     obtain⟨fn,tmps,assign,body,hy,hR⟩:=HY.o (s * n+j) wr lh JD.o;unfold R5 at hy;rw[hdiv,hmod,e9]at hy;rw[e9]at d0;have HR:=aa hR;clear hR hdiv hmod c0 e9;have Bu:=aa lh;clear lh
     gi_wp2
     refine⟨rfl,HR.o.mono ?_⟩;rintro e W3 (⟨rfl,Do,DC,iw⟩|⟨rfl,sy⟩)
     ·gi_wp2
      go_roundw
      ·exact⟨j+1,by omega,by go_num,fun ad e1 e2=>(iw _ (.inr ⟨ad,e1,rfl⟩)).trans (ou.o ad e1 e2),(iw Bw (.inl rfl)).trans HWR2.o,Do⟩
      ·simp[intOf];omega
     ·gi_wp2
      refine bodyPost_ret (results_none rfl _ _ _) rfl ?_;exact⟨⟨_,rfl⟩,.inr ⟨_,Bu.o,sy⟩⟩
    ·gi_wp2
     go_roundw
     ·
      refine⟨s+1,by omega,by go_num,ou.o,HWR2.o,?_⟩;have e:n=j:=by omega
      rw[Nat.succ_mul];have h9:=JD.o;rw[<-e]at h9;exact h9
     ·simp[intOf];omega
  ·obtain rfl:s=C:=by omega
   gi_wp2
   go_end0
   exact⟨⟨_,rfl⟩,.inl jo.o⟩
theorem rE{k:IntKind} {a b:Int} (h:a=b):Value.int k a=Value.int k b:=by rw[h]
theorem IN{k:Nat} (hk:k<=30):wrap64 ((2:Int) ^ k)=((2 ^ k:Nat):Int):=by
 have h1:(2:Int) ^ k=((2 ^ k:Nat):Int):=by simp
 have h2:(2:Nat) ^ k<=2 ^ 30:=Nat.pow_le_pow_right (by omega) hk;rw[h1];generalize (2:Nat) ^ k=x at h2;unfold wrap64;omega
theorem KK{q:Nat->Bool} {k:Nat} (hk:k<=30) (h:q k=true):bits .or .i64 ((maskN q k:Nat):Int) (wrap64 ((2:Int) ^ k))=(maskN q (k+1):Nat):=by
 have h2:(2:Nat) ^ k<=2 ^ 30:=Nat.pow_le_pow_right (by omega) hk;have h3:=ik q k;rw[IN hk,wD _ _ (by omega) (by omega),yu h]
theorem BN(s:Sys):(rP s).length=eS s:=by simp[rP]
theorem lR(s:Sys) (e:Nat):(fD s e).length=nS s:=by simp[fD]
theorem VC(s:Sys) (e:Nat) (h:e<(rP s).length):(rP s)[e]=fD s e:=by simp[rP]
theorem PE(s:Sys) (e p:Nat) (h:p<(fD s e).length):(fD s e)[p]=if hasB (fltS s e) p then -1 else finS s e p:=by simp[fD]
theorem iH{s:Sys} (h:SysOk s) {e p:Nat} (he:e<eS s) (hp:p<nS s):0<=finS s e p/\finS s e p<s.tab.length:=by
 obtain⟨h1,h2⟩:=h.views e he;have hr:s.prob.rounds.toNat<(cH s e).views.length:=by omega
 have h3:=h2 ((cH s e).views[s.prob.rounds.toNat]) (List.getElem_mem hr);have e1:(cH s e).views.getD s.prob.rounds.toNat []=(cH s e).views[s.prob.rounds.toNat]:=by simp[hr]
 have Q8:p<((cH s e).views[s.prob.rounds.toNat]).length:=by omega
 unfold finS;rw[e1,show ((cH s e).views[s.prob.rounds.toNat]).getD p 0=((cH s e).views[s.prob.rounds.toNat])[p] by simp[Q8]];exact h3.2 _ (List.getElem_mem Q8)
theorem BO{s:Sys} (h:SysOk s) {e f p:Nat} (he:e<eS s) (hf:f<eS s) (hp:p<nS s) (x y:Int) (hx:x=if hasB (fltS s e) p then -1 else finS s e p) (hy:y=if hasB (fltS s f) p then -1 else finS s f p):linkB s p e f=(decide (0<=x)&&decide (x=y)):=by
 have h1:=(iH h he hp).1;have h2:=(iH h hf hp).1;unfold linkB;subst hx hy;cases hasB (fltS s e) p<;>cases hasB (fltS s f) p<;>simp<;>omega
theorem FinAt.open{w:World} {B:Nat} {s:Sys} (h:FinAt w B s):∃ pl cl,w.heap[B]?=some (.cells #[.int .i64 (nS s),.slice pl (eS s) cl] 201)/\∀ e,e<eS s->∃ b o,pl=some ⟨b,o,none⟩/\∃ pr cr,w.cell? ⟨b,o+e,none⟩=some (.slice pr (nS s) cr)/\aQ w (.slice pr (nS s) cr) (fD s e):=by
 obtain⟨vl,h1,h2⟩:=h.ex;obtain⟨pl,cl,rfl,_,_,ep⟩:=h2.at;rw[BN]at h1;refine⟨pl,cl,h1,fun e he=>?_⟩;obtain⟨b,o,e1,v,hc,hv⟩:=ep e (by rw[BN];exact he);rw[Nat.mul_one]at hc;rw[VC]at hv;obtain⟨pr,cr,rfl,_⟩:=hv.at;rw[lR]at hc hv;exact⟨b,o,e1,pr,cr,hc,hv⟩
theorem Wv{w:World} {s:Sys} {e p:Nat} {pr:Option Addr} {cr:Nat} (h:aQ w (.slice pr (nS s) cr) (fD s e)) (hp:p<nS s):∃ b o,pr=some ⟨b,o,none⟩/\w.cell? ⟨b,o+p,none⟩=some (.int .i64 (if hasB (fltS s e) p then -1 else finS s e p)):=by
 obtain⟨a,c,e1,_,_,ep⟩:=h.at;obtain⟨b,o,e2,h1⟩:=ep p (by rw[lR];exact hp);injection e1 with e3
 rw[Nat.mul_one,PE]at h1;exact⟨b,o,e3.trans e2,h1.1⟩
theorem Ev{w:World} {s:Sys} {n e p:Nat} {pr:Option Addr} {cr:Nat} (h:aQ w (.slice pr n cr) (fD s e)) (hp:p<n):∃ b o,pr=some ⟨b,o,none⟩/\w.cell? ⟨b,o+p,none⟩=some (.int .i64 (if hasB (fltS s e) p then -1 else finS s e p)):=by
 obtain⟨a,c,e1,_⟩:=h.at;injection e1 with _ e4 _
 rw[lR]at e4;subst e4;exact Wv h hp
theorem CI(s:Sys) (B:Nat) (e:Int) (w:World) (h:FinAt w B s) :
  Calls Tryz.prog 145 #[.pointer (some ⟨B,0,none⟩),.int .i64 e] w fun r w'=>r=.returned (.bool (decide (0<=e)&&decide (e<(eS s:Int))))/\Below w.heap.size w w':=by
 obtain⟨pl,cl,h1,_⟩:=h.open;have t1:=ab h1;clear h1 h;by_cases he:0<=e
 ·have hd:decide ((0:Int)<=e)=true:=by simpa using he
  go_enter Tryz.func145,Tryz.ntmps145
  go_wp2_with fail
  go_ret
  exact⟨aR (by simp[he]),Below.refl _ _⟩
 ·have hd:decide ((0:Int)<=e)=false:=by simpa using he
  go_enter Tryz.func145,Tryz.ntmps145
  go_wp2_with fail
  go_ret
  exact⟨aR (by first|rfl|simp[he]),Below.refl _ _⟩
theorem AI(s:Sys) (hs:SysOk s) (B:Nat) (e f:Nat) (he:e<eS s) (hf:f<eS s) (w:World) (h:FinAt w B s) :
  Calls Tryz.prog 146 #[.pointer (some ⟨B,0,none⟩),.int .i64 e,.int .i64 f] w fun r w'=>r=.returned (.int .i64 (maskN (fun p=>linkB s p e f) (nS s):Nat))/\w=w':=by
 obtain⟨pl,cl,h1,bU⟩:=h.open;have jf:=hs.n.2.1;obtain⟨b,o,rfl,pr,cr,c1,r1⟩:=bU e he;obtain⟨b',o',e2,ps,cs,c2,r2⟩:=bU f hf;cases e2;have R1:=aa r1;have R2:=aa r2;have HL:am (∀ p,p<nS s->linkB s p e f=(decide (0<=if hasB (fltS s e) p then -1 else finS s e p)&&decide ((if hasB (fltS s e) p then -1 else finS s e p)=if hasB (fltS s f) p then -1 else finS s f p))):=aa fun p hp=>BO hs he hf hp _ _ rfl rfl
 have t1:=ab h1;clear h1 h bU r1 r2;obtain⟨q,hq⟩:∃ q:Nat->Bool,q=fun p=>linkB s p e f:=⟨_,rfl⟩
 have HQ:am (∀ p,linkB s p e f=q p):=aa fun p=>by rw[hq]
 rw[<-hq];clear hq;generalize nS s=n at *;generalize eS s=m at *
 go_enter Tryz.func146,Tryz.ntmps146
 go_wp2_with fail
 go_loop [7,14] (fun x i=>∃ k:Nat,k<=n/\i=.int .i64 k/\x=.int .i64 (maskN q k:Nat)) (fun _ i=>n - (intOf i).toNat)
 ·exact⟨0,by omega,rfl,rfl⟩
 ·
  obtain⟨k,hk,rfl,rfl⟩:=hrel;by_cases aC:k<n
  ·obtain⟨b1,o1,rfl,d1⟩:=Ev R1.o aC;obtain⟨b2,o2,rfl,d2⟩:=Ev R2.o aC;have hl:=HL.o k aC;rw[HQ.o]at hl;generalize (if hasB (fltS s e) k then -1 else finS s e k)=x at d1 hl;generalize (if hasB (fltS s f) k then -1 else finS s f k)=y at d2 hl;have HM:=aa (ik q k);by_cases hx:0<=x
   ·have TZ:decide ((0:Int)<=x)=true:=decide_eq_true hx;by_cases cg:x=y
    ·subst cg;have HB:am (q k=true):=aa (by rw[hl];simp[hx]);clear hl
     go_wp2_with fail
     go_round
     ·exact⟨k+1,by omega,by go_num,rE (KK (by omega) HB.o)⟩
     ·simp[intOf];omega
    ·have hxy':decide (x=y)=false:=decide_eq_false cg;have HB:am (q k=false):=aa (by rw[hl,hxy'];simp);clear hl
     go_wp2_with fail
     go_round
     ·exact⟨k+1,by omega,by go_num,by rw[<-wE HB.o]⟩
     ·simp[intOf];omega
   ·have TZ:decide ((0:Int)<=x)=false:=decide_eq_false hx;have HB:am (q k=false):=aa (by rw[hl,TZ];simp);clear hl
    go_wp2_with fail
    go_round
    ·exact⟨k+1,by omega,by go_num,by rw[<-wE HB.o]⟩
    ·simp[intOf];omega
  ·obtain rfl:k=n:=by omega
   go_wp2_with fail
   go_ret
   exact⟨rfl,rfl⟩
end Go.Proofs.YtmeaoneaephjeaaGreatDoor
