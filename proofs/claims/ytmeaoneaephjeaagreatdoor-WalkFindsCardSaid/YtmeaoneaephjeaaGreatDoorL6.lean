/-
  A part of the proof: lemmas and contracts that the parts behind it use. Each one's conditions are its own premises.
-/
import Derived.Test.YtmeaoneaephjeaaGreatDoorL5
set_option maxRecDepth 100000
set_option maxHeartbeats 8000000
set_option linter.unusedVariables false
set_option linter.unusedSimpArgs false
namespace Go.Proofs.YtmeaoneaephjeaaGreatDoor
open Go.RowKit Go Go.Shelf
attribute [local go_sem] Oper.semAt_some
theorem Fm(d:Nat) (a b:Vw) (w:World):(Op.equalIn (d+3) 190 a.v b.v).run Tryz.prog w=.ok (decide (a=b)) w:=by
 have hS:Tryz.prog.underlying 190=some (.struct (Tryz.prog.fieldsOf 190)):=by kernel_rfl
 have hp:Tryz.prog.stoodInHeld 190=false:=by kernel_rfl
 rw[run_equalIn_struct w (d+2) 190 _ _ hS hp];have ag:=Tryz.isAgg3;have ah:=Tryz.isAgg137;have zh:=Tryz.sizeOf137;have u3:=Tryz.underlying3;simp only[Program.fieldsOf,Tryz.underlying190];simp[Op.eqFields,part,ag,ah,zh,run_equalIn_int w (d+1) 3 _ .i64 _ _ u3,IW d];obtain⟨n,k,j,h0,h1,h2,h3,h4⟩:=a;obtain⟨m,l,i,g0,g1,g2,g3,g4⟩:=b;by_cases hn:n=m
 case neg=>simp[hn]
 by_cases hk:k=l
 case neg=>simp[hn,hk]
 by_cases hj:j=i
 case neg=>simp[hn,hk,hj]
 by_cases hh:h0=g0/\h1=g1/\h2=g2/\h3=g3/\h4=g4<;>simp[hn,hk,hj,hh]
theorem kit_vw:KeyKit Tryz.prog 190 Vw.v:=
 ⟨fun a b w=>Fm 9997 a b w,fun em a w=>by kernel_rfl,⟨_,Tryz.underlying190⟩⟩
theorem Tryz.infoView:(Tryz.prog.info? 190).map (fun i=>(i.zero,i.size,i.bytes))=some (some (.agg #[.int .i64 0,.int .i64 0,.int .i64 0,.int .i64 0,.int .i64 0,.int .i64 0,.int .i64 0,.int .i64 0]),8,64):=by kernel_rfl
abbrev silV:Value:=.agg #[.int .i64 (-1),.int .i64 (-1),.int .i64 (-1),.int .i64 (-1),.int .i64 (-1)]
theorem Bz(w:World):Calls Tryz.prog 201 #[] w fun e w'=>e=.returned silV/\Below w.heap.size w w':=by
 go_enter Tryz.func201,Tryz.ntmps201
 go_wp2_with fail
 refine bu (fun W=>Below w.heap.size w W/\W.heap[w.heap.size]?=some (.cells (hC (fun _=>-1) 0) 137)/\W.heap[w.heap.size+1]?=some (.cells (hC (fun _=>-1) 0) 137)) ⟨by go_grown,by rw[Fj];exact ar _ (aq _ _),by rw[Fj];exact bd _ _ _⟩ (fun W0 aZ=>?_);obtain⟨aI,ic,gl⟩:=aZ
 go_loopw [3] (fun i wr=>∃ q:Nat,q<=5/\i=.int .i64 q/\Below w.heap.size w wr/\wr.heap[w.heap.size]?=some (.cells (hC (fun _=>-1) 0) 137)/\wr.heap[w.heap.size+1]?=some (.cells (hC (fun _=>-1) q) 137)) (fun i _=>5 - (intOf i).toNat)
 ·exact⟨0,by omega,rfl,aI,ic,gl⟩
 ·
  clear aI ic gl;obtain⟨q,hq,rfl,az,hR,hO⟩:=hrel;by_cases aB:q<5
  ·have zq:=aE hO q;have tq:=ab hO q;rw[Jc _ _ _ aB]at tq;have HR:=aa hR;have HO:=aa hO;clear hR hO;have mx:(q:Int)<5:=by omega
   go_wp2_with fail
   go_roundw
   ·exact⟨q+1,by omega,by go_num,az.setCell (by dsimp only;omega) _,aK HR.o (by omega) _ _,by rw[aF HO.o,<-Xw (fun _=>-1) q aB]⟩
   ·simp[intOf];omega
  ·obtain rfl:q=5:=by omega
   have tq:=ab hO;have HR:=aa hR;have HO:=aa hO;have zq:=fun o=>aE hR o
   have tq0:=ab hR;rw[Wy]at tq;simp[Fj]at tq0;clear hR hO
   go_wp2_with fail
   have h5:=aF (aF (aF (aF (aF HR.o 0 (.int .i64 (-1))) 1 (.int .i64 (-1))) 2 (.int .i64 (-1))) 3 (.int .i64 (-1))) 4 (.int .i64 (-1));refine bodyPost_ret (Lg _ _ 0 rfl w.heap.size _ (-1) (-1) (-1) (-1) (-1) 137 rfl (h5.trans rfl)) rfl ⟨rfl,?_⟩;exact((((az.setCell (by dsimp only;omega) _).setCell (by dsimp only;omega) _).setCell (by dsimp only;omega) _).setCell (by dsimp only;omega) _).setCell (by dsimp only;omega) _
abbrev bldT:List TypeId:=[190,234]
structure BldIs (base b mb n:Nat) (tab:List Vw) (W:World):Prop where
 lo:base<=b
 ex:∃ vs,W.heap[b]?=some (.cells #[.int .i64 n,vs,.map (some mb)] 234)/\base<=mb/\aH W base 190 8 vs tab.length (fc tab)/\mG Vw.v W mb (vK tab)
theorem BldIs.up{base b mb n:Nat} {tab:List Vw} {W W':World} (h:BldIs base b mb n tab W) (hb:Below W.heap.size W W'):BldIs base b mb n tab W':=by
 obtain⟨vs,h1,h2,h3,h4⟩:=h.ex;exact⟨h.lo,vs,af hb h1,h2,h3.up hb,h4.up hb⟩
theorem Nt(v:Vw):∀ u∈v.c.toList,u.oneCell'=true:=fun u hu=>Gk [v] u (by simpa[fc] using hu)
theorem WB(tb:List Vw) (v:Vw):(putV tb v).2<=tb.length:=by
 unfold putV;split
 ·exact List.idxOf_le_length
 ·exact Nat.le_refl _
theorem LQ(base b mb n:Nat) (tab:List Vw) (v:Vw) (w:World) (hB:BldIs base b mb n tab w) (hl:tab.length<=100000) :
  Calls Tryz.prog 200 #[.pointer (some ⟨b,0,none⟩),v.v] w fun e w'=>e=.returned (.int .i64 (putV tab v).2)/\BldIs base b mb n (putV tab v).1 w'/\KeepT bldT [mb] base w w':=by
 have yU:=hB.lo;obtain⟨vs,h1,h2,h3,h4⟩:=hB.ex;have cZ:=aC h1;obtain⟨av,cv,rfl⟩:=h3.slice;have H1:=aa h1;have H3:=aa h3;have H4:=aa h4;clear h1 h3 h4 hB
 go_enter Tryz.func200,Tryz.ntmps200
 go_wp2_with fail
 refine bu (fun W=>Below w.heap.size w W/\W.heap[w.heap.size]?=some (.cells v.c 190)) ⟨by go_grown,aq _ _⟩ (fun W0 aZ=>?_);obtain⟨aI,Yf⟩:=aZ;have Ef:=aa Yf;have k1:∀ x:ExtW W0,∀ o,x.val.cell? ⟨w.heap.size,o,none⟩=_:=fun x=>ab (af x.ext Yf)
 have k2:∀ x:ExtW W0,∀ o,x.val.cell? ⟨b,o,none⟩=_:=fun x=>ab (af (ae aI x.ext) H1.o)
 have RI:∀ x:ExtW W0,mG Vw.v x.val mb (vK tab):=fun x=>H4.o.up (ae aI x.ext)
 have jT:=aa RI;have ru:=SF tab v;clear Yf RI;by_cases hm:v∈tab
 ·have HP:am (putV tab v=(tab,tab.idxOf v)):=aa (by unfold putV;rw[if_pos hm]);rw[if_pos hm]at ru
  have k3:∀ x:ExtW W0,(Instr.lookup 232 (.map (some mb)) v.v true).run Tryz.prog x.val=.ok (.tuple #[.int .i64 (tab.idxOf v:Nat),.bool true]) x.val:=fun x=>by
   have:=I0 kit_vw (mt:=232) (vt:=3) (z:=.int .i64 0) Tryz.underlying232 (fun w=>by kernel_rfl) (jT.o x) v;rw[ru]at this;exact this
  clear ru;refine aD (by kernel_rfl) (by kernel_rfl) ?_
  repeat (go_big_quiet_step (fail))
  refine wpQuiet_nil ?_;intro _ eJ;obtain⟨xq,dq⟩:=eJ;subst dq;clear k1 k2 k3
  go_wp2_with fail
  go_ret
  rw[HP.o];have hx:=ae aI xq.ext;exact⟨rfl,⟨yU,_,af hx H1.o,h2,H3.o.up hx,H4.o.up hx⟩,KeepT.of_below _ hx (by omega)⟩
 ·have HP:am (putV tab v=(tab++[v],tab.length)):=aa (by unfold putV;rw[if_neg hm]);rw[if_neg hm]at ru
  have k3:∀ x:ExtW W0,(Instr.lookup 232 (.map (some mb)) v.v true).run Tryz.prog x.val=.ok (.tuple #[.int .i64 0,.bool false]) x.val:=fun x=>by
   have:=I0 kit_vw (mt:=232) (vt:=3) (z:=.int .i64 0) Tryz.underlying232 (fun w=>by kernel_rfl) (jT.o x) v;rw[ru]at this;exact this
  have HGET:=aa ru;clear ru;refine aD (by kernel_rfl) (by kernel_rfl) ?_
  repeat (go_big_quiet_step (fail))
  refine wpQuiet_nil ?_;intro _ eJ;obtain⟨xq,dq⟩:=eJ;subst dq;clear k1 k2 k3;have hx:=ae aI xq.ext;have BN:=af xq.ext Ef.o;generalize xq.val=W1 at hx BN;have HX:=aa hx;have R6:=aa BN;have t1:=ab (af hx H1.o);have tv:=ab BN;obtain⟨o,L',hG2⟩:=Wt kit_vw (mt:=232) (vt:=3) Tryz.underlying232 (w:=W1.drew) (b:=mb) (f:=vK tab) (H4.o.up hx.drew) v (.int .i64 (tab.length:Nat)) HGET.o;have sP:=aa hG2;clear hx BN hG2
  go_wp2_with fail
  go_still_tail 6,(by kernel_rfl)
  change wpList _ _ _ _ _ W1.drew
  go_wp2_with fail
  have l5:∃ o2,W1.drew.heap[mb]?=some o2/\o2.isCells=false:=by
   obtain⟨es,ck,p1,_⟩:=H4.o.up HX.o.drew;exact⟨_,p1,rfl⟩
  obtain⟨o2,l5,sQ⟩:=l5;have Hn:b≠mb:=fun e=>by rw[<-e,(af HX.o.drew H1.o)]at l5;cases l5;cases sQ
  have hvn:w.heap.size≠mb:=fun e=>by
   have h9:W1.drew.heap[w.heap.size]?=some (.cells v.c 190):=R6.o;rw[e,l5]at h9;cases h9;cases sQ
  refine bu (fun W=>W.heap[b]?=some (.cells #[.int .i64 n,.slice av tab.length cv,.map (some mb)] 234)/\aH W base 190 8 (.slice av tab.length cv) tab.length (fc tab)/\mG Vw.v W mb (vK (tab++[v]))/\W.heap[w.heap.size]?=some (.cells v.c 190)/\KeepT bldT [mb] base w W/\w.heap.size<W.heap.size)
   ⟨(World.putObj_heap_other Hn).trans (af HX.o.drew H1.o),(H3.o.up HX.o.drew).keepT fun g o' e1 e2=>(World.putObj_heap_other (fun e=>(H3.o.up HX.o.drew).isCells (B:=mb) l5 sQ (by rw[e1,e]))).trans e2,by rw[PM];exact sP.o,(World.putObj_heap_other hvn).trans R6.o,(KeepT.of_below _ HX.o.drew (by omega)).put l5 sQ h2 (by simp),by have:=aC R6.o;simpa using this⟩ (fun W2 eY=>?_)
  obtain⟨g1,g3,g4,g5,g6,g7⟩:=eY;have G1:=aa g1;have G3:=aa g3;have G4:=aa g4;have G5:=aa g5;have G6:=aa g6;clear g1 g3 g4 g5 g6 l5 sQ L' t1 tv;obtain⟨i0,cM,bX,bP,bY⟩:=info_parts Tryz.infoView
  refine nm 8 [29,30,31,32,33,34,35,36] [some (.pointer (some ⟨b,0,none⟩)),
   some (.pointer (some ⟨b,0,none⟩)),
   some (.pointer (some ⟨b,0,none⟩)),
   some (.pointer (some ⟨b,1,none⟩)),
   some (.slice av tab.length cv),
   some (v.v),
   none,
   none] (CAppS W2 W2 base 190 8 (.slice av tab.length cv) tab.length 1 (fc tab) v.c.toList 6 7) (by kernel_rfl) rfl (by decide) rfl (by kernel_rfl) (by kernel_rfl) (by kernel_rfl) (fun _=>CAppS.start (by omega) (KeepT.refl _ _ _).drew (Nat.le_refl _) (fun _ _ h _=>h) G3.o) ?step ?tail
  case step=>
   intro x W D i o s F hi ho hs hD cP bR ap hv aM hF;have fY:i=0\/i=1\/i=2\/i=3\/i=4\/i=5\/i=6\/i=7:=by omega
   rcases fY with rfl|rfl|rfl|rfl|rfl|rfl|rfl|rfl
   all_goals (have dP:=cP _ _ hs hD;obtain rfl:=dp ho.symm;obtain rfl:=dp hs.symm)
   ·clear ap hi hv;have e0:F.getD 0 undef=.pointer (some ⟨b,0,none⟩):=mh hF (by decide) rfl;clear cP bR;clear hF dP;have e0':=dI e0;have HD:=aa hD;have bD:=aa aM;clear hD aM
    go_wp2_with fail
    refine bZ.mk _ gg ?_ rfl;exact bD.o.other _ (by decide) (by decide)
   ·clear ap hi hv;have e0:F.getD 0 undef=.pointer (some ⟨b,0,none⟩):=mh hF (by decide) rfl;clear cP bR;clear hF dP;have e0':=dI e0;have HD:=aa hD;have bD:=aa aM;clear hD aM
    go_wp2_with fail
    refine bZ.mk _ gg ?_ rfl;exact bD.o.other _ (by decide) (by decide)
   ·have g1:=ap ⟨1,.data⟩ (by simp) rfl;have d1:=hv 1 _ (by omega) g1 rfl;clear ap hi hv;have e30:=fK hF 1 30 (by decide) rfl (by kernel_rfl) d1;clear cP bR;clear hF dP d1;have e30':=dI e30;have HD:=aa hD;have bD:=aa aM;clear hD aM;clear g1
    go_wp2_with fail
    refine bZ.mk _ gg ?_ rfl;exact bD.o.other _ (by decide) (by decide)
   ·have g2:=ap ⟨2,.data⟩ (by simp) rfl;have d2:=hv 2 _ (by omega) g2 rfl;clear ap hi hv;have e31:=fK hF 2 31 (by decide) rfl (by kernel_rfl) d2;clear cP bR;clear hF dP d2;have e31':=dI e31;have HD:=aa hD;have bD:=aa aM;clear hD aM;clear g2
    go_wp2_with fail
    refine bZ.mk _ gg ?_ rfl;exact bD.o.other _ (by decide) (by decide)
   ·have g3:=ap ⟨3,.data⟩ (by simp) rfl;have d3:=hv 3 _ (by omega) g3 rfl;clear ap hi hv;have e32:=fK hF 3 32 (by decide) rfl (by kernel_rfl) d3;clear cP bR;clear hF dP d3;have t1:=ab (aM.kept _ _ G1.o (fun e=>G3.o.ne G1.o (by decide) _ e rfl)) 1;simp at t1;have e32':=dI e32;have HD:=aa hD;have bD:=aa aM;clear hD aM;clear g3
    go_wp2_with fail
    refine bZ.mk _ gg ?_ rfl;exact bD.o.other _ (by decide) (by decide)
   ·clear ap hi hv;have e3:F.getD 3 undef=.pointer (some ⟨w.heap.size,0,none⟩):=mh hF (by decide) rfl;clear cP bR;clear hF dP;have t1:=ab (aM.kept _ _ G5.o (fun e=>by have:=(H3.o.lt _ e).2;omega));have e3':=dI e3;have HD:=aa hD;have bD:=aa aM;clear hD aM
    go_wp2_with fail
    refine bZ.mk _ gg ?_ rfl;exact bD.o.other _ (by decide) (by decide)
   ·have g5:=ap ⟨5,.data⟩ (by simp) rfl;have d5:=hv 5 _ (by omega) g5 rfl;clear ap hi hv;have e34:=fK hF 5 34 (by decide) rfl (by kernel_rfl) d5;clear cP bR;clear hF dP d5;have e34':=dI e34;have HD:=aa hD;have bD:=aa aM;clear hD aM;clear g5
    go_wp2_with fail
    refine bZ.mk _ (fun c hc=>by cases hc) ?_ rfl;exact bD.o.build (by decide)
   ·have g4:=ap ⟨4,.data⟩ (by simp) rfl;have d4:=hv 4 _ (by omega) g4 rfl;have g6:=ap ⟨6,.data⟩ (by simp) rfl;clear ap hi hv;have e33:=fK hF 4 33 (by decide) rfl (by kernel_rfl) d4;have e35:=fK hF 6 35 (by decide) rfl (by kernel_rfl) rfl;clear cP bR;clear hF dP d4;obtain⟨gb,qx,ml,_⟩:=aM.sb g6 hD;rw[qx]at e35;have bQ:=aM.rd;rw[hD]at bQ;have vy:=aa (show aH W base 190 8 (.slice av tab.length cv) tab.length (fc tab) from bQ)
    have bU:∀ j u',v.c.toList[j]?=some u'->W.cell? (Addr.add ⟨gb,0,none⟩ j)=some u':=fun j u' hj=>by
     have e1:(Addr.add ⟨gb,0,none⟩ j)=⟨gb,j,none⟩:=by unfold Addr.add;split<;>simp_all
     rw[e1,ab ml];simpa using hj
    have bA:=aa bU;have iy:=aM.old.old.size;clear bU bQ ml qx;have e33':=dI e33;have e35':=dI e35;have HD:=aa hD;have bD:=aa aM;clear hD aM;clear g4;clear g6;refine aX W rfl (.tmp 33) (.tmp 35) 30 rfl base 190 i0 _ 8 64 Tryz.underlying30 cM bX bP bY rfl (by decide) _ tab.length (fc tab) e33 vy.o ⟨gb,0,none⟩ 1 1 v.c.toList e35 rfl bA.o (Nt v) (by unfold maxLen;omega) (by omega) (by omega) ?_;intro v9 w3 kO kb _;refine bZ.mk v9 (fun c hc=>by cases hc) ?_ rfl;exact bD.o.app HD.o kO kb
  case tail=>
   intro x W' D F aU hv aM hF;have x0:=hv 0 _ (by omega) rfl;have x1:=hv 1 _ (by omega) rfl;have x2:=hv 2 _ (by omega) rfl;have x3:=hv 3 _ (by omega) rfl;have x4:=hv 4 _ (by omega) rfl;have x5:=hv 5 _ (by omega) rfl;have Mo:=aM.rd;rw[aU 7 (by omega)]at Mo;have Od:aH W' base 190 8 (x 7) (tab.length+1) (fc tab++v.c.toList):=Mo;obtain⟨g9,c9,q9⟩:=Od.slice;rw[q9]at Od;have oX:=aa Od;have dS:=aM.kept _ _ G1.o (fun e=>G3.o.ne G1.o (by decide) _ e rfl)
   have hm9:mG Vw.v W' mb (vK (tab++[v])):=by
    obtain⟨es,ck,p1,p2⟩:=G4.o;exact⟨es,ck,aM.kept _ _ p1 (fun e=>G3.o.isCells p1 rfl e.symm),p2⟩
   have HM9:=aa hm9;have fy:=aa dS;have qZ:=aa aM.old;have t1:=ab dS 1;have z1:=aE dS 1;simp only[bz,cT,List.setIfInBounds_toArray,List.set_cons_succ,List.set_cons_zero,Nat.reduceAdd,x0,x1,x2,x3,x4,x5,q9]at hF;generalize x 6=y6 at hF;subst hF;clear hv aU aM Mo Od q9 dS hm9 x0 x1 x2 x3 x4 x5;simp only[List.drop_succ_cons,List.drop_zero]
   go_wp2_with fail
   go_ret
   rw[HP.o];have bM:∀ g,Value.ownBlock (.slice g9 (tab.length+1) c9)=some g->g≠b:=fun g e=>oX.o.ne fy.o (by decide) g e
   refine⟨rfl,⟨yU,_,aF fy.o 1 _,h2,?_,?_⟩,?_⟩
   ·rw[List.length_append,List.length_singleton,Gj];exact oX.o.put bM _ _
   ·obtain⟨es,ck,p1,p2⟩:=HM9.o;exact⟨es,ck,aK p1 (fun e=>by rw[e,fy.o]at p1;cases p1) _ _,p2⟩
   ·exact(G6.o.trans (qZ.o.mono (by simp) (by simp))).set fy.o (by simp) yU _
theorem KeepT.grownNew{ts:List TypeId} {ms:List Nat} {base:Nat} {w w' w'':World} {row:Option Nat} (h:KeepT ts ms base w w') (hs:base<=w.heap.size) (hr:∀ g,row=some g->w.heap.size<=g) (hg:w'.grownBy w'' row):KeepT ts ms base w w'':=by
 refine⟨Below.grown h.old hg (Nat.le_trans hs h.old.size) (fun g e=>Nat.le_trans hs (hr g e)),fun j c t f h1 h2=>?_,fun j o h1 h2 h3=>?_⟩
 ·have h3:=h.keep j c t f h1 h2;exact(hg.block j (aC h3) (fun e'=>by have:=hr j e'.symm;have:=aC h1;omega)).trans h3
 ·have h4:=h.oth j o h1 h2 h3;exact(hg.block j (aC h4) (fun e'=>by have:=hr j e'.symm;have:=aC h1;omega)).trans h4
theorem KeepT.setNew{ts:List TypeId} {ms:List Nat} {base:Nat} {w w':World} {B o:Nat} (h:KeepT ts ms base w w') (hs:base<=w.heap.size) (hb:w.heap.size<=B) (v:Value):KeepT ts ms base w (w'.setCell ⟨B,o,none⟩ v):=by
 refine⟨h.old.setCell (Nat.le_trans hs hb) v,fun j c' t' f' h1 h2=>aK (h.keep j c' t' f' h1 h2) ?_ o v,fun j o' h1 h2 h3=>aK (h.oth j o' h1 h2 h3) ?_ o v⟩
 ·have:=aC h1;omega
 ·have:=aC h1;omega
theorem BldIs.set{base b mb n:Nat} {tab:List Vw} {W:World} {B o:Nat} {c:Array Value} {t:TypeId} {f:Nat × Nat} (h:BldIs base b mb n tab W) (hB:W.heap[B]?=some (.cells c t f)) (ht:t∉bldT) (v:Value):BldIs base b mb n tab (W.setCell ⟨B,o,none⟩ v):=by
 obtain⟨vs,h1,h2,h3,es,ck,p1,p2⟩:=h.ex;refine⟨h.lo,vs,aK h1 (fun e=>?_) _ _,h2,h3.put (fun g e=>h3.ne hB (fun e=>ht (by simp[<-e])) g e) _ _,es,ck,aK p1 (fun e=>?_) _ _,p2⟩
 ·rw[<-e,h1]at hB;cases hB;exact ht (by simp)
 ·rw[<-e,p1]at hB;cases hB
theorem BldIs.grown{base b mb n:Nat} {tab:List Vw} {W W':World} {e:TypeId} {b' k m:Nat} {u:Value} {xs:List Value} (h:BldIs base b mb n tab W) (ho:aH W b' e k u m xs) (he:e∉bldT) (hg:W.grownBy W' u.ownBlock):BldIs base b mb n tab W':=by
 obtain⟨vs,h1,h2,h3,es,ck,p1,p2⟩:=h.ex;refine⟨h.lo,vs,gx hg h1 (fun e'=>ho.ne h1 (fun e=>he (by simp[e])) b e' rfl),h2,h3.keepT fun g o e1 e2=>gx hg e2 (fun e'=>?_),es,ck,gx hg p1 (fun e'=>ho.isCells p1 rfl e'.symm),p2⟩;rcases h3.2 with ⟨rfl,_⟩|⟨g',cap,cur,fz,rfl,_,q3,_⟩
 ·cases e1
 ·cases e1
  exact ho.ne q3 (fun e=>he (by simp[e])) _ e' rfl
theorem KeepT.below9{ts us:List TypeId} {ms ns:List Nat} {w0 w w1 w2:World} (h0:Below w0.heap.size w0 w) (h1:KeepT ts ms w0.heap.size w w1) (h2:KeepT us ns w0.heap.size w1 w2):Below w0.heap.size w0 w2:=
 ⟨(h2.old.os.trans h1.old.os).trans h0.os,(h2.old.tape.trans h1.old.tape).trans h0.tape,(h2.old.output.trans h1.old.output).trans h0.output,Nat.le_trans h0.size (Nat.le_trans h1.old.size h2.old.size),fun k hk=>((h2.old.block k hk).trans (h1.old.block k hk)).trans (h0.block k hk)⟩
def mu(n:Nat) (l:List Int):Array Value:=((List.range n).map fun j=>Value.int .i64 (l.getD j 0)).toArray
theorem zI(n:Nat) (l:List Int):(mu n l).size=n:=by simp[mu]
theorem xI(n:Nat) (l:List Int) (j:Nat) (h:j<n):(mu n l)[j]?=some (.int .i64 (l.getD j 0)):=by simp[mu,h]
theorem Jh(n:Nat):mu n []=fC n (fun _=>0) 0:=by
 unfold mu fC;simp
theorem Ji(n:Nat) (l:List Int) (z:Int) (h:l.length<n):(mu n l).setIfInBounds l.length (.int .i64 z)=mu n (l++[z]):=by
 apply Array.ext_getElem?;intro j;rw[Array.getElem?_setIfInBounds];by_cases hj:j<n
 ·rw[xI _ _ _ hj,xI _ _ _ hj];by_cases e:l.length=j
  ·subst e;rw[if_pos rfl,if_pos (by rw[zI];exact hj)];simp
  ·rw[if_neg e];by_cases h2:j<l.length
   ·simp[List.getD_eq_getElem?_getD,List.getElem?_append_left h2]
   ·rw[List.getD_eq_getElem?_getD,List.getD_eq_getElem?_getD,List.getElem?_eq_none (by omega),List.getElem?_eq_none (by simp;omega)]
 ·have h1:(mu n l)[j]?=none:=by rw[Array.getElem?_eq_none];rw[zI];omega
  have h2:(mu n (l++[z]))[j]?=none:=by rw[Array.getElem?_eq_none];rw[zI];omega
  rw[h1,h2,if_neg (by omega)]
theorem Jj(l:List Int):mu l.length l=bC l:=by
 unfold mu bC;congr 1;apply List.ext_getElem (by simp);intro i h1 h2;simp at h1;simp[List.getD_eq_getElem?_getD,h1]
structure PCore (base b mb n:Nat) (tab tab':List Vw) (k:Nat) (Wr:World) (D:Nat->Bool) (x:Nat->Value) (W:World):Prop where
 lo:base<=Wr.heap.size
 keep:KeepT bldT [mb] base Wr W
 bld:BldIs base b mb n (bif D k then tab' else tab) W
section
variable {base b mb n k : Nat} {tab tab' : List Vw} {Wr : World} {D : Nat → Bool} {x : Nat → Value} {W : World}
theorem PCore.other(h:PCore base b mb n tab tab' k Wr D x W) {i:Nat} (u:Value) (hi:k≠i):PCore base b mb n tab tab' k Wr (bJ D i) (cI x i u) W:=
 ⟨h.lo,h.keep,by simpa only[bJ,if_neg hi] using h.bld⟩
theorem PCore.grow(h:PCore base b mb n tab tab' k Wr D x W) {W':World} (hb:Below W.heap.size W W'):PCore base b mb n tab tab' k Wr D x W':=⟨h.lo,h.keep.trans (.of_below _ hb (Nat.le_trans h.lo h.keep.old.size)),h.bld.up hb⟩
theorem PCore.put(h:PCore base b mb n tab tab' k Wr D x W) {W':World} (u:Value) (hk:KeepT bldT [mb] base W W') (hb:BldIs base b mb n tab' W'):PCore base b mb n tab tab' k Wr (bJ D k) (cI x k u) W':=⟨h.lo,h.keep.trans hk,by simpa[bJ] using hb⟩
end
abbrev gy(inp:List Int) (n:Nat):List Vw:=(List.range n).map (eE inp)
abbrev fW(n k:Nat) (r:Rd) (now:List Int):List Vw:=(List.range n).map (nextV n k r now)
theorem Jk{α:Type} (n:Nat) (f:Nat->α) (i:Nat) (h:i<((List.range n).map f).length):((List.range n).map f)[i]=f i:=by simp
theorem iI(n:Nat) (inp:List Int) (word:List Rd) (tb:List Vw):∀ k,(playTo n inp word tb k).2.length=k+1/\((playTo n inp word tb k).2.getLastD []).length=n/\(playTo n inp word tb k).1.length<=tb.length+n * (k+1)
 | 0=>by
  have h:=fU (gy inp n) (tb,[]);change (addAll tb (gy inp n)).2.length=_/\(addAll tb (gy inp n)).1.length<=_ at h;simp only[List.length_nil,List.length_map,List.length_range,Nat.zero_add]at h;exact⟨rfl,h.1,by have:=h.2;show (addAll tb (gy inp n)).1.length<=_;omega⟩
 | k+1=>by
  have ih:=iI n inp word tb k;have h:=fU (fW n k (word.getD k default) ((playTo n inp word tb k).2.getLastD [])) ((playTo n inp word tb k).1,[]);change (addAll (playTo n inp word tb k).1 _).2.length=_/\(addAll (playTo n inp word tb k).1 _).1.length<=_ at h;simp only[List.length_nil,List.length_map,List.length_range,Nat.zero_add]at h;have e:(playTo n inp word tb (k+1)).2=(playTo n inp word tb k).2++[(addAll (playTo n inp word tb k).1 (fW n k (word.getD k default) ((playTo n inp word tb k).2.getLastD []))).2]:=rfl;rw[e];refine⟨by rw[List.length_append,ih.1];rfl,?_,?_⟩
  ·rw[List.getLastD_concat];exact h.1
  ·have:n * (k+1+1)=n * (k+1)+n:=Nat.mul_succ n (k+1)
   show (addAll (playTo n inp word tb k).1 (fW n k (word.getD k default) ((playTo n inp word tb k).2.getLastD []))).1.length<=_
   omega
def sG(n k:Nat) (r:Rd) (now:List Int) (p q:Nat):Vw:=
 let g:=fun j=>if j<q/\hasB (r.g.hear p) j=true then now.getD j 0 else -1
 ⟨p,k+1,0,g 0,g 1,g 2,g 3,g 4⟩
theorem WC(n k:Nat) (r:Rd) (now:List Int) (p:Nat):sG n k r now p n=nextV n k r now p:=rfl
theorem SP(n k:Nat) (r:Rd) (now:List Int) (p:Nat):sG n k r now p 0=⟨p,k+1,0,-1,-1,-1,-1,-1⟩:=by simp[sG]
theorem WD(n k:Nat) (r:Rd) (now:List Int) (p q:Nat) (h:hasB (r.g.hear p) q=false):sG n k r now p (q+1)=sG n k r now p q:=by
 have key:∀ j,(if j<q+1/\hasB (r.g.hear p) j=true then now.getD j 0 else -1)=if j<q/\hasB (r.g.hear p) j=true then now.getD j 0 else -1:=fun j=>by
  by_cases e:j=q
  ·subst e;simp[h]
  ·have:j<q+1↔j<q:=by omega
   simp only[this]
 simp only[sG,key]
theorem WE(n k:Nat) (r:Rd) (now:List Int) (p q:Nat) (hq:q<5) (h:hasB (r.g.hear p) q=true):(sG n k r now p q).c.setIfInBounds (3+q) (.int .i64 (now.getD q 0))=(sG n k r now p (q+1)).c:=by
 have:q=0\/q=1\/q=2\/q=3\/q=4:=by omega
 rcases this with e|e|e|e|e<;>subst e<;>simp[sG,h]
theorem Nu(r:Rd) (k:Nat) (hk:k<5) (w:World) (B:Nat) (t:TypeId) (hw:w.heap[B]?=some (.cells r.c t)):w.cell? ⟨B,1+k,none⟩=some (.int .i64 (r.g.hear k)):=by
 have:k=0\/k=1\/k=2\/k=3\/k=4:=by omega
 rcases this with h|h|h|h|h<;>subst h<;>simp[World.cell?,hw,Gr.hear]
theorem LR{W:World} {base B n:Nat} {l:List Int} (h:W.heap[B]?=some (.cells (bC l) 3)) (hl:l.length=n) (hb:base<=B) (hn:n<=256):aH W base 3 1 (.slice (some ⟨B,0,none⟩) n n) n (l.map (Value.int .i64)):=
 ⟨by simp[hl],.inr ⟨B,n,_,(0,0),rfl,hb,h,fun i _ h=>by have:=h.2;simp at this,Nat.le_refl _,by unfold maxLen;omega,by simp[bC,hl],by simp only[bC];rw[Nat.mul_one,List.take_of_length_le (by simp;omega)]⟩⟩
theorem Qe(w0:World) (b mb n:Nat) (hn:n<=5) (tab:List Vw) (vi vw:Value) (inp:List Int) (word:List Rd) (w:World) (h0:Below w0.heap.size w0 w) (hi:aT w0 vi inp) (hw:kQ w0 vw word) (gZ:n<=inp.length) (J6:word.length<=6) (hl:tab.length+100<=100000) (hB:BldIs w0.heap.size b mb n tab w) :
  Calls Tryz.prog 166 #[.pointer (some ⟨b,0,none⟩),vi,vw] w fun e w'=>∃ u,e=.returned u/\cU w' w.heap.size u (gD n inp word tab).2/\BldIs w0.heap.size b mb n (gD n inp word tab).1 w'/\KeepT bldT [mb] w0.heap.size w w':=by
 obtain⟨pi,ci,rfl,li1,li2,ei⟩:=hi.at;obtain⟨pw,cw,rfl,lw1,lw2,ew⟩:=hw.at;have EI:=aa ei;have EW:=aa ew;have HB:=aa hB;have H0:=aa h0;have bX:=h0.size;clear hi hw ei ew hB h0;obtain⟨vs,h1,_⟩:=HB.o.ex;have t1:=ab h1 0;simp at t1;have fT:=iP (fun _=>0) n (by omega);clear h1
 go_enter Tryz.func166,Tryz.ntmps166
 go_wp2_with fail
 clear t1 fT;refine bu (fun W=>KeepT bldT [mb] w0.heap.size w W/\BldIs w0.heap.size b mb n tab W/\W.heap[w.heap.size]?=some (.cells (mu n []) 3)) ⟨KeepT.of_below _ (by go_grown) bX,HB.o.up (by go_grown),by rw[Jh];exact aq _ _⟩ (fun W0 aZ=>?_);obtain⟨fg,aI,sS⟩:=aZ
 go_loopw [24] (fun i wr=>∃ q:Nat,q<=n/\i=.int .i64 q/\KeepT bldT [mb] w0.heap.size w wr/\BldIs w0.heap.size b mb n (addAll tab ((gy inp n).take q)).1 wr/\wr.heap[w.heap.size]?=some (.cells (mu n (addAll tab ((gy inp n).take q)).2) 3)) (fun i _=>n - (intOf i).toNat)
 ·exact⟨0,by omega,rfl,fg,aI,sS⟩
 ·
  clear fg aI sS;obtain⟨q,hq,rfl,hk,hb,hr⟩:=hrel;by_cases aB:q<n
  ·have jR:=aa (vF tab (gy inp n) q (by simpa using aB));have cC:=(fU ((gy inp n).take q) (tab,[])).1;have oV:=(fU ((gy inp n).take q) (tab,[])).2;have RD:((gy inp n).take q).length=q:=by simp;omega
   rw[Jk]at jR;change (addAll tab ((gy inp n).take q)).2.length=_ at cC;change (addAll tab ((gy inp n).take q)).1.length<=_ at oV;simp only[List.length_nil,RD,Nat.zero_add]at cC oV;obtain⟨b1,o1,rfl,hx⟩:=EI.o q (by omega);have HX:=aa hx.1;have DW:=aa hk;have eo:=aa hb;have vj:=aa hr;have Y5:=hk.old.size;rw[Nat.mul_one]at HX;have KD:am (eE inp q=⟨q,0,inp[q],-1,-1,-1,-1,-1⟩):=aa (by unfold eE;rw[aA 0 (by omega)]);generalize inp[q]=y at HX KD;clear hx hk hb hr RD;generalize (addAll tab ((gy inp n).take q))=st at jR cC oV eo vj
   go_wp2_with fail
   refine nm 11 [27,28,29,30,31,32,33,34,35,36,37] [some (.slice (some ⟨w.heap.size,0,none⟩) n n),
    some (.int .i64 q),
    some (.pointer (some ⟨b,0,none⟩)),
    some (.int .i64 q),
    some (.slice (some ⟨b1,o1,none⟩) inp.length ci),
    some (.int .i64 q),
    some (.pointer (some ⟨b1,o1+q,none⟩)),
    some (.int .i64 y),
    some (silV),
    some ((eE inp q).v),
    some (.int .i64 ((putV st.1 (eE inp q)).2:Nat))] (PCore w0.heap.size b mb n st.1 (putV st.1 (eE inp q)).1 10 wr) (by kernel_rfl) rfl (by decide) rfl (by kernel_rfl) (by kernel_rfl) (by kernel_rfl) (fun _=>⟨by omega,(KeepT.refl _ _ _).drew,eo.o.up (Below.refl _ _).drew⟩) ?step ?tail
   case step=>
    intro x W D i o s F hi ho hs hD cP bR ap hv aM hF;have fY:i=0\/i=1\/i=2\/i=3\/i=4\/i=5\/i=6\/i=7\/i=8\/i=9\/i=10:=by omega
    rcases fY with rfl|rfl|rfl|rfl|rfl|rfl|rfl|rfl|rfl|rfl|rfl
    all_goals (have dP:=cP _ _ hs hD;obtain rfl:=dp ho.symm;obtain rfl:=dp hs.symm)
    ·clear ap hi hv;have e7:F.getD 7 undef=.slice (some ⟨w.heap.size,0,none⟩) n n:=mh hF (by decide) rfl;clear cP bR;clear hF dP;have e7':=dI e7;have HD:=aa hD;have bD:=aa aM;clear hD aM
     go_wp2_with fail
     refine bZ.mk _ gg ?_ rfl;exact bD.o.other _ (by decide)
    ·clear ap hi hv;have e8:F.getD 8 undef=.int .i64 q:=mh hF (by decide) rfl;clear cP bR;clear hF dP;have e8':=dI e8;have HD:=aa hD;have bD:=aa aM;clear hD aM
     go_wp2_with fail
     refine bZ.mk _ gg ?_ rfl;exact bD.o.other _ (by decide)
    ·clear ap hi hv;have e0:F.getD 0 undef=.pointer (some ⟨b,0,none⟩):=mh hF (by decide) rfl;clear cP bR;clear hF dP;have e0':=dI e0;have HD:=aa hD;have bD:=aa aM;clear hD aM
     go_wp2_with fail
     refine bZ.mk _ gg ?_ rfl;exact bD.o.other _ (by decide)
    ·clear ap hi hv;have e8:F.getD 8 undef=.int .i64 q:=mh hF (by decide) rfl;clear cP bR;clear hF dP;have e8':=dI e8;have HD:=aa hD;have bD:=aa aM;clear hD aM
     go_wp2_with fail
     refine bZ.mk _ gg ?_ rfl;exact bD.o.other _ (by decide)
    ·clear ap hi hv;have e1:F.getD 1 undef=.slice (some ⟨b1,o1,none⟩) inp.length ci:=mh hF (by decide) rfl;clear cP bR;clear hF dP;have e1':=dI e1;have HD:=aa hD;have bD:=aa aM;clear hD aM
     go_wp2_with fail
     refine bZ.mk _ gg ?_ rfl;exact bD.o.other _ (by decide)
    ·clear ap hi hv;have e8:F.getD 8 undef=.int .i64 q:=mh hF (by decide) rfl;clear cP bR;clear hF dP;have e8':=dI e8;have HD:=aa hD;have bD:=aa aM;clear hD aM
     go_wp2_with fail
     refine bZ.mk _ gg ?_ rfl;exact bD.o.other _ (by decide)
    ·have g4:=ap ⟨4,.data⟩ (by simp) rfl;have d4:=hv 4 _ (by omega) g4 rfl;have g5:=ap ⟨5,.data⟩ (by simp) rfl;have d5:=hv 5 _ (by omega) g5 rfl;clear ap hi hv;have e31:=fK hF 4 31 (by decide) rfl (by kernel_rfl) d4;have e32:=fK hF 5 32 (by decide) rfl (by kernel_rfl) d5;clear cP bR;clear hF dP d4 d5;have e31':=dI e31;have e32':=dI e32;have HD:=aa hD;have bD:=aa aM;clear hD aM;clear g4;clear g5
     go_wp2_with fail
     refine bZ.mk _ gg ?_ rfl;exact bD.o.other _ (by decide)
    ·have g6:=ap ⟨6,.data⟩ (by simp) rfl;have d6:=hv 6 _ (by omega) g6 rfl;clear ap hi hv;have e33:=fK hF 6 33 (by decide) rfl (by kernel_rfl) d6;clear cP bR;clear hF dP d6;have t1:=ak (KeepT.below9 H0.o DW.o aM.keep) HX.o;have e33':=dI e33;have HD:=aa hD;have bD:=aa aM;clear hD aM;clear g6
     go_wp2_with fail
     refine bZ.mk _ gg ?_ rfl;exact bD.o.other _ (by decide)
    ·clear ap hi hv;clear cP bR;clear hF dP;have HD:=aa hD;have bD:=aa aM;clear hD aM
     go_wp2_with fail
     refine(Bz W).mono ?_;rintro e w9 ⟨rfl,dS⟩
     go_wp2_with fail
     refine bZ.mk _ gg ?_ rfl;exact(bD.o.grow dS).other _ (by decide)
    ·have g3:=ap ⟨3,.data⟩ (by simp) rfl;have d3:=hv 3 _ (by omega) g3 rfl;have g7:=ap ⟨7,.data⟩ (by simp) rfl;have d7:=hv 7 _ (by omega) g7 rfl;have g8:=ap ⟨8,.data⟩ (by simp) rfl;have d8:=hv 8 _ (by omega) g8 rfl;clear ap hi hv;have e30:=fK hF 3 30 (by decide) rfl (by kernel_rfl) d3;have e34:=fK hF 7 34 (by decide) rfl (by kernel_rfl) d7;have e35:=fK hF 8 35 (by decide) rfl (by kernel_rfl) d8;clear cP bR;clear hF dP d3 d7 d8;have HFV9:=KD;have e30':=dI e30;have e34':=dI e34;have e35':=dI e35;have HD:=aa hD;have bD:=aa aM;clear hD aM;clear g3;clear g7;clear g8
     go_wp2_with fail
     refine bZ.mk _ (fun c hc=>by rw[<-dp hc,KD.o]) ?_ rfl;exact bD.o.other _ (by decide)
    ·have g2:=ap ⟨2,.data⟩ (by simp) rfl;have d2:=hv 2 _ (by omega) g2 rfl;have g9:=ap ⟨9,.data⟩ (by simp) rfl;have d9:=hv 9 _ (by omega) g9 rfl;clear ap hi hv;have e29:=fK hF 2 29 (by decide) rfl (by kernel_rfl) d2;have e36:=fK hF 9 36 (by decide) rfl (by kernel_rfl) d9;clear cP bR;clear hF dP d2 d9;have oL:=aM.bld;rw[hD]at oL;have Ee:=aa (show BldIs w0.heap.size b mb n st.1 W from oL);clear oL;have e29':=dI e29;have e36':=dI e36;have HD:=aa hD;have bD:=aa aM;clear hD aM;clear g2;clear g9
     go_wp2_with fail
     refine(LQ w0.heap.size b mb n st.1 (eE inp q) W Ee.o (by omega)).mono ?_;rintro e w9 ⟨rfl,dS,Ar⟩;have fy:=aa dS;have qZ:=aa Ar;clear dS Ar
     go_wp2_with fail
     refine bZ.mk _ gg ?_ rfl;exact bD.o.put _ qZ.o fy.o
   case tail=>
    intro x W' D F aU hv aM hF;have x0:=hv 0 _ (by omega) rfl;have x1:=hv 1 _ (by omega) rfl;have x2:=hv 2 _ (by omega) rfl;have x3:=hv 3 _ (by omega) rfl;have x4:=hv 4 _ (by omega) rfl;have x5:=hv 5 _ (by omega) rfl;have x6:=hv 6 _ (by omega) rfl;have x7:=hv 7 _ (by omega) rfl;have x8:=hv 8 _ (by omega) rfl;have x9:=hv 9 _ (by omega) rfl;have x10:=hv 10 _ (by omega) rfl;have oL:=aM.bld;rw[aU 10 (by omega)]at oL;have Ee:=aa (show BldIs w0.heap.size b mb n (putV st.1 (eE inp q)).1 W' from oL);have qZ:=aa aM.keep;have bQ:=qZ.o.keep _ _ _ _ vj.o (by decide);have jO:=aa bQ;have z1:=aE bQ q;have c1:=ab bQ q;rw[xI _ _ _ aB]at c1;have hltI:(q:Int)<(n:Int):=by omega
    simp only[bz,cT,List.setIfInBounds_toArray,List.set_cons_succ,List.set_cons_zero,Nat.reduceAdd,x0,x1,x2,x3,x4,x5,x6,x7,x8,x9,x10]at hF;subst hF;clear hv aU aM oL bQ x0 x1 x2 x3 x4 x5 x6 x7 x8 x9 x10;simp only[List.drop_succ_cons,List.drop_zero]
    go_wp2_with fail
    go_roundw
    ·
     refine⟨q+1,by omega,by go_num,(DW.o.trans qZ.o).setNew bX (Nat.le_refl _) _,?_,?_⟩
     ·rw[jR.o];exact Ee.o.set jO.o (by decide) _
     ·rw[jR.o,aF jO.o];have:=Ji n st.2 ((putV st.1 (eE inp q)).2:Nat) (by omega);rw[cC]at this;rw[this];rfl
    ·simp[intOf];omega
  ·obtain rfl:q=n:=by omega
   have aU:=fU (gy inp q) (tab,[]);change (addAll tab (gy inp q)).2.length=_/\(addAll tab (gy inp q)).1.length<=_ at aU;simp only[List.length_nil,List.length_map,List.length_range,Nat.zero_add]at aU;rw[List.take_of_length_le (by simp)]at hb hr
   have Hi:wr.heap[w.heap.size]?=some (.cells (bC (addAll tab (gy inp q)).2) 3):=by
    rw[hr,<-Jj,aU.1]
   have DW:=aa hk;have eo:=aa hb;have vj:=aa Hi;have nB:=aa aU;have Y5:=hk.old.size;clear hk hb hr Hi aU
   go_wp2_with fail
   refine bu (fun W=>KeepT bldT [mb] w0.heap.size w W/\BldIs w0.heap.size b mb q (playTo q inp word tab 0).1 W/\cU W w.heap.size (.slice (some ⟨wr.heap.size,0,none⟩) 1 1) (playTo q inp word tab 0).2/\W.heap[w.heap.size]?=some (.cells (bC ((playTo q inp word tab 0).2.getLastD [])) 3))
    ⟨DW.o.trans (.of_below _ (by go_grown) (by omega)),eo.o.up (by go_grown),⟨[.slice (some ⟨w.heap.size,0,none⟩) q q],⟨by simp[playTo],.inr ⟨wr.heap.size,1,_,(0,0),rfl,by omega,aq _ _,fun i _ h=>by have:=h.2;simp at this,by simp[playTo],by unfold maxLen;omega,by simp,by simp[playTo]⟩⟩,fun i hi=>by
     have cM:i=0:=by simp[playTo]at hi;omega
     subst cM;refine⟨_,rfl,?_⟩;have:=(LR vj.o nB.o.1 (Nat.le_refl w.heap.size) (by omega)).up (w':=wr.alloc (.cells #[.slice (some ⟨w.heap.size,0,none⟩) q q] 38)) (by go_grown)
     simpa[playTo,v7,nB.o.1] using this⟩,by simpa[playTo,v7] using ar _ vj.o⟩ (fun W1 cD=>?_)
   obtain⟨mm,aJ,eU,Me⟩:=cD;clear DW eo vj nB
   go_loopw [7,9,44] (fun nv ov i wr=>∃ k:Nat,k<=word.length/\i=.int .i64 k/\KeepT bldT [mb] w0.heap.size w wr/\BldIs w0.heap.size b mb q (playTo q inp word tab k).1 wr/\cU wr w.heap.size ov (playTo q inp word tab k).2/\∃ Bn,nv=.slice (some ⟨Bn,0,none⟩) q q/\wr.heap[Bn]?=some (.cells (bC ((playTo q inp word tab k).2.getLastD [])) 3)) (fun _ _ i _=>word.length - (intOf i).toNat)
   ·exact⟨0,by omega,rfl,mm,aJ,eU,_,rfl,Me⟩
   ·
    clear mm aJ eU Me;obtain⟨k,mL,rfl,hk,hb,hf,Bn,rfl,Hn⟩:=hrel;have ED:=aa hk;have cQ:=aa hb;have yO:=aa hf;have tp:=aa Hn;by_cases aB:k<word.length
    ·obtain⟨wrA,C5⟩:∃ x,x=wr:=⟨_,rfl⟩;subst C5;have eF:=iI q inp word tab k;have jR:am (playTo q inp word tab (k+1)=M2 q k (word.getD k default) (playTo q inp word tab k)):=aa rfl;obtain⟨b3,o3,rfl,⟨d0,_⟩,⟨d1,_⟩,⟨d2,_⟩,⟨d3,_⟩,⟨d4,_⟩,⟨d5,_⟩,⟨d6,_⟩⟩:=EW.o k aB;rw[aA default aB]at jR;generalize word[k]=r at d0 d1 d2 d3 d4 d5 d6 jR;have Ho:=KeepT.below9 H0.o hk (KeepT.refl (ms:=[mb]) bldT _ wrA)
     replace d0:=ak Ho d0
     replace d1:=ak Ho d1
     replace d2:=ak Ho d2
     replace d3:=ak Ho d3
     replace d4:=ak Ho d4
     replace d5:=ak Ho d5
     replace d6:=ak Ho d6
     obtain⟨vs',ly,_⟩:=hb.ex;have t1:=ab ly 0;have hbsz:=aC ly;simp at t1;have fT:=iP (fun _=>0) q (by omega)
     have Ka:(playTo q inp word tab k).1.length<=tab.length+40:=by
      have h9:q * (k+1)<=5 * (k+1):=Nat.mul_le_mul_right _ hn;omega
     have hzw:=hk.old.size;clear hk hb hf Hn Ho ly;generalize playTo q inp word tab k=st at cQ yO tp jR eF Ka;generalize qF:st.2.getLastD []=now at tp eF;have HNOW:=aa qF;clear qF;obtain⟨gc,iS,n'⟩:=eF
     go_wp2_with fail
     clear d0 d1 d2 d3 d4 d5 d6 t1 fT;refine bu (fun W=>KeepT bldT [mb] w0.heap.size wrA W/\BldIs w0.heap.size b mb q st.1 W/\W.heap[wrA.heap.size]?=some (.cells r.c 141)/\W.heap[wrA.heap.size+1]?=some (.cells (mu q []) 3)) ⟨.of_below _ (by go_grown) (by omega),cQ.o.up (by go_grown),ar _ (aq _ _),by rw[Jh];exact bd _ _ _⟩ (fun W1 cD=>?_);obtain⟨mm,aJ,Me,dL⟩:=cD
     go_loopw [56] (fun i wrB=>∃ p:Nat,p<=q/\i=.int .i64 p/\KeepT bldT [mb] w0.heap.size wrA wrB/\BldIs w0.heap.size b mb q (addAll st.1 ((fW q k r now).take p)).1 wrB/\wrB.heap[wrA.heap.size]?=some (.cells r.c 141)/\wrB.heap[wrA.heap.size+1]?=some (.cells (mu q (addAll st.1 ((fW q k r now).take p)).2) 3)) (fun i _=>q - (intOf i).toNat)
     ·exact⟨0,by omega,rfl,mm,aJ,Me,dL⟩
     ·
      clear mm aJ Me dL;obtain⟨p,hp,rfl,iA,bH,MK,yP⟩:=hrel;obtain⟨wrB,hwrB⟩:∃ x,x=wr:=⟨_,rfl⟩;subst hwrB;by_cases jI:p<q
      ·have KO:=aa (vF st.1 (fW q k r now) p (by simpa using jI));have cC:=(fU ((fW q k r now).take p) (st.1,[])).1;have oV:=(fU ((fW q k r now).take p) (st.1,[])).2;have RD:((fW q k r now).take p).length=p:=by simp;omega
       rw[Jk]at KO;change (addAll st.1 ((fW q k r now).take p)).2.length=_ at cC;change (addAll st.1 ((fW q k r now).take p)).1.length<=_ at oV;simp only[List.length_nil,RD,Nat.zero_add]at cC oV;have oP:=aa iA;have ef:=aa bH;have eT:=aa MK;have gN:=aa yP;clear RD;clear iA bH MK yP;generalize (addAll st.1 ((fW q k r now).take p))=st2 at KO cC oV ef gN
       go_wp2_with fail
       refine(Bz _).mono ?_;rintro e w9 ⟨rfl,dS⟩
       go_wp2_with fail
       refine bu (fun W=>Below w9.heap.size w9 W/\W.heap[w9.heap.size]?=some (.cells (sG q k r now p 0).c 190)) ⟨by go_grown,by rw[SP];exact aq _ _⟩ (fun W4 hW4=>?_);obtain⟨cj,hv4⟩:=hW4;have fy:=aa dS;clear dS
       go_loopw [66] (fun i wr=>∃ j:Nat,j<=q/\i=.int .i64 j/\Below w9.heap.size w9 wr/\wr.heap[w9.heap.size]?=some (.cells (sG q k r now p j).c 190)) (fun i _=>q - (intOf i).toNat)
       ·exact⟨0,by omega,rfl,cj,hv4⟩
       ·
        clear cj hv4;obtain⟨j,hj,rfl,dE,ML⟩:=hrel;have Hc:=aa ML;by_cases Yd:j<q
        ·have RN:=af (ae fy.o dE) eT.o;have tr:=Nu r p (by omega) wr _ _ RN;have iz:=af (ae fy.o dE) (oP.o.keep _ _ _ _ tp.o (by decide));have tn:=ab iz j;rw[Gg _ _ (by omega)]at tn
         obtain⟨x0,tv⟩:∃ x0,wr.cell? ⟨w9.heap.size,3+j,none⟩=some (.int .i64 x0):=by
          have h9:j=0\/j=1\/j=2\/j=3\/j=4:=by omega
          rcases h9 with h|h|h|h|h<;>subst h<;>exact⟨_,ab ML _⟩
         have zv:=aE ML (3+j);have hj5:(j:Int)<5:=by omega
         have Kq:(p:Int)<5:=by omega
         have gP:=rZ (r.g.hear p) j;have td:=dE.size;cases yL:hasB (r.g.hear p) j with
         | false=>
          rw[yL]at gP;have MT:=aa (WD q k r now p j yL);clear ML RN iz yL
          go_wp2_with fail
          go_roundw
          ·exact⟨j+1,by omega,by go_num,dE,by rw[MT.o];exact Hc.o⟩
          ·simp[intOf];omega
         | true=>
          rw[yL]at gP;have KP:=WE q k r now p j (by omega) yL;rw[aA 0 (by omega)]at KP;have MT:=aa KP;clear KP;clear ML RN iz yL
          go_wp2_with fail
          go_roundw
          ·exact⟨j+1,by omega,by go_num,dE.setCell (Nat.le_refl _) _,by rw[aF Hc.o,MT.o]⟩
          ·simp[intOf];omega
        ·obtain rfl:j=q:=by omega
         rw[WC]at Hc;generalize nextV j k r now p=vv at Hc KO;have tv:=ab Hc.o;have Ee:=aa (ef.o.up (ae fy.o dE));have zX:=aa (af (ae fy.o dE) gN.o);have yR:=aa (af (ae fy.o dE) eT.o);have hlpI:(p:Int)<(j:Int):=by omega
         have Vh:=oP.o.old.size;have RM:=fy.o.size;clear ML
         go_wp2_with fail
         refine(LQ w0.heap.size b mb j st2.1 vv wr Ee.o (by omega)).mono ?_;rintro e w10 ⟨rfl,pf,Og⟩;have CU:=aa (Og.keep _ _ _ _ zX.o (by decide));have HR10:=aa (Og.keep _ _ _ _ yR.o (by decide));have FQ:=aa pf;have HK10:=aa Og;have z1:=aE CU.o p;have c1:=ab CU.o p;rw[xI _ _ _ jI]at c1;clear pf Og tv
         go_wp2_with fail
         go_roundw
         ·
          refine⟨p+1,by omega,by go_num,((oP.o.trans (.of_below _ (ae fy.o dE) (by omega))).trans HK10.o).setNew (by omega) (by omega) _,?_,aK HR10.o (by omega) _ _,?_⟩
          ·rw[KO.o];exact FQ.o.set CU.o (by decide) _
          ·rw[KO.o,aF CU.o];have:=Ji j st2.2 ((putV st2.1 vv).2:Nat) (by omega);rw[cC]at this;rw[this];rfl
         ·simp[intOf];omega
      ·obtain rfl:p=q:=by omega
       have aU:=fU (fW p k r now) (st.1,[]);change (addAll st.1 (fW p k r now)).2.length=_/\(addAll st.1 (fW p k r now)).1.length<=_ at aU;simp only[List.length_nil,List.length_map,List.length_range,Nat.zero_add]at aU;rw[List.take_of_length_le (by simp)]at bH yP
       have TU:wrB.heap[wrA.heap.size+1]?=some (.cells (bC (addAll st.1 (fW p k r now)).2) 3):=by
        rw[yP,<-Jj,aU.1]
       have ra:am (playTo p inp word tab (k+1)=((addAll st.1 (fW p k r now)).1,st.2++[(addAll st.1 (fW p k r now)).2])):=aa (by rw[jR.o];unfold M2;rw[HNOW.o]);have hfB:=iA.fresh yO.o (by decide) (by decide);obtain⟨xs,rj,cW⟩:=hfB;obtain⟨a9,c9,rfl⟩:=rj.slice;generalize addAll st.1 (fW p k r now)=st3 at ra aU bH TU;have hA:Below wrB.heap.size wrB (wrB.alloc (.cells #[(Value.slice (some ⟨wrA.heap.size+1,0,none⟩) p p)] 38)):=by go_grown
       have dz:=aa (rj.up hA)
       have bU:∀ j u',[(Value.slice (some ⟨wrA.heap.size+1,0,none⟩) p p)][j]?=some u'->(wrB.alloc (.cells #[(Value.slice (some ⟨wrA.heap.size+1,0,none⟩) p p)] 38)).cell? (Addr.add ⟨wrB.heap.size,0,none⟩ j)=some u':=fun j u' hj=>by
        cases j with
        | zero=>simp at hj;subst hj;simp[Addr.add,ab (aq wrB _)]
        | succ j=>simp at hj
       have bA:=aa bU;have fZ:=aa cW;have oP:=aa iA;have ef:=aa bH;have gN:=aa TU;obtain⟨i0,cM,jl,jj,iR⟩:=info_parts Tryz.infoInts;have hzB:=iA.old.size;clear bU cW iA bH yP TU MK rj
       go_wp2_with (at_builtin;(refine aX _ rfl (.tmp 92) (.tmp 94) 56 rfl w.heap.size 38 i0 _ 1 24 Tryz.underlying56 cM jl jj iR rfl (by decide) _ st.2.length xs rfl dz.o ⟨wrB.heap.size,0,none⟩ 1 1 [(Value.slice (some ⟨wrA.heap.size+1,0,none⟩) p p)] rfl rfl bA.o (by simp[Value.oneCell']) (by unfold maxLen;omega) (by omega) (by simp;omega) ?_;intro v' w2 fX dC _))
       go_roundw
       ·
        have bQ:=af hA gN.o;refine⟨k+1,by omega,by go_num,((ED.o.trans oP.o).trans (.of_below _ hA (by omega))).grownNew bX (fun g e=>(dz.o.lt g e).1) dC,?_,?_,_,rfl,?_⟩
        ·rw[ra.o];exact(ef.o.up hA).grown dz.o (by decide) dC
        ·rw[ra.o];exact cB.snoc dz.o (fun i hi=>by obtain⟨y,q1,q2⟩:=fZ.o i hi;exact⟨y,q1,q2.up hA⟩) (by decide) (by rw[aU.1];exact LR bQ aU.1 (by omega) (by omega)) dC fX
        ·rw[ra.o,List.getLastD_concat];exact gx dC bQ (fun e=>dz.o.ne bQ (by decide) _ e rfl)
       ·simp[intOf];omega
    ·obtain rfl:k=word.length:=by omega
     obtain⟨xs,rj,_⟩:=hf;obtain⟨a9,c9,rfl⟩:=rj.slice;clear hk hb Hn rj
     go_wp2_with fail
     go_ret
     exact⟨_,rfl,yO.o,cQ.o,ED.o⟩
def ny(w:World) (k:Nat) (v:Value) (n:Nat) (xs:List Value):Prop:=
 ∃ a cap,v=.slice a n cap/\(a=none->n=0/\cap=0)/\xs.length=n * k/\(∀ j u,xs[j]?=some u->∃ b o,a=some ⟨b,o,none⟩/\w.cell? ⟨b,o+j,none⟩=some u)/\∀ u∈xs,u.oneCell'=true
theorem Dy{α:Type} {k:Nat} {R:World->Nat->Nat->α->Prop} {w:World} {v:Value} {l:List α} (h:fm k R w v l) (hk:0<k) (hR:∀ b o x j,R w b o x->j<k->∃ u,w.cell? ⟨b,o+j,none⟩=some u/\u.oneCell'=true):∃ xs,ny w k v l.length xs:=by
 obtain⟨a,cap,rfl,h1,h2,h3⟩:=h
 have key:∀ i:Fin (l.length * k),∃ u:Value,∃ b o,a=some ⟨b,o,none⟩/\w.cell? ⟨b,o+i.1,none⟩=some u/\u.oneCell'=true:=fun i=>by
  have hi:i.1 / k<l.length:=by rw[Nat.div_lt_iff_lt_mul hk];exact i.2
  obtain⟨b,o,ha,hr⟩:=h3 (i.1 / k) _ (List.getElem?_eq_getElem hi);obtain⟨u,hu,h1⟩:=hR b _ _ (i.1 % k) hr (Nat.mod_lt _ hk);refine⟨u,b,o,ha,?_,h1⟩;rw[<-hu];congr 2;have:=Nat.div_add_mod i.1 k;rw[Nat.mul_comm]at this;omega
 refine⟨List.ofFn fun i=>Classical.choose (key i),a,cap,rfl,fun e=>?_,by simp,fun j u hj=>?_,fun u hu=>?_⟩
 ·have:=h1.2.2 e;have:=h1.1;omega
 ·have hi:j<l.length * k:=by have:=(List.getElem?_eq_some_iff.1 hj).1;simpa using this
  have e:u=Classical.choose (key ⟨j,hi⟩):=by
   rw[List.getElem?_ofFn]at hj;simp[hi]at hj;exact hj.symm
  obtain⟨b,o,ha,hc,_⟩:=Classical.choose_spec (key ⟨j,hi⟩);exact⟨b,o,ha,by rw[e];exact hc⟩
 ·obtain⟨i,rfl⟩:=(List.mem_ofFn).1 hu;obtain⟨_,_,_,_,hs⟩:=Classical.choose_spec (key i);exact hs
theorem Dz{α:Type} {k:Nat} {R:World->Nat->Nat->α->Prop} {w:World} {b o:Nat} {l:List α} (h:nh k R w b o l):∃ u,w.cell? ⟨b,o,none⟩=some u/\u.oneCell'=true:=by
 obtain⟨v,hc,hs⟩:=h;exact⟨v,hc,Hx hs⟩
theorem Qf{w:World} {v:Value} {l:List Cs} (h:bS w v l):∃ xs,ny w 3 v l.length xs:=Dy h (by decide) fun b o x j hr hj=>by
 obtain⟨h0,h1,h2⟩:=hr;have:j=0\/j=1\/j=2:=by omega
 rcases this with rfl|rfl|rfl
 ·exact Dz h0
 ·exact Dz h1
 ·exact Dz h2
theorem Nv{w:World} {v:Value} {l:List (List Mv)} (h:bF w v l):∃ xs,ny w 1 v l.length xs:=Dy h (by decide) fun b o x j hr hj=>by
 obtain rfl:j=0:=by omega
 exact Dz hr
abbrev Mv.c(m:Mv):Array Value:=#[.int .i64 m.r.g.n,.int .i64 m.r.g.h0,.int .i64 m.r.g.h1,.int .i64 m.r.g.h2,.int .i64 m.r.g.h3,.int .i64 m.r.g.h4,.int .i64 m.r.f,.int .i64 m.to]
def fQ(xs:List Mv):List Value:=xs.flatMap fun m=>m.c.toList
theorem DA(xs:List Mv):(fQ xs).length=xs.length * 8:=by
 unfold fQ;induction xs with
 | nil=>rfl
 | cons x r ih=>rw[List.flatMap_cons,List.length_append,ih];simp;omega
theorem Qg{w:World} {v:Value} {l:List Mv} (h:p7 w v l):ny w 8 v l.length (fQ l):=by
 obtain⟨a,cap,rfl,h1,h2,h3⟩:=h;refine⟨a,cap,rfl,fun e=>?_,DA l,fun j u hu=>?_,fun u hu=>?_⟩
 ·have:=h1.2.2 e;have:=h1.1;omega
 ·have hj:=(List.getElem?_eq_some_iff.1 hu).1;rw[DA]at hj;obtain⟨i,s,hs,rfl⟩:∃ i s,s<8/\j=i * 8+s:=⟨j / 8,j % 8,by omega,by omega⟩;have hi:i<l.length:=by omega
  unfold fQ at hu;rw[qr Mv.c 8 (fun _=>rfl) l i s hi hs]at hu;obtain⟨b,o,ha,⟨⟨c0,_⟩,⟨c1,_⟩,⟨c2,_⟩,⟨c3,_⟩,⟨c4,_⟩,⟨c5,_⟩,⟨c6,_⟩⟩,⟨c7,_⟩⟩:=h3 i _ (List.getElem?_eq_getElem hi);refine⟨b,o,ha,?_⟩;rw[<-Nat.add_assoc];rcases (show s=0\/s=1\/s=2\/s=3\/s=4\/s=5\/s=6\/s=7 by omega) with rfl|rfl|rfl|rfl|rfl|rfl|rfl|rfl<;>(simp at hu;subst hu;first|exact c0|exact c1|exact c2|exact c3|exact c4|exact c5|exact c6|exact c7)
 ·obtain⟨m,_,hm⟩:=List.mem_flatMap.1 hu;simp at hm;rcases hm with h|h|h|h|h|h|h|h<;>subst h<;>rfl
theorem Gl{w:World} {base:Nat} {v:Value} {l:List Mv} (h:aH w base 143 8 v l.length (fQ l)) (hx:∀ m∈l,qz m.r/\bN m.to) (hn:l.length<=17592186044416):p7 w v l:=by
 have aU:=fun i (hi:i<l.length) j (u:Value) (hj:j<8) (hu:l[i].c[j]?=some u)=>h.cell (i * 8+j) u (by unfold fQ;rw[qr Mv.c 8 (fun _=>rfl) l i j hi hj];exact hu)
 rcases h.2 with ⟨hz,h0⟩|⟨g,cap,cur,fz,rfl,_,hg,_,kZ,jk,_⟩
 ·refine⟨none,0,by rw[hz,h0],⟨by omega,by omega,fun _=>rfl⟩,hn,fun i x hi=>?_⟩;have:=(List.getElem?_eq_some_iff.1 hi).1;omega
 ·refine⟨some ⟨g,0,none⟩,cap,rfl,⟨kZ,by simp only[maxLen]at jk;omega,fun e=>by cases e⟩,hn,fun i x hi=>⟨g,0,rfl,?_⟩⟩;obtain⟨gZ,rfl⟩:=List.getElem?_eq_some_iff.1 hi;obtain⟨⟨r0,r1,r2,r3,r4,r5,r6⟩,r7⟩:=hx _ (List.getElem_mem gZ)
  have key:∀ j u,j<8->l[i].c[j]?=some u->w.cell? ⟨g,0+i * 8+j,none⟩=some u:=fun j u hj hu=>by
   obtain⟨g',c',e1,e2⟩:=aU i gZ j u hj hu;have:g=g':=by simp at e1;exact e1.1
   rw[this,Nat.zero_add];exact e2
  exact⟨⟨⟨key 0 _ (by omega) rfl,r0⟩,⟨key 1 _ (by omega) rfl,r1⟩,⟨key 2 _ (by omega) rfl,r2⟩,⟨key 3 _ (by omega) rfl,r3⟩,⟨key 4 _ (by omega) rfl,r4⟩,⟨key 5 _ (by omega) rfl,r5⟩,⟨key 6 _ (by omega) rfl,r6⟩⟩,⟨key 7 _ (by omega) rfl,r7⟩⟩
theorem SQ{w:World} {v:Value} {l:List Mv} (h:p7 w v l):∀ m∈l,qz m.r/\bN m.to:=fun m hm=>by
 obtain⟨i,hi,rfl⟩:=List.getElem_of_mem hm;obtain⟨a,cap,rfl,_,_,e⟩:=h;obtain⟨b,o,ha,⟨⟨_,c0⟩,⟨_,c1⟩,⟨_,c2⟩,⟨_,c3⟩,⟨_,c4⟩,⟨_,c5⟩,⟨_,c6⟩⟩,⟨_,c7⟩⟩:=e i _ (List.getElem?_eq_getElem hi);exact⟨⟨c0,c1,c2,c3,c4,c5,c6⟩,c7⟩
theorem Tryz.infoCase:(Tryz.prog.info? 135).map (fun i=>(i.zero,i.size,i.bytes))=some (some (.agg #[.slice none 0 0,.slice none 0 0,.slice none 0 0]),3,72):=by kernel_rfl
theorem Tryz.infoMoves:(Tryz.prog.info? 136).map (fun i=>(i.zero,i.size,i.bytes))=some (some (.slice none 0 0),1,24):=by kernel_rfl
theorem Tryz.infoMove:(Tryz.prog.info? 143).map (fun i=>(i.zero,i.size,i.bytes))=some (some (.agg #[.int .i64 0,.int .i64 0,.int .i64 0,.int .i64 0,.int .i64 0,.int .i64 0,.int .i64 0,.int .i64 0]),8,64):=by kernel_rfl
theorem Fo(v:Value) (n:Nat) (xs:List Value) (w:World) (hv:ny w 3 v n xs) (hn:n<=1048576) :
  Calls Tryz.prog 194 #[v] w fun e w'=>∃ u,e=.returned u/\aH w' w.heap.size 135 3 u n xs/\Below w.heap.size w w':=by
 obtain⟨i0,hi,bX,bP,bY⟩:=info_parts Tryz.infoCase;obtain⟨a,cap,rfl,kl,iQ,hc,h1⟩:=hv;have kh:=fun w=>Lib.run_eql_slice_nil (P:=Tryz.prog) w 22
 cases a with
 | none=>
  obtain⟨rfl,rfl⟩:=kl rfl;have dj:xs=[]:=List.eq_nil_of_length_eq_zero (by omega);subst dj
  go_enter Tryz.func194,Tryz.ntmps194
  go_wp2_with fail
  go_ret
  exact⟨_,rfl,aH.nil _ _ _ _,Below.refl _ _⟩
 | some ad=>
  have bU:∀ j u,xs[j]?=some u->(w.alloc (.cells #[] 135)).cell? (ad.add j)=some u:=fun j u hj=>by
   obtain⟨b,o,e,eQ⟩:=hc j u hj;cases e;have:(Addr.add ⟨b,o,none⟩ j)=⟨b,o+j,none⟩:=by unfold Addr.add;split<;>simp_all
   rw[this];exact ak (by go_grown) eQ
  have aS:aH (w.alloc (.cells #[] 135)) w.heap.size 135 3 (.slice (some ⟨w.heap.size,0,none⟩) 0 0) 0 []:=⟨by simp,.inr ⟨w.heap.size,0,#[],(0,0),rfl,Nat.le_refl _,aq _ _,fun i hi=>by simp at hi,by omega,by simp[maxLen],by simp,by simp⟩⟩;have bA:=aa bU;have bG:=aa aS;have H1:=aa h1;have z':=aa iQ;clear bU aS kl hc h1 iQ
  go_enter Tryz.func194,Tryz.ntmps194
  go_wp2_with (at_builtin;(refine aX _ rfl (.tmp 5) (.tmp 6) 22 rfl w.heap.size 135 i0 _ 3 72 Tryz.underlying22 hi bX bP bY rfl (by decide) _ 0 [] rfl bG.o ad n cap xs rfl z'.o bA.o H1.o (by unfold maxLen;omega) (by omega) (by simp) ?_;intro v' w1 gU lY _;obtain⟨av',cv',rfl⟩:=gU.slice))
  go_ret
  rw[Nat.zero_add,List.nil_append]at gU;refine⟨_,rfl,by simpa using gU,Below.grown (w:=w.alloc (.cells #[] 135)) (by go_grown) lY (by simp) (fun k hk=>?_)⟩;cases hk;exact Nat.le_refl _
theorem DB(v:Value) (n:Nat) (xs:List Value) (w:World) (hv:ny w 1 v n xs) (hn:n<=1048576) :
  Calls Tryz.prog 197 #[v] w fun e w'=>∃ u,e=.returned u/\aH w' w.heap.size 136 1 u n xs/\Below w.heap.size w w':=by
 obtain⟨i0,hi,bX,bP,bY⟩:=info_parts Tryz.infoMoves;obtain⟨a,cap,rfl,kl,iQ,hc,h1⟩:=hv;have kh:=fun w=>Lib.run_eql_slice_nil (P:=Tryz.prog) w 25
 cases a with
 | none=>
  obtain⟨rfl,rfl⟩:=kl rfl;have dj:xs=[]:=List.eq_nil_of_length_eq_zero (by omega);subst dj
  go_enter Tryz.func197,Tryz.ntmps197
  go_wp2_with fail
  go_ret
  exact⟨_,rfl,aH.nil _ _ _ _,Below.refl _ _⟩
 | some ad=>
  have bU:∀ j u,xs[j]?=some u->(w.alloc (.cells #[] 136)).cell? (ad.add j)=some u:=fun j u hj=>by
   obtain⟨b,o,e,eQ⟩:=hc j u hj;cases e;have:(Addr.add ⟨b,o,none⟩ j)=⟨b,o+j,none⟩:=by unfold Addr.add;split<;>simp_all
   rw[this];exact ak (by go_grown) eQ
  have aS:aH (w.alloc (.cells #[] 136)) w.heap.size 136 1 (.slice (some ⟨w.heap.size,0,none⟩) 0 0) 0 []:=⟨by simp,.inr ⟨w.heap.size,0,#[],(0,0),rfl,Nat.le_refl _,aq _ _,fun i hi=>by simp at hi,by omega,by simp[maxLen],by simp,by simp⟩⟩;have bA:=aa bU;have bG:=aa aS;have H1:=aa h1;have z':=aa iQ;clear bU aS kl hc h1 iQ
  go_enter Tryz.func197,Tryz.ntmps197
  go_wp2_with (at_builtin;(refine aX _ rfl (.tmp 5) (.tmp 6) 25 rfl w.heap.size 136 i0 _ 1 24 Tryz.underlying25 hi bX bP bY rfl (by decide) _ 0 [] rfl bG.o ad n cap xs rfl z'.o bA.o H1.o (by unfold maxLen;omega) (by omega) (by simp) ?_;intro v' w1 gU lY _;obtain⟨av',cv',rfl⟩:=gU.slice))
  go_ret
  rw[Nat.zero_add,List.nil_append]at gU;refine⟨_,rfl,by simpa using gU,Below.grown (w:=w.alloc (.cells #[] 136)) (by go_grown) lY (by simp) (fun k hk=>?_)⟩;cases hk;exact Nat.le_refl _
theorem Fp(v:Value) (n:Nat) (xs:List Value) (w:World) (hv:ny w 8 v n xs) (hn:n<=1048576) :
  Calls Tryz.prog 198 #[v] w fun e w'=>∃ u,e=.returned u/\aH w' w.heap.size 143 8 u n xs/\Below w.heap.size w w':=by
 obtain⟨i0,hi,bX,bP,bY⟩:=info_parts Tryz.infoMove;obtain⟨a,cap,rfl,kl,iQ,hc,h1⟩:=hv;have kh:=fun w=>Lib.run_eql_slice_nil (P:=Tryz.prog) w 136
 cases a with
 | none=>
  obtain⟨rfl,rfl⟩:=kl rfl;have dj:xs=[]:=List.eq_nil_of_length_eq_zero (by omega);subst dj
  go_enter Tryz.func198,Tryz.ntmps198
  go_wp2_with fail
  go_ret
  exact⟨_,rfl,aH.nil _ _ _ _,Below.refl _ _⟩
 | some ad=>
  have bU:∀ j u,xs[j]?=some u->(w.alloc (.cells #[] 143)).cell? (ad.add j)=some u:=fun j u hj=>by
   obtain⟨b,o,e,eQ⟩:=hc j u hj;cases e;have:(Addr.add ⟨b,o,none⟩ j)=⟨b,o+j,none⟩:=by unfold Addr.add;split<;>simp_all
   rw[this];exact ak (by go_grown) eQ
  have aS:aH (w.alloc (.cells #[] 143)) w.heap.size 143 8 (.slice (some ⟨w.heap.size,0,none⟩) 0 0) 0 []:=⟨by simp,.inr ⟨w.heap.size,0,#[],(0,0),rfl,Nat.le_refl _,aq _ _,fun i hi=>by simp at hi,by omega,by simp[maxLen],by simp,by simp⟩⟩;have bA:=aa bU;have bG:=aa aS;have H1:=aa h1;have z':=aa iQ;clear bU aS kl hc h1 iQ
  go_enter Tryz.func198,Tryz.ntmps198
  go_wp2_with (at_builtin;(refine aX _ rfl (.tmp 5) (.tmp 6) 136 rfl w.heap.size 143 i0 _ 8 64 Tryz.underlying136 hi bX bP bY rfl (by decide) _ 0 [] rfl bG.o ad n cap xs rfl z'.o bA.o H1.o (by unfold maxLen;omega) (by omega) (by simp) ?_;intro v' w1 gU lY _;obtain⟨av',cv',rfl⟩:=gU.slice))
  go_ret
  rw[Nat.zero_add,List.nil_append]at gU;refine⟨_,rfl,by simpa using gU,Below.grown (w:=w.alloc (.cells #[] 143)) (by go_grown) lY (by simp) (fun k hk=>?_)⟩;cases hk;exact Nat.le_refl _
theorem uz(v:Value) (l:List (List Int)) (w:World) (hv:eD w v l) (hn:l.length<=1048576) (nV:∀ x∈l,x.length<=1099511627776) :
  Calls Tryz.prog 196 #[v] w fun e w'=>∃ u,e=.returned u/\cU w' w.heap.size u l/\Below w.heap.size w w':=by
 obtain⟨i0,hi,bX,bP,bY⟩:=info_parts Tryz.infoInts;obtain⟨p,cap,rfl,la1,la2,ea⟩:=hv.at;have EA:=aa ea;have tp:=aa nV;clear ea hv nV
 go_enter Tryz.func196,Tryz.ntmps196
 go_wp2_with fail
 go_loopw [3,8] (fun o i wr=>Below w.heap.size w wr/\∃ k:Nat,k<=l.length/\i=.int .i64 k/\cU wr w.heap.size o (l.take k)) (fun _ i _=>l.length - (intOf i).toNat)
 ·exact⟨Below.refl _ _,0,by omega,rfl,cB.nil _ _⟩
 ·
  obtain⟨az,k,hk,rfl,oW⟩:=hrel;have rQ:=aa oW;by_cases aB:k<l.length
  ·obtain⟨b1,o1,rfl,x,cx,hx⟩:=EA.o k aB;rw[Nat.mul_one]at cx;have d1:=ak az cx;have gz:=aa (tp.o _ (List.getElem_mem aB));have la:am (l.take (k+1)=l.take k++[l[k]]):=aa (List.take_succ_eq_append_getElem aB);generalize l[k]=y at hx gz la;have HX:=aa (hx.up up_int az);obtain⟨px,qx,rfl,_⟩:=hx;clear cx;obtain⟨xs,aS,kj⟩:=oW;have mL:(l.take k).length=k:=by simp;omega
   rw[mL]at aS;have bG:=aa aS;have yE:=aa kj;have VJ:=aa mL;obtain⟨ao,co,rfl⟩:=aS.slice;clear aS kj mL
   go_wp2_with fail
   refine(wj _ y wr HX.o gz.o).mono ?_;rintro e w1 ⟨u,rfl,hu,aJ⟩;obtain⟨au,cu,rfl⟩:=hu.slice;have yL:=ae az aJ;have hA:Below w1.heap.size w1 (w1.alloc (.cells #[(Value.slice au y.length cu)] 38)):=by go_grown
   have dz:=aa ((bG.o.up aJ).up hA)
   have bU:∀ j u',[(Value.slice au y.length cu)][j]?=some u'->(w1.alloc (.cells #[(Value.slice au y.length cu)] 38)).cell? (Addr.add ⟨w1.heap.size,0,none⟩ j)=some u':=fun j u' hj=>by
    cases j with
    | zero=>simp at hj;subst hj;simp[Addr.add,ab (aq w1 _)]
    | succ j=>simp at hj
   have bA:=aa bU;have HU:=aa hu;clear bU hu d1;have iy:=yL.size
   go_wp2_with (at_builtin;(refine aX _ rfl (.tmp 12) (.tmp 15) 56 rfl w.heap.size 38 i0 _ 1 24 Tryz.underlying56 hi bX bP bY rfl (by decide) _ k xs rfl dz.o ⟨w1.heap.size,0,none⟩ 1 1 [(Value.slice au y.length cu)] rfl rfl bA.o (by simp[Value.oneCell']) (by unfold maxLen;omega) (by omega) (by simp;omega) ?_;intro v' w2 fX dC _))
   go_roundw
   ·
    refine⟨Below.grown (w:=w1.alloc (.cells #[(Value.slice au y.length cu)] 38)) (yL.alloc iy _) dC (by simp;omega) (fun g hg=>(dz.o.lt g hg).1),k+1,by omega,by go_num,?_⟩;rw[la.o];exact cB.snoc (l:=l.take k) (by rw[VJ.o];exact dz.o) (fun i hi=>by obtain⟨z,q1,q2⟩:=yE.o i hi;exact⟨z,q1,(q2.up aJ).up hA⟩) (by decide) ((HU.o.base az.size).up hA) dC (by rw[VJ.o];exact fX)
   ·simp[intOf];omega
  ·obtain rfl:k=l.length:=by omega
   rw[List.take_length]at rQ oW;obtain⟨xs,aS,_⟩:=oW;obtain⟨ao,co,rfl⟩:=aS.slice;clear aS
   go_wp2_with fail
   go_ret
   exact⟨_,rfl,rQ.o,az⟩
def dZ(p:Pb):Int × Int:=
 if probE p≠0 then(0,probE p) else if (countedR 1048576 p.a p.rounds).2≠0 then(0,(countedR 1048576 p.a p.rounds).2)
 else if 1048576<(countedR 1048576 p.a p.rounds).1 * p.t.cases.length then(0,17) else((countedR 1048576 p.a p.rounds).1 * p.t.cases.length,0)
theorem Id(L:Int) (hL:0<=L) (a:Adv) (r:Int):0<=(countedR L a r).1/\(countedR L a r).1<=L:=by
 unfold countedR;have h:=(vZ hL (Cn hL a r.toNat) 0);change 0<=numberL L a r.toNat/\_ at h;split
 ·simp;omega
 ·split
  ·simp;omega
  ·split
   ·simp;omega
   ·simp;omega
theorem Ie(p:Pb) (vc vs:Value) (w:World) (hc:bS w vc p.t.cases) (hs:bF w vs p.a.states) (hN:movesN p.a.states<1099511627776) (bR:probE p=0->p.t.cases.length<=1048576) :
  Calls Tryz.prog 161 #[rE p vc vs] w fun e w'=>e=.returned (.tuple #[.int .i64 (dZ p).1,.int .i64 (dZ p).2])/\Below w.heap.size w w':=by
 have GC:=aa hc;have GS:=aa hs;obtain⟨pc,cc,rfl,_⟩:=hc.at;obtain⟨ps,cs,rfl,_⟩:=hs.at;clear hc hs;have HV:am (dZ p=if probE p≠0 then(0,probE p) else if (countedR 1048576 p.a p.rounds).2≠0 then(0,(countedR 1048576 p.a p.rounds).2) else if 1048576<(countedR 1048576 p.a p.rounds).1 * p.t.cases.length then(0,17) else((countedR 1048576 p.a p.rounds).1 * p.t.cases.length,0)):=by exact rfl
 go_enter Tryz.func161,Tryz.ntmps161
 go_wp2_with fail
 refine aN (fun W=>Below w.heap.size w W/\W.heap[w.heap.size]?=some (.cells #[.int .i64 p.t.n,.int .i64 p.t.ins,.int .i64 p.t.outs,.slice pc p.t.cases.length cc,.int .i64 p.a.n,.slice ps p.a.states.length cs,.int .i64 p.rounds] 29)) ⟨by go_grown,aq _ _⟩ (fun W0 aZ=>?_);obtain⟨aI,bI⟩:=aZ;refine(Ib p _ _ W0 (GC.o.up up_case aI) (GS.o.up up_moves aI) hN).mono ?_;rintro e w1 ⟨rfl,aJ⟩;have gB:=ae aI aJ;have eK:=af aJ bI;have t1:=ab eK;have kg:=aa bR;have db:=aa eK;clear eK bI bR;generalize probE p=et at HV kg;by_cases oZ:et=0
 case neg=>
  have Oi:(et != 0)=true:=by simpa using oZ
  have da:am (dZ p=(0,et)):=aa (by rw[HV.o,if_pos oZ]);clear HV
  go_wp2_with fail
  go_ret2
  refine⟨kJ ?_ ?_,gB⟩<;>rw[da.o]
 subst oZ;have bR:=kg.o rfl
 go_wp2_with fail
 refine(Jd p.a _ p.rounds w1 (GS.o.up up_moves gB) hN).mono ?_;rintro e w2 ⟨rfl,a8⟩;have kP:=ae gB a8;have t2:=ab (af a8 db.o);have rO:=Id 1048576 (by omega) p.a p.rounds;clear t1;generalize countedR 1048576 p.a p.rounds=cr at HV rO;obtain⟨c1,c2⟩:=cr;dsimp only at HV rO ⊢;by_cases jk:c2=0
 case neg=>
  have hc2':(c2 != 0)=true:=by simpa using jk
  have da:am (dZ p=(0,c2)):=aa (by rw[HV.o,if_neg (by simp),if_pos jk]);clear HV
  go_wp2_with fail
  go_ret2
  refine⟨kJ ?_ ?_,kP⟩<;>rw[da.o]
 subst jk;have hprod:0<=c1 * (p.t.cases.length:Int)/\c1 * (p.t.cases.length:Int)<=1048576 * 1048576:=⟨Int.mul_nonneg rO.1 (by omega),Int.mul_le_mul rO.2 (by omega) (by omega) (by omega)⟩;have lg:IntKind.i64.wrap (c1 * (p.t.cases.length:Int))=c1 * (p.t.cases.length:Int):=IntWalk.i64_in _ (by omega);by_cases hx:1048576<c1 * (p.t.cases.length:Int)
 ·have da:am (dZ p=(0,17)):=aa (by rw[HV.o,if_neg (by simp),if_neg (by simp),if_pos hx]);clear HV
  go_wp2_with fail
  go_ret2
  refine⟨kJ ?_ ?_,kP⟩<;>rw[da.o]
 ·have da:am (dZ p=(c1 * (p.t.cases.length:Int),0)):=aa (by rw[HV.o,if_neg (by simp),if_neg (by simp),if_neg hx]);clear HV
  go_wp2_with fail
  go_ret2
  refine⟨kJ ?_ ?_,kP⟩<;>rw[da.o]
def UJ(B:Nat):List Obj:=[iC [0,0],iC [0,0],.cells #[sV (B+1) 2] 38,iC [0,1],iC [0,0],iC [1,1],.cells #[sV (B+4) 2,sV (B+5) 2] 38,iC [1,1],iC [1,1],.cells #[sV (B+8) 2] 38,
 .cells #[sV B 2,sV (B+2) 1,.slice none 0 0,sV (B+3) 2,sV (B+6) 2,.slice none 0 0,sV (B+7) 2,sV (B+9) 1,.slice none 0 0] 135,.cells #[.int .i64 2,.int .i64 2,.int .i64 2,sV (B+10) 3] 24]
theorem Jl(w:World):eD w (.slice none 0 0) []:=⟨none,0,rfl,⟨by simp,by omega,fun _=>rfl⟩,by simp,fun i x hx=>by simp at hx⟩
theorem SR{B:Nat} {X:World} (g:∀ i o,(UJ B)[i]?=some o->X.heap[B+i]?=some o):bS X (sV (B+10) 3) ckCs:=by
 have t:=ab (g 10 _ rfl);refine⟨some ⟨B+10,0,none⟩,3,rfl,⟨by simp[ckCs],by omega,fun e=>by cases e⟩,by simp[ckCs],fun i x hx=>⟨B+10,0,rfl,?_⟩⟩;obtain⟨hi,rfl⟩:=List.getElem?_eq_some_iff.1 hx;rcases (show i=0\/i=1\/i=2 by simp[ckCs]at hi;omega) with rfl|rfl|rfl
 ·exact⟨⟨_,t 0,ib [0,0] (g 0 _ rfl) (by decide) (by decide)⟩,⟨_,t 1,zF (g 2 _ rfl) (ib [0,0] (g 1 _ rfl) (by decide) (by decide))⟩,⟨_,t 2,Jl _⟩⟩
 ·exact⟨⟨_,t 3,ib [0,1] (g 3 _ rfl) (by decide) (by decide)⟩,⟨_,t 4,P5 (g 6 _ rfl) (ib [0,0] (g 4 _ rfl) (by decide) (by decide)) (ib [1,1] (g 5 _ rfl) (by decide) (by decide))⟩,⟨_,t 5,Jl _⟩⟩
 ·exact⟨⟨_,t 6,ib [1,1] (g 7 _ rfl) (by decide) (by decide)⟩,⟨_,t 7,zF (g 9 _ rfl) (ib [1,1] (g 8 _ rfl) (by decide) (by decide))⟩,⟨_,t 8,Jl _⟩⟩
def nz(h:Int × Int):Mv:=⟨UH h,0⟩
theorem Jm(tmps:Array Value) (B:Nat) (W:World) (c0 c1 c2 c3 c4 c5 c6:Value) (h2:tmps[4]?.getD undef=.pointer (some ⟨B,0,none⟩))
  (hB:W.heap[B]?=some (.cells #[c0,c1,c2,c3,c4,c5,c6] 29)):(results Tryz.f36 tmps).run Tryz.prog W=.ok (.agg #[c0,c1,c2,c3,c4,c5,c6]) W:=by
 have t2:=ab hB;simp[results,Tryz.results36,go_sem,h2,t2]
theorem Qh(rounds:Int) (gs:List (Int × Int)) (n:Nat) (hl:gs.length=n) (hn:n<=100) (cW:∀ h∈gs,bN h.1/\bN h.2) (b:Nat) (w:World) (hb:∀ i (hi:i<gs.length),w.cell? ⟨b,i * 2,none⟩=some (.int .i64 gs[i].1)/\w.cell? ⟨b,i * 2+1,none⟩=some (.int .i64 gs[i].2)) :
  Calls Tryz.prog 36 #[.int .i64 rounds,.slice (some ⟨b,0,none⟩) n n] w fun r w'=>∃ vc vs,r=.returned (rE (rB rounds gs) vc vs)/\(∀ Wf:World,(∀ k,w.heap.size<=k->k<w'.heap.size->Wf.heap[k]?=w'.heap[k]?)->bS Wf vc (rB rounds gs).t.cases/\bF Wf vs (rB rounds gs).a.states)/\Below w.heap.size w w':=by
 obtain⟨i0,cM,bX,bP,bY⟩:=info_parts Tryz.infoMove;have bO:=aa (And.intro cM (And.intro bX (And.intro bP bY)));have HG:=aa hb;have HL:=aa hl
 have MH:am (∀ k (hk:k<gs.length),fQ ((gs.take (k+1)).map nz)=fQ ((gs.take k).map nz)++(nz gs[k]).c.toList):=aa fun k hk=>by
  rw[List.take_succ_eq_append_getElem hk,List.map_append];simp[fQ]
 have YP:am (fQ ((gs.take gs.length).map nz)=fQ (gs.map nz)):=aa (by rw[List.take_length])
 have fZ:am (∀ m∈gs.map nz,qz m.r/\bN m.to):=aa (fun m hm=>by
  obtain⟨h,hh,rfl⟩:=List.mem_map.1 hm;have z0:bN 0:=⟨by omega,by omega⟩
  exact⟨⟨⟨by simp[nz,UH],by simp[nz,UH]⟩,(cW h hh).1,(cW h hh).2,z0,z0,z0,z0⟩,z0⟩)
 clear cM bX bP bY hb hl cW
 go_enter Tryz.func36,Tryz.ntmps36
 go_wp2_with fail
 refine bu (fun W=>Below w.heap.size w W/\W.heap[w.heap.size]?=some (.cells #[.int .i64 0,.int .i64 0,.int .i64 0,.slice none 0 0,.int .i64 0,.slice none 0 0,.int .i64 0] 29)/\∀ i o,(UJ (w.heap.size+1))[i]?=some o->W.heap[w.heap.size+1+i]?=some o) ⟨by go_grown,Dt (UJ (w.heap.size+1)) (w.alloc _) (aq _ _),fun i o h=>by
  have:=Nn (UJ (w.heap.size+1)) (w.alloc (.cells #[.int .i64 0,.int .i64 0,.int .i64 0,.slice none 0 0,.int .i64 0,.slice none 0 0,.int .i64 0] 29)) i h;rw[World.size_alloc]at this
  exact this⟩ (fun W1 cD=>?_)
 have bK:=aa cD.1;have dg:=aa cD.2.1;have oT:=aa cD.2.2;have gc:=aC cD.2.1;have Kb:=aa (cD.2.2 11 _ rfl);have iS:=aC Kb.o;clear cD
 go_loopw [6,26] (fun o i wr=>∃ k:Nat,k<=n/\i=.int .i64 k/\Below W1.heap.size W1 wr/\aH wr W1.heap.size 143 8 o k (fQ ((gs.take k).map nz))) (fun _ i _=>n - (intOf i).toNat)
 ·exact⟨0,by omega,rfl,Below.refl _ _,aH.nil _ _ _ _⟩
 ·
  obtain⟨k,hk,rfl,az,aS⟩:=hrel;obtain⟨al,cl,rfl⟩:=aS.slice;have bG:=aa aS;have aP:=aa az;clear aS az;by_cases aB:k<n
  ·obtain⟨g1,g2⟩:=HG.o k (by rw[HL.o];exact aB);have cZ:=ae bK.o aP.o;have t1:=ak cZ g1;have t2:=ak cZ g2;have Hl:=MH.o k (by rw[HL.o];exact aB);generalize gs[k]'(by rw[HL.o];exact aB)=h at t1 t2 Hl;obtain⟨h1,h2⟩:=h;dsimp only at t1 t2;have Ey:am (fQ ((gs.take (k+1)).map nz)=fQ ((gs.take k).map nz)++[.int .i64 2,.int .i64 h1,.int .i64 h2,.int .i64 0,.int .i64 0,.int .i64 0,.int .i64 0,.int .i64 0]):=aa Hl;have Ad:Below wr.heap.size wr ((wr.alloc (.cells #[.int .i64 h1,.int .i64 h2] 92)).alloc (.cells #[.int .i64 2,.int .i64 h1,.int .i64 h2,.int .i64 0,.int .i64 0,.int .i64 0,.int .i64 0,.int .i64 0] 143)):=by go_grown
   have tb:=ab (aq wr (.cells #[.int .i64 h1,.int .i64 h2] 92));have sP:=aa Ad;have lZ:=aa (bG.o.up Ad);have bU:=dx (wr.alloc (.cells #[.int .i64 h1,.int .i64 h2] 92)) [.int .i64 2,.int .i64 h1,.int .i64 h2,.int .i64 0,.int .i64 0,.int .i64 0,.int .i64 0,.int .i64 0] 143;rw[World.size_alloc]at bU;have bA:=aa bU;have jT:am (k+1<=maxLen):=aa (by unfold maxLen;omega);have dD:am ((k+1) * 64<=140737488355328):=aa (by omega);have fH:am (W1.heap.size<=((wr.alloc (.cells #[.int .i64 h1,.int .i64 h2] 92)).alloc (.cells #[.int .i64 2,.int .i64 h1,.int .i64 h2,.int .i64 0,.int .i64 0,.int .i64 0,.int .i64 0,.int .i64 0] 143)).heap.size):=aa (by have:=aP.o.size;simp;omega);clear Hl Ad bU g1 g2 cZ
   go_wp2_with (at_builtin;(refine aX _ rfl (.tmp 30) (.tmp 39) 136 rfl W1.heap.size 143 i0 _ 8 64 Tryz.underlying136 bO.o.1 bO.o.2.1 bO.o.2.2.1 bO.o.2.2.2 rfl (by decide) _ k _ rfl lZ.o ⟨wr.heap.size+1,0,none⟩ 1 1 [.int .i64 2,.int .i64 h1,.int .i64 h2,.int .i64 0,.int .i64 0,.int .i64 0,.int .i64 0,.int .i64 0] rfl rfl bA.o (by simp[Value.oneCell']) jT.o dD.o fH.o ?_;intro v9 w9 eV du _))
   go_roundw
   ·
    refine⟨k+1,by omega,by go_num,Below.grown (ae aP.o sP.o) du fH.o (fun g hg=>(lZ.o.lt g hg).1),?_⟩;rw[Ey.o];exact eV
   ·simp[intOf];omega
  ·obtain rfl:k=n:=by omega
   have az:=aP.o;have dU:=aa (ar (.cells #[.slice al k cl] 136) (af az dg.o));have tT:=ab (ar (.cells #[.slice al k cl] 136) (af az Kb.o));have tT2:=ab (af az Kb.o);clear az
   go_wp2_with (refine wpList_store_row rfl 29 (.tmp 4) (.tmp 47) rfl w.heap.size #[.int .i64 2,.int .i64 2,.int .i64 2,sV (w.heap.size+1+10) 3,.int .i64 2,.slice (some ⟨wr.heap.size,0,none⟩) 1 1,.int .i64 rounds] rfl rfl 29 _ dU.o (by kernel_rfl) rfl (by simp[Value.oneCell']) ?_)
   have oR:Below W1.heap.size W1 (wr.alloc (.cells #[.slice al k cl] 136)):=aP.o.alloc aP.o.size _;have x':=below_setRow (ae bK.o oR) (Nat.le_refl _) #[.int .i64 2,.int .i64 2,.int .i64 2,sV (w.heap.size+1+10) 3,.int .i64 2,.slice (some ⟨wr.heap.size,0,none⟩) 1 1,.int .i64 rounds];have hRt:∀ q,q≠w.heap.size->((wr.alloc (.cells #[.slice al k cl] 136)).setRow w.heap.size #[.int .i64 2,.int .i64 2,.int .i64 2,sV (w.heap.size+1+10) 3,.int .i64 2,.slice (some ⟨wr.heap.size,0,none⟩) 1 1,.int .i64 rounds]).heap[q]?=(wr.alloc (.cells #[.slice al k cl] 136)).heap[q]?:=fun _ hk=>setRow_other _ _ _ _ hk
   refine bodyPost_ret (Jm _ w.heap.size _ _ _ _ _ _ _ _ rfl (setRow_heap _ _ _ _ _ _ dU.o)) rfl ⟨sV (w.heap.size+1+10) 3,.slice (some ⟨wr.heap.size,0,none⟩) 1 1,rfl,fun Wf Kf=>?_,x'⟩;have fk:(wr.alloc (.cells #[.slice al k cl] 136)).heap.size<=((wr.alloc (.cells #[.slice al k cl] 136)).setRow w.heap.size #[.int .i64 2,.int .i64 2,.int .i64 2,sV (w.heap.size+1+10) 3,.int .i64 2,.slice (some ⟨wr.heap.size,0,none⟩) 1 1,.int .i64 rounds]).heap.size:=(below_setRow (Below.refl w.heap.size _) (Nat.le_refl _) _).size;have EH:∀ g o,w.heap.size<g->(wr.alloc (.cells #[.slice al k cl] 136)).heap[g]?=some o->Wf.heap[g]?=some o:=fun g o hg ho=>(Kf g (by omega) (Nat.lt_of_lt_of_le (aC ho) fk)).trans ((setRow_other _ _ _ _ (by omega)).trans ho)
   have tz:=aP.o.size;refine⟨SR fun i o h=>EH _ _ (by omega) (af oR (oT.o i o h)),?_⟩
   have hm:p7 Wf (.slice al k cl) (gs.map nz):=by
    have h1:=bG.o;have e1:fQ ((gs.take k).map nz)=fQ (gs.map nz):=by rw[<-YP.o,HL.o]
    rw[e1]at h1;have h2:=h1.keep (w':=Wf) (fun g o hg ho=>EH g o (by have:=(h1.lt g hg).1;omega) (ar _ ho));refine Gl (l:=gs.map nz) (base:=W1.heap.size) (by rw[List.length_map,HL.o];exact h2) fZ.o (by rw[List.length_map,HL.o];omega)
   exact zF (EH _ _ (by omega) (aq _ _)) hm
theorem ST{w:World} {v:Value} {l:List Cs} {xs:List Value} (h:bS w v l) (hr:ny w 3 v l.length xs) (i:Nat) (hi:i<l.length) :
  ∃ a b c,xs[i * 3]?=some a/\xs[i * 3+1]?=some b/\xs[i * 3+2]?=some c/\aT w a l[i].inp/\eD w b l[i].out/\eD w c l[i].calm:=by
 obtain⟨p,cap,rfl,_,iQ,hc,_⟩:=hr;obtain⟨p',cap',e,_,_,h3⟩:=h;cases e;obtain⟨b,o,rfl,⟨a0,q0,r0⟩,⟨a1,q1,r1⟩,⟨a2,q2,r2⟩⟩:=h3 i _ (List.getElem?_eq_getElem hi)
 have key:∀ s u,s<3->w.cell? ⟨b,o+i * 3+s,none⟩=some u->xs[i * 3+s]?=some u:=fun s u hs hu=>by
  have aB:i * 3+s<xs.length:=by omega
  obtain⟨b',o',e,hq⟩:=hc (i * 3+s) xs[i * 3+s] (List.getElem?_eq_getElem aB);cases e;rw[<-Nat.add_assoc,hu]at hq;rw[List.getElem?_eq_getElem aB,<-dp hq]
 exact⟨a0,a1,a2,key 0 _ (by omega) q0,key 1 _ (by omega) q1,key 2 _ (by omega) q2,r0,r1,r2⟩
theorem Qi{w:World} {v:Value} {l:List (List Mv)} {xs:List Value} (h:bF w v l) (hr:ny w 1 v l.length xs) (i:Nat) (hi:i<l.length):∃ a,xs[i]?=some a/\p7 w a l[i]:=by
 obtain⟨p,cap,rfl,_,iQ,hc,_⟩:=hr;obtain⟨p',cap',e,_,_,h3⟩:=h;cases e;obtain⟨b,o,rfl,a0,q0,r0⟩:=h3 i _ (List.getElem?_eq_getElem hi);refine⟨a0,?_,r0⟩;have aB:i<xs.length:=by omega
 obtain⟨b',o',e,hq⟩:=hc i xs[i] (List.getElem?_eq_getElem aB);cases e;rw[Nat.mul_one]at q0;rw[q0]at hq;rw[List.getElem?_eq_getElem aB,<-dp hq]
def WF(W:World) (base:Nat) (cur:Array Value) (i:Nat) (c:Cs):Prop:=
 ∃ a b d,cur[i * 3]?=some a/\cur[i * 3+1]?=some b/\cur[i * 3+2]?=some d/\aH W base 3 1 a c.inp.length (c.inp.map (Value.int .i64))/\cU W base b c.out/\cU W base d c.calm
structure CaseRow (base g cap:Nat) (raw:List Value) (cs:List Cs) (k:Nat) (W:World):Prop where
 lo:base<=g
 fit:cs.length<=cap/\cap<=maxLen
 row:∃ cur fz,W.heap[g]?=some (.cells cur 135 fz)/\(∀ i,i<cur.size->¬ (fz.1<=i/\i<fz.2))/\cur.size=cap * 3/\(∀ i (hi:i<cs.length),i<k->WF W base cur i cs[i])/\∀ j,k * 3<=j->j<cs.length * 3->cur[j]?=raw[j]?
theorem cB.setT{α:Type} {to ti:TypeId} {k:Nat} {flat:List α->List Value} {w:World} {base:Nat} {v:Value} {l:List (List α)} {B:Nat} {cs:Array Value} {t:TypeId} {f:Nat × Nat} (h:cB to ti k flat w base v l) (hB:w.heap[B]?=some (.cells cs t f)) (h1:to≠t) (h2:ti≠t) (o:Nat) (x:Value):cB to ti k flat (w.setCell ⟨B,o,none⟩ x) base v l:=by
 obtain⟨xs,q1,q2⟩:=h;exact⟨xs,q1.put (fun g e=>q1.ne hB h1 g e) _ _,fun i hi=>by obtain⟨y,p1,p2⟩:=q2 i hi;exact⟨y,p1,p2.put (fun g e=>p2.ne hB h2 g e) _ _⟩⟩
theorem CaseRow.up{base g cap:Nat} {raw:List Value} {cs:List Cs} {k:Nat} {W W':World} (h:CaseRow base g cap raw cs k W) (hb:Below W.heap.size W W'):CaseRow base g cap raw cs k W':=by
 obtain⟨cur,fz,q1,q2,q3,q4,q5⟩:=h.row;exact⟨h.lo,h.fit,cur,fz,af hb q1,q2,q3,fun i hi hk=>by obtain⟨a,b,d,p1,p2,p3,p4,p5,p6⟩:=q4 i hi hk;exact⟨a,b,d,p1,p2,p3,p4.up hb,p5.up hb,p6.up hb⟩,q5⟩
theorem CaseRow.put{base g cap:Nat} {raw:List Value} {cs:List Cs} {k:Nat} {W:World} (h:CaseRow base g cap raw cs k W) (hk:k<cs.length) {a b d:Value} (h1:aH W base 3 1 a cs[k].inp.length (cs[k].inp.map (Value.int .i64))) (h2:cU W base b cs[k].out) (h3:cU W base d cs[k].calm) :
  CaseRow base g cap raw cs (k+1) (((W.setCell ⟨g,k * 3,none⟩ a).setCell ⟨g,k * 3+1,none⟩ b).setCell ⟨g,k * 3+2,none⟩ d):=by
 obtain⟨cur,fz,q1,q2,q3,q4,q5⟩:=h.row;have e1:=aF q1 (k * 3) a;have e2:=aF e1 (k * 3+1) b;have e3:=aF e2 (k * 3+2) d
 have ko:∀ {x:Value} {n:Nat} {xs:List Value},aH W base 3 1 x n xs->aH (((W.setCell ⟨g,k * 3,none⟩ a).setCell ⟨g,k * 3+1,none⟩ b).setCell ⟨g,k * 3+2,none⟩ d) base 3 1 x n xs:=fun hq=>
  have w1:=hq.put (fun g' e=>hq.ne q1 (by decide) g' e) (k * 3) a;have w2:=w1.put (fun g' e=>w1.ne e1 (by decide) g' e) (k * 3+1) b
  w2.put (fun g' e=>w2.ne e2 (by decide) g' e) (k * 3+2) d
 have kf:∀ {x:Value} {l:List (List Int)},cU W base x l->cU (((W.setCell ⟨g,k * 3,none⟩ a).setCell ⟨g,k * 3+1,none⟩ b).setCell ⟨g,k * 3+2,none⟩ d) base x l:=fun hq=>
  ((hq.setT q1 (by decide) (by decide) _ _).setT e1 (by decide) (by decide) _ _).setT e2 (by decide) (by decide) _ _
 have fk:k * 3+2<cur.size:=by have:=h.fit.1;omega
 refine⟨h.lo,h.fit,_,fz,e3,fun i hi=>q2 i (by simpa using hi),by simpa using q3,fun i hi kY=>?_,fun j hj Hh=>?_⟩
 ·by_cases aB:i<k
  ·obtain⟨x,y,z,p1,p2,p3,p4,p5,p6⟩:=q4 i hi aB;refine⟨x,y,z,?_,?_,?_,ko p4,kf p5,kf p6⟩
   ·rw[Array.getElem?_setIfInBounds_ne (by omega),Array.getElem?_setIfInBounds_ne (by omega),Array.getElem?_setIfInBounds_ne (by omega)];exact p1
   ·rw[Array.getElem?_setIfInBounds_ne (by omega),Array.getElem?_setIfInBounds_ne (by omega),Array.getElem?_setIfInBounds_ne (by omega)];exact p2
   ·rw[Array.getElem?_setIfInBounds_ne (by omega),Array.getElem?_setIfInBounds_ne (by omega),Array.getElem?_setIfInBounds_ne (by omega)];exact p3
  ·obtain rfl:i=k:=by omega
   refine⟨a,b,d,?_,?_,?_,ko h1,kf h2,kf h3⟩
   ·rw[Array.getElem?_setIfInBounds_ne (by omega),Array.getElem?_setIfInBounds_ne (by omega),Array.getElem?_setIfInBounds_self_of_lt (by omega)]
   ·rw[Array.getElem?_setIfInBounds_ne (by omega),Array.getElem?_setIfInBounds_self_of_lt (by simp;omega)]
   ·rw[Array.getElem?_setIfInBounds_self_of_lt (by simp;omega)]
 ·rw[Array.getElem?_setIfInBounds_ne (by omega),Array.getElem?_setIfInBounds_ne (by omega),Array.getElem?_setIfInBounds_ne (by omega)];exact q5 j (by omega) Hh
theorem oF{W:World} {base:Nat} {v:Value} {l:List (List Int)} (h:cU W base v l) (hr:∀ x∈l,∀ y∈x,bN y) (hn:l.length<=1048576) (nV:∀ x∈l,x.length<=1048576):eD W v l:=
 cB.sl h (fun x a ha ho=>fI ho (hr a ha) (by have:=nV a ha;omega)) (by omega)
theorem xJ{w:World} {v:Value} {l:List Cs} (h:bS w v l):∀ c∈l,(∀ y∈c.inp,bN y)/\(∀ x∈c.out,∀ y∈x,bN y)/\∀ x∈c.calm,∀ y∈x,bN y:=fun c hc=>by
 have hv:∀ {b o:Nat} {q:List (List Int)},vV w b o q->∀ x∈q,∀ y∈x,bN y:=fun {b o q} hq x hx=>by
  obtain⟨u,_,p,cap,rfl,_,_,e⟩:=hq;obtain⟨i,hi,rfl⟩:=List.getElem_of_mem hx;obtain⟨_,_,_,u2,_,h2⟩:=e i _ (List.getElem?_eq_getElem hi);exact IX h2
 obtain⟨i,hi,rfl⟩:=List.getElem_of_mem hc;obtain⟨p,cap,rfl,_,_,e⟩:=h;obtain⟨_,_,_,⟨_,_,h0⟩,h1,h2⟩:=e i _ (List.getElem?_eq_getElem hi);exact⟨IX h0,hv h1,hv h2⟩
theorem CaseRow.done{base g cap:Nat} {raw:List Value} {t:Tk} {k:Nat} {W:World} (h:CaseRow base g cap raw t.cases k W) (hk:t.cases.length<=k) (ht:taskE t=0) (cW:∀ c∈t.cases,(∀ y∈c.inp,bN y)/\(∀ x∈c.out,∀ y∈x,bN y)/\∀ x∈c.calm,∀ y∈x,bN y):bS W (.slice (some ⟨g,0,none⟩) t.cases.length cap) t.cases:=by
 obtain⟨cur,fz,q1,q2,q3,q4,q5⟩:=h.row;obtain⟨⟨_,gK⟩,_,_,⟨_,hl⟩,gC⟩:=fB ht;have hf:=h.fit;refine⟨some ⟨g,0,none⟩,cap,rfl,⟨hf.1,by have:=hf.2;unfold maxLen at this;omega,fun e=>by cases e⟩,by omega,fun i x hx=>⟨g,0,rfl,?_⟩⟩;obtain⟨hi,rfl⟩:=List.getElem?_eq_some_iff.1 hx;obtain⟨a,b,d,p1,p2,p3,p4,p5,p6⟩:=q4 i hi (by omega);obtain⟨r1,r2,r3⟩:=cW _ (List.getElem_mem hi);have ho:=gC _ (List.getElem_mem hi);rw[Nat.zero_add];have c1:=ho.inp;have c2:=ho.out2;have c3:=ho.calm;refine⟨⟨a,(ab q1 _).trans p1,fI p4 r1 (by omega)⟩,⟨b,(ab q1 _).trans p2,oF p5 r2 (by omega) (fun x hx=>by have:=ho.outs x hx;omega)⟩,⟨d,(ab q1 _).trans p3,oF p6 r3 (by omega) (fun x hx=>by have:=ho.outs x (ho.calms x hx);omega)⟩⟩
structure StateRow (base g cap:Nat) (raw:List Value) (l:List (List Mv)) (k:Nat) (W:World):Prop where
 lo:base<=g
 fit:l.length<=cap/\cap<=maxLen
 row:∃ cur fz,W.heap[g]?=some (.cells cur 136 fz)/\(∀ i,i<cur.size->¬ (fz.1<=i/\i<fz.2))/\cur.size=cap/\(∀ i (hi:i<l.length),i<k->∃ a,cur[i]?=some a/\aH W base 143 8 a l[i].length (fQ l[i]))/\∀ j,k<=j->j<l.length->cur[j]?=raw[j]?
theorem StateRow.up{base g cap:Nat} {raw:List Value} {l:List (List Mv)} {k:Nat} {W W':World} (h:StateRow base g cap raw l k W) (hb:Below W.heap.size W W'):StateRow base g cap raw l k W':=by
 obtain⟨cur,fz,q1,q2,q3,q4,q5⟩:=h.row;exact⟨h.lo,h.fit,cur,fz,af hb q1,q2,q3,fun i hi hk=>by obtain⟨a,p1,p2⟩:=q4 i hi hk;exact⟨a,p1,p2.up hb⟩,q5⟩
theorem StateRow.put{base g cap:Nat} {raw:List Value} {l:List (List Mv)} {k:Nat} {W:World} (h:StateRow base g cap raw l k W) (hk:k<l.length) {a:Value} (h1:aH W base 143 8 a l[k].length (fQ l[k])):StateRow base g cap raw l (k+1) (W.setCell ⟨g,k,none⟩ a):=by
 obtain⟨cur,fz,q1,q2,q3,q4,q5⟩:=h.row;have fk:k<cur.size:=by have:=h.fit.1;omega
 refine⟨h.lo,h.fit,_,fz,aF q1 k a,fun i hi=>q2 i (by simpa using hi),by simpa using q3,fun i hi kY=>?_,fun j hj Hh=>?_⟩
 ·by_cases aB:i<k
  ·obtain⟨x,p1,p2⟩:=q4 i hi aB;exact⟨x,by rw[Array.getElem?_setIfInBounds_ne (by omega)];exact p1,p2.put (fun g' e=>p2.ne q1 (by decide) g' e) _ _⟩
  ·obtain rfl:i=k:=by omega
   exact⟨a,by rw[Array.getElem?_setIfInBounds_self_of_lt (by omega)],h1.put (fun g' e=>h1.ne q1 (by decide) g' e) _ _⟩
 ·rw[Array.getElem?_setIfInBounds_ne (by omega)];exact q5 j (by omega) Hh
theorem StateRow.done{base g cap:Nat} {raw:List Value} {l:List (List Mv)} {k:Nat} {W:World} (h:StateRow base g cap raw l k W) (hk:l.length<=k) (hl:l.length<=256) (nW:∀ x∈l,x.length<=1048576) (cW:∀ x∈l,∀ m∈x,qz m.r/\bN m.to):bF W (.slice (some ⟨g,0,none⟩) l.length cap) l:=by
 obtain⟨cur,fz,q1,q2,q3,q4,q5⟩:=h.row;have hf:=h.fit;refine⟨some ⟨g,0,none⟩,cap,rfl,⟨hf.1,by have:=hf.2;unfold maxLen at this;omega,fun e=>by cases e⟩,by omega,fun i x hx=>⟨g,0,rfl,?_⟩⟩;obtain⟨hi,rfl⟩:=List.getElem?_eq_some_iff.1 hx;obtain⟨a,p1,p2⟩:=q4 i hi (by omega);rw[Nat.zero_add,Nat.mul_one];exact⟨a,(ab q1 _).trans p1,Gl p2 (cW _ (List.getElem_mem hi)) (by have:=nW _ (List.getElem_mem hi);omega)⟩
theorem Nw{w:World} {v:Value} {l:List (List Mv)} (h:bF w v l):∀ x∈l,∀ m∈x,qz m.r/\bN m.to:=fun x hx=>by
 obtain⟨i,hi,rfl⟩:=List.getElem_of_mem hx;obtain⟨p,cap,rfl,_,_,e⟩:=h;obtain⟨_,_,_,u,_,hu⟩:=e i _ (List.getElem?_eq_getElem hi);exact SQ hu
theorem Below.trans3{w a b c:World} (h1:Below w.heap.size w a) (h2:Below a.heap.size a b) (h3:Below b.heap.size b c):Below w.heap.size w c:=ae h1 (ae h2 h3)
theorem cB.lower9{α:Type} {to ti:TypeId} {k:Nat} {flat:List α->List Value} {w:World} {base b:Nat} {v:Value} {l:List (List α)} (h:cB to ti k flat w base v l) (hb:b<=base):cB to ti k flat w b v l:=by
 obtain⟨xs,q1,q2⟩:=h;exact⟨xs,q1.base hb,fun i hi=>by obtain⟨x,p1,p2⟩:=q2 i hi;exact⟨x,p1,p2.base hb⟩⟩
abbrev zPb:Array Value:=#[.int .i64 0,.int .i64 0,.int .i64 0,.slice none 0 0,.int .i64 0,.slice none 0 0,.int .i64 0]
theorem aH.from{w w':World} {base sz:Nat} {e:TypeId} {v:Value} {n:Nat} {xs:List Value} (h:aH w base e sz v n xs) (hk:∀ k o,base<=k->w.heap[k]?=some o->w'.heap[k]?=some o):aH w' base e sz v n xs:=
 h.keepT fun g o e1 e2=>hk g o (h.lt g e1).1 e2
theorem cB.from{α:Type} {to ti:TypeId} {k:Nat} {flat:List α->List Value} {w w':World} {base:Nat} {v:Value} {l:List (List α)} (h:cB to ti k flat w base v l) (hk:∀ k o,base<=k->w.heap[k]?=some o->w'.heap[k]?=some o):cB to ti k flat w' base v l:=by
 obtain⟨xs,q1,q2⟩:=h;exact⟨xs,q1.from hk,fun i hi=>by obtain⟨x,p1,p2⟩:=q2 i hi;exact⟨x,p1,p2.from hk⟩⟩
theorem CaseRow.from{base g cap:Nat} {raw:List Value} {cs:List Cs} {k:Nat} {W W':World} (h:CaseRow base g cap raw cs k W) (hk:∀ k o,base<=k->W.heap[k]?=some o->W'.heap[k]?=some o):CaseRow base g cap raw cs k W':=by
 obtain⟨cur,fz,q1,q2,q3,q4,q5⟩:=h.row;exact⟨h.lo,h.fit,cur,fz,hk _ _ h.lo q1,q2,q3,fun i hi kY=>by obtain⟨a,b,d,p1,p2,p3,p4,p5,p6⟩:=q4 i hi kY;exact⟨a,b,d,p1,p2,p3,p4.from hk,p5.from hk,p6.from hk⟩,q5⟩
theorem StateRow.from{base g cap:Nat} {raw:List Value} {l:List (List Mv)} {k:Nat} {W W':World} (h:StateRow base g cap raw l k W) (hk:∀ k o,base<=k->W.heap[k]?=some o->W'.heap[k]?=some o):StateRow base g cap raw l k W':=by
 obtain⟨cur,fz,q1,q2,q3,q4,q5⟩:=h.row;exact⟨h.lo,h.fit,cur,fz,hk _ _ h.lo q1,q2,q3,fun i hi kY=>by obtain⟨a,p1,p2⟩:=q4 i hi kY;exact⟨a,p1,p2.from hk⟩,q5⟩
theorem CaseRow.keep{base g cap:Nat} {raw:List Value} {cs:List Cs} {k:Nat} {W W':World} {ts:List TypeId} {ms:List Nat} {b:Nat} (h:CaseRow base g cap raw cs k W) (hk:KeepT ts ms b W W') (h1:135∉ts) (h2:3∉ts) (h3:38∉ts):CaseRow base g cap raw cs k W':=by
 obtain⟨cur,fz,q1,q2,q3,q4,q5⟩:=h.row;exact⟨h.lo,h.fit,cur,fz,hk.keep _ _ _ _ q1 h1,q2,q3,fun i hi kY=>by obtain⟨a,b,d,p1,p2,p3,p4,p5,p6⟩:=q4 i hi kY;exact⟨a,b,d,p1,p2,p3,hk.own p4 h2,hk.fresh p5 h3 h2,hk.fresh p6 h3 h2⟩,q5⟩
theorem StateRow.keep{base g cap:Nat} {raw:List Value} {l:List (List Mv)} {k:Nat} {W W':World} {ts:List TypeId} {ms:List Nat} {b:Nat} (h:StateRow base g cap raw l k W) (hk:KeepT ts ms b W W') (h1:136∉ts) (h2:143∉ts):StateRow base g cap raw l k W':=by
 obtain⟨cur,fz,q1,q2,q3,q4,q5⟩:=h.row;exact⟨h.lo,h.fit,cur,fz,hk.keep _ _ _ _ q1 h1,q2,q3,fun i hi kY=>by obtain⟨a,p1,p2⟩:=q4 i hi kY;exact⟨a,p1,hk.own p2 h2⟩,q5⟩
def WG(base:Nat) (l:List Mv):MP:=⟨fun x W=>aH W base 143 8 x l.length (fQ l),fun _ _ _ h hb=>h.up hb⟩
theorem List.single_le_sum9(l:List Nat) (x:Nat) (h:x∈l):x<=l.sum:=by
 induction l with
 | nil=>simp at h
 | cons a r ih=>
  rw[List.sum_cons];rcases List.mem_cons.1 h with rfl|h
  ·omega
  ·have:=ih h;omega
theorem Jn(l:List (List Mv)) (k:Nat) (h:k<l.length):l[k].length<=movesN l:=by
 unfold movesN;exact List.single_le_sum9 (l.map List.length) _ (List.mem_map.2 ⟨_,List.getElem_mem h,rfl⟩)
theorem si{W:World} {g:Nat} {cur:Array Value} {t:TypeId} {fz:Nat × Nat} (h:W.heap[g]?=some (.cells cur t fz)) (hf:∀ i,i<cur.size->¬ (fz.1<=i/\i<fz.2)) (o:Nat) (ho:o<cur.size):W.frozen? ⟨g,o,none⟩=false:=by
 simp only[World.frozen?,h];have:=hf o ho;simpa using this
def Xy(base:Nat) (l:List Int):MP:=⟨fun x W=>aH W base 3 1 x l.length (l.map (Value.int .i64)),fun _ _ _ h hb=>h.up hb⟩
def Qj(base:Nat) (l:List (List Int)):MP:=⟨fun x W=>cU W base x l,fun _ _ _ h hb=>h.up hb⟩
def Qk(base:Nat) (c:Cs):MP:=⟨fun x W=>∃ a b d,x=.agg #[a,b,d]/\aH W base 3 1 a c.inp.length (c.inp.map (Value.int .i64))/\cU W base b c.out/\cU W base d c.calm,fun _ _ _ h hb=>by obtain⟨a,b,d,h1,h2,h3,h4⟩:=h;exact⟨a,b,d,h1,h2.up hb,h3.up hb,h4.up hb⟩⟩
theorem Ql{base:Nat} {c:Cs} {W:World} {a b d:Value} (h2:aH W base 3 1 a c.inp.length (c.inp.map (Value.int .i64))) (h3:cU W base b c.out) (h4:cU W base d c.calm):(Qk base c).p (.agg #[a,b,d]) W:=⟨a,b,d,rfl,h2,h3,h4⟩
theorem cB.slice{α:Type} {to ti:TypeId} {k:Nat} {flat:List α->List Value} {w:World} {base:Nat} {v:Value} {l:List (List α)} (h:cB to ti k flat w base v l):∃ a c,v=.slice a l.length c:=by
 obtain⟨xs,q,_⟩:=h;exact q.slice
theorem Fq(p:Pb) (vc vs:Value) (w:World) (hc:bS w vc p.t.cases) (hs:bF w vs p.a.states) (ht:taskE p.t=0) (ha:advE p.a=0) (hN:movesN p.a.states<=4096) :
  Calls Tryz.prog 163 #[rE p vc vs] w fun e w'=>∃ uc us,e=.returned (rE p uc us)/\(∀ W:World,(∀ k o,w.heap.size<=k->w'.heap[k]?=some o->W.heap[k]?=some o)->bS W uc p.t.cases/\bF W us p.a.states)/\Below w.heap.size w w':=by
 obtain⟨raw,hraw⟩:=Qf hc;obtain⟨raw2,hraw2⟩:=Nv hs;have HC:=aa hc;have HS:=aa hs;have HR:=aa hraw;have dU:=aa hraw2;obtain⟨⟨_,gK⟩,_,_,⟨xV,bR⟩,gC⟩:=fB ht;obtain⟨⟨gc,iS⟩,_⟩:=ir ha;have dA:=aa gC;obtain⟨pc,cc,rfl,_⟩:=hc.at;obtain⟨ps,cs,rfl,_⟩:=hs.at;clear hc hs hraw hraw2 gC
 go_enter Tryz.func163,Tryz.ntmps163
 go_wp2_with fail
 refine aN (fun W=>Below w.heap.size w W/\W.heap[w.heap.size]?=some (.cells #[.int .i64 p.t.n,.int .i64 p.t.ins,.int .i64 p.t.outs,.slice pc p.t.cases.length cc,.int .i64 p.a.n,.slice ps p.a.states.length cs,.int .i64 p.rounds] 29)/\W.heap[w.heap.size+1]?=some (.cells zPb 29)) ⟨by go_grown,ar _ (aq _ _),bd _ _ _⟩ (fun W0 aZ=>?_);obtain⟨aI,bI,gl⟩:=aZ;have bX:=aI.size;refine(Fo _ p.t.cases.length raw W0 ?_ (by omega)).mono ?_
 ·obtain⟨q,cap,e,h1,h2,h3,h4⟩:=HR.o;exact⟨q,cap,e,h1,h2,fun j u hj=>by obtain⟨b,o,e1,e2⟩:=h3 j u hj;exact⟨b,o,e1,ak aI e2⟩,h4⟩
 rintro e w1 ⟨u,rfl,hu,aJ⟩
 have bQ:∃ g cap,u=.slice (some ⟨g,0,none⟩) p.t.cases.length cap/\CaseRow w.heap.size g cap raw p.t.cases 0 w1:=by
  rcases hu.2 with ⟨_,h0⟩|⟨g,cap,cur,fz,rfl,h1,h2,h3,h4,h5,h6,h7⟩
  ·omega
  ·refine⟨g,cap,rfl,by omega,⟨h4,h5⟩,cur,fz,h2,h3,h6,fun i hi hk=>by omega,fun j _ hj=>?_⟩;rw[<-h7,List.getElem?_take_of_lt hj];simp
 obtain⟨g,cap,rfl,bQ⟩:=bQ;have jt:=ae aI aJ;have eK:=af aJ bI;have Mn:=af aJ gl;have t1:=ab eK;have z1:=fun o=>aE eK o
 have jO:=aa bQ;have db:=aa eK;have fM:=aa Mn;have bP:=aJ.size;have Yk:=aC Mn;clear hu bQ bI gl eK Mn
 go_wp2_with fail
 clear t1 z1;refine bu (fun W=>Below w.heap.size w W/\W.heap[w.heap.size]?=some (.cells #[.int .i64 p.t.n,.int .i64 p.t.ins,.int .i64 p.t.outs,.slice (some ⟨g,0,none⟩) p.t.cases.length cap,.int .i64 p.a.n,.slice ps p.a.states.length cs,.int .i64 p.rounds] 29)/\W.heap[w.heap.size+1]?=some (.cells zPb 29)/\CaseRow w.heap.size g cap raw p.t.cases 0 W) ?_ (fun W2 eY=>?_)
 ·refine⟨jt.setCell (Nat.le_refl _) _,by rw[aF db.o];rfl,aK fM.o (by omega) _ _,?_⟩;obtain⟨cur,fz,q1,q2,q3,q4,q5⟩:=jO.o.row;exact⟨jO.o.lo,jO.o.fit,cur,fz,aK q1 (fun e=>by have:=db.o;rw[<-e,q1]at this;cases this) _ _,q2,q3,fun i hi hk=>by omega,q5⟩
 obtain⟨a8,hA2,n9,uQ⟩:=eY
 go_loopw [17] (fun i wr=>∃ k:Nat,k<=p.t.cases.length/\i=.int .i64 k/\Below w.heap.size w wr/\wr.heap[w.heap.size]?=some (.cells #[.int .i64 p.t.n,.int .i64 p.t.ins,.int .i64 p.t.outs,.slice (some ⟨g,0,none⟩) p.t.cases.length cap,.int .i64 p.a.n,.slice ps p.a.states.length cs,.int .i64 p.rounds] 29)/\wr.heap[w.heap.size+1]?=some (.cells zPb 29)/\CaseRow w.heap.size g cap raw p.t.cases k wr) (fun i _=>p.t.cases.length - (intOf i).toNat)
 ·exact⟨0,by omega,rfl,a8,hA2,n9,uQ⟩
 ·
  clear a8 hA2 n9 uQ;obtain⟨k,hk,rfl,az,hA,hO,bQ⟩:=hrel;have HA:=aa hA;have HO:=aa hO;have AZ:=aa bQ;by_cases aB:k<p.t.cases.length
  ·obtain⟨va,vb,vd,q1,q2,q3,i1,i2,i3⟩:=ST HC.o HR.o k aB;obtain⟨cur,fz,p1,p2,p3,_,p5⟩:=bQ.row;have J4:=bQ.fit.1;have d0:wr.cell? ⟨g,k * 3,none⟩=some va:=by rw[ab p1,p5 _ (by omega) (by omega),q1]
   have d1:wr.cell? ⟨g,k * 3+1,none⟩=some vb:=by rw[ab p1,p5 _ (by omega) (by omega),q2]
   have d2:wr.cell? ⟨g,k * 3+2,none⟩=some vd:=by rw[ab p1,p5 _ (by omega) (by omega),q3]
   have I1:=aa i1;have I2:=aa i2;have I3:=aa i3;obtain⟨pa,ca,rfl,_⟩:=i1.at;obtain⟨pb,cb,rfl,_⟩:=i2.at;obtain⟨pd,cd,rfl,_⟩:=i3.at;have oT:=aa (dA.o _ (List.getElem_mem aB));have JO:=aa (fun (W:World) (h:CaseRow w.heap.size g cap raw p.t.cases k W) (a b d:Value)=>h.put aB (a:=a) (b:=b) (d:=d));have Y5:=aC p1;clear q1 q2 q3 i1 i2 i3 p1 p2 p3 p5 hA hO bQ;generalize p.t.cases[k]=c at I1 I2 I3 oT JO d0 d1 d2
   go_wp2_with fail
   clear d0 d1 d2;refine bu (fun W=>Below wr.heap.size wr W/\W.heap[wr.heap.size]?=some (.cells #[.slice pa c.inp.length ca,.slice pb c.out.length cb,.slice pd c.calm.length cd] 135)) ⟨by go_grown,aq _ _⟩ (fun W4 hW4=>?_);obtain⟨cj,hx4⟩:=hW4;have jJ:=aa hx4;have wJ:=aa (af cj HA.o);have z5:=az.size;have Vh:=aC HA.o;have Yk:=aC HO.o;clear hx4
   refine fL 14 [22,23,24,25,26,27,28,29,30,31,32,33,34,35] [MP.eq (.pointer (some ⟨w.heap.size,0,none⟩)),
    MP.eq (.pointer (some ⟨w.heap.size,3,none⟩)),
    MP.eq (.slice (some ⟨g,0,none⟩) p.t.cases.length cap),
    MP.eq (.int .i64 k),
    MP.eq (.pointer (some ⟨wr.heap.size,0,none⟩)),
    MP.eq (.slice pa c.inp.length ca),
    Xy w.heap.size c.inp,
    MP.eq (.pointer (some ⟨wr.heap.size,1,none⟩)),
    MP.eq (.slice pb c.out.length cb),
    Qj w.heap.size c.out,
    MP.eq (.pointer (some ⟨wr.heap.size,2,none⟩)),
    MP.eq (.slice pd c.calm.length cd),
    Qj w.heap.size c.calm,
    Qk w.heap.size c] (by kernel_rfl) (by simp) (by decide) rfl (by kernel_rfl) (by kernel_rfl) (by kernel_rfl) ?step ?tail
   case step=>
    intro x W i o s F hi ho hs hB ap hF;have fY:i=0\/i=1\/i=2\/i=3\/i=4\/i=5\/i=6\/i=7\/i=8\/i=9\/i=10\/i=11\/i=12\/i=13:=by omega
    rcases fY with rfl|rfl|rfl|rfl|rfl|rfl|rfl|rfl|rfl|rfl|rfl|rfl|rfl|rfl
    all_goals (obtain rfl:=dp ho.symm;obtain rfl:=dp hs.symm;simp only[bz,cT,List.setIfInBounds_toArray,List.set_cons_succ,List.set_cons_zero,Nat.reduceAdd]at hF)
    ·clear ap hi ho hs;subst hF
     go_wp2_with fail
     exact lm _ (Below.refl _ _) rfl
    ·have d0:=p9 (ap ⟨0,.data⟩ (by simp) rfl);clear ap hi ho hs;simp only[d0]at hF;subst hF
     go_wp2_with fail
     exact lm _ (Below.refl _ _) rfl
    ·have d1:=p9 (ap ⟨1,.data⟩ (by simp) rfl);clear ap hi ho hs;have t1:=ab (af hB wJ.o) 3;simp at t1;simp only[d1]at hF;subst hF
     go_wp2_with fail
     exact lm _ (Below.refl _ _) rfl
    ·clear ap hi ho hs;subst hF
     go_wp2_with fail
     exact lm _ (Below.refl _ _) rfl
    ·clear ap hi ho hs;subst hF
     go_wp2_with fail
     exact lm _ (Below.refl _ _) rfl
    ·have d4:=p9 (ap ⟨4,.data⟩ (by simp) rfl);clear ap hi ho hs;have t1:=ab (af hB jJ.o) 0;simp at t1;simp only[d4]at hF;subst hF
     go_wp2_with fail
     exact lm _ (Below.refl _ _) rfl
    ·have d5:=p9 (ap ⟨5,.data⟩ (by simp) rfl);clear ap hi ho hs;simp only[d5]at hF;subst hF
     go_wp2_with fail
     refine(wj _ c.inp W (I1.o.up up_int (Below.trans3 az cj hB)) (by have:=oT.o.inp;omega)).mono ?_;rintro e w9 ⟨u9,rfl,jK,dS⟩;have nQ:=aa (jK.base (show w.heap.size<=W.heap.size by have:=hB.size;have:=cj.size;omega));clear jK
     go_wp2_with fail
     exact lm _ dS nQ.o
    ·clear ap hi ho hs;subst hF
     go_wp2_with fail
     exact lm _ (Below.refl _ _) rfl
    ·have d7:=p9 (ap ⟨7,.data⟩ (by simp) rfl);clear ap hi ho hs;have t1:=ab (af hB jJ.o) 1;simp at t1;simp only[d7]at hF;subst hF
     go_wp2_with fail
     exact lm _ (Below.refl _ _) rfl
    ·have d8:=p9 (ap ⟨8,.data⟩ (by simp) rfl);clear ap hi ho hs;simp only[d8]at hF;subst hF
     go_wp2_with fail
     refine(uz _ c.out W (I2.o.up up_ints (Below.trans3 az cj hB)) (by have:=oT.o.out2;have:=oT.o.calm;omega) (fun x hx=>by have:=oT.o.outs x hx;omega)).mono ?_;rintro e w9 ⟨u9,rfl,jK,dS⟩;have nQ:=aa (cB.lower9 jK (show w.heap.size<=W.heap.size by have:=hB.size;have:=cj.size;omega));clear jK
     go_wp2_with fail
     exact lm _ dS nQ.o
    ·clear ap hi ho hs;subst hF
     go_wp2_with fail
     exact lm _ (Below.refl _ _) rfl
    ·have d10:=p9 (ap ⟨10,.data⟩ (by simp) rfl);clear ap hi ho hs;have t1:=ab (af hB jJ.o) 2;simp at t1;simp only[d10]at hF;subst hF
     go_wp2_with fail
     exact lm _ (Below.refl _ _) rfl
    ·have d11:=p9 (ap ⟨11,.data⟩ (by simp) rfl);clear ap hi ho hs;simp only[d11]at hF;subst hF
     go_wp2_with fail
     refine(uz _ c.calm W (I3.o.up up_ints (Below.trans3 az cj hB)) (by have:=oT.o.out2;have:=oT.o.calm;omega) (fun x hx=>by have:=oT.o.outs x (oT.o.calms x hx);omega)).mono ?_;rintro e w9 ⟨u9,rfl,jK,dS⟩;have nQ:=aa (cB.lower9 jK (show w.heap.size<=W.heap.size by have:=hB.size;have:=cj.size;omega));clear jK
     go_wp2_with fail
     exact lm _ dS nQ.o
    ·have d6:=ap ⟨6,.data⟩ (by simp) rfl;have d9:=ap ⟨9,.data⟩ (by simp) rfl;have d12:=ap ⟨12,.data⟩ (by simp) rfl;clear ap hi ho hs;obtain⟨a6,c6,e6⟩:=aH.slice d6;obtain⟨a9,c9,e9⟩:=cB.slice d9;obtain⟨a12,c12,e12⟩:=cB.slice d12;rw[e6]at d6;rw[e9]at d9;rw[e12]at d12;have HD6:=aa (show aH W w.heap.size 3 1 (.slice a6 c.inp.length c6) c.inp.length (c.inp.map (Value.int .i64)) from d6);have RW:=aa (show cU W w.heap.size (.slice a9 c.out.length c9) c.out from d9);have HD12:=aa (show cU W w.heap.size (.slice a12 c.calm.length c12) c.calm from d12);clear d6 d9 d12;simp only[e6,e9,e12]at hF;subst hF
     go_wp2_with fail
     refine aY.mk (.agg #[.slice a6 c.inp.length c6,.slice a9 c.out.length c9,.slice a12 c.calm.length c12]) ?_ ?_ ?_
     ·exact(Below.refl _ _)
     ·exact Ql HD6.o RW.o HD12.o
     ·first
      | rfl
      | simp only[List.setIfInBounds_toArray,List.set_cons_succ,List.set_cons_zero]
   case tail=>
    intro x W3 F hB aU hF;have d2:x 2=.slice (some ⟨g,0,none⟩) p.t.cases.length cap:=aU 2 (by omega);have d3:x 3=.int .i64 k:=aU 3 (by omega);have d13:=aU 13 (by omega);obtain⟨ya,yb,yd,e13,h2,h3,h4⟩:∃ a b d,x 13=.agg #[a,b,d]/\aH W3 w.heap.size 3 1 a c.inp.length (c.inp.map (Value.int .i64))/\cU W3 w.heap.size b c.out/\cU W3 w.heap.size d c.calm:=d13;clear aU;simp only[bz,cT,List.setIfInBounds_toArray,List.set_cons_succ,List.set_cons_zero,Nat.reduceAdd]at hF;obtain⟨y1,z1,rfl⟩:=h2.slice;obtain⟨y2,z2,rfl⟩:=h3.slice;obtain⟨y3,z3,rfl⟩:=h4.slice;rw[d2,d3,e13]at hF;generalize x 0=s0,x 1=s1,x 4=s4,x 5=s5,x 6=s6,x 7=s7,x 8=s8,x 9=s9,x 10=s10,x 11=s11,x 12=s12 at hF;subst hF;have A0:=AZ.o.up (ae cj hB);have so:=aa A0;have H2:=aa h2;have H3:=aa h3;have H4:=aa h4;obtain⟨cur3,fz3,q1,q2,q3,_,q5⟩:=A0.row;have c0:∃ u,W3.cell? ⟨g,k * 3,none⟩=some u:=⟨cur3[k * 3]'(by omega),by rw[ab q1];exact Array.getElem?_eq_getElem _⟩;have c1:∃ u,W3.cell? ⟨g,k * 3+1,none⟩=some u:=⟨cur3[k * 3+1]'(by omega),by rw[ab q1];exact Array.getElem?_eq_getElem _⟩;have c2:∃ u,W3.cell? ⟨g,k * 3+2,none⟩=some u:=⟨cur3[k * 3+2]'(by omega),by rw[ab q1];exact Array.getElem?_eq_getElem _⟩;obtain⟨o0,c0⟩:=c0;obtain⟨o1,c1⟩:=c1;obtain⟨o2,c2⟩:=c2;have f0:=si q1 q2 (k * 3) (by omega);have f1:=si q1 q2 (k * 3+1) (by omega);have f2:=si q1 q2 (k * 3+2) (by omega);have B7:=af (ae cj hB) HA.o;have Cb:=af (ae cj hB) HO.o;have Cd:w.heap.size≠g:=nu B7 q1 (by decide);have lX:w.heap.size+1≠g:=nu Cb q1 (by decide);have Zy:=aa B7;have Zi:=aa Cb;have lf:=aa (Below.trans3 az cj hB);have yU:=so.o.lo;clear d2 d3 e13 h2 h3 h4 A0 q1 q2 q3 q5 B7 Cb hB
    simp only[List.drop_succ_cons,List.drop_zero]
    go_wp2_with fail
    go_roundw
    ·exact⟨k+1,by omega,by go_num,((lf.o.setCell yU _).setCell yU _).setCell yU _,aK (aK (aK Zy.o Cd _ _) Cd _ _) Cd _ _,aK (aK (aK Zi.o lX _ _) lX _ _) lX _ _,JO.o _ so.o _ _ _ H2.o H3.o H4.o⟩
    ·simp[intOf];omega
  ·obtain rfl:k=p.t.cases.length:=by omega
   obtain⟨wrA,C5⟩:∃ x,x=wr:=⟨_,rfl⟩;subst C5;have t1:=ab hA;have z1:=fun o=>aE hA o
   have z5:=az.size;have Vh:=aC hA;have Yk:=aC hO;clear hA hO bQ
   go_wp2_with fail
   refine(DB _ p.a.states.length raw2 wrA ?_ (by omega)).mono ?_
   ·obtain⟨q,cap,e,h1,h2,h3,h4⟩:=dU.o;exact⟨q,cap,e,h1,h2,fun j u hj=>by obtain⟨b,o,e1,e2⟩:=h3 j u hj;exact⟨b,o,e1,ak az e2⟩,h4⟩
   rintro e w3 ⟨u,rfl,hu,bH⟩
   have bQ:∃ g2 cap2,u=.slice (some ⟨g2,0,none⟩) p.a.states.length cap2/\StateRow w.heap.size g2 cap2 raw2 p.a.states 0 w3:=by
    rcases hu.2 with ⟨_,h0⟩|⟨g2,cap2,cur,fz,rfl,h1,h2,h3,h4,h5,h6,h7⟩
    ·omega
    ·refine⟨g2,cap2,rfl,by omega,⟨h4,h5⟩,cur,fz,h2,h3,by omega,fun i hi hk=>by omega,fun j _ hj=>?_⟩;rw[<-h7,List.getElem?_take_of_lt (by omega)];simp
   obtain⟨g2,cap2,rfl,bQ⟩:=bQ;clear t1 z1;have VY:=af bH HA.o;have t1:=ab VY;have z1:=fun o=>aE VY o
   have vU:=ae az bH;have vy:=aa bQ;have pR:=aa VY;have lh:=aa (af bH HO.o);have so:=aa (AZ.o.up bH);clear hu bQ VY
   go_wp2_with fail
   clear t1 z1;refine bu (fun W=>Below w.heap.size w W/\W.heap[w.heap.size]?=some (.cells #[.int .i64 p.t.n,.int .i64 p.t.ins,.int .i64 p.t.outs,.slice (some ⟨g,0,none⟩) p.t.cases.length cap,.int .i64 p.a.n,.slice (some ⟨g2,0,none⟩) p.a.states.length cap2,.int .i64 p.rounds] 29)/\W.heap[w.heap.size+1]?=some (.cells zPb 29)/\CaseRow w.heap.size g cap raw p.t.cases p.t.cases.length W/\StateRow w.heap.size g2 cap2 raw2 p.a.states 0 W) ?_ (fun W5 hW5=>?_)
   ·have AE:=KeepT.set (o:=5) (KeepT.refl (ms:=[]) [29] w.heap.size w3) pR.o (by simp) (Nat.le_refl _) (.slice (some ⟨g2,0,none⟩) p.a.states.length cap2);exact⟨vU.setCell (Nat.le_refl _) _,by rw[aF pR.o];rfl,aK lh.o (by omega) _ _,so.o.keep AE (by decide) (by decide) (by decide),vy.o.keep AE (by decide) (by decide)⟩
   obtain⟨dE,B7,Cb,hrow5,hst5⟩:=hW5
   go_loopw [48] (fun i wr=>∃ k:Nat,k<=p.a.states.length/\i=.int .i64 k/\Below w.heap.size w wr/\wr.heap[w.heap.size]?=some (.cells #[.int .i64 p.t.n,.int .i64 p.t.ins,.int .i64 p.t.outs,.slice (some ⟨g,0,none⟩) p.t.cases.length cap,.int .i64 p.a.n,.slice (some ⟨g2,0,none⟩) p.a.states.length cap2,.int .i64 p.rounds] 29)/\wr.heap[w.heap.size+1]?=some (.cells zPb 29)/\CaseRow w.heap.size g cap raw p.t.cases p.t.cases.length wr/\StateRow w.heap.size g2 cap2 raw2 p.a.states k wr) (fun i _=>p.a.states.length - (intOf i).toNat)
   ·exact⟨0,by omega,rfl,dE,B7,Cb,hrow5,hst5⟩
   ·
    clear dE B7 Cb hrow5 hst5;obtain⟨k,hk,rfl,az,hA,hO,bQ,eF⟩:=hrel;have HA:=aa hA;have HO:=aa hO;have HROW6:=aa bQ;have HST6:=aa eF;by_cases aB:k<p.a.states.length
    ·obtain⟨va,q1,i1⟩:=Qi HS.o dU.o k aB;obtain⟨cur,fz,p1,p2,p3,_,p5⟩:=eF.row;have J4:=eF.fit.1;have d0:wr.cell? ⟨g2,k,none⟩=some va:=by rw[ab p1,p5 _ (by omega) (by omega),q1]
     have I1:=aa i1;obtain⟨pa,ca,rfl,_⟩:=i1.at;have JO:=aa (fun (W:World) (h:StateRow w.heap.size g2 cap2 raw2 p.a.states k W) (a:Value)=>h.put aB (a:=a));have ku:am (p.a.states[k].length<=1048576):=aa (by have:=Jn p.a.states k aB;omega);have Y5:=aC p1;clear q1 i1 p1 p2 p3 p5 hA hO bQ eF;generalize p.a.states[k]=c at I1 JO ku d0;have z5:=az.size;have Vh:=aC HA.o
     go_wp2_with fail
     clear d0
     refine fL 6 [53,54,55,56,57,58] [MP.eq (.pointer (some ⟨w.heap.size,4,none⟩)),
      MP.eq (.pointer (some ⟨w.heap.size,5,none⟩)),
      MP.eq (.slice (some ⟨g2,0,none⟩) p.a.states.length cap2),
      MP.eq (.int .i64 k),
      MP.eq (.slice pa c.length ca),
      WG w.heap.size c] (by kernel_rfl) (by simp) (by decide) rfl (by kernel_rfl) (by kernel_rfl) (by kernel_rfl) ?step ?tail
     case step=>
      intro x W i o s F hi ho hs hB ap hF;have fY:i=0\/i=1\/i=2\/i=3\/i=4\/i=5:=by omega
      rcases fY with rfl|rfl|rfl|rfl|rfl|rfl
      all_goals (obtain rfl:=dp ho.symm;obtain rfl:=dp hs.symm;simp only[bz,cT,List.setIfInBounds_toArray,List.set_cons_succ,List.set_cons_zero,Nat.reduceAdd]at hF)
      ·clear ap hi ho hs;subst hF
       go_wp2_with fail
       exact lm _ (Below.refl _ _) rfl
      ·have d0:=p9 (ap ⟨0,.data⟩ (by simp) rfl);clear ap hi ho hs;simp only[d0]at hF;subst hF
       go_wp2_with fail
       exact lm _ (Below.refl _ _) rfl
      ·have d1:=p9 (ap ⟨1,.data⟩ (by simp) rfl);clear ap hi ho hs;have t1:=ab (af hB HA.o) 5;simp at t1;simp only[d1]at hF;subst hF
       go_wp2_with fail
       exact lm _ (Below.refl _ _) rfl
      ·clear ap hi ho hs;subst hF
       go_wp2_with fail
       exact lm _ (Below.refl _ _) rfl
      ·clear ap hi ho hs;subst hF
       go_wp2_with fail
       exact lm _ (Below.refl _ _) rfl
      ·have d4:=p9 (ap ⟨4,.data⟩ (by simp) rfl);clear ap hi ho hs;simp only[d4]at hF;subst hF
       go_wp2_with fail
       refine(Fp _ c.length (fQ c) W (Qg (I1.o.up up_move (ae az hB))) ku.o).mono ?_;rintro e w9 ⟨u9,rfl,jK,dS⟩;have nQ:=aa (jK.base (show w.heap.size<=W.heap.size by have:=hB.size;omega));clear jK
       go_wp2_with fail
       exact lm _ dS nQ.o
     case tail=>
      intro x W3 F hB aU hF;have d2:x 2=.slice (some ⟨g2,0,none⟩) p.a.states.length cap2:=aU 2 (by omega);have d3:x 3=.int .i64 k:=aU 3 (by omega);have h2:aH W3 w.heap.size 143 8 (x 5) c.length (fQ c):=aU 5 (by omega);clear aU;simp only[bz,cT,List.setIfInBounds_toArray,List.set_cons_succ,List.set_cons_zero,Nat.reduceAdd]at hF;obtain⟨y1,z1,e5⟩:=h2.slice;rw[d2,d3,e5]at hF;rw[e5]at h2;generalize x 0=s0,x 1=s1,x 4=s4 at hF;subst hF;have UA:=HST6.o.up hB;have HST3:=aa UA;have so:=aa (HROW6.o.up hB);have H2:=aa h2;obtain⟨cur3,fz3,q1,q2,q3,_,q5⟩:=UA.row;have c0:∃ u,W3.cell? ⟨g2,k,none⟩=some u:=⟨cur3[k]'(by omega),by rw[ab q1];exact Array.getElem?_eq_getElem _⟩;obtain⟨o0,c0⟩:=c0;have f0:=si q1 q2 k (by omega);have B7:=af hB HA.o;have Cb:=af hB HO.o;have Cd:w.heap.size≠g2:=nu B7 q1 (by decide);have lX:w.heap.size+1≠g2:=nu Cb q1 (by decide);have Zy:=aa B7;have Zi:=aa Cb;have lf:=aa (ae az hB);have yU:=HST3.o.lo;have Ez:=aa q1;clear d2 d3 e5 h2 UA q1 q2 q3 q5 B7 Cb hB;simp only[List.drop_succ_cons,List.drop_zero]
      go_wp2_with fail
      go_roundw
      ·exact⟨k+1,by omega,by go_num,lf.o.setCell yU _,aK Zy.o Cd _ _,aK Zi.o lX _ _,so.o.keep (KeepT.set (KeepT.refl (ms:=[]) [136] w.heap.size W3) Ez.o (by simp) yU _) (by decide) (by decide) (by decide),JO.o _ HST3.o _ H2.o⟩
      ·simp[intOf];omega
    ·obtain rfl:k=p.a.states.length:=by omega
     have tA:=ab hA;have tO:=ab hO;have zO:=fun o=>aE hO o
     have z5:=az.size;have Vh:=aC HA.o;clear hA hO bQ eF
     go_wp2_with fail
     have e0:=aF HO.o 0 (.int .i64 p.t.n);have e1:=aF e0 1 (.int .i64 p.t.ins);have e2:=aF e1 2 (.int .i64 p.t.outs);have e3:=aF e2 3 (.slice (some ⟨g,0,none⟩) p.t.cases.length cap);have e4:=aF e3 4 (.int .i64 p.a.n);have e5:=aF e4 5 (.slice (some ⟨g2,0,none⟩) p.a.states.length cap2);have e6:=aF e5 6 (.int .i64 p.rounds);have uZ:w.heap.size<=w.heap.size+1:=by omega
     have AE:=((((((((KeepT.refl (ms:=[]) [29] w.heap.size wr).set (o:=0) HO.o (by simp) uZ (.int .i64 p.t.n)).set (o:=1) e0 (by simp) uZ (.int .i64 p.t.ins)).set (o:=2) e1 (by simp) uZ (.int .i64 p.t.outs)).set (o:=3) e2 (by simp) uZ (.slice (some ⟨g,0,none⟩) p.t.cases.length cap)).set (o:=4) e3 (by simp) uZ (.int .i64 p.a.n)).set (o:=5) e4 (by simp) uZ (.slice (some ⟨g2,0,none⟩) p.a.states.length cap2)).set (o:=6) e5 (by simp) uZ (.int .i64 p.rounds));have D9:=((((((az.setCell uZ (p:=⟨w.heap.size+1,0,none⟩) (.int .i64 p.t.n)).setCell uZ (p:=⟨w.heap.size+1,1,none⟩) (.int .i64 p.t.ins)).setCell uZ (p:=⟨w.heap.size+1,2,none⟩) (.int .i64 p.t.outs)).setCell uZ (p:=⟨w.heap.size+1,3,none⟩) (.slice (some ⟨g,0,none⟩) p.t.cases.length cap)).setCell uZ (p:=⟨w.heap.size+1,4,none⟩) (.int .i64 p.a.n)).setCell uZ (p:=⟨w.heap.size+1,5,none⟩) (.slice (some ⟨g2,0,none⟩) p.a.states.length cap2)).setCell uZ (p:=⟨w.heap.size+1,6,none⟩) (.int .i64 p.rounds);have t7:=ab e6;refine bodyPost_ret (v:=rE p (.slice (some ⟨g,0,none⟩) p.t.cases.length cap) (.slice (some ⟨g2,0,none⟩) p.a.states.length cap2)) (by simp[results,Tryz.results163,go_sem,t7]) rfl ⟨_,_,rfl,fun W' VU=>⟨?_,?_⟩,D9⟩
     ·exact((HROW6.o.keep AE (by decide) (by decide) (by decide)).from VU).done (Nat.le_refl _) ht (xJ HC.o)
     ·exact((HST6.o.keep AE (by decide) (by decide)).from VU).done (Nat.le_refl _) iS (fun x hx=>by obtain⟨i,hi,rfl⟩:=List.getElem_of_mem hx;have:=Jn p.a.states i hi;omega) (Nw HS.o)
theorem vL(n:Nat):∀ c,jv c n=(List.range (c * n)).map fun i=>(i / n,i % n)
 | 0=>by simp[jv]
 | c+1=>by
  have ih:=vL n c;unfold jv at ih ⊢;rw[List.range_succ,List.flatMap_append,ih,Nat.succ_mul,List.range_add,List.map_append,List.map_map];congr 1;simp only[List.flatMap_cons,List.flatMap_nil,List.append_nil];refine List.map_congr_left fun j hj=>?_
  have hj:=List.mem_range.1 hj;simp only[Function.comp];rw[show c * n+j=n * c+j by rw[Nat.mul_comm],Nat.mul_add_div (by omega),Nat.div_eq_of_lt hj,Nat.mul_add_mod,Nat.mod_eq_of_lt hj,Nat.add_zero]
theorem WH{α:Type} {k:Nat} {R:World->Nat->Nat->α->Prop} {w:World} {v:Value} {l:List (List α)} (h:fm 1 (nh k R) w v l):∃ ws:List Value,ws.length=l.length/\∃ a cap,v=.slice a l.length cap/\∀ i (hi:i<l.length),∃ b o,a=some ⟨b,o,none⟩/\w.cell? ⟨b,o+i,none⟩=some (ws.getD i undef)/\fm k R w (ws.getD i undef) l[i]:=by
 obtain⟨a,cap,rfl,h1,h2,h3⟩:=h
 have key:∀ i:Fin l.length,∃ x:Value,∃ b off,a=some ⟨b,off,none⟩/\w.cell? ⟨b,off+i.1,none⟩=some x/\fm k R w x l[i.1]:=fun i=>by
  obtain⟨b,off,ha,x,hx,hs⟩:=h3 i.1 _ (List.getElem?_eq_getElem i.2);exact⟨x,b,off,ha,by rwa [Nat.mul_one]at hx,hs⟩
 refine⟨List.ofFn fun i=>Classical.choose (key i),by simp,a,cap,rfl,fun i hi=>?_⟩
 have e:(List.ofFn fun i=>Classical.choose (key i)).getD i undef=Classical.choose (key ⟨i,hi⟩):=by
  rw[List.getD_eq_getElem?_getD,List.getElem?_ofFn];simp[hi]
 rw[e];exact Classical.choose_spec (key ⟨i,hi⟩)
theorem Fr(p:Pb) (pc:Option Addr) (nc cc:Nat) (ps:Option Addr) (ns cs:Nat) (pw:Option Addr) (nw cw:Nat) (w:World) :
  Calls Tryz.prog 164 #[rE p (.slice pc nc cc) (.slice ps ns cs),.slice pw nw cw] w fun e w'=>e=.returned (.func (.func 199) #[] #[.pointer (some ⟨w.heap.size,0,none⟩),.pointer (some ⟨w.heap.size+1,0,none⟩)]) ∧
   w'=(w.alloc (.cells #[.int .i64 p.t.n,.int .i64 p.t.ins,.int .i64 p.t.outs,.slice pc nc cc,.int .i64 p.a.n,.slice ps ns cs,.int .i64 p.rounds] 29)).alloc (.cells #[.slice pw nw cw] 221):=by
 go_enter Tryz.func164,Tryz.ntmps164
 go_wp2
 go_ret
 exact⟨rfl,rfl⟩
def SU(n:Nat) (ws:List Value) (i:Nat):Array Value:=#[.int .i64 ((i / n:Nat):Int),ws.getD (i % n) undef]
theorem DC(wd:World) (C n:Nat) (pw:Option Addr) (cw:Nat) (ws:List Value) (hn:n<=1048576) (hC:C<=1048576) (hws:∀ j,j<n->∃ b o,pw=some ⟨b,o,none⟩/\b<wd.heap.size/\wd.cell? ⟨b,o+j,none⟩=some (ws.getD j undef)/\∃ a m c,ws.getD j undef=.slice a m c) (hcw:n<=cw/\cw<=9223372036854775807)
  (w:World) (hb:Below wd.heap.size wd w) (Bp Bw:Nat) (x0 x1 x2 x4 x5 x6:Value) (pc:Option Addr) (cc:Nat) (hp:w.heap[Bp]?=some (.cells #[x0,x1,x2,.slice pc C cc,x4,x5,x6] 29)) (hw:w.heap[Bw]?=some (.cells #[.slice pw n cw] 221)) :
  tK Tryz.prog 199 #[.pointer (some ⟨Bp,0,none⟩),.pointer (some ⟨Bw,0,none⟩)] (SU n ws) (C * n) (fun k=>k=Bw\/∃ ad,pw=some ad/\k=ad.block) w:=by
 intro yl J Jx W hW hJ oM hY h0;have uV:=ab (af hW hp) 3;simp at uV;have jc:=af hW hw;have fg:∀ ad,pw=some ad->ad.block<wd.heap.size->W.heap[ad.block]?=wd.heap[ad.block]?:=fun ad _ hk=>(hW.block _ (Nat.lt_of_lt_of_le hk hb.size)).trans (hb.block _ hk)
 clear hW hb hp hw;have MO:=aa hws;clear hws;have HJ:=aa hJ;clear hJ;have JN:=aa oM;clear oM;have HY:=aa hY;clear hY;refine(callsIn_wide (n:=0)).1 ?_;refine callsIn_of_wp Tryz.func199 rfl trivial ?_ rfl;simp only[Tryz.ntmps199,List.size_toArray,List.length_cons,List.length_nil,Nat.reduceAdd,Nat.reduceSub,Array.replicate_succ,Array.replicate_zero,List.push_toArray,List.append_toArray,List.nil_append,List.cons_append]
 gi_wp2
 clear uV
 gi_loopw [11] (fun i wr=>∃ s:Nat,s<=C/\i=.int .i64 s/\(∀ ad,pw=some ad->ad.block<wd.heap.size->wr.heap[ad.block]?=wd.heap[ad.block]?)/\wr.heap[Bw]?=some (.cells #[.slice pw n cw] 221)/\J (s * n) wr) (fun i _=>C - (intOf i).toNat)
 ·exact⟨0,by omega,rfl,fg,jc,by rw[Nat.zero_mul];exact h0⟩
 ·
  obtain⟨s,hs,rfl,gk,lg,hj⟩:=hrel;have kx:=aa gk;clear gk;have jp:=aa hj;clear hj;have Eo:=aa lg;by_cases aB:s<C
  ·have tw:=ab lg 0;simp at tw;clear lg
   gi_wp2
   clear tw;obtain⟨W0,aZ⟩:∃ W0:World,W0=wr:=⟨_,rfl⟩;rw[<-aZ]at kx jp Eo ⊢;clear aZ wr
   gi_loopw [16] (fun i wr=>∃ j:Nat,j<=n/\i=.int .i64 j/\(∀ ad,pw=some ad->ad.block<wd.heap.size->wr.heap[ad.block]?=wd.heap[ad.block]?)/\wr.heap[Bw]?=some (.cells #[.slice pw n cw] 221)/\J (s * n+j) wr) (fun i _=>n - (intOf i).toNat)
   ·exact⟨0,by omega,rfl,kx.o,Eo.o,jp.o⟩
   ·
    obtain⟨j,hj,rfl,gk,lg,Au⟩:=hrel;have oY:=aa gk;clear gk;have Kl:=aa Au;clear Au;have HWR2:=aa lg;clear lg;by_cases Mi:j<n
    ·obtain⟨b2,o2,rfl,X9,c0,a9,m9,c9,e9⟩:=MO.o j Mi
     have d0:wr.cell? ⟨b2,o2+j,none⟩=some (ws.getD j undef):=by
      rw[<-c0];simp only[World.cell?,oY.o _ rfl X9]
     have jQ:s * n+j<C * n:=by
      have h1:(s+1) * n<=C * n:=Nat.mul_le_mul_right _ aB;rw[Nat.succ_mul]at h1;omega
     have hdiv:(s * n+j) / n=s:=by rw[Nat.mul_comm,Nat.mul_add_div (by omega),Nat.div_eq_of_lt Mi,Nat.add_zero]
     have hmod:(s * n+j) % n=j:=by rw[Nat.mul_comm,Nat.mul_add_mod,Nat.mod_eq_of_lt Mi]
     obtain⟨fn,tmps,assign,body,hy,hR⟩:=HY.o (s * n+j) wr jQ Kl.o;unfold SU at hy;rw[hdiv,hmod,e9]at hy;rw[e9]at d0;have HR:=aa hR;clear hR hdiv hmod c0 e9;have yV:=aa jQ;clear jQ
     gi_wp2
     refine⟨rfl,HR.o.mono ?_⟩;rintro e W3 (⟨rfl,El,EJ,iA⟩|⟨rfl,sY⟩)
     ·gi_wp2
      go_roundw
      ·exact⟨j+1,by omega,by go_num,fun ad e1 e2=>(iA _ (.inr ⟨ad,e1,rfl⟩)).trans (oY.o ad e1 e2),(iA Bw (.inl rfl)).trans HWR2.o,El⟩
      ·simp[intOf];omega
     ·gi_wp2
      refine bodyPost_ret (results_none rfl _ _ _) rfl ?_;exact⟨⟨_,rfl⟩,.inr ⟨_,yV.o,sY⟩⟩
    ·gi_wp2
     go_roundw
     ·
      refine⟨s+1,by omega,by go_num,oY.o,HWR2.o,?_⟩;have e:n=j:=by omega
      rw[Nat.succ_mul];have h9:=Kl.o;rw[<-e]at h9;exact h9
     ·simp[intOf];omega
  ·obtain rfl:s=C:=by omega
   gi_wp2
   go_end0
   exact⟨⟨_,rfl⟩,.inl jp.o⟩
theorem qK{k:IntKind} {a b:Int} (h:a=b):Value.int k a=Value.int k b:=by rw[h]
theorem Jo{k:Nat} (hk:k<=30):wrap64 ((2:Int) ^ k)=((2 ^ k:Nat):Int):=by
 have h1:(2:Int) ^ k=((2 ^ k:Nat):Int):=by simp
 have h2:(2:Nat) ^ k<=2 ^ 30:=Nat.pow_le_pow_right (by omega) hk;rw[h1];generalize (2:Nat) ^ k=x at h2;unfold wrap64;omega
theorem Lm{q:Nat->Bool} {k:Nat} (hk:k<=30) (h:q k=true):bits .or .i64 ((maskN q k:Nat):Int) (wrap64 ((2:Int) ^ k))=(maskN q (k+1):Nat):=by
 have h2:(2:Nat) ^ k<=2 ^ 30:=Nat.pow_le_pow_right (by omega) hk;have h3:=gd q k;rw[Jo hk,xl _ _ (by omega) (by omega),zn h]
theorem Cy(s:Sys):(sF s).length=eS s:=by simp[sF]
theorem mg(s:Sys) (e:Nat):(fF s e).length=nS s:=by simp[fF]
theorem WI(s:Sys) (e:Nat) (h:e<(sF s).length):(sF s)[e]=fF s e:=by simp[sF]
theorem Qm(s:Sys) (e p:Nat) (h:p<(fF s e).length):(fF s e)[p]=if hasB (fltS s e) p then -1 else finS s e p:=by simp[fF]
theorem kK{s:Sys} (h:SysOk s) {e p:Nat} (he:e<eS s) (hp:p<nS s):0<=finS s e p/\finS s e p<s.tab.length:=by
 obtain⟨h1,h2⟩:=h.views e he;have hr:s.prob.rounds.toNat<(cN s e).views.length:=by omega
 have h3:=h2 ((cN s e).views[s.prob.rounds.toNat]) (List.getElem_mem hr);have e1:(cN s e).views.getD s.prob.rounds.toNat []=(cN s e).views[s.prob.rounds.toNat]:=by simp[hr]
 have RQ:p<((cN s e).views[s.prob.rounds.toNat]).length:=by omega
 unfold finS;rw[e1,show ((cN s e).views[s.prob.rounds.toNat]).getD p 0=((cN s e).views[s.prob.rounds.toNat])[p] by simp[RQ]];exact h3.2 _ (List.getElem_mem RQ)
theorem Cz{s:Sys} (h:SysOk s) {e f p:Nat} (he:e<eS s) (hf:f<eS s) (hp:p<nS s) (x y:Int) (hx:x=if hasB (fltS s e) p then -1 else finS s e p) (hy:y=if hasB (fltS s f) p then -1 else finS s f p):linkB s p e f=(decide (0<=x)&&decide (x=y)):=by
 have h1:=(kK h he hp).1;have h2:=(kK h hf hp).1;unfold linkB;subst hx hy;cases hasB (fltS s e) p<;>cases hasB (fltS s f) p<;>simp<;>omega
theorem FinAt.open{w:World} {B:Nat} {s:Sys} (h:FinAt w B s):∃ pl cl,w.heap[B]?=some (.cells #[.int .i64 (nS s),.slice pl (eS s) cl] 201)/\∀ e,e<eS s->∃ b o,pl=some ⟨b,o,none⟩/\∃ pr cr,w.cell? ⟨b,o+e,none⟩=some (.slice pr (nS s) cr)/\aT w (.slice pr (nS s) cr) (fF s e):=by
 obtain⟨vl,h1,h2⟩:=h.ex;obtain⟨pl,cl,rfl,_,_,ep⟩:=h2.at;rw[Cy]at h1;refine⟨pl,cl,h1,fun e he=>?_⟩;obtain⟨b,o,e1,v,hc,hv⟩:=ep e (by rw[Cy];exact he);rw[Nat.mul_one]at hc;rw[WI]at hv;obtain⟨pr,cr,rfl,_⟩:=hv.at;rw[mg]at hc hv;exact⟨b,o,e1,pr,cr,hc,hv⟩
theorem Xz{w:World} {s:Sys} {e p:Nat} {pr:Option Addr} {cr:Nat} (h:aT w (.slice pr (nS s) cr) (fF s e)) (hp:p<nS s):∃ b o,pr=some ⟨b,o,none⟩/\w.cell? ⟨b,o+p,none⟩=some (.int .i64 (if hasB (fltS s e) p then -1 else finS s e p)):=by
 obtain⟨a,c,e1,_,_,ep⟩:=h.at;obtain⟨b,o,e2,h1⟩:=ep p (by rw[mg];exact hp);injection e1 with e3
 rw[Nat.mul_one,Qm]at h1;exact⟨b,o,e3.trans e2,h1.1⟩
theorem Fs{w:World} {s:Sys} {n e p:Nat} {pr:Option Addr} {cr:Nat} (h:aT w (.slice pr n cr) (fF s e)) (hp:p<n):∃ b o,pr=some ⟨b,o,none⟩/\w.cell? ⟨b,o+p,none⟩=some (.int .i64 (if hasB (fltS s e) p then -1 else finS s e p)):=by
 obtain⟨a,c,e1,_⟩:=h.at;injection e1 with _ e4 _
 rw[mg]at e4;subst e4;exact Xz h hp
theorem DD(s:Sys) (B:Nat) (e:Int) (w:World) (h:FinAt w B s) :
  Calls Tryz.prog 145 #[.pointer (some ⟨B,0,none⟩),.int .i64 e] w fun r w'=>r=.returned (.bool (decide (0<=e)&&decide (e<(eS s:Int))))/\Below w.heap.size w w':=by
 obtain⟨pl,cl,h1,_⟩:=h.open;have t1:=ab h1;clear h1 h;by_cases he:0<=e
 ·have hd:decide ((0:Int)<=e)=true:=by simpa using he
  go_enter Tryz.func145,Tryz.ntmps145
  go_wp2_with fail
  go_ret
  exact⟨aR (by simp[he]),Below.refl _ _⟩
 ·have hd:decide ((0:Int)<=e)=false:=by simpa using he
  go_enter Tryz.func145,Tryz.ntmps145
  go_wp2_with fail
  go_ret
  exact⟨aR (by first|rfl|simp[he]),Below.refl _ _⟩
theorem BA(s:Sys) (hs:SysOk s) (B:Nat) (e f:Nat) (he:e<eS s) (hf:f<eS s) (w:World) (h:FinAt w B s) :
  Calls Tryz.prog 146 #[.pointer (some ⟨B,0,none⟩),.int .i64 e,.int .i64 f] w fun r w'=>r=.returned (.int .i64 (maskN (fun p=>linkB s p e f) (nS s):Nat))/\w=w':=by
 obtain⟨pl,cl,h1,bQ⟩:=h.open;have gK:=hs.n.2.1;obtain⟨b,o,rfl,pr,cr,c1,r1⟩:=bQ e he;obtain⟨b',o',e2,ps,cs,c2,r2⟩:=bQ f hf;cases e2;have R1:=aa r1;have R2:=aa r2;have HL:am (∀ p,p<nS s->linkB s p e f=(decide (0<=if hasB (fltS s e) p then -1 else finS s e p)&&decide ((if hasB (fltS s e) p then -1 else finS s e p)=if hasB (fltS s f) p then -1 else finS s f p))):=aa fun p hp=>Cz hs he hf hp _ _ rfl rfl
 have t1:=ab h1;clear h1 h bQ r1 r2;obtain⟨q,hq⟩:∃ q:Nat->Bool,q=fun p=>linkB s p e f:=⟨_,rfl⟩
 have HQ:am (∀ p,linkB s p e f=q p):=aa fun p=>by rw[hq]
 rw[<-hq];clear hq;generalize nS s=n at *;generalize eS s=m at *
 go_enter Tryz.func146,Tryz.ntmps146
 go_wp2_with fail
 go_loop [7,14] (fun x i=>∃ k:Nat,k<=n/\i=.int .i64 k/\x=.int .i64 (maskN q k:Nat)) (fun _ i=>n - (intOf i).toNat)
 ·exact⟨0,by omega,rfl,rfl⟩
 ·
  obtain⟨k,hk,rfl,rfl⟩:=hrel;by_cases aB:k<n
  ·obtain⟨b1,o1,rfl,d1⟩:=Fs R1.o aB;obtain⟨b2,o2,rfl,d2⟩:=Fs R2.o aB;have hl:=HL.o k aB;rw[HQ.o]at hl;generalize (if hasB (fltS s e) k then -1 else finS s e k)=x at d1 hl;generalize (if hasB (fltS s f) k then -1 else finS s f k)=y at d2 hl;have HM:=aa (gd q k);by_cases hx:0<=x
   ·have Vv:decide ((0:Int)<=x)=true:=decide_eq_true hx;by_cases cG:x=y
    ·subst cG;have HB:am (q k=true):=aa (by rw[hl];simp[hx]);clear hl
     go_wp2_with fail
     go_round
     ·exact⟨k+1,by omega,by go_num,qK (Lm (by omega) HB.o)⟩
     ·simp[intOf];omega
    ·have hxy':decide (x=y)=false:=decide_eq_false cG;have HB:am (q k=false):=aa (by rw[hl,hxy'];simp);clear hl
     go_wp2_with fail
     go_round
     ·exact⟨k+1,by omega,by go_num,by rw[<-sa HB.o]⟩
     ·simp[intOf];omega
   ·have Vv:decide ((0:Int)<=x)=false:=decide_eq_false hx;have HB:am (q k=false):=aa (by rw[hl,Vv];simp);clear hl
    go_wp2_with fail
    go_round
    ·exact⟨k+1,by omega,by go_num,by rw[<-sa HB.o]⟩
    ·simp[intOf];omega
  ·obtain rfl:k=n:=by omega
   go_wp2_with fail
   go_ret
   exact⟨rfl,rfl⟩
end Go.Proofs.YtmeaoneaephjeaaGreatDoor
