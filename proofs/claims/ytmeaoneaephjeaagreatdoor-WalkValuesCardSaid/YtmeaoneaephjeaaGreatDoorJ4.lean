/-
  A part of the proof: lemmas and contracts that the parts behind it use. Each one's conditions are its own premises.
-/
import Derived.Laws.IdiomCopy
import Derived.Laws.CopyRow
import Derived.Test.YtmeaoneaephjeaaGreatDoorShelf
import Derived.Test.YtmeaoneaephjeaaGreatDoorJ3
set_option maxRecDepth 100000
set_option maxHeartbeats 8000000
set_option linter.unusedVariables false
set_option linter.unusedSimpArgs false
namespace Go.Proofs.YtmeaoneaephjeaaGreatDoor
open Go.RowKit Go Go.Shelf
attribute [local go_sem] Oper.semAt_some
theorem Dq(d:Nat) (a b:Vw) (w:World):(Op.equalIn (d+3) 190 a.v b.v).run Tryz.prog w=.ok (decide (a=b)) w:=by
 have hS:Tryz.prog.underlying 190=some (.struct (Tryz.prog.fieldsOf 190)):=by kernel_rfl
 have hp:Tryz.prog.stoodInHeld 190=false:=by kernel_rfl
 rw[run_equalIn_struct w (d+2) 190 _ _ hS hp];have ag:=Tryz.isAgg3;have ah:=Tryz.isAgg137;have zh:=Tryz.sizeOf137;have u3:=Tryz.underlying3;simp only[Program.fieldsOf,Tryz.underlying190];simp[Op.eqFields,part,ag,ah,zh,run_equalIn_int w (d+1) 3 _ .i64 _ _ u3,Gn d];obtain⟨n,k,j,h0,h1,h2,h3,h4⟩:=a;obtain⟨m,l,i,g0,g1,g2,g3,g4⟩:=b;by_cases hn:n=m
 case neg=>simp[hn]
 by_cases hk:k=l
 case neg=>simp[hn,hk]
 by_cases hj:j=i
 case neg=>simp[hn,hk,hj]
 by_cases hh:h0=g0/\h1=g1/\h2=g2/\h3=g3/\h4=g4<;>simp[hn,hk,hj,hh]
theorem kit_vw:KeyKit Tryz.prog 190 Vw.v:=
 ⟨fun a b w=>Dq 9997 a b w,fun em a w=>by kernel_rfl,⟨_,Tryz.underlying190⟩⟩
theorem Tryz.infoView:(Tryz.prog.info? 190).map (fun i=>(i.zero,i.size,i.bytes))=some (some (.agg #[.int .i64 0,.int .i64 0,.int .i64 0,.int .i64 0,.int .i64 0,.int .i64 0,.int .i64 0,.int .i64 0]),8,64):=by kernel_rfl
abbrev silV:Value:=.agg #[.int .i64 (-1),.int .i64 (-1),.int .i64 (-1),.int .i64 (-1),.int .i64 (-1)]
theorem zL(w:World):Calls Tryz.prog 201 #[] w fun e w'=>e=.returned silV/\Below w.heap.size w w':=by
 go_enter Tryz.func201,Tryz.ntmps201
 go_wp2_with fail
 refine bm (fun W=>Below w.heap.size w W/\W.heap[w.heap.size]?=some (.cells (hC (fun _=>-1) 0) 137)/\W.heap[w.heap.size+1]?=some (.cells (hC (fun _=>-1) 0) 137)) ⟨by go_grown,by rw[Do];exact ap _ (am _ _),by rw[Do];exact bd _ _ _⟩ (fun W0 aV=>?_);obtain⟨aH,gL,gR⟩:=aV
 go_loopw [3] (fun i wr=>∃ q:Nat,q<=5/\i=.int .i64 q/\Below w.heap.size w wr/\wr.heap[w.heap.size]?=some (.cells (hC (fun _=>-1) 0) 137)/\wr.heap[w.heap.size+1]?=some (.cells (hC (fun _=>-1) q) 137)) (fun i _=>5 - (intOf i).toNat)
 case atStart=>exact⟨0,by omega,rfl,aH,gL,gR⟩
 case round=>
  clear aH gL gR;obtain⟨q,hq,rfl,ar,hR,hO⟩:=hrel;by_cases aA:q<5
  ·have zq:=aE hO q
   have tq:=ab hO q;rw[GL _ _ _ aA]at tq;have HR:=aa hR;have HO:=aa hO;clear hR hO;have nR:(q:Int)<5:=by omega
   go_wp2_with fail
   go_roundw
   case rel=>exact⟨q+1,by omega,by go_num,ar.setCell (by dsimp only;omega) _,aJ HR.out (by omega) _ _,by rw[aF HO.out,<-U0 (fun _=>-1) q aA]⟩
   case measure=>simp[intOf];omega
  ·obtain rfl:q=5:=by omega
   have tq:=ab hO;have HR:=aa hR;have HO:=aa hO;have zq:=fun o=>aE hR o
   have tq0:=ab hR;rw[T5]at tq;simp[Do]at tq0;clear hR hO
   go_wp2_with fail
   have h5:=aF (aF (aF (aF (aF HR.out 0 (.int .i64 (-1))) 1 (.int .i64 (-1))) 2 (.int .i64 (-1))) 3 (.int .i64 (-1))) 4 (.int .i64 (-1));refine bodyPost_ret (JF _ _ 0 rfl w.heap.size _ (-1) (-1) (-1) (-1) (-1) 137 rfl (h5.trans rfl)) rfl ⟨rfl,?_⟩;exact((((ar.setCell (by dsimp only;omega) _).setCell (by dsimp only;omega) _).setCell (by dsimp only;omega) _).setCell (by dsimp only;omega) _).setCell (by dsimp only;omega) _
abbrev bldT:List TypeId:=[190,234]
structure BldIs (base b mb n:Nat) (tab:List Vw) (W:World):Prop where
 lo:base<=b
 ex:∃ vs,W.heap[b]?=some (.cells #[.int .i64 n,vs,.map (some mb)] 234)/\base<=mb/\aG W base 190 8 vs tab.length (eM tab)/\lM Vw.v W mb (tI tab)
theorem BldIs.up{base b mb n:Nat} {tab:List Vw} {W W':World} (h:BldIs base b mb n tab W) (hb:Below W.heap.size W W'):BldIs base b mb n tab W':=by
 obtain⟨vs,h1,h2,h3,h4⟩:=h.ex;exact⟨h.lo,vs,af hb h1,h2,h3.up hb,h4.up hb⟩
theorem Ly(v:Vw):∀ u∈v.c.toList,u.oneCell'=true:=fun u hu=>Ec [v] u (by simpa[eM] using hu)
theorem Ua(tb:List Vw) (v:Vw):(putV tb v).2<=tb.length:=by
 unfold putV;split
 ·exact List.idxOf_le_length
 ·exact Nat.le_refl _
theorem Ka(base b mb n:Nat) (tab:List Vw) (v:Vw) (w:World) (hB:BldIs base b mb n tab w) (hl:tab.length<=100000) :
  Calls Tryz.prog 200 #[.pointer (some ⟨b,0,none⟩),v.v] w fun e w'=>e=.returned (.int .i64 (putV tab v).2)/\BldIs base b mb n (putV tab v).1 w'/\KeepT bldT [mb] base w w':=by
 have wQ:=hB.lo;obtain⟨vs,h1,h2,h3,h4⟩:=hB.ex;have cQ:=aB h1;obtain⟨av,cv,rfl⟩:=h3.slice;have H1:=aa h1;have H3:=aa h3;have H4:=aa h4;clear h1 h3 h4 hB
 go_enter Tryz.func200,Tryz.ntmps200
 go_wp2_with fail
 refine bm (fun W=>Below w.heap.size w W/\W.heap[w.heap.size]?=some (.cells v.c 190)) ⟨by go_grown,am _ _⟩ (fun W0 aV=>?_);obtain⟨aH,Wk⟩:=aV;have CR:=aa Wk;have k1:∀ x:ExtW W0,∀ o,x.val.cell? ⟨w.heap.size,o,none⟩=_:=fun x=>ab (af x.ext Wk)
 have k2:∀ x:ExtW W0,∀ o,x.val.cell? ⟨b,o,none⟩=_:=fun x=>ab (af (ae aH x.ext) H1.out)
 have WZ:∀ x:ExtW W0,lM Vw.v x.val mb (tI tab):=fun x=>H4.out.up (ae aH x.ext)
 have jN:=aa WZ;have qm:=Qy tab v;clear Wk WZ;by_cases hm:v∈tab
 ·have HP:Hid (putV tab v=(tab,tab.idxOf v)):=aa (by unfold putV;rw[if_pos hm])
  rw[if_pos hm]at qm
  have k3:∀ x:ExtW W0,(Instr.lookup 232 (.map (some mb)) v.v true).run Tryz.prog x.val=.ok (.tuple #[.int .i64 (tab.idxOf v:Nat),.bool true]) x.val:=fun x=>by
   have:=GK kit_vw (mt:=232) (vt:=3) (z:=.int .i64 0) Tryz.underlying232 (fun w=>by kernel_rfl) (jN.out x) v;rw[qm]at this;exact this
  clear qm;refine aC (by kernel_rfl) (by kernel_rfl) ?_
  repeat (go_big_quiet_step (fail))
  refine wpQuiet_nil ?_;intro _ dY;obtain⟨xq,cX⟩:=dY;subst cX;clear k1 k2 k3
  go_wp2_with fail
  go_ret
  rw[HP.out];have hx:=ae aH xq.ext;exact⟨rfl,⟨wQ,_,af hx H1.out,h2,H3.out.up hx,H4.out.up hx⟩,KeepT.of_below _ hx (by omega)⟩
 ·have HP:Hid (putV tab v=(tab++[v],tab.length)):=aa (by unfold putV;rw[if_neg hm])
  rw[if_neg hm]at qm
  have k3:∀ x:ExtW W0,(Instr.lookup 232 (.map (some mb)) v.v true).run Tryz.prog x.val=.ok (.tuple #[.int .i64 0,.bool false]) x.val:=fun x=>by
   have:=GK kit_vw (mt:=232) (vt:=3) (z:=.int .i64 0) Tryz.underlying232 (fun w=>by kernel_rfl) (jN.out x) v;rw[qm]at this;exact this
  have HGET:=aa qm;clear qm;refine aC (by kernel_rfl) (by kernel_rfl) ?_
  repeat (go_big_quiet_step (fail))
  refine wpQuiet_nil ?_;intro _ dY;obtain⟨xq,cX⟩:=dY;subst cX;clear k1 k2 k3;have hx:=ae aH xq.ext;have Av:=af xq.ext CR.out;generalize xq.val=W1 at hx Av;have HX:=aa hx;have Px:=aa Av;have t1:=ab (af hx H1.out);have tv:=ab Av;obtain⟨o,KI,hG2⟩:=T4 kit_vw (mt:=232) (vt:=3) Tryz.underlying232 (w:=W1.drew) (b:=mb) (f:=tI tab) (H4.out.up hx.drew) v (.int .i64 (tab.length:Nat)) HGET.out;have ru:=aa hG2;clear hx Av hG2
  go_wp2_with fail
  go_still_tail 6,(by kernel_rfl)
  change wpList _ _ _ _ _ W1.drew
  go_wp2_with fail
  have kU:∃ o2,W1.drew.heap[mb]?=some o2/\o2.isCells=false:=by
   obtain⟨es,ck,p1,_⟩:=H4.out.up HX.out.drew;exact⟨_,p1,rfl⟩
  obtain⟨o2,kU,rD⟩:=kU;have FJ:b≠mb:=fun e=>by rw[<-e,(af HX.out.drew H1.out)]at kU;cases kU;cases rD
  have hvn:w.heap.size≠mb:=fun e=>by
   have h9:W1.drew.heap[w.heap.size]?=some (.cells v.c 190):=Px.out;rw[e,kU]at h9;cases h9;cases rD
  refine bm (fun W=>W.heap[b]?=some (.cells #[.int .i64 n,.slice av tab.length cv,.map (some mb)] 234)/\aG W base 190 8 (.slice av tab.length cv) tab.length (eM tab)/\lM Vw.v W mb (tI (tab++[v]))/\W.heap[w.heap.size]?=some (.cells v.c 190)/\KeepT bldT [mb] base w W/\w.heap.size<W.heap.size)
   ⟨(World.putObj_heap_other FJ).trans (af HX.out.drew H1.out),(H3.out.up HX.out.drew).keepT fun g o' e1 e2=>(World.putObj_heap_other (fun e=>(H3.out.up HX.out.drew).isCells (B:=mb) kU rD (by rw[e1,e]))).trans e2,by rw[NS];exact ru.out,(World.putObj_heap_other hvn).trans Px.out,(KeepT.of_below _ HX.out.drew (by omega)).put kU rD h2 (by simp),by have:=aB Px.out;simpa using this⟩ (fun W2 eK=>?_)
  obtain⟨g1,g3,g4,g5,g6,g7⟩:=eK;have G1:=aa g1;have G3:=aa g3;have G4:=aa g4;have G5:=aa g5;have G6:=aa g6;clear g1 g3 g4 g5 g6 kU rD KI t1 tv;obtain⟨i0,cU,cg,bV,cj⟩:=info_parts Tryz.infoView
  refine mo 8 [29,30,31,32,33,34,35,36] [some (.pointer (some ⟨b,0,none⟩)),
   some (.pointer (some ⟨b,0,none⟩)),
   some (.pointer (some ⟨b,0,none⟩)),
   some (.pointer (some ⟨b,1,none⟩)),
   some (.slice av tab.length cv),
   some (v.v),
   none,
   none] (CAppS W2 W2 base 190 8 (.slice av tab.length cv) tab.length 1 (eM tab) v.c.toList 6 7) (by kernel_rfl) rfl (by decide) rfl (by kernel_rfl) (by kernel_rfl) (by kernel_rfl) (fun _=>CAppS.start (by omega) (KeepT.refl _ _ _).drew (Nat.le_refl _) (fun _ _ h _=>h) G3.out) ?step ?tail
  case step=>
   intro x W D i o s F hi ho hs hD cF bP aq hv aL hF;have fE:i=0\/i=1\/i=2\/i=3\/i=4\/i=5\/i=6\/i=7:=by omega
   rcases fE with rfl|rfl|rfl|rfl|rfl|rfl|rfl|rfl
   all_goals (have dA:=cF _ _ hs hD;obtain rfl:=dp ho.symm;obtain rfl:=dp hs.symm)
   ·clear aq hi hv
    have e0:F.getD 0 undef=.pointer (some ⟨b,0,none⟩):=ls hF (by decide) rfl;clear cF bP;clear hF dA;have e0':=dr e0;have HD:=aa hD;have bg:=aa aL;clear hD aL
    go_wp2_with fail
    refine bS.mk _ fH ?_ rfl;exact bg.out.other _ (by decide) (by decide)
   ·clear aq hi hv
    have e0:F.getD 0 undef=.pointer (some ⟨b,0,none⟩):=ls hF (by decide) rfl;clear cF bP;clear hF dA;have e0':=dr e0;have HD:=aa hD;have bg:=aa aL;clear hD aL
    go_wp2_with fail
    refine bS.mk _ fH ?_ rfl;exact bg.out.other _ (by decide) (by decide)
   ·have g1:=aq ⟨1,.data⟩ (by simp) rfl
    have d1:=hv 1 _ (by omega) g1 rfl;clear aq hi hv;have e30:=fi hF 1 30 (by decide) rfl (by kernel_rfl) d1;clear cF bP;clear hF dA d1;have e30':=dr e30;have HD:=aa hD;have bg:=aa aL;clear hD aL;clear g1
    go_wp2_with fail
    refine bS.mk _ fH ?_ rfl;exact bg.out.other _ (by decide) (by decide)
   ·have g2:=aq ⟨2,.data⟩ (by simp) rfl
    have d2:=hv 2 _ (by omega) g2 rfl;clear aq hi hv;have e31:=fi hF 2 31 (by decide) rfl (by kernel_rfl) d2;clear cF bP;clear hF dA d2;have e31':=dr e31;have HD:=aa hD;have bg:=aa aL;clear hD aL;clear g2
    go_wp2_with fail
    refine bS.mk _ fH ?_ rfl;exact bg.out.other _ (by decide) (by decide)
   ·have g3:=aq ⟨3,.data⟩ (by simp) rfl
    have d3:=hv 3 _ (by omega) g3 rfl;clear aq hi hv;have e32:=fi hF 3 32 (by decide) rfl (by kernel_rfl) d3;clear cF bP;clear hF dA d3;have t1:=ab (aL.kept _ _ G1.out (fun e=>G3.out.ne G1.out (by decide) _ e rfl)) 1;simp at t1;have e32':=dr e32;have HD:=aa hD;have bg:=aa aL;clear hD aL;clear g3
    go_wp2_with fail
    refine bS.mk _ fH ?_ rfl;exact bg.out.other _ (by decide) (by decide)
   ·clear aq hi hv
    have e3:F.getD 3 undef=.pointer (some ⟨w.heap.size,0,none⟩):=ls hF (by decide) rfl;clear cF bP;clear hF dA;have t1:=ab (aL.kept _ _ G5.out (fun e=>by have:=(H3.out.lt _ e).2;omega));have e3':=dr e3;have HD:=aa hD;have bg:=aa aL;clear hD aL
    go_wp2_with fail
    refine bS.mk _ fH ?_ rfl;exact bg.out.other _ (by decide) (by decide)
   ·have g5:=aq ⟨5,.data⟩ (by simp) rfl
    have d5:=hv 5 _ (by omega) g5 rfl;clear aq hi hv;have e34:=fi hF 5 34 (by decide) rfl (by kernel_rfl) d5;clear cF bP;clear hF dA d5;have e34':=dr e34;have HD:=aa hD;have bg:=aa aL;clear hD aL;clear g5
    go_wp2_with fail
    refine bS.mk _ (fun c hc=>by cases hc) ?_ rfl;exact bg.out.build (by decide)
   ·have g4:=aq ⟨4,.data⟩ (by simp) rfl
    have d4:=hv 4 _ (by omega) g4 rfl;have g6:=aq ⟨6,.data⟩ (by simp) rfl;clear aq hi hv;have e33:=fi hF 4 33 (by decide) rfl (by kernel_rfl) d4;have e35:=fi hF 6 35 (by decide) rfl (by kernel_rfl) rfl;clear cF bP;clear hF dA d4;obtain⟨gb,qx,mS,_⟩:=aL.sb g6 hD;rw[qx]at e35;have bW:=aL.rd;rw[hD]at bW;have Cg:=aa (show aG W base 190 8 (.slice av tab.length cv) tab.length (eM tab) from bW)
    have bL:∀ j u',v.c.toList[j]?=some u'->W.cell? (Addr.add ⟨gb,0,none⟩ j)=some u':=fun j u' hj=>by
     have e1:(Addr.add ⟨gb,0,none⟩ j)=⟨gb,j,none⟩:=by unfold Addr.add;split<;>simp_all
     rw[e1,ab mS];simpa using hj
    have bz:=aa bL;have ic:=aL.old.old.size;clear bL bW mS qx;have e33':=dr e33;have e35':=dr e35;have HD:=aa hD;have bg:=aa aL;clear hD aL;clear g4;clear g6;refine aY W rfl (.tmp 33) (.tmp 35) 30 rfl base 190 i0 _ 8 64 Tryz.underlying30 cU cg bV cj rfl (by decide) _ tab.length (eM tab) e33 Cg.out ⟨gb,0,none⟩ 1 1 v.c.toList e35 rfl bz.out (Ly v) (by unfold maxLen;omega) (by omega) (by omega) ?_;intro v9 w3 nG jH _;refine bS.mk v9 (fun c hc=>by cases hc) ?_ rfl;exact bg.out.app HD.out nG jH
  case tail=>
   intro x W' D F aQ hv aL hF;have x0:=hv 0 _ (by omega) rfl;have x1:=hv 1 _ (by omega) rfl;have x2:=hv 2 _ (by omega) rfl;have x3:=hv 3 _ (by omega) rfl;have x4:=hv 4 _ (by omega) rfl;have x5:=hv 5 _ (by omega) rfl;have KD:=aL.rd;rw[aQ 7 (by omega)]at KD;have MN:aG W' base 190 8 (x 7) (tab.length+1) (eM tab++v.c.toList):=KD;obtain⟨g9,c9,q9⟩:=MN.slice;rw[q9]at MN;have rH:=aa MN;have fk:=aL.kept _ _ G1.out (fun e=>G3.out.ne G1.out (by decide) _ e rfl)
   have hm9:lM Vw.v W' mb (tI (tab++[v])):=by
    obtain⟨es,ck,p1,p2⟩:=G4.out;exact⟨es,ck,aL.kept _ _ p1 (fun e=>G3.out.isCells p1 rfl e.symm),p2⟩
   have HM9:=aa hm9;have fM:=aa fk;have pT:=aa aL.old;have t1:=ab fk 1;have z1:=aE fk 1;simp only[br,cW,List.setIfInBounds_toArray,List.set_cons_succ,List.set_cons_zero,Nat.reduceAdd,x0,x1,x2,x3,x4,x5,q9]at hF;generalize x 6=y6 at hF;subst hF;clear hv aQ aL KD MN q9 fk hm9 x0 x1 x2 x3 x4 x5;simp only[List.drop_succ_cons,List.drop_zero]
   go_wp2_with fail
   go_ret
   rw[HP.out];have bJ:∀ g,Value.ownBlock (.slice g9 (tab.length+1) c9)=some g->g≠b:=fun g e=>rH.out.ne fM.out (by decide) g e
   refine⟨rfl,⟨wQ,_,aF fM.out 1 _,h2,?_,?_⟩,?_⟩
   ·rw[List.length_append,List.length_singleton,Eb]
    exact rH.out.put bJ _ _
   ·obtain⟨es,ck,p1,p2⟩:=HM9.out
    exact⟨es,ck,aJ p1 (fun e=>by rw[e,fM.out]at p1;cases p1) _ _,p2⟩
   ·exact(G6.out.trans (pT.out.mono (by simp) (by simp))).set fM.out (by simp) wQ _
def xC(n:Nat) (x:Int) (q:Nat):Array Value:=fC n (fun _=>x) q
theorem Kb(n:Nat) (x:Int) (q j:Nat) (hj:j<n):(xC n x q)[j]?=some (.int .i64 (if j<q then x else 0)):=lN n _ q j hj
theorem NT(n:Nat) (x:Int) (q m:Nat) (h:q+m<=n):((xC n x q).toList.take q++List.replicate m (Value.int .i64 x)++(xC n x q).toList.drop (q+m)).toArray=xC n x (q+m):=by
 apply Array.ext_getElem?;intro j;have hl:(xC n x q).toList.length=n:=by rw[Array.length_toList];exact oT n _ q
 have hg:∀ q j,(xC n x q).toList[j]?=if j<n then some (.int .i64 (if j<q then x else 0)) else none:=by
  intro q j;rw[Array.getElem?_toList];by_cases hj:j<n
  ·rw[if_pos hj];exact Kb n x q j hj
  ·rw[if_neg hj,Array.getElem?_eq_none];unfold xC;rw[oT];omega
 rw[<-Array.getElem?_toList (xs:=xC n x (q+m)),hg,List.getElem?_toArray,List.append_assoc];by_cases h1:j<q
 ·rw[List.getElem?_append_left (by rw[List.length_take,hl];omega),List.getElem?_take_of_lt h1,hg,if_pos (show j<n by omega),if_pos h1,if_pos (show j<n by omega),if_pos (show j<q+m by omega)]
 ·rw[List.getElem?_append_right (by rw[List.length_take,hl];omega),List.length_take,hl,Nat.min_eq_left (by omega)]
  by_cases h2:j<q+m
  ·rw[List.getElem?_append_left (by rw[List.length_replicate];omega),List.getElem?_replicate,if_pos (show j - q<m by omega),if_pos (show j<n by omega),if_pos h2]
  ·rw[List.getElem?_append_right (by rw[List.length_replicate];omega),List.length_replicate,List.getElem?_drop,show q+m+(j - q - m)=j by omega,hg]
   by_cases h3:j<n
   ·rw[if_pos h3,if_pos h3,if_neg h1,if_neg h2]
   ·rw[if_neg h3,if_neg h3]
theorem qQ(w:World) (g:Nat) (cur cur':Array Value) (t:TypeId) (hg:w.heap[g]?=some (.cells cur t (0,0))):(w.setRow g cur').heap[g]?=some (.cells cur' t (0,0)):=setRow_heap w g cur cur' t _ hg
theorem xB{P:Program} {w:World} {ops:Array Oper} {rest:List Oper} {o:Oper} {a:Act} {Q:Exit->Act->World->Prop} {d s:Operand} {t t':TypeId} {v u v':Value} {w':World} (hg:o.guard=none)
  (ho:o.op=.call { callee:=.builtin .copy,args:=#[d,s],argTypes:=#[t,t'] }) (hd:a.eval d=v) (hs:a.eval s=u)
  (hr:(Builtin.copy_ #[t,t'] o.type #[v,u]).run P w=.ok v' w') (h:wpList P ops Q rest (a.put o.dst v') w'):wpList P ops Q (o :: rest) a w:=by
 refine wpList_plain hg fun _ hK=>?_
 unfold Oper.wp;simp[execOp,ho,resolve,invoke,builtin,hd,hs,hr,Result.andThen];exact hK _ _ h
theorem Lz(rv:Int) (n:Nat) (h1:1<=n) (p B:Nat) (W:World) (hp:W.heap[p]?=some (.cells #[.int .i64 rv] 3)) (hB:W.heap[B]?=some (.cells (xC n rv 0) 3)) :
  (Builtin.copy_ #[38,38] 3 #[.slice (some ⟨B,0,none⟩) n n,.slice (some ⟨p,0,none⟩) 1 1]).run Tryz.prog W=.ok (.int .i64 1) (W.setRow B (xC n rv 1)):=by
 have h:=run_copy_row Tryz.prog W 38 38 3 3 B 0 n n ⟨p,0,none⟩ 1 1 (xC n rv 0) 3 [.int .i64 rv] Tryz.underlying38 (by kernel_rfl) hB (by simp only[List.length_cons,List.length_nil];exact(Nat.min_eq_left h1).symm)
  (fun j v hj=>by
   cases j with
   | zero=>simp at hj;subst hj;rw[Addr.add_lit,ab hp];rfl
   | succ j=>simp at hj) (by unfold xC;rw[oT];simpa using h1) (by simp[Value.oneCell'])
 rw[h];exact congrArg (fun r=>Result.ok (Value.int .i64 1) (W.setRow B r)) (NT n rv 0 1 (by omega))
theorem NU(rv:Int) (n q m:Nat) (h1:q+m<=n) (hm:m=min q (n - q)) (B:Nat) (W:World) (hB:W.heap[B]?=some (.cells (xC n rv q) 3)) :
  (Builtin.copy_ #[38,38] 3 #[.slice (some ⟨B,q,none⟩) (n - q) (n - q),.slice (some ⟨B,0,none⟩) q n]).run Tryz.prog W=.ok (.int .i64 (m:Int)) (W.setRow B (xC n rv (q+m))):=by
 have h:=run_copy_row Tryz.prog W 38 38 3 3 B q (n - q) (n - q) ⟨B,0,none⟩ q n (xC n rv q) 3 (List.replicate m (.int .i64 rv)) Tryz.underlying38 (by kernel_rfl) hB (by rw[List.length_replicate];exact hm)
  (fun j v hj=>by
   rw[List.getElem?_replicate]at hj;by_cases Te:j<m
   ·rw[if_pos Te]at hj
    cases hj
    rw[Addr.add_lit,ab hB,Nat.zero_add,Kb _ _ _ _ (by omega),if_pos (by omega)]
   ·rw[if_neg Te]at hj;cases hj) (by unfold xC;rw[oT,List.length_replicate];exact h1) (fun v hv=>by rw[(List.mem_replicate.1 hv).2];rfl)
 rw[h];have e:=NT n rv q m h1;rw[List.length_replicate];exact congrArg (fun r=>Result.ok (Value.int .i64 (m:Int)) (W.setRow B r)) e
theorem se{n:Nat} {w W:World} {g:Nat} {c:Array Value} (hn:n<=g) (h:Below n w W):Below n w (W.setRow g c):=
 ⟨h.os,h.tape,h.output,by simpa using h.size,fun k hk=>(setRow_other W g k c (by omega)).trans (h.block k hk)⟩
def qh(wq W2:World) (i:Nat) (D:Nat->Bool) (_x:Nat->Value) (W:World):Prop:=W=bif D i then W2 else wq
theorem qh.other{wq W2 W:World} {i j:Nat} {D:Nat->Bool} {x:Nat->Value} (h:qh wq W2 i D x W) (v:Value) (hj:i≠j):qh wq W2 i (bA D j) (bZ x j v) W:=by
 unfold qh at h ⊢;simp only[bA,if_neg hj];exact h
theorem qh.hit{wq W2:World} {i:Nat} {D:Nat->Bool} {x:Nat->Value} (v:Value):qh wq W2 i (bA D i) (bZ x i v) W2:=by simp[qh,bA]
theorem qh.yes{wq W2 W:World} {i:Nat} {D:Nat->Bool} {x:Nat->Value} (h:qh wq W2 i D x W) (hD:D i=true):W=W2:=by unfold qh at h;rw[hD]at h;exact h
theorem vO(rv:Int) (n:Nat) (h1:1<=n) (hn:n<=8192) (p:Nat) (w:World) (hp:w.heap[p]?=some (.cells #[.int .i64 rv] 3)) :
  Calls Tryz.prog 37 #[.slice (some ⟨p,0,none⟩) 1 1,.int .i64 n] w fun e w'=>e=.returned (.slice (some ⟨w.heap.size,0,none⟩) n n)/\w'.heap[w.heap.size]?=some (.cells (xC n rv n) 3)/\Below w.heap.size w w':=by
 have Jc:=fun W=>Tryz.bits_Mul 1 n (by omega) (by omega) W
 have e1:1 * n / 18446744073709551616=0:=by omega
 have e2:1 * n % 18446744073709551616=n:=by omega
 rw[e1,e2]at Jc;have hu:Tryz.prog.underlying 38=some (.slice 3):=Tryz.underlying38;have hs:(Tryz.prog.info? 3).map (·.size)=some 1:=by kernel_rfl
 have fO:=BF (fun _=>rv) n (by omega);have HM:=aa Jc;have HK:=aa fO;clear Jc fO e1 e2;have Iy:¬ (9223372036854775807:Int)<n:=by omega
 have E4:¬ (n:Int)<0:=by omega
 have js:IntKind.u64.wrap (n:Int)=n:=by rw[IntKind.wrap_u64];omega
 have yJ:IntKind.i64.wrap (n:Int)=n:=by rw[IntKind.wrap_i64];omega
 go_enter Tryz.func37,Tryz.ntmps37
 go_wp2_with fail
 refine(HM.out _).mono ?_;rintro e w' ⟨rfl,rfl⟩;have fO:=HK.out;have V5:(w'.alloc (.cells (fC n (fun _=>rv) 0) 3)).heap[w'.heap.size]?=some (.cells (xC n rv 0) 3):=am _ _;have kg:=Lz rv n h1 p w'.heap.size _ (ap _ hp) V5
 go_wp2_with (at_builtin;refine xB rfl rfl rfl rfl kg ?_)
 refine bm (fun W=>Below w'.heap.size w' W/\W.heap[w'.heap.size]?=some (.cells (xC n rv 1) 3)) ⟨se (Nat.le_refl _) ((Below.refl _ w').alloc (Nat.le_refl _) _),qQ _ _ _ _ _ V5⟩ (fun W0 aV=>?_);clear kg V5 fO HM HK
 go_loopw [8] (fun i wr=>Below w'.heap.size w' wr/\∃ q:Nat,1<=q/\q<=n/\i=.int .i64 q/\wr.heap[w'.heap.size]?=some (.cells (xC n rv q) 3)) (fun i _=>n - (intOf i).toNat)
 case atStart=>exact⟨aV.1,1,by omega,h1,rfl,aV.2⟩
 case round=>
  obtain⟨ar,q,hq1',hq2',rfl,bW⟩:=hrel;clear aV W0;by_cases aA:q<n
  ·obtain⟨m,hm⟩:∃ m,m=min q (n - q):=⟨_,rfl⟩
   have FC:q+m<=n:=by omega
   have hm1:1<=m:=by omega
   have nR:(q:Int)<n:=by omega
   have hle':(q:Int)<=n:=by omega
   have hne1:¬ n=q:=by omega
   have hne2:¬ q=n:=by omega
   have hw3:IntKind.i64.wrap ((q:Int)+(m:Int))=(q:Int)+(m:Int):=by rw[IntKind.wrap_i64];omega
   have iP:=NU rv n q m FC hm w'.heap.size wr.drew bW;have mf:wr.drew.heap[w'.heap.size]?=some (.cells (xC n rv q) 3):=bW;have DX:Below w'.heap.size w' wr.drew:=ar.drew;clear hm bW ar
   go_wp2_with fail
   obtain⟨wq,I6⟩:∃ wq,wr.drew=wq:=⟨_,rfl⟩;rw[I6]at iP mf DX;refine BD 10 [38,39,40,41,42,43,44,45,46,8] [some (Value.int .i64 (q:Int)),some (Value.slice (some ⟨w'.heap.size,0,none⟩) n n),some (Value.int .i64 (q:Int)),some (Value.slice (some ⟨w'.heap.size,q,none⟩) (n - q) (n - q)),some (Value.slice (some ⟨w'.heap.size,0,none⟩) n n),some (Value.int .i64 (q:Int)),some (Value.slice (some ⟨w'.heap.size,0,none⟩) q n),some (Value.int .i64 (m:Int)),some (Value.int .i64 ((q:Int)+(m:Int))),some (Value.int .i64 ((q:Int)+(m:Int)))] (qh wq (wq.setRow w'.heap.size (xC n rv (q+m))) 7) (by kernel_rfl) rfl (by decide) rfl (by kernel_rfl) (fun _=>I6) ?step ?tail
   case step=>
    intro x W D i o s F hi ho hs hD cF bP aq hv aL hF;have fE:i=0\/i=1\/i=2\/i=3\/i=4\/i=5\/i=6\/i=7\/i=8\/i=9:=by omega
    rcases fE with rfl|rfl|rfl|rfl|rfl|rfl|rfl|rfl|rfl|rfl
    all_goals (have dA:=cF _ _ hs hD;obtain rfl:=dp ho.symm;obtain rfl:=dp hs.symm)
    ·have Fe:D 9=false:=by
      cases h:D 9 with
      | false=>rfl
      | true=>exact absurd (bP 9 _ rfl h ⟨0,.phase⟩ (by simp) rfl) (by rw[hD];decide)
     have e8:F.getD 8 undef=Value.int .i64 (q:Int):=by(rw[hF];exact(lL (by decide) (i:=9) rfl (Nat.le_of_ble_eq_true (by kernel_rfl))).trans (cF 9 8 rfl Fe))
     clear Fe;refine pJ (.tmp 8) rfl rfl ?_;refine bS.mk (F.getD 8 undef) (fun c hc=>e8.trans (dp hc)) ?_ rfl;exact aL.other _ (by decide)
    ·have e7:F.getD 7 undef=Value.slice (some ⟨w'.heap.size,0,none⟩) n n:=ls hF (by decide) rfl
     refine pJ (.tmp 7) rfl rfl ?_;refine bS.mk (F.getD 7 undef) (fun c hc=>e7.trans (dp hc)) ?_ rfl;exact aL.other _ (by decide)
    ·have Fe:D 9=false:=by
      cases h:D 9 with
      | false=>rfl
      | true=>exact absurd (bP 9 _ rfl h ⟨2,.phase⟩ (by simp) rfl) (by rw[hD];decide)
     have e8:F.getD 8 undef=Value.int .i64 (q:Int):=by(rw[hF];exact(lL (by decide) (i:=9) rfl (Nat.le_of_ble_eq_true (by kernel_rfl))).trans (cF 9 8 rfl Fe))
     clear Fe;refine pJ (.tmp 8) rfl rfl ?_;refine bS.mk (F.getD 8 undef) (fun c hc=>e8.trans (dp hc)) ?_ rfl;exact aL.other _ (by decide)
    ·have g1:=aq ⟨1,.data⟩ (by simp) rfl
     have d1:=hv 1 _ (by omega) g1 rfl;have e39:=fi hF 1 39 (by decide) rfl (by kernel_rfl) d1;have e39':=dr e39;have g2:=aq ⟨2,.data⟩ (by simp) rfl;have d2:=hv 2 _ (by omega) g2 rfl;have e40:=fi hF 2 40 (by decide) rfl (by kernel_rfl) d2;have e40':=dr e40;have HC:=aa aL;clear aq hi hv aL cF bP hF dA iP mf DX I6 g1 d1 g2 d2
     go_wp2_with fail
     exact bS.mk _ fH (HC.out.other _ (by decide)) rfl
    ·have e7:F.getD 7 undef=Value.slice (some ⟨w'.heap.size,0,none⟩) n n:=ls hF (by decide) rfl
     refine pJ (.tmp 7) rfl rfl ?_;refine bS.mk (F.getD 7 undef) (fun c hc=>e7.trans (dp hc)) ?_ rfl;exact aL.other _ (by decide)
    ·have Fe:D 9=false:=by
      cases h:D 9 with
      | false=>rfl
      | true=>exact absurd (bP 9 _ rfl h ⟨5,.phase⟩ (by simp) rfl) (by rw[hD];decide)
     have e8:F.getD 8 undef=Value.int .i64 (q:Int):=by(rw[hF];exact(lL (by decide) (i:=9) rfl (Nat.le_of_ble_eq_true (by kernel_rfl))).trans (cF 9 8 rfl Fe))
     clear Fe;refine pJ (.tmp 8) rfl rfl ?_;refine bS.mk (F.getD 8 undef) (fun c hc=>e8.trans (dp hc)) ?_ rfl;exact aL.other _ (by decide)
    ·have g4:=aq ⟨4,.data⟩ (by simp) rfl
     have d4:=hv 4 _ (by omega) g4 rfl;have e42:=fi hF 4 42 (by decide) rfl (by kernel_rfl) d4;have e42':=dr e42;have g5:=aq ⟨5,.data⟩ (by simp) rfl;have d5:=hv 5 _ (by omega) g5 rfl;have e43:=fi hF 5 43 (by decide) rfl (by kernel_rfl) d5;have e43':=dr e43;have HC:=aa aL;clear aq hi hv aL cF bP hF dA iP mf DX I6 g4 d4 g5 d5
     go_wp2_with fail
     exact bS.mk _ fH (HC.out.other _ (by decide)) rfl
    ·have g3:=aq ⟨3,.data⟩ (by simp) rfl
     have d3:=hv 3 _ (by omega) g3 rfl;have e41:=fi hF 3 41 (by decide) rfl (by kernel_rfl) d3;have e41':=dr e41;have g6:=aq ⟨6,.data⟩ (by simp) rfl;have d6:=hv 6 _ (by omega) g6 rfl;have e44:=fi hF 6 44 (by decide) rfl (by kernel_rfl) d6;have e44':=dr e44;have hW:W=wq:=by(rw[aL,hD];rfl)
     subst hW;clear aq hi hv aL cF bP hF dA g3 d3 g6 d6;refine xB rfl rfl e41 e44 iP ?_;exact bS.mk _ fH (qh.hit _) rfl
    ·have g0:=aq ⟨0,.data⟩ (by simp) rfl
     have d0:=hv 0 _ (by omega) g0 rfl;have e38:=fi hF 0 38 (by decide) rfl (by kernel_rfl) d0;have e38':=dr e38;have g7:=aq ⟨7,.data⟩ (by simp) rfl;have d7:=hv 7 _ (by omega) g7 rfl;have e45:=fi hF 7 45 (by decide) rfl (by kernel_rfl) d7;have e45':=dr e45;have HC:=aa aL;clear aq hi hv aL cF bP hF dA iP mf DX I6 g0 d0 g7 d7
     go_wp2_with fail
     exact bS.mk _ fH (HC.out.other _ (by decide)) rfl
    ·have g8:=aq ⟨8,.data⟩ (by simp) rfl
     have d8:=hv 8 _ (by omega) g8 rfl;have e46:=fi hF 8 46 (by decide) rfl (by kernel_rfl) d8;have e46':=dr e46;have g7:=aq ⟨7,.chain⟩ (by simp) rfl;have d7:=hv 7 _ (by omega) g7 rfl;have e45:=fi hF 7 45 (by decide) rfl (by kernel_rfl) d7;have e45':=dr e45;have HC:=aa aL;clear aq hi hv aL cF bP hF dA iP mf DX I6 g8 d8 g7 d7
     go_wp2_with fail
     exact bS.mk _ fH (HC.out.other _ (by decide)) rfl
   case tail=>
    intro x W' D F aQ hv aL hF;have x0:=hv 0 _ (by omega) rfl;have x1:=hv 1 _ (by omega) rfl;have x2:=hv 2 _ (by omega) rfl;have x3:=hv 3 _ (by omega) rfl;have x4:=hv 4 _ (by omega) rfl;have x5:=hv 5 _ (by omega) rfl;have x6:=hv 6 _ (by omega) rfl;have x7:=hv 7 _ (by omega) rfl;have x8:=hv 8 _ (by omega) rfl;have x9:=hv 9 _ (by omega) rfl;have hWq:W'=wq.setRow w'.heap.size (xC n rv (q+m)):=aL.yes (aQ 7 (by omega));clear aL;simp only[br,cW,List.setIfInBounds_toArray,List.set_cons_succ,List.set_cons_zero,Nat.reduceAdd,x0,x1,x2,x3,x4,x5,x6,x7,x8,x9]at hF;subst hF hWq;clear hv aQ iP I6 x0 x1 x2 x3 x4 x5 x6 x7 x8 x9
    go_wp2_with fail
    go_roundw
    case rel=>exact⟨se (Nat.le_refl _) DX,q+m,by omega,FC,by go_num,qQ _ _ _ _ _ mf⟩
    case measure=>simp[intOf];omega
  ·obtain rfl:q=n:=by omega
   go_wp2_with fail
   go_ret
   exact⟨rfl,bW,ar⟩
end Go.Proofs.YtmeaoneaephjeaaGreatDoor
namespace Go.Proofs.YtmeaoneaephjeaaGreatDoor
open Go.RowKit Go Go.Shelf
abbrev mH(Ds:List Nat):List Deferred:=Ds.map gX
def cM(B:Nat) (Ds:List Nat) (W:World):Prop:=Ds.Nodup/\∀ D∈Ds,B<=D/\W.heap[D]?=some (.deferred (some []))
theorem cM.nil(B:Nat) (W:World):cM B [] W:=⟨List.nodup_nil,fun D h=>by simp at h⟩
theorem cM.up{B:Nat} {Ds:List Nat} {W W':World} (h:cM B Ds W) (hb:Below W.heap.size W W'):cM B Ds W':=⟨h.1,fun D hD=>⟨(h.2 D hD).1,af hb (h.2 D hD).2⟩⟩
theorem cM.keep{B:Nat} {Ds:List Nat} {W W':World} (h:cM B Ds W) (hk:∀ (k:Nat) (o:Obj),W.heap[k]?=some o->o.isCells=false->W'.heap[k]?=some o):cM B Ds W':=⟨h.1,fun D hD=>⟨(h.2 D hD).1,hk _ _ (h.2 D hD).2 rfl⟩⟩
theorem cM.cons{B:Nat} {Ds:List Nat} {W:World} {D:Nat} (h:cM B Ds W) (hD:B<=D) (hk:W.heap[D]?=some (.deferred (some []))) (hn:∀ E∈Ds,E<D):cM B (D :: Ds) W:=
 ⟨List.nodup_cons.2 ⟨fun e=>Nat.lt_irrefl _ (hn _ e),h.1⟩,fun E hE=>by
  rcases List.mem_cons.1 hE with rfl|hE
  ·exact⟨hD,hk⟩
  ·exact h.2 E hE⟩
def jB(Ds:List Nat) (W:World):World:=Ds.foldl (fun W D=>W.putObj D (.deferred none)) W
theorem FQ(Ds:List Nat) (W:World) {k:Nat} (hk:k∉Ds):(jB Ds W).heap[k]?=W.heap[k]?:=by
 unfold jB;induction Ds generalizing W with
 | nil=>rfl
 | cons D r ih=>
  simp at hk;rw[List.foldl_cons,ih _ hk.2];exact World.putObj_heap_other hk.1
theorem l7{B n:Nat} {w W:World} {Ds:List Nat} (h:∀ D∈Ds,B<=D) (hn:n<=B) (hb:Below n w W):Below n w (jB Ds W):=by
 unfold jB;induction Ds generalizing W with
 | nil=>exact hb
 | cons D r ih=>exact ih (fun E hE=>h E (by simp[hE])) (eH (Nat.le_trans hn (h D (by simp))) hb)
theorem qR{B:Nat} {Ds:List Nat} {W:World} (h:cM B Ds W):CK W (jB Ds W):=fun k o hk ho=>by
 rw[FQ]
 ·exact hk
 ·intro hm
  have:=(h.2 k hm).2;rw[hk]at this;cases this;cases ho
theorem GN{P:Program} {fn:Func} {R:Ending->World->Prop} {tmps:Array Value} (Ds:List Nat):∀ (W:World),Ds.Nodup->(∀ D∈Ds,W.heap[D]?=some (.deferred (some [])))->∀ {v:Value},
  (results fn tmps).run P (jB Ds W)=.ok v (jB Ds W)->R (.returned v) (jB Ds W)->LeavesInM Fence.wide 0 P fn tmps R (mH Ds) .returning W:=by
 induction Ds with
 | nil=>intro W _ _ v hv h;exact⟨v,hv,h⟩
 | cons D r ih=>
  intro W TN hk v hv h;rw[List.nodup_cons]at TN;refine⟨by simp,.inl ⟨_,_,rfl,run_takeDeferred (hk D (by simp)),?_⟩⟩;exact ih _ TN.2 (fun E hE=>(World.putObj_heap_other (by rintro rfl;exact TN.1 hE)).trans (hk E (by simp[hE]))) hv h
theorem qS{P:Program} {fn:Func} {R:Ending->World->Prop} {tmps:Array Value} {B:Nat} {Ds:List Nat} {W:World} {v:Value} (hm:cM B Ds W)
  (hv:(results fn tmps).run P (jB Ds W)=.ok v (jB Ds W)) (h:R (.returned v) (jB Ds W)):bodyPostM Fence.wide 0 P fn R .ret { tmps:=tmps,defers:=mH Ds } W:=
 GN Ds W hm.1 (fun D hD=>(hm.2 D hD).2) hv h
end Go.Proofs.YtmeaoneaephjeaaGreatDoor
namespace Go.Proofs.YtmeaoneaephjeaaGreatDoor
def jW(L:Int) (c acc:List Int) (sm:Nat × Mv):List Int:=acc.set sm.1 (pn L c (acc.getD sm.1 0) sm.2)
def jf(L:Int) (c:List Int) (l:List (List Mv)) (i:Nat):List Int:=((uh l).take i).foldl (jW L c) (List.replicate l.length 0)
theorem LA(L:Int) (c:List Int) (l:List (List Mv)):jf L c l 0=List.replicate l.length 0:=rfl
theorem LB(L:Int) (c:List Int) (l:List (List Mv)) (i:Nat) (h:i<movesN l):jf L c l (i+1)=jW L c (jf L c l i) (mvAt l i):=by
 unfold jf mvAt;have hi:i<(uh l).length:=by rw[wn];exact h
 rw[List.take_succ_eq_append_getElem hi,List.foldl_append,List.getD_eq_getElem?_getD,List.getElem?_eq_getElem hi];rfl
theorem NV(L:Int) (c:List Int) (l:List (List Mv)) (i:Nat):(jf L c l i).length=l.length:=by
 unfold jf
 have key:∀ (x:List (Nat × Mv)) (acc:List Int),(x.foldl (jW L c) acc).length=acc.length:=by
  intro x;induction x with
  | nil=>intro acc;rfl
  | cons a r ih=>intro acc;rw[List.foldl_cons,ih];simp[jW]
 rw[key];simp
theorem Qz(L:Int) (c:List Int) (x:List Mv):∀ (pre rest:List Int) (z:Int),(x.map fun m=>(pre.length,m)).foldl (jW L c) (pre++z :: rest)=pre++x.foldl (pn L c) z :: rest:=by
 induction x with
 | nil=>intro pre rest z;rfl
 | cons m r ih=>
  intro pre rest z;rw[List.map_cons,List.foldl_cons,List.foldl_cons,<-ih];congr 1;simp[jW]
theorem NW(L:Int) (c:List Int) (l:List (List Mv)):∀ (pre:List Int),(io pre.length l).foldl (jW L c) (pre++List.replicate l.length 0)=pre++l.map (AI L c):=by
 induction l with
 | nil=>intro pre;simp[io]
 | cons x r ih=>
  intro pre;simp only[io,List.foldl_append,List.length_cons,List.replicate_succ,List.map_cons];rw[Qz];have h:=ih (pre++[AI L c x]);simp only[List.length_append,List.length_cons,List.length_nil,Nat.zero_add,List.append_assoc,List.cons_append,List.nil_append]at h;exact h
theorem NX(L:Int) (a:Adv) (c:List Int):jf L c a.states (movesN a.states)=yW L a c:=by
 unfold jf yW;rw[<-wn,List.take_length];have:=NW L c a.states [];simpa[uh] using this
theorem QA{L:Int} (hL:0<=L) {c:List Int} (hc:Bj L c) (l:List (List Mv)) (i:Nat):Bj L (jf L c l i):=by
 unfold jf
 have key:∀ (x:List (Nat × Mv)) (acc:List Int),Bj L acc->Bj L (x.foldl (jW L c) acc):=by
  intro x;induction x with
  | nil=>intro acc h;exact h
  | cons m r ih=>
   intro acc h;refine ih _ fun y hy=>?_
   unfold jW at hy;rcases List.mem_or_eq_of_mem_set hy with hy|rfl
   ·exact h y hy
   ·exact Gk hL hc (uj hL h _) _
 exact key _ _ (fun y hy=>by rw[(List.mem_replicate.1 hy).2];omega)
end Go.Proofs.YtmeaoneaephjeaaGreatDoor
namespace Go.Proofs.YtmeaoneaephjeaaGreatDoor
open Go.RowKit Go Go.Shelf
attribute [local go_sem] Oper.semAt_some
theorem En(l:List Int) (i:Nat) (h:i<l.length):(bu l)[i]?=some (.int .i64 (l.getD i 0)):=by
 unfold bu;rw[List.getElem?_toArray,List.getElem?_map,List.getElem?_eq_getElem h,List.getD_eq_getElem?_getD,List.getElem?_eq_getElem h];rfl
theorem NY(l:List Int) (s:Nat) (z:Int):(bu l).setIfInBounds s (.int .i64 z)=bu (l.set s z):=by
 unfold bu;rw[List.setIfInBounds_toArray,List.map_set]
theorem cB.marks{B B0:Nat} {Ds:List Nat} (h:∀ D∈Ds,D<B):cB B (fun W=>cM B0 Ds W):=fun _ _ c x=>⟨x.1,fun D hD=>⟨(x.2 D hD).1,c.same _ _ (x.2 D hD).2 (.inl (h D hD))⟩⟩
theorem cM.lt{B:Nat} {Ds:List Nat} {W:World} (h:cM B Ds W):∀ D∈Ds,D<W.heap.size:=fun D hD=>aB (h.2 D hD).2
theorem FR(a:Adv) (v:Value) (k:Nat) (L:Int) (w:World) (hv:bh w v a.states) (h1:1<=a.states.length) (h2:a.states.length<=256) (aQ:∀ j,j<a.states.length->stateE a (a.states.getD j [])=0) (hk:k<=6) (hL:0<=L) (hL2:L<=1048576) :
  Calls Tryz.prog 212 #[.agg #[.int .i64 a.n,v],.int .i64 k,.int .i64 L] w fun e w'=>e=.returned (.int .i64 (numberL L a k))/\Below w.heap.size w w':=by
 have G:=aa hv;obtain⟨pa,ca,rfl,la1,la2,ea⟩:=hv.at;clear hv ea;have mz:=aa aQ;clear aQ;refine fQ Tryz.func212 rfl ?_;simp only[Tryz.ntmps212,List.size_toArray,List.length_cons,List.length_nil,Nat.reduceAdd,Nat.reduceSub,Array.replicate_succ,Array.replicate_zero,List.push_toArray,List.append_toArray,List.nil_append,List.cons_append]
 go_wp2_with fail
 refine aN (fun W=>Below w.heap.size w W/\W.heap[w.heap.size]?=some (.cells #[.int .i64 a.n,.slice pa a.states.length ca] 27)/\W.heap[w.heap.size+1]?=some (.cells #[.int .i64 L] 3)/\W.heap[w.heap.size+1+1]?=some (.cells #[.int .i64 1] 3)) ⟨by go_grown,ap _ (ap _ (am _ _)),ap _ (bd _ _ _),dW _ _ _ _⟩ (fun W0 aV=>?_);obtain⟨aH,bB,gL,gR⟩:=aV;refine(vO 1 a.states.length h1 (by omega) _ W0 gR).mono ?_;rintro e w1 ⟨rfl,bW,aI⟩
 go_wp2_with fail
 have iX:=ae aH aI;have dZ:=af aI bB;have ro:=af aI gL;have cg:=aH.size;have bV:=aI.size;have Vp:=aB gR
 refine wp_loop (fun act W=>∃ (q:Nat) (Ds:List Nat) (cb:Nat) (u8 u9 u10 u18 u19 u20 u21 u22 u23 u24 u25 u26 u27 u28 u29 u30 u31 u32 u33 u34 u35 u36 u37 u38 u39 u40 u41 u42 u43 u44 u45 u46:Value),
   act={ tmps:=#[Value.agg #[Value.int IntKind.i64 a.n,Value.slice pa a.states.length ca],Value.int IntKind.i64 k,Value.int IntKind.i64 L,Value.pointer (some ⟨w.heap.size,0,none⟩),undef,Value.pointer (some ⟨w.heap.size+1,0,none⟩),Value.int IntKind.i64 0,Value.pointer (some ⟨w1.heap.size,0,none⟩),u8,u9,u10,
     Value.slice (some ⟨w.heap.size+1+1,0,none⟩) 1 1,Value.pointer (some ⟨w.heap.size,1,none⟩),Value.slice pa a.states.length ca,Value.int IntKind.i64 a.states.length,Value.slice (some ⟨W0.heap.size,0,none⟩) a.states.length a.states.length,Value.int IntKind.i64 k,Value.int IntKind.i64 q,
     u18,u19,u20,u21,u22,u23,u24,u25,u26,u27,u28,u29,u30,u31,u32,u33,u34,u35,u36,u37,u38,u39,u40,u41,u42,u43,u44,u45,u46],defers:=mH Ds }/\q<=k/\cM w.heap.size Ds W/\Below w.heap.size w W/\w1.heap.size<W.heap.size ∧
    W.heap[w.heap.size]?=some (.cells #[.int .i64 a.n,.slice pa a.states.length ca] 27)/\W.heap[w.heap.size+1]?=some (.cells #[.int .i64 L] 3) ∧
    W.heap[w1.heap.size]?=some (.cells #[.slice (some ⟨cb,0,none⟩) a.states.length a.states.length] 38)/\w.heap.size<=cb/\W.heap[cb]?=some (.cells (bu (dP L a q)) 3))
  (fun act _=>k - (intOf (act.tmps.getD 17 undef)).toNat) ?start ?round
 case start=>
  refine⟨0,[],W0.heap.size,_,_,_,_,_,_,_,_,_,_,_,_,_,_,_,_,_,_,_,_,_,_,_,_,_,_,_,_,_,_,_,_,rfl,by omega,cM.nil _ _,iX.alloc iX.size _,by simp,ap _ dZ,ap _ ro,am _ _,by omega,ap _ ?_⟩;rw[bW]
  have:xC a.states.length 1 a.states.length=bu (dP L a 0):=by
   unfold xC;rw[pK];congr 1;apply List.ext_getElem (by simp[dP]);intro i _ _;simp[dP]
  rw[this]
 case round=>
  rintro act W ⟨q,Ds,cb,u8,u9,u10,u18,u19,u20,u21,u22,u23,u24,u25,u26,u27,u28,u29,u30,u31,u32,u33,u34,u35,u36,u37,u38,u39,u40,u41,u42,u43,u44,u45,u46,rfl,hq,fO,dm,hsW,hA,hR,hC,hcb,hrw⟩;have Aj:=aa fO;have Fk:=aa hrw;clear fO hrw bW bB gL gR dZ ro;by_cases aA:q<k
  ·have hmake:=je (fun _=>0) a.states.length h2
   have nR:(q:Int)<k:=by omega
   have t7:=ab hC 0;have tA:=ab hA;simp at t7;have hlA:=aB hA;have HC:=aa hC;have HA:=aa hA;have HR:=aa hR;clear hC hA hR
   go_wp2_with fail
   refine(xa _ _ _ _ _).mono ?_;rintro e w2 ⟨rfl,rfl⟩;clear t7 tA hmake
   go_wp2_with fail
   have hlt0:=Aj.out.lt
   refine bm (fun W1=>Below w.heap.size w W1/\W.heap.size<W1.heap.size/\W1.heap[w.heap.size+1]?=some (.cells #[.int .i64 L] 3)/\W1.heap[w.heap.size]?=some (.cells #[.int .i64 a.n,.slice pa a.states.length ca] 27)/\W1.heap[w1.heap.size]?=some (.cells #[.slice (some ⟨cb,0,none⟩) a.states.length a.states.length] 38)/\W1.heap[cb]?=some (.cells (bu (dP L a q)) 3) ∧
     W1.heap[W.heap.size]?=some (.cells (bu (jf L (dP L a q) a.states 0)) 3)/\W1.heap[W.heap.size+1]?=some (.cells #[.slice (some ⟨W.heap.size,0,none⟩) a.states.length a.states.length] 38)/\W1.heap[W.heap.size+1+1]?=some (.cells #[.int .i64 a.n,.slice pa a.states.length ca] 27)/\cM w.heap.size Ds W1)
    ⟨((dm.alloc dm.size _).alloc (by simp only[World.size_alloc];omega) _).alloc (by simp only[World.size_alloc];omega) _,by simp only[World.size_alloc];omega,ap _ (ap _ (ap _ HR.out)),ap _ (ap _ (ap _ HA.out)),ap _ (ap _ (ap _ HC.out)),ap _ (ap _ (ap _ Fk.out)),ap _ (ap _ ?_),ap _ (bd _ _ _),dW _ _ _ _,Aj.out.up (by go_grown)⟩ (fun W1 cD=>?_)
   ·rw[am,LA]
    have:fC a.states.length (fun _=>0) 0=bu (List.replicate a.states.length 0):=by
     apply Array.ext (by simp[fC,bu]);intro i _ _;simp[fC,bu]
    rw[this]
   obtain⟨g1,g2,g3,g4,g5,g6,g7,g8,g9,g10⟩:=cD;have cY:=vy w _ a.states G.out W1 g1 (W.heap.size+1+1) (by simp[ab g9]);have HZ1:=aa g2;have hcbB:=aB g6
   refine mj (gf:=221) (lb:=#[.pointer (some ⟨W.heap.size+1+1,0,none⟩)]) rfl (enters_of Tryz.func221 (by kernel_rfl) rfl) cY (Below.refl _ _) (fun k hk=>Nat.lt_of_lt_of_le hk g1.size) (fun i=>rfl)
    (fun i V=>Below w.heap.size w V/\V.heap[w.heap.size+1]?=some (.cells #[.int .i64 L] 3)/\V.heap[w.heap.size]?=some (.cells #[.int .i64 a.n,.slice pa a.states.length ca] 27)/\V.heap[w1.heap.size]?=some (.cells #[.slice (some ⟨cb,0,none⟩) a.states.length a.states.length] 38)/\V.heap[cb]?=some (.cells (bu (dP L a q)) 3) ∧
     V.heap[W.heap.size]?=some (.cells (bu (jf L (dP L a q) a.states i)) 3)/\V.heap[W.heap.size+1]?=some (.cells #[.slice (some ⟨W.heap.size,0,none⟩) a.states.length a.states.length] 38)/\cM w.heap.size Ds V)
    (fun _ _ _=>False)
    (fun i=>(cB.below g1.size).and (cB.cells.and (cB.cells.and (cB.cells.and (cB.cells.and (cB.cells.and (cB.cells.and (cB.marks g10.lt)))))))) (fun c i=>cB.pure) ⟨g1,g3,g4,g5,g6,g7,g8,g10⟩ ?round2 ?done ?stop
   case stop=>rintro D c i V hD hi h;exact h.elim
   case done=>
    intro D V hD hI hK;obtain⟨f1,f2,f3,f4,f5,f6,f7,f8⟩:=hI;rw[NX]at f6;have t8:=ab f7 0;have t7:=ab f4 0;have z7:=aE f4 0;simp at t8 t7;have HF:=aa (And.intro f1 (And.intro f2 (And.intro f3 (And.intro f4 (And.intro f5 (And.intro f6 (And.intro f7 (And.intro f8 hK))))))));have lB:∀ E∈Ds,E<D:=fun E hE=>Nat.lt_of_lt_of_le (g10.lt E hE) hD
    clear f1 f2 f3 f4 f5 f6 f7 f8 hK cY g3 g4 g5 g6 g7 g8 g9
    go_wp2_with fail
    refine⟨⟨q+1,D :: Ds,W.heap.size,_,_,_,_,_,_,_,_,_,_,_,_,_,_,_,_,_,_,_,_,_,_,_,_,_,_,_,_,_,_,_,_,rfl,by omega,?_,HF.out.1.setCell (by dsimp only;omega) _,?_,?_,?_,?_,by omega,?_⟩,?_⟩
    ·refine cM.cons (HF.out.2.2.2.2.2.2.2.1.keep fun k o hk ho=>?_) (by omega) ?_ lB
     ·exact(KeepsOthers.setCell _ _ _).same k o hk ho
     ·rw[Below.heap_setCell _ _ _ _ (by dsimp only;omega)];exact HF.out.2.2.2.2.2.2.2.2
    ·simp only[World.size_setCell];exact aB HF.out.2.2.2.1
    ·rw[Below.heap_setCell _ _ _ _ (by dsimp only;omega)];exact HF.out.2.2.1
    ·rw[Below.heap_setCell _ _ _ _ (by dsimp only;omega)];exact HF.out.2.1
    ·rw[aF HF.out.2.2.2.1];rfl
    ·rw[Below.heap_setCell _ _ _ _ (by dsimp only;omega)];exact HF.out.2.2.2.2.2.1
    ·simp[intOf];omega
   case round2=>
    intro yl i V hi hl hI;unfold Gp;obtain⟨s,j,hs,hj,rfl⟩:=J4 a.states i hi;have Id:=aa (LB L (dP L a q) a.states (cnt a.states s+j) hi);rw[yV a.states s j hs hj]at Id ⊢;have oB:=kL mz.out hs hj;generalize a.states[s][j]=m at oB Id;dsimp only;have HI:=aa hI;clear hI;have hszV:=HI.out.1.size;clear cY g3 g4 g5 g6 g7 g8 g9
    gi_wp2
    refine⟨Bod.of_below (fun k hk=>Nat.lt_of_lt_of_le hk hszV) (by go_grown),(fun X=>(Below w.heap.size w X/\X.heap[w.heap.size+1]?=some (.cells #[.int .i64 L] 3)/\X.heap[w.heap.size]?=some (.cells #[.int .i64 a.n,.slice pa a.states.length ca] 27)/\X.heap[w1.heap.size]?=some (.cells #[.slice (some ⟨cb,0,none⟩) a.states.length a.states.length] 38)/\X.heap[cb]?=some (.cells (bu (dP L a q)) 3) ∧
     X.heap[W.heap.size]?=some (.cells (bu (jf L (dP L a q) a.states (cnt a.states s+j))) 3)/\X.heap[W.heap.size+1]?=some (.cells #[.slice (some ⟨W.heap.size,0,none⟩) a.states.length a.states.length] 38)/\cM w.heap.size Ds X)/\X.heap[V.heap.size]?=some (.cells #[.int .i64 m.r.g.n,.int .i64 m.r.g.h0,.int .i64 m.r.g.h1,.int .i64 m.r.g.h2,.int .i64 m.r.g.h3,.int .i64 m.r.g.h4,.int .i64 m.r.f,.int .i64 m.to] 143)),
     ((cB.below g1.size).and (cB.cells.and (cB.cells.and (cB.cells.and (cB.cells.and (cB.cells.and (cB.cells.and (cB.marks g10.lt)))))))).and cB.cells,⟨⟨HI.out.1.alloc hszV _,ap _ HI.out.2.1,ap _ HI.out.2.2.1,ap _ HI.out.2.2.2.1,ap _ HI.out.2.2.2.2.1,ap _ HI.out.2.2.2.2.2.1,ap _ HI.out.2.2.2.2.2.2.1,HI.out.2.2.2.2.2.2.2.up (by go_grown)⟩,am _ _⟩,fun V2 hV2 _=>?_⟩
    obtain⟨⟨x1,x2,x3,x4,x5,x6,x7,x8⟩,x9⟩:=hV2;have Am:=D7 L a q;have hfn:=NV L (dP L a q) a.states (cnt a.states s+j);have hok1:=uj hL (AJ hL a q) m.to.toNat;have hok2:=uj hL (QA hL (AJ hL a q) a.states (cnt a.states s+j)) s;have t5:=ab x2 0;have t7:=ab x4 0;have t8:=ab x7 0;have tM:=ab x9;have tc:=ab x5 m.to.toNat;have tr:=ab x6 s;have zr:=aE x6 s;simp at t5 t7 t8;rw[En _ _ (by omega)]at tc tr;have HX:=aa (And.intro x1 (And.intro x2 (And.intro x3 (And.intro x4 (And.intro x5 (And.intro x6 (And.intro x7 (And.intro x8 x9))))))));clear x1 x2 x3 x4 x5 x6 x7 x8 x9;have xZ:jf L (dP L a q) a.states (cnt a.states s+j+1)=(jf L (dP L a q) a.states (cnt a.states s+j)).set s (min ((jf L (dP L a q) a.states (cnt a.states s+j)).getD s 0+(dP L a q).getD m.to.toNat 0) (L+1)):=Id.out;have R':=aa xZ;clear xZ Id;generalize (dP L a q).getD m.to.toNat 0=nx at hok1 tc R';generalize (jf L (dP L a q) a.states (cnt a.states s+j)).getD s 0=ns at hok2 tr R';have uT:0<=m.to:=oB.2.1;have hm1:m.to<a.states.length:=oB.2.2;have js:IntKind.i64.wrap (ns+nx)=ns+nx:=IntWalk.i64_in _ (by omega);have yJ:IntKind.i64.wrap (L+1)=L+1:=IntWalk.i64_in _ (by omega)
    gi_wp2
    refine kN 15 (fun ⟨_,_,h⟩=>h) (by kernel_rfl) (by kernel_rfl) (by kernel_rfl) (fun ops Lq hops hLq=>?_);simp only[List.take_succ_cons,List.take_zero,List.drop_succ_cons,List.drop_zero]at hLq ⊢;have CS:=aa hLq;clear hLq;have Sk:=aa hops;clear hops
    repeat still_step
    refine wpStill_nil ?_;refine CS.out _ ?_
    go_wp2_with fail
    all_goals
     obtain⟨x1,x2,x3,x4,x5,x6,x7,x8,x9⟩:=HX.out;have z1:=HZ1.out;have z2:=aB Fk.out;refine⟨⟨by simp,fun k hk=>(Below.heap_setCell V2 _ _ _ (by dsimp only;omega)),fun k o _ hk ho=>(KeepsOthers.setCell V2 _ _).same k o hk ho⟩,(x1.setCell (by dsimp only;omega) _).drew,?_,?_,?_,?_,?_,?_,?_⟩
     ·exact(Below.heap_setCell V2 _ _ _ (by dsimp only;omega)).trans x2
     ·exact(Below.heap_setCell V2 _ _ _ (by dsimp only;omega)).trans x3
     ·exact(Below.heap_setCell V2 _ _ _ (by dsimp only;omega)).trans x4
     ·exact(Below.heap_setCell V2 _ _ _ (by dsimp only;omega)).trans x5
     ·refine(aF x6 s _).trans ?_
      rw[R'.out,<-NY]
      all_goals first
       | rw[Int.min_eq_right (by omega)]
       | rw[Int.min_eq_left (by omega)]
     ·exact(Below.heap_setCell V2 _ _ _ (by dsimp only;omega)).trans x7
     ·exact x8.keep fun k o hk ho=>(KeepsOthers.setCell V2 _ _).same k o hk ho
  ·obtain rfl:q=k:=by omega
   have t7:=ab hC 0;simp at t7;have c0:=ab Fk.out 0
   have qm:(bu (dP L a q))[0]?=some (.int .i64 (numberL L a q)):=by
    have hl:=D7 L a q;unfold numberL bu;rw[List.getElem?_toArray,List.getElem?_map,List.getElem?_eq_getElem (by omega)];simp[List.getD_eq_getElem?_getD,List.getElem?_eq_getElem (show 0<(dP L a q).length by omega)]
   rw[qm]at c0;have sF:0<a.states.length:=by omega
   go_wp2_with fail
   refine qS Aj.out (v:=.int .i64 (numberL L a q)) ?_ ⟨rfl,l7 (fun D hD=>(Aj.out.2 D hD).1) (Nat.le_refl _) dm⟩;simp[results,Tryz.results212,go_sem]
end Go.Proofs.YtmeaoneaephjeaaGreatDoor
namespace Go.Proofs.YtmeaoneaephjeaaGreatDoor
open Go.RowKit Go Go.Shelf
def countedR(L:Int) (a:Adv) (r:Int):Int × Int:=
 if advE a≠0 then(0,advE a) else if r<0\/6<r then(0,2) else if L<numberL L a r.toNat then(0,17) else(numberL L a r.toNat,0)
theorem zM(a:Adv) (v:Value) (r L:Int) (w:World) (hv:bh w v a.states) (hN:movesN a.states<1099511627776) (hL:0<=L) (hL2:L<=1048576) :
  Calls Tryz.prog 192 #[.agg #[.int .i64 a.n,v],.int .i64 r,.int .i64 L] w fun e w'=>e=.returned (.tuple #[.int .i64 (countedR L a r).1,.int .i64 (countedR L a r).2])/\Below w.heap.size w w':=by
 have G:=aa hv;obtain⟨pa,ca,rfl,_⟩:=hv.at;clear hv
 go_enter Tryz.func192,Tryz.ntmps192
 go_wp2_with fail
 refine aN (fun W=>Below w.heap.size w W/\W.heap[w.heap.size]?=some (.cells #[.int .i64 a.n,.slice pa a.states.length ca] 27)) ⟨by go_grown,am _ _⟩ (fun W0 aV=>?_);obtain⟨aH,bB⟩:=aV;refine(xb a _ W0 (G.out.up up_moves aH) hN).mono ?_;rintro e w1 ⟨rfl,aI⟩;have iX:=ae aH aI;have dZ:=af aI bB;have t1:=ab dZ;have HE:=aa (show advE a=0->_ from fun h=>gY h);have HV:Hid (countedR L a r=if advE a≠0 then(0,advE a) else if r<0\/6<r then(0,2) else if L<numberL L a r.toNat then(0,17) else(numberL L a r.toNat,0)):=by exact rfl
 generalize advE a=ea at HE HV;have du:=aa dZ;clear dZ bB;by_cases wJ:ea=0
 case neg=>
  have hea':(ea != 0)=true:=by simpa using wJ
  have cV:Hid (countedR L a r=(0,ea)):=by(have h:countedR L a r=(0,ea):=by rw[HV.out,if_pos wJ]);exact h
  clear HV wJ
  go_wp2_with fail
  go_ret2
  refine⟨jU ?_ ?_,iX⟩<;>rw[cV.out]
 subst wJ;by_cases hr:r<0\/6<r
 ·have cV:Hid (countedR L a r=(0,2)):=by(have h:countedR L a r=(0,2):=by rw[HV.out,if_neg (by simp),if_pos hr]);exact h
  clear HV;rcases hr with hr|hr
  ·go_wp2_with fail
   go_ret2
   refine⟨jU ?_ ?_,iX⟩<;>rw[cV.out]
  ·go_wp2_with fail
   go_ret2
   refine⟨jU ?_ ?_,iX⟩<;>rw[cV.out]
 obtain⟨k,rfl⟩:∃ k:Nat,r=(k:Int):=⟨r.toNat,by omega⟩;have hk:k<=6:=by omega
 rw[Int.toNat_natCast,if_neg (by simp),if_neg hr]at HV;have K6:¬ ((k:Int)<0):=by omega
 have KX:¬ (6<(k:Int)):=by omega
 clear hr
 go_wp2_with fail
 refine(FR a _ k L w1 (G.out.up up_moves iX) (HE.out trivial).1.1 (HE.out trivial).1.2 (HE.out trivial).2.1 hk hL hL2).mono ?_;rintro e w2 ⟨rfl,aU⟩;have rt:=ae iX aU;generalize numberL L a k=x at HV;by_cases hx:L<x
 ·have cV:Hid (countedR L a k=(0,17)):=by(have h:countedR L a k=(0,17):=by rw[HV.out,if_pos hx]);exact h
  clear HV t1
  go_wp2_with fail
  go_ret2
  refine⟨jU ?_ ?_,rt⟩<;>rw[cV.out]
 ·have cV:Hid (countedR L a k=(x,0)):=by(have h:countedR L a k=(x,0):=by rw[HV.out,if_neg hx]);exact h
  clear HV t1
  go_wp2_with fail
  go_ret2
  refine⟨jU ?_ ?_,rt⟩<;>rw[cV.out]
theorem GO(a:Adv) (v:Value) (r:Int) (w:World) (hv:bh w v a.states) (hN:movesN a.states<1099511627776) :
  Calls Tryz.prog 191 #[.agg #[.int .i64 a.n,v],.int .i64 r] w fun e w'=>e=.returned (.tuple #[.int .i64 (countedR 1048576 a r).1,.int .i64 (countedR 1048576 a r).2])/\Below w.heap.size w w':=by
 have G:=aa hv;obtain⟨pa,ca,rfl,_⟩:=hv.at;clear hv
 go_enter Tryz.func191,Tryz.ntmps191
 go_wp2_with fail
 refine aN (fun W=>Below w.heap.size w W) (by go_grown) (fun W0 aH=>?_);refine(zM a _ r 1048576 W0 (G.out.up up_moves aH) hN (by omega) (by omega)).mono ?_;rintro e w1 ⟨rfl,aI⟩
 go_wp2_with fail
 go_ret2
 exact⟨rfl,ae aH aI⟩
theorem Eo(a b:List Rd):cP (a++b)=cP a++cP b:=by simp[cP]
theorem ux(v:Value) (l:List Int) (w:World) (hv:aT w v l) (hn:l.length<=1099511627776) :
  Calls Tryz.prog 195 #[v] w fun e w'=>∃ u,e=.returned u/\aG w' w.heap.size 3 1 u l.length (l.map (Value.int .i64))/\Below w.heap.size w w':=by
 refine(xd v _ w (zy hv) (by simpa using hn)).mono ?_;rintro e w' ⟨u,rfl,ho,hb⟩;exact⟨u,rfl,aG.of_owns (by simpa using ho),hb⟩
theorem uy(v:Value) (l:List Rd) (w:World) (hv:j8 w v l) (hn:l.length<=1048576) :
  Calls Tryz.prog 165 #[v] w fun e w'=>∃ u,e=.returned u/\aG w' w.heap.size 141 7 u l.length (cP l)/\Below w.heap.size w w':=by
 obtain⟨i0,hi,cg,bV,cj⟩:=info_parts Tryz.infoRound;have HW:=aa (Nv hv);have jK:=fun w=>Lib.run_eql_slice_nil (P:=Tryz.prog) w 87
 obtain⟨a,cap,rfl,⟨_,_,jD⟩,_,_⟩:=hv;cases a with
 | none=>
  have hl:l.length=0:=by have:=jD rfl;omega
  obtain rfl:l=[]:=List.eq_nil_of_length_eq_zero hl;obtain rfl:=jD rfl
  go_enter Tryz.func165,Tryz.ntmps165
  go_wp2_with fail
  go_ret
  exact⟨_,rfl,aG.nil _ _ _ _,Below.refl _ _⟩
 | some ad=>
  have bL:∀ j u,(cP l)[j]?=some u->(w.alloc (.cells #[] 141)).cell? (ad.add j)=some u:=fun j u hj=>by
   obtain⟨b,o,c,e,eB⟩:=HW.out j u hj;have:ad=⟨b,o,none⟩:=by simp at e;exact e.1
   subst this;have:(Addr.add ⟨b,o,none⟩ j)=⟨b,o+j,none⟩:=by unfold Addr.add;split<;>simp_all
   rw[this];exact ak (by go_grown) eB
  have aX:aG (w.alloc (.cells #[] 141)) w.heap.size 141 7 (.slice (some ⟨w.heap.size,0,none⟩) 0 0) 0 []:=⟨by simp,.inr ⟨w.heap.size,0,#[],(0,0),rfl,Nat.le_refl _,am _ _,fun i hi=>by simp at hi,by omega,by simp[maxLen],by simp,by simp⟩⟩;have bz:=aa bL;have bI:=aa aX;clear bL aX jD
  go_enter Tryz.func165,Tryz.ntmps165
  go_wp2_with (at_builtin;(refine aY _ rfl (.tmp 5) (.tmp 6) 87 rfl w.heap.size 141 i0 _ 7 56 Tryz.underlying87 hi cg bV cj rfl (by decide) _ 0 [] rfl bI.out ad l.length cap (cP l) rfl (xg l) bz.out (rU l) (by unfold maxLen;omega) (by omega) (by simp) ?_;intro v' w1 gE la _;obtain⟨av',cv',rfl⟩:=gE.slice))
  go_ret
  rw[Nat.zero_add,List.nil_append]at gE;refine⟨_,rfl,by simpa using gE,Below.grown (w:=w.alloc (.cells #[] 141)) (by go_grown) la (by simp) (fun k hk=>?_)⟩;cases hk;exact Nat.le_refl _
theorem FS{P:Program} (w:World) (base:Nat) (t ty e:TypeId) (i:TypeInfo) (size:Nat) (ht:P.underlying t=some (.slice e)) (hi:P.info? e=some i)
  (eO:i.size=size) (g cap n:Nat) (xs:List Value) (aX:aG w base e size (.slice (some ⟨g,0,none⟩) n cap) n xs)
  (a:Addr) (m c:Nat) (news:List Value) (hl:news.length=m * size) (bL:∀ j u,news[j]?=some u->w.cell? (a.add j)=some u) (h1:∀ u∈news,u.oneCell'=true) (mg:n+m<=cap) :
  ∃ w',(Builtin.append_ #[t,t] ty #[.slice (some ⟨g,0,none⟩) n cap,.slice (some a) m c]).run P w=.ok (.slice (some ⟨g,0,none⟩) (n+m) cap) w'/\aG w' base e size (.slice (some ⟨g,0,none⟩) (n+m) cap) (n+m) (xs++news)/\w.grownBy w' (some g)/\w'.heap.size=w.heap.size:=by
 obtain⟨iu,h⟩:=aX;rcases h with ⟨h,_⟩|⟨g',cap',cur,fz,h,Cq,hg,mU,jO,p7,jt,Ng⟩
 ·cases h
 cases h
 subst eO;have Iq:n * i.size+news.length<=cur.size:=by rw[hl,jt,<-Nat.add_mul];exact Nat.mul_le_mul_right _ mg
 have hr:=run_append_room_cells (P:=P) w t ty e i ht hi g 0 n cap a m c news hl bL h1 mg (fun j hj=>by rw[Nat.zero_add,ab hg];simp;omega)
  (fun j hj=>by
   simp only[World.frozen?,hg,Nat.zero_add];have:=mU (n * i.size+j) (by omega)
   simpa using this)
 rw[Nat.zero_add]at hr;obtain⟨cur',g1,g2,g3⟩:=l6 g e fz news (n * i.size) w cur hg Iq;obtain⟨o1,o2,o3,o4,o5⟩:=lf g news (n * i.size) w;refine⟨_,hr,⟨by rw[List.length_append,iu,hl,Nat.add_mul],.inr ⟨g,cap,cur',fz,rfl,Cq,g1,fun k hk=>mU k (by omega),mg,p7,by omega,?_⟩⟩,⟨o2,o3,o4,by omega,fun k _ hk=>o1 k (fun e=>hk (by rw[e]))⟩,o5⟩;rw[Nat.add_mul,<-hl,g3,Ng]
theorem AQ{P:Program} {ops:Array Oper} {rest:List Oper} {o:Oper} {a:Act} {w:World} {Q:Exit->Act->World->Prop} (kX:o.guard=none) (s x:Operand) (t:TypeId)
  (ho:o.op=.call { callee:=.builtin .append,args:=#[s,x],argTypes:=#[t,t] })
  (base:Nat) (e:TypeId) (i:TypeInfo) (size:Nat) (ht:P.underlying t=some (.slice e)) (hi:P.info? e=some i)
  (eO:i.size=size) (g cap n:Nat) (xs:List Value) (hs:a.eval s=.slice (some ⟨g,0,none⟩) n cap) (aX:aG w base e size (.slice (some ⟨g,0,none⟩) n cap) n xs)
  (ad:Addr) (m c:Nat) (news:List Value) (hx:a.eval x=.slice (some ad) m c) (hl:news.length=m * size) (bL:∀ j u,news[j]?=some u->w.cell? (ad.add j)=some u) (h1:∀ u∈news,u.oneCell'=true) (mg:n+m<=cap)
  (h:∀ w',aG w' base e size (.slice (some ⟨g,0,none⟩) (n+m) cap) (n+m) (xs++news)->w.grownBy w' (some g)->w'.heap.size=w.heap.size->wpList P ops Q rest (a.put o.dst (.slice (some ⟨g,0,none⟩) (n+m) cap)) w'):wpList P ops Q (o :: rest) a w:=by
 refine wpList_plain kX fun _ hK=>?_
 obtain⟨w',hr,h2,h3,h4⟩:=FS (P:=P) w base t o.type e i size ht hi eO g cap n xs aX ad m c news hl bL h1 mg;unfold Oper.wp execOp;simp only[ho,resolve,invoke,builtin,Sem.run_bind,Sem.run_pure,Result.andThen_ok,List.map_toArray,List.map_cons,List.map_nil,hs,hx,hr];exact hK _ _ (h w' h2 h3 h4)
theorem aG.shrink{w:World} {base:Nat} {e:TypeId} {k:Nat} {g cap n m:Nat} {xs ys:List Value} (h:aG w base e k (.slice (some ⟨g,0,none⟩) (n+m) cap) (n+m) (xs++ys)) (hx:xs.length=n * k):aG w base e k (.slice (some ⟨g,0,none⟩) n cap) n xs:=by
 obtain⟨hl,h⟩:=h;rcases h with ⟨h,_⟩|⟨g',cap',cur,fz,h,Cq,hg,mU,jO,p7,jt,ht⟩
 ·cases h
 cases h
 refine⟨hx,.inr ⟨g,cap,cur,fz,rfl,Cq,hg,mU,by omega,p7,jt,?_⟩⟩;have h2:=congrArg (List.take (n * k)) ht;rw[List.take_take,List.take_append_of_le_length (by omega),List.take_of_length_le (by omega:xs.length<=n * k)]at h2;rw[<-h2];congr 1;have:=Nat.mul_le_mul_right k (Nat.le_add_right n m);omega
end Go.Proofs.YtmeaoneaephjeaaGreatDoor
namespace Go.Proofs.YtmeaoneaephjeaaGreatDoor
open Go.RowKit Go Go.Shelf
attribute [local go_sem] Oper.semAt_some
theorem mr{W:World} {b c:Nat} {x y:Array Value} {t u:TypeId} {f g:Nat × Nat} (h1:W.heap[b]?=some (.cells x t f)) (h2:W.heap[c]?=some (.cells y u g)) (bJ:t≠u):b≠c:=by
 rintro rfl;rw[h1]at h2;cases h2;exact bJ rfl
theorem fV{W W':World} {row:Option Nat} (hg:W.grownBy W' row) {k:Nat} {o:Obj} (hk:W.heap[k]?=some o) (hn:row≠some k):W'.heap[k]?=some o:=(hg.block k (aB hk) (fun e=>hn e.symm)).trans hk
theorem JG{w:World} {base:Nat} {e:TypeId} {k:Nat} {v:Value} {n:Nat} {xs:List Value} (h:aG w base e k v n xs):v.oneCell'=true:=by
 obtain⟨a,c,rfl⟩:=h.slice;rfl
abbrev oU(r:Rd):Prop:=bM r.g.n/\bM r.g.h0/\bM r.g.h1/\bM r.g.h2/\bM r.g.h3/\bM r.g.h4/\bM r.f
abbrev BH(Br Bo Ba Bf:Nat):Value:=.func (.func 193) #[] #[.pointer (some ⟨Br,0,none⟩),.pointer (some ⟨Bo,0,none⟩),.pointer (some ⟨Ba,0,none⟩),.pointer (some ⟨Bf,0,none⟩)]
structure WEnv (a:Adv) (v:Value) (k:Nat) (w:World) (Br Bo Ba Bf wb:Nat) (L:List (List Rd)) (word:List Rd) (W:World):Prop where
 old:Below w.heap.size w W
 lo:w.heap.size<=Bo
 r:W.heap[Br]?=some (.cells #[.int .i64 k] 3)
 a:W.heap[Ba]?=some (.cells #[.int .i64 a.n,v] 27)
 f:W.heap[Bf]?=some (.cells #[BH Br Bo Ba Bf] 259)
 o:∃ vo xs,W.heap[Bo]?=some (.cells #[vo] 221)/\aG W w.heap.size 87 1 vo L.length xs/\∀ i (hi:i<L.length),∃ x,xs[i]?=some x/\aG W (wb+1) 141 7 x L[i].length (cP L[i])
 b:aG W w.heap.size 141 7 (.slice (some ⟨wb,0,none⟩) word.length k) word.length (cP word)
section
variable {a : Adv} {v : Value} {k : Nat} {w : World} {Br Bo Ba Bf wb : Nat} {L : List (List Rd)} {word : List Rd} {W W' : World}
theorem WEnv.up(h:WEnv a v k w Br Bo Ba Bf wb L word W) (hb:Below W.heap.size W W'):WEnv a v k w Br Bo Ba Bf wb L word W':=by
 refine⟨ae h.old hb,h.lo,af hb h.r,af hb h.a,af hb h.f,?_,h.b.up hb⟩;obtain⟨vo,xs,h1,h2,h3⟩:=h.o;exact⟨vo,xs,af hb h1,h2.up hb,fun i hi=>by obtain⟨x,q1,q2⟩:=h3 i hi;exact⟨x,q1,q2.up hb⟩⟩
theorem WEnv.wb_at(h:WEnv a v k w Br Bo Ba Bf wb L word W):∃ cur fz,W.heap[wb]?=some (.cells cur 141 fz)/\w.heap.size<=wb:=by
 obtain⟨_,h⟩:=h.b;rcases h with ⟨h,_⟩|⟨g,cap,cur,fz,h,Cq,hg,_⟩
 ·cases h
 ·cases h;exact⟨cur,fz,hg,Cq⟩
theorem WEnv.grow_word(h:WEnv a v k w Br Bo Ba Bf wb L word W) (hg:W.grownBy W' (some wb)) {word':List Rd} (hb:aG W' w.heap.size 141 7 (.slice (some ⟨wb,0,none⟩) word'.length k) word'.length (cP word')):WEnv a v k w Br Bo Ba Bf wb L word' W':=by
 obtain⟨cur,fz,AF,wQ⟩:=h.wb_at;have kp:∀ {k:Nat} {x:Array Value} {t:TypeId} {f:Nat × Nat},W.heap[k]?=some (.cells x t f)->t≠141->W'.heap[k]?=some (.cells x t f):=fun hk bJ=>fV hg hk (fun e=>mr hk AF bJ (dp e).symm)
 refine⟨Below.grown h.old hg h.old.size (fun g e=>by cases e;exact wQ),h.lo,kp h.r (by decide),kp h.a (by decide),kp h.f (by decide),?_,hb⟩;obtain⟨vo,xs,h1,h2,h3⟩:=h.o;refine⟨vo,xs,kp h1 (by decide),h2.keepT fun g o e1 e2=>fV hg e2 (fun e=>h2.ne AF (by decide) g e1 (dp e).symm),fun i hi=>?_⟩;obtain⟨x,q1,q2⟩:=h3 i hi;exact⟨x,q1,q2.keepT fun g o e1 e2=>fV hg e2 (fun e=>by have h4:=(q2.lt g e1).1;have h5:=dp e;omega)⟩
theorem WEnv.shrink{r:Rd} (h:WEnv a v k w Br Bo Ba Bf wb L (word++[r]) W):WEnv a v k w Br Bo Ba Bf wb L word W:=by
 refine⟨h.old,h.lo,h.r,h.a,h.f,h.o,?_⟩;have hb:=h.b;rw[List.length_append,List.length_singleton,Eo]at hb;exact hb.shrink (xg word)
theorem WEnv.put{vo x v':Value} {xs:List Value} {w2:World} (h:WEnv a v k w Br Bo Ba Bf wb L word W) (h1:W.heap[Bo]?=some (.cells #[vo] 221)) (h2:aG W w.heap.size 87 1 vo L.length xs) (h3:∀ i (hi:i<L.length),∃ x,xs[i]?=some x/\aG W (wb+1) 141 7 x L[i].length (cP L[i]))
  {l:List Rd} (hx:aG W (wb+1) 141 7 x l.length (cP l)) (hg:W.grownBy w2 vo.ownBlock) (ho:aG w2 w.heap.size 87 1 v' (L.length+1) (xs++[x])):WEnv a v k w Br Bo Ba Bf wb (L++[l]) word (w2.setCell ⟨Bo,0,none⟩ v'):=by
 have kp:∀ {k:Nat} {x:Array Value} {t:TypeId} {f:Nat × Nat},W.heap[k]?=some (.cells x t f)->t≠87->w2.heap[k]?=some (.cells x t f):=fun hk bJ=>fV hg hk (fun e=>h2.ne hk (fun e=>bJ e.symm) _ e rfl)
 have Fg:=kp h1 (by decide);have kp2:∀ {k:Nat} {x:Array Value} {t:TypeId} {f:Nat × Nat},W.heap[k]?=some (.cells x t f)->t≠87->t≠221->(w2.setCell ⟨Bo,0,none⟩ v').heap[k]?=some (.cells x t f):=fun hk bJ hne2=>aJ (kp hk bJ) (mr hk h1 hne2) _ _
 have ko:∀ {x:Value} {l:List Rd} {b:Nat},aG W b 141 7 x l.length (cP l)->aG (w2.setCell ⟨Bo,0,none⟩ v') b 141 7 x l.length (cP l):=fun hq=>(hq.apart h2 (by decide) hg).put (fun g e=>(hq.apart h2 (by decide) hg).ne Fg (by decide) g e) _ _
 have aU:Below w.heap.size w w2:=Below.grown h.old hg h.old.size (fun g e=>(h2.lt g e).1);refine⟨aU.setCell h.lo _,h.lo,kp2 h.r (by decide) (by decide),kp2 h.a (by decide) (by decide),kp2 h.f (by decide) (by decide),⟨v',xs++[x],by rw[aF Fg];rfl,?_,fun i hi=>?_⟩,?_⟩
 ·rw[List.length_append,List.length_singleton]
  exact ho.put (fun g e=>ho.ne Fg (by decide) g e) _ _
 ·have hl:xs.length=L.length:=by have:=h2.1;omega
  rw[List.length_append,List.length_singleton]at hi;by_cases aA:i<L.length
  ·obtain⟨y,q1,q2⟩:=h3 i aA
   refine⟨y,by rw[List.getElem?_append_left (by omega)];exact q1,?_⟩;rw[List.getElem_append_left aA];exact ko q2
  ·obtain rfl:i=L.length:=by omega
   refine⟨x,by rw[<-hl,List.getElem?_append_right (Nat.le_refl _)];simp,?_⟩;have e:(L++[l])[L.length]'(by simp)=l:=by simp
   rw[e];exact ko hx
 ·have hq:=h.b
  exact ko (l:=word) hq
end
def jw(a:Adv) (d:Nat) (word:List Rd) (l:List Mv):List (List Rd):=l.flatMap fun m=>(bU a d m.to.toNat).map fun y=>word++(m.r :: y)
theorem Ep(a:Adv) (d s:Nat) (word:List Rd):(bU a (d+1) s).map (word++·)=jw a d word (a.states.getD s []):=by
 simp only[bU,jw,List.map_flatMap,List.map_map];rfl
theorem LC(a:Adv) (d:Nat) (word:List Rd) (l:List Mv) (j:Nat) (h:j<l.length):jw a d word (l.take (j+1))=jw a d word (l.take j)++(bU a d l[j].to.toNat).map ((word++[l[j].r])++·):=by
 unfold jw;rw[List.take_succ_eq_append_getElem h,List.flatMap_append];simp
theorem QB(a:Adv) (d:Nat) (word:List Rd) (l:List Mv) (j:Nat):(jw a d word (l.take j)).length<=(jw a d word l).length:=by
 conv=>rhs;rw[<-List.take_append_drop j l]
 unfold jw;rw[List.flatMap_append,List.length_append];omega
structure WCore (a:Adv) (v:Value) (k:Nat) (w:World) (Br Bo Ba Bf wb B9:Nat) (L:List (List Rd)) (word:List Rd) (m:Mv) (D:Nat->Bool) (x:Nat->Value) (W:World):Prop where
 env:WEnv a v k w Br Bo Ba Bf wb L (bif D 7 then word++[m.r] else word) W
 box:W.heap[B9]?=some (.cells #[.int .i64 m.r.g.n,.int .i64 m.r.g.h0,.int .i64 m.r.g.h1,.int .i64 m.r.g.h2,.int .i64 m.r.g.h3,.int .i64 m.r.g.h4,.int .i64 m.r.f,.int .i64 m.to] 143)
 sb:D 6=true->D 7=false->∃ g,x 6=.slice (some ⟨g,0,none⟩) 1 1/\W.heap[g]?=some (.cells #[.int .i64 m.r.g.n,.int .i64 m.r.g.h0,.int .i64 m.r.g.h1,.int .i64 m.r.g.h2,.int .i64 m.r.g.h3,.int .i64 m.r.g.h4,.int .i64 m.r.f] 141)
section
variable {a : Adv} {v : Value} {k : Nat} {w : World} {Br Bo Ba Bf wb B9 : Nat} {L : List (List Rd)} {word : List Rd} {m : Mv} {D : Nat → Bool} {x : Nat → Value} {W : World}
theorem WCore.other(h:WCore a v k w Br Bo Ba Bf wb B9 L word m D x W) {i:Nat} (u:Value) (h6:6≠i) (h7:7≠i):WCore a v k w Br Bo Ba Bf wb B9 L word m (bA D i) (bZ x i u) W:=by
 refine⟨?_,h.box,?_⟩
 ·simpa only[bA,if_neg h7] using h.env
 ·simpa only[bA,bZ,if_neg h6,if_neg h7] using h.sb
theorem WCore.build(h:WCore a v k w Br Bo Ba Bf wb B9 L word m D x W):WCore a v k w Br Bo Ba Bf wb B9 L word m (bA D 6) (bZ x 6 (.slice (some ⟨W.heap.size,0,none⟩) 1 1)) (W.alloc (.cells #[.int .i64 m.r.g.n,.int .i64 m.r.g.h0,.int .i64 m.r.g.h1,.int .i64 m.r.g.h2,.int .i64 m.r.g.h3,.int .i64 m.r.g.h4,.int .i64 m.r.f] 141)):=by
 refine⟨?_,ap _ h.box,fun _ _=>⟨W.heap.size,by simp[bZ],am _ _⟩⟩;have:=h.env.up (W':=W.alloc (.cells #[.int .i64 m.r.g.n,.int .i64 m.r.g.h0,.int .i64 m.r.g.h1,.int .i64 m.r.g.h2,.int .i64 m.r.g.h3,.int .i64 m.r.g.h4,.int .i64 m.r.f] 141)) (by go_grown);simpa only[bA,if_neg (show (7:Nat)≠6 by decide)] using this
theorem WCore.app(h:WCore a v k w Br Bo Ba Bf wb B9 L word m D x W) (h7:D 7=false) {w3:World} (u:Value) (ho:aG w3 w.heap.size 141 7 (.slice (some ⟨wb,0,none⟩) (word.length+1) k) (word.length+1) (cP word++cP [m.r])) (hg:W.grownBy w3 (some wb)):WCore a v k w Br Bo Ba Bf wb B9 L word m (bA D 7) (bZ x 7 u) w3:=by
 have he:=h.env;rw[h7]at he;obtain⟨cur,fz,AF,_⟩:=he.wb_at;refine⟨?_,fV hg h.box (fun e=>mr h.box AF (by decide) (dp e).symm),fun _ e=>by simp[bA]at e⟩;simp only[bA,if_true,cond_true];refine he.grow_word hg ?_;rw[List.length_append,List.length_singleton,Eo];exact ho
end
def Xp(wb:Nat) (word:List Rd):MP:=⟨fun x W=>aG W (wb+1) 141 7 x word.length (cP word),fun _ _ _ h hb=>h.up hb⟩
def NZ(wb:Nat) (word:List Rd):MP:=⟨fun y W=>∃ x g,aG W (wb+1) 141 7 x word.length (cP word)/\y=.slice (some ⟨g,0,none⟩) 1 1/\W.heap[g]?=some (.cells #[x] 87),fun _ _ _ h hb=>by obtain⟨x,g,h1,h2,h3⟩:=h;exact⟨x,g,h1.up hb,h2,af hb h3⟩⟩
theorem N0{wb:Nat} {word:List Rd} {W:World} {x:Value} {g:Nat} (h1:aG W (wb+1) 141 7 x word.length (cP word)) (h3:W.heap[g]?=some (.cells #[x] 87)):(NZ wb word).p (.slice (some ⟨g,0,none⟩) 1 1) W:=⟨x,g,h1,rfl,h3⟩
theorem Tryz.infoWordRow:(Tryz.prog.info? 87).map (fun i=>(i.zero,i.size,i.bytes))=some (some (.slice none 0 0),1,24):=by kernel_rfl
theorem LD(a:Adv) (v:Value) (k:Nat) (hk:k<=6) (w:World) (hv:bh w v a.states) (oB:∀ s,s<a.states.length->∀ m∈a.states.getD s [],0<=m.to/\m.to.toNat<a.states.length) (Br Bo Ba Bf wb:Nat) :
  ∀ (d:Nat) (s:Nat) (L:List (List Rd)) (word:List Rd) (W:World),word.length+d=k->s<a.states.length->(∀ r∈word,oU r)->L.length+(bU a d s).length<=1048576->WEnv a v k w Br Bo Ba Bf wb L word W →
   Calls Tryz.prog 193 #[.int .i64 s,.slice (some ⟨wb,0,none⟩) word.length k,.pointer (some ⟨Br,0,none⟩),.pointer (some ⟨Bo,0,none⟩),.pointer (some ⟨Ba,0,none⟩),.pointer (some ⟨Bf,0,none⟩)] W fun e W'=>(∃ u,e=.returned u)/\WEnv a v k w Br Bo Ba Bf wb (L++(bU a d s).map (word++·)) word W':=by
 have HV:=aa hv;clear hv;have PR:=aa oB;clear oB;intro d;induction d with
 | zero=>
  intro s L word W hd hs cO cG oZ;have iS:=aa cO;have DR:=aa oZ;have qj:=aa cG;have tr:=ab oZ.r 0;obtain⟨vo,xs,h1,h2,h3⟩:=oZ.o;have to:=ab h1 0;simp at tr to;have yI:(word.length:Int)=k:=by omega
  have KB:=aa yI;have yg:=aa hd;clear cO cG oZ hd
  go_enter Tryz.func193,Tryz.ntmps193
  obtain⟨i0,cU,cg,bV,cj⟩:=info_parts Tryz.infoWordRow;have H2:=aa h2;have H3:=aa h3;clear h2 h3;have aA:=(DR.out.wb_at).elim fun _ h=>h.elim fun _ h=>aB h.1
  go_wp2_with fail
  refine fU 4 [14,15,16,17] [MP.eq vo,
   MP.eq (.slice (some ⟨wb,0,none⟩) word.length k),
   Xp wb word,
   NZ wb word] (by kernel_rfl) (by simp) (by decide) rfl (by kernel_rfl) (by kernel_rfl) (by kernel_rfl) ?step ?tail
  case step=>
   intro x W i o s F hi ho hs hB aq hF;have fE:i=0\/i=1\/i=2\/i=3:=by omega
   rcases fE with rfl|rfl|rfl|rfl
   all_goals (obtain rfl:=dp ho.symm;obtain rfl:=dp hs.symm;simp only[br,cW,List.setIfInBounds_toArray,List.set_cons_succ,List.set_cons_zero,Nat.reduceAdd]at hF)
   ·clear aq hi ho hs
    have t1:=ak hB to;subst hF
    go_wp2_with fail
    exact ky _ (Below.refl _ _) rfl
   ·clear aq hi ho hs
    subst hF
    go_wp2_with fail
    exact ky _ (Below.refl _ _) rfl
   ·have d1:=oQ (aq ⟨1,.data⟩ (by simp) rfl)
    clear aq hi ho hs;simp only[d1]at hF;subst hF
    go_wp2_with fail
    refine(uy _ word W ((q6 DR.out.b (fun i hi=>iS.out _ (List.getElem_mem hi)) (by omega)).up up_round hB) (by omega)).mono ?_;rintro e w9 ⟨u9,rfl,jj,fk⟩;have mT:=aa (jj.base (base':=wb+1) (by have:=hB.size;omega));clear jj
    go_wp2_with fail
    exact ky _ fk mT.out
   ·have d2:=aq ⟨2,.data⟩ (by simp) rfl
    clear aq hi ho hs;obtain⟨a9,c9,e9⟩:=aG.slice d2;rw[e9]at d2;have PY:=aa (show aG W (wb+1) 141 7 (.slice a9 word.length c9) word.length (cP word) from d2);clear d2;simp only[e9]at hF;subst hF
    go_wp2_with fail
    refine bD.mk (.slice (some ⟨W.heap.size,0,none⟩) 1 1) ?_ ?_ ?_
    ·exact(by go_grown)
    ·exact N0 (PY.out.up (by go_grown)) (am _ _)
    ·first
     | rfl
     | simp only[List.setIfInBounds_toArray,List.set_cons_succ,List.set_cons_zero]
  case tail=>
   intro x W2 F hB aQ hF;have d0:x 0=vo:=aQ 0 (by omega);have d3:=aQ 3 (by omega);obtain⟨x9,g9,jj,e9,Ai⟩:∃ x9 g9,aG W2 (wb+1) 141 7 x9 word.length (cP word)/\x 3=.slice (some ⟨g9,0,none⟩) 1 1/\W2.heap[g9]?=some (.cells #[x9] 87):=d3;clear aQ;simp only[br,cW,List.setIfInBounds_toArray,List.set_cons_succ,List.set_cons_zero,Nat.reduceAdd]at hF;rw[d0,e9]at hF;subst hF;have mT:=aa jj;have PX:=aa Ai;have fM:=aa hB;have PK:=fM.out.size;have hL:=qj.out;simp only[bU,List.length_singleton]at hL;clear jj Ai hB d0 e9;simp only[List.drop_succ_cons,List.drop_zero];refine aY W2 rfl (.tmp 14) (.tmp 17) 221 rfl w.heap.size 87 i0 _ 1 24 Tryz.underlying221 cU cg bV cj rfl (by decide) _ L.length xs rfl (H2.out.up fM.out) ⟨g9,0,none⟩ 1 1 [x9] rfl rfl (fun j u hj=>?_) (by simpa using JG mT.out) (by unfold maxLen;omega) (by omega) (by have:=DR.out.old.size;omega) ?_
   ·cases j with
    | zero=>simp at hj;subst hj;simp[Addr.add,ab PX.out]
    | succ j=>simp at hj
   intro v9 w9 gc dT _;have HOW9:=aa gc;have It:=aa dT;clear gc dT;have Fg:=fV It.out (af fM.out h1) (fun e=>H2.out.ne h1 (by decide) _ e rfl);have tBo:=ab Fg 0;have zBo:=aE Fg 0;simp at tBo;have hBoL:=aB Fg;obtain⟨a9,c9,hv9⟩:=HOW9.out.slice;subst hv9;clear Fg
   go_wp2_with fail
   go_returns
   refine⟨⟨_,rfl⟩,?_⟩;have e9:L++(bU a 0 s).map (word++·)=L++[word]:=by simp[bU]
   rw[e9];exact(DR.out.up fM.out).put (af fM.out h1) (H2.out.up fM.out) (fun i hi=>by obtain⟨y,q1,q2⟩:=H3.out i hi;exact⟨y,q1,q2.up fM.out⟩) mT.out It.out HOW9.out
 | succ d ih=>
  intro s L word W hd hs cO cG oZ;have iS:=aa cO;have DR:=aa oZ;have qj:=aa (show L.length+(jw a d word (a.states.getD s [])).length<=1048576 by rw[<-Ep];simpa using cG);have tr:=ab oZ.r 0;have ta:=ab oZ.a 1;simp at tr ta;obtain⟨pa,ca,rfl,la1,la2,ea⟩:=HV.out.at;obtain⟨b1,o1,rfl,xc,cx0,hx⟩:=ea s hs;rw[Nat.mul_one]at cx0;have cx:=ak oZ.old cx0;clear cx0;obtain⟨px,qx,rfl,x1,x2,ex⟩:=hx.at;have EX:=aa ex;have S2:=aa (az [] hs);have R6:=aa (PR.out s hs);rw[S2.out]at qj R6;rw[Ep,S2.out];clear hx ex ea cG oZ cO;generalize a.states[s]=l at EX x1 x2 cx qj R6;have yI:((word.length:Int) == (k:Int))=false:=by simp;omega
  have KB:=aa yI;have yg:=aa hd;clear hd
  go_enter Tryz.func193,Tryz.ntmps193
  go_wp2_with fail
  clear cx ta tr;obtain⟨i1,oF,_,jk,_⟩:=info_parts Tryz.infoRound
  go_loopw [25] (fun i wr=>∃ j:Nat,j<=l.length/\i=.int .i64 j/\WEnv a (.slice (some ⟨b1,o1,none⟩) a.states.length ca) k w Br Bo Ba Bf wb (L++jw a d word (l.take j)) word wr) (fun i _=>l.length - (intOf i).toNat)
  case atStart=>exact⟨0,by omega,rfl,by simpa[jw] using DR.out⟩
  case round=>
   obtain⟨j,hj,rfl,nN⟩:=hrel;have Wb:=aa nN;by_cases aA:j<l.length
   ·obtain⟨b3,o3,rfl,⟨⟨d0,j0⟩,⟨d1,j1⟩,⟨d2,j2⟩,⟨d3,j3⟩,⟨d4,j4⟩,⟨d5,j5⟩,⟨d6,j6⟩⟩,⟨d7,_⟩⟩:=EX.out j aA
    have HINM:Hid (∀ r∈word++[l[j].r],oU r):=aa (fun r hr=>by
     rcases List.mem_append.1 hr with h|h
     ·exact iS.out r h
     ·rw[List.mem_singleton]at h;subst h;exact⟨j0,j1,j2,j3,j4,j5,j6⟩)
    have ID:=LC a d word l j aA;have kH:=QB a d word l (j+1);have HM:=aa (R6.out _ (List.getElem_mem aA))
    have WE:(L++jw a d word (l.take j)).length+(bU a d l[j].to.toNat).length<=1048576:=by
     have h9:=qj.out;rw[ID,List.length_append,List.length_map]at kH;rw[List.length_append];omega
    have HLJ:=aa WE;have ju:=aa ID;clear ID kH WE j0 j1 j2 j3 j4 j5 j6;generalize l[j]=m at d0 d1 d2 d3 d4 d5 d6 d7 HINM HM HLJ ju;have HTON:Hid (((m.to.toNat:Nat):Int)=m.to):=aa (by have:=HM.out.1;omega)
    replace d0:=ak nN.old d0
    replace d1:=ak nN.old d1
    replace d2:=ak nN.old d2
    replace d3:=ak nN.old d3
    replace d4:=ak nN.old d4
    replace d5:=ak nN.old d5
    replace d6:=ak nN.old d6
    replace d7:=ak nN.old d7
    clear nN
    go_wp2_with fail
    refine bm (fun W1=>WEnv a (.slice (some ⟨b1,o1,none⟩) a.states.length ca) k w Br Bo Ba Bf wb (L++jw a d word (l.take j)) word W1/\W1.heap[wr.heap.size]?=some (.cells #[.int .i64 m.r.g.n,.int .i64 m.r.g.h0,.int .i64 m.r.g.h1,.int .i64 m.r.g.h2,.int .i64 m.r.g.h3,.int .i64 m.r.g.h4,.int .i64 m.r.f,.int .i64 m.to] 143)) ⟨Wb.out.up (by go_grown),am _ _⟩ (fun W1 cD=>?_);have gr:=aa cD;clear cD d0 d1 d2 d3 d4 d5 d6 d7
    refine mo 8 [29,30,31,32,33,34,35,36] [some (BH Br Bo Ba Bf),
     some (.pointer (some ⟨wr.heap.size,7,none⟩)),
     some (.int .i64 m.to),
     some (.slice (some ⟨wb,0,none⟩) word.length k),
     some (.pointer (some ⟨wr.heap.size,0,none⟩)),
     some (m.r.v),
     none,
     some ((.slice (some ⟨wb,0,none⟩) (word.length+1) k))] (WCore a (.slice (some ⟨b1,o1,none⟩) a.states.length ca) k w Br Bo Ba Bf wb wr.heap.size (L++jw a d word (l.take j)) word m) (by kernel_rfl) rfl (by decide) rfl (by kernel_rfl) (by kernel_rfl) (by kernel_rfl) (fun _=>⟨gr.out.1.up (by go_grown),af (by go_grown) gr.out.2,nofun⟩) ?step ?tail
    case step=>
     intro x W D i o s F hi ho hs hD cF bP aq hv aL hF;have fE:i=0\/i=1\/i=2\/i=3\/i=4\/i=5\/i=6\/i=7:=by omega
     rcases fE with rfl|rfl|rfl|rfl|rfl|rfl|rfl|rfl
     all_goals (have dA:=cF _ _ hs hD;obtain rfl:=dp ho.symm;obtain rfl:=dp hs.symm)
     ·clear aq hi hv
      have e5:F.getD 5 undef=.pointer (some ⟨Bf,0,none⟩):=ls hF (by decide) rfl;clear cF bP;clear hF dA;have t1:=ab aL.env.f 0;simp at t1;have e5':=dr e5;have HD:=aa hD;have bg:=aa aL;clear hD aL
      go_wp2_with fail
      refine bS.mk _ fH ?_ rfl;exact bg.out.other _ (by decide) (by decide)
     ·clear aq hi hv
      have e9:F.getD 9 undef=.pointer (some ⟨wr.heap.size,0,none⟩):=ls hF (by decide) rfl;clear cF bP;clear hF dA;have e9':=dr e9;have HD:=aa hD;have bg:=aa aL;clear hD aL
      go_wp2_with fail
      refine bS.mk _ fH ?_ rfl;exact bg.out.other _ (by decide) (by decide)
     ·have g1:=aq ⟨1,.data⟩ (by simp) rfl
      have d1:=hv 1 _ (by omega) g1 rfl;clear aq hi hv;have e30:=fi hF 1 30 (by decide) rfl (by kernel_rfl) d1;clear cF bP;clear hF dA d1;have t1:=ab aL.box 7;simp at t1;have e30':=dr e30;have HD:=aa hD;have bg:=aa aL;clear hD aL;clear g1
      go_wp2_with fail
      refine bS.mk _ fH ?_ rfl;exact bg.out.other _ (by decide) (by decide)
     ·clear aq hi hv
      have e1:F.getD 1 undef=.slice (some ⟨wb,0,none⟩) word.length k:=ls hF (by decide) rfl;clear cF bP;clear hF dA;have e1':=dr e1;have HD:=aa hD;have bg:=aa aL;clear hD aL
      go_wp2_with fail
      refine bS.mk _ fH ?_ rfl;exact bg.out.other _ (by decide) (by decide)
     ·clear aq hi hv
      have e9:F.getD 9 undef=.pointer (some ⟨wr.heap.size,0,none⟩):=ls hF (by decide) rfl;clear cF bP;clear hF dA;have e9':=dr e9;have HD:=aa hD;have bg:=aa aL;clear hD aL
      go_wp2_with fail
      refine bS.mk _ fH ?_ rfl;exact bg.out.other _ (by decide) (by decide)
     ·have g4:=aq ⟨4,.data⟩ (by simp) rfl
      have d4:=hv 4 _ (by omega) g4 rfl;clear aq hi hv;have e33:=fi hF 4 33 (by decide) rfl (by kernel_rfl) d4;clear cF bP;clear hF dA d4;have t1:=ab aL.box;have e33':=dr e33;have HD:=aa hD;have bg:=aa aL;clear hD aL;clear g4
      go_wp2_with fail
      refine bS.mk _ fH ?_ rfl;exact bg.out.other _ (by decide) (by decide)
     ·have g5:=aq ⟨5,.data⟩ (by simp) rfl
      have d5:=hv 5 _ (by omega) g5 rfl;clear aq hi hv;have e34:=fi hF 5 34 (by decide) rfl (by kernel_rfl) d5;clear cF bP;clear hF dA d5;have e34':=dr e34;have HD:=aa hD;have bg:=aa aL;clear hD aL;clear g5
      go_wp2_with fail
      refine bS.mk _ (fun c hc=>by cases hc) ?_ rfl;exact bg.out.build
     ·have g3:=aq ⟨3,.data⟩ (by simp) rfl
      have d3:=hv 3 _ (by omega) g3 rfl;have g6:=aq ⟨6,.data⟩ (by simp) rfl;clear aq hi hv;have e32:=fi hF 3 32 (by decide) rfl (by kernel_rfl) d3;have e35:=fi hF 6 35 (by decide) rfl (by kernel_rfl) rfl;clear cF bP;clear hF dA d3;obtain⟨gb,qx,mS⟩:=aL.sb g6 hD;rw[qx]at e35;have bW:=aL.env.b;rw[hD]at bW;have Cg:=aa (show aG W w.heap.size 141 7 (.slice (some ⟨wb,0,none⟩) word.length k) word.length (cP word) from bW)
      have bL:∀ j u',(cP [m.r])[j]?=some u'->W.cell? (Addr.add ⟨gb,0,none⟩ j)=some u':=fun j u' hj=>by
       have e1:(Addr.add ⟨gb,0,none⟩ j)=⟨gb,j,none⟩:=by unfold Addr.add;split<;>simp_all
       rw[e1,ab mS];simpa[cP] using hj
      have bz:=aa bL;clear bL bW mS qx;have e32':=dr e32;have e35':=dr e35;have HD:=aa hD;have bg:=aa aL;clear hD aL;clear g3;clear g6;refine AQ rfl (.tmp 32) (.tmp 35) 87 rfl w.heap.size 141 i1 7 Tryz.underlying87 oF jk wb k word.length (cP word) e32 Cg.out ⟨gb,0,none⟩ 1 1 (cP [m.r]) e35 rfl bz.out (rU _) (by have:=yg.out;omega) ?_;intro w3 nG jH _;refine bS.mk _ fH ?_ rfl;exact bg.out.app HD.out _ nG jH
    case tail=>
     intro x W' D F aQ hv aL hF;have x0:=hv 0 _ (by omega) rfl;have x1:=hv 1 _ (by omega) rfl;have x2:=hv 2 _ (by omega) rfl;have x3:=hv 3 _ (by omega) rfl;have x4:=hv 4 _ (by omega) rfl;have x5:=hv 5 _ (by omega) rfl;have x7:=hv 7 _ (by omega) rfl;have nP:=aL.env;rw[aQ 7 (by omega)]at nP;have HE9:=aa (show WEnv a (.slice (some ⟨b1,o1,none⟩) a.states.length ca) k w Br Bo Ba Bf wb (L++jw a d word (l.take j)) (word++[m.r]) W' from nP);simp only[br,cW,List.setIfInBounds_toArray,List.set_cons_succ,List.set_cons_zero,Nat.reduceAdd,x0,x1,x2,x3,x4,x5,x7]at hF;generalize x 6=y6 at hF;subst hF;clear hv aQ aL nP x0 x1 x2 x3 x4 x5 x7;simp only[List.drop_succ_cons,List.drop_zero];have eU:=ih m.to.toNat (L++jw a d word (l.take j)) (word++[m.r]) W' (by have:=yg.out;simp;omega) HM.out.2 HINM.out (HLJ.out) HE9.out;rw[List.length_append,List.length_singleton,HTON.out]at eU;have bO:=aa eU;clear eU ih
     go_wp2_with fail
     refine bO.out.mono ?_;rintro e w9 ⟨⟨u9,rfl⟩,nP⟩;have HE10:=aa nP;clear nP
     go_wp2_with fail
     go_roundw
     case rel=>
      refine⟨j+1,by omega,by go_num,?_⟩;rw[ju.out,<-List.append_assoc];exact HE10.out.shrink
     case measure=>simp[intOf];omega
   ·obtain rfl:j=l.length:=by omega
    rw[List.take_length]at Wb;clear nN
    go_wp2_with fail
    go_returns
    exact⟨⟨_,rfl⟩,Wb.out⟩
theorem xD(P:Program) (w:World) (a:Addr) (m:Mode) (g:Fn) (b c:Array Value):(store a (.func g b c) m).run P w=stored P w a (.func g b c) m:=run_store P w a _ m rfl
attribute [local go_sem] xD
theorem N1(cs:Array Value) (m:Nat):(madeCells cs m).size=m:=by simp[madeCells]
theorem LE(n:Nat) (hn:n<=4096) (w:World):(Instr.makeSlice 221 (.int .i64 0) (.int .i64 (n:Int))).run Tryz.prog w=.ok (.slice (some ⟨w.heap.size,0,none⟩) 0 n) (w.alloc (.cells (madeCells (Value.slice none 0 0).cells n) 87)):=by
 obtain⟨i,hi,cg,bV,cj⟩:=info_parts Tryz.infoWordRow;have:=run_make (P:=Tryz.prog) w 221 87 i (.slice none 0 0) Tryz.underlying221 hi cg .i64 .i64 0 (n:Int) (by omega) (by omega) (by rw[cj];omega) (by omega);rw[this,bV,Nat.mul_one];rfl
theorem JH(k:Nat) (hk:k<=6) (w:World):(Instr.makeSlice 87 (.int .i64 0) (.int .i64 (k:Int))).run Tryz.prog w=.ok (.slice (some ⟨w.heap.size,0,none⟩) 0 k) (w.alloc (.cells (madeCells (Value.agg #[.int .i64 0,.int .i64 0,.int .i64 0,.int .i64 0,.int .i64 0,.int .i64 0,.int .i64 0]).cells (k * 7)) 141)):=by
 obtain⟨i,hi,cg,bV,cj⟩:=info_parts Tryz.infoRound;have:=run_make (P:=Tryz.prog) w 87 141 i _ Tryz.underlying87 hi cg .i64 .i64 0 (k:Int) (by omega) (by omega) (by rw[cj];omega) (by omega);rw[this,bV];rfl
theorem GP{W:World} {base g n k:Nat} {e:TypeId} {cs:Array Value} (h:W.heap[g]?=some (.cells (madeCells cs (n * k)) e)) (hb:base<=g) (hn:n<=1048576):aG W base e k (.slice (some ⟨g,0,none⟩) 0 n) 0 []:=
 ⟨by simp,.inr ⟨g,n,_,(0,0),rfl,hb,h,fun i _ h=>by have:=h.2;simp at this,by omega,by unfold maxLen;omega,N1 _ _,by simp⟩⟩
def U1(base k:Nat):MP:=⟨fun v W=>∃ g,base<=g/\v=.slice (some ⟨g,0,none⟩) 0 k/\aG W base 141 7 (.slice (some ⟨g,0,none⟩) 0 k) 0 [],fun _ _ _ h hb=>by obtain⟨g,h1,h2,h3⟩:=h;exact⟨g,h1,h2,h3.up hb⟩⟩
theorem Ub{base k g:Nat} {W:World} (h1:base<=g) (h3:aG W base 141 7 (.slice (some ⟨g,0,none⟩) 0 k) 0 []):(U1 base k).p (.slice (some ⟨g,0,none⟩) 0 k) W:=⟨g,h1,rfl,h3⟩
theorem sf{w:World} {v:Value} {l:List (List Mv)} (h:bh w v l):∀ s,∀ m∈l.getD s [],oU m.r:=fun s m hm=>by
 by_cases hs:s<l.length
 ·rw[az [] hs]at hm
  obtain⟨pa,ca,rfl,_,_,ea⟩:=h.at;obtain⟨_,_,_,x,_,hx⟩:=ea s hs;obtain⟨px,qx,rfl,_,_,ex⟩:=hx.at;obtain⟨j,hj,rfl⟩:=List.getElem_of_mem hm;obtain⟨_,_,_,⟨⟨_,j0⟩,⟨_,j1⟩,⟨_,j2⟩,⟨_,j3⟩,⟨_,j4⟩,⟨_,j5⟩,⟨_,j6⟩⟩,_⟩:=ex j hj;exact⟨j0,j1,j2,j3,j4,j5,j6⟩
 ·rw[List.getD_eq_getElem?_getD,List.getElem?_eq_none (by omega)]at hm
  simp at hm
theorem vP(a:Adv) (h:∀ s,∀ m∈a.states.getD s [],oU m.r) (k:Nat):∀ s,∀ x∈bU a k s,∀ r∈x,oU r:=by
 induction k with
 | zero=>intro s x hx r hr;simp[bU]at hx;subst hx;simp at hr
 | succ k ih=>
  intro s x hx r hr;simp only[bU,List.mem_flatMap,List.mem_map]at hx;obtain⟨m,hm,y,hy,rfl⟩:=hx;rcases List.mem_cons.1 hr with rfl|hr
  ·exact h s m hm
  ·exact ih _ y hy r hr
theorem uz{a:Adv} (h:advE a=0):∀ s,s<a.states.length->∀ m∈a.states.getD s [],0<=m.to/\m.to.toNat<a.states.length:=fun s hs m hm=>by
 rw[az [] hs]at hm;obtain⟨j,hj,rfl⟩:=List.getElem_of_mem hm;have:=(kL (gY h).2.1 hs hj).2;omega
def pL(a:Adv) (r:Int):List (List Rd) × Int:=if (countedR 4096 a r).2≠0 then([],(countedR 4096 a r).2) else(bU a r.toNat 0,0)
theorem LF{a:Adv} {r:Int} (h:(countedR 4096 a r).2=0):advE a=0/\0<=r/\r<=6/\(bU a r.toNat 0).length<=4096/\(countedR 4096 a r).1=(bU a r.toNat 0).length:=by
 unfold countedR at h ⊢;by_cases h1:advE a=0
 ·rw[if_neg (by simpa using h1)]at h ⊢
  by_cases h2:r<0\/6<r
  ·rw[if_pos h2]at h;cases h
  ·rw[if_neg h2]at h ⊢
   have hn:=qI (L:=4096) (by omega) a (fun s hs m hm=>(uz h1 s hs m hm).2) (by have:=(gY h1).1;omega) r.toNat;by_cases h3:4096<numberL 4096 a r.toNat
   ·rw[if_pos h3]at h;cases h
   ·rw[if_neg h3]
    refine⟨h1,by omega,by omega,?_,?_⟩
    ·omega
    ·show numberL 4096 a r.toNat=_
     omega
 ·rw[if_pos h1]at h
  exact absurd h h1
theorem N2(a:Adv) (v:Value) (r:Int) (w:World) (hv:bh w v a.states) (hN:movesN a.states<1099511627776) :
  Calls Tryz.prog 162 #[.agg #[.int .i64 a.n,v],.int .i64 r] w fun e w'=>∃ u,e=.returned (.tuple #[u,.int .i64 (pL a r).2])/\eR 1 (mi 7 mB) w' u (pL a r).1/\(∀ ad n c,u=.slice (some ad) n c->w.heap.size<=ad.block)/\Below w.heap.size w w':=by
 have HV:=aa hv;obtain⟨pa,ca,rfl,_⟩:=hv.at;clear hv
 go_enter Tryz.func162,Tryz.ntmps162
 go_wp2_with fail
 refine aN (fun W=>Below w.heap.size w W/\W.heap[w.heap.size]?=some (.cells #[.int .i64 a.n,.slice pa a.states.length ca] 27)/\W.heap[w.heap.size+1]?=some (.cells #[.int .i64 r] 3)) ⟨by go_grown,ap _ (am _ _),bd _ _ _⟩ (fun W0 aV=>?_);obtain⟨aH,bB,gL⟩:=aV;refine(zM a _ r 4096 W0 (HV.out.up up_moves aH) hN (by omega) (by omega)).mono ?_;rintro e w1 ⟨rfl,aI⟩;have iX:=ae aH aI;have dZ:=af aI bB;have ro:=af aI gL;by_cases he:(countedR 4096 a r).2=0
 case neg=>
  have CC:Hid (pL a r=([],(countedR 4096 a r).2)):=aa (by unfold pL;rw[if_pos he]);generalize (countedR 4096 a r).2=x at he CC;have S9:(x != 0)=true:=by simpa using he
  clear bB gL dZ ro he
  go_wp2_with fail
  go_ret2
  rw[CC.out];exact⟨_,rfl,⟨none,0,rfl,⟨by simp,by omega,fun _=>rfl⟩,by simp,fun i x hx=>by simp at hx⟩,(fun ad n c e=>by cases e),iX⟩
 obtain⟨ha,rL,pR,cG,ld⟩:=LF he;obtain⟨k,rfl⟩:∃ k:Nat,r=(k:Int):=⟨r.toNat,by omega⟩;rw[Int.toNat_natCast]at cG ld;have CC:Hid (pL a k=(bU a k 0,0)):=aa (by unfold pL;rw[if_neg (by simpa using he),Int.toNat_natCast]);have PR:=aa (uz ha);have HAOK:=aa (gY ha);rw[he,ld];have hk:k<=6:=by omega
 have qj:=aa cG;generalize hn:(bU a k 0).length=n at cG;have HN:=aa hn;have fO:=LE n cG;clear hn he ld ha rL pR;have bV:=iX.size;have du:=aa dZ;have cZ:=aa ro;clear bB gL dZ ro
 go_wp2_with fail
 refine bm (fun W=>Below w.heap.size w W/\W.heap[w.heap.size]?=some (.cells #[.int .i64 a.n,.slice pa a.states.length ca] 27)/\W.heap[w.heap.size+1]?=some (.cells #[.int .i64 k] 3)/\W.heap[w1.heap.size]?=some (.cells (madeCells (Value.slice none 0 0).cells n) 87)/\W.heap[w1.heap.size+1]?=some (.cells #[.slice (some ⟨w1.heap.size,0,none⟩) 0 n] 221)/\W.heap[w1.heap.size+1+1]?=some (.cells #[BH (w.heap.size+1) (w1.heap.size+1) w.heap.size (w1.heap.size+1+1)] 259)) ?_ (fun W2 eK=>?_)
 ·exact⟨((iX.alloc bV _).alloc (by simp only[World.size_alloc];omega) _).alloc (by simp only[World.size_alloc];omega) _,ap _ (ap _ (ap _ du.out)),ap _ (ap _ (ap _ cZ.out)),ap _ (ap _ (am _ _)),ap _ (bd _ _ _),dW _ _ _ _⟩
 obtain⟨g1,g2,g3,g4,g5,g6⟩:=eK;have G1:=aa g1;have G2:=aa g2;have G3:=aa g3;have G4:=aa g4;have G5:=aa g5;have G6:=aa g6;have cj:=g1.size;clear g1 g2 g3 g4 g5 g6 fO
 refine fU 3 [22,23,24] [MP.eq (BH (w.heap.size+1) (w1.heap.size+1) w.heap.size (w1.heap.size+1+1)),
  MP.eq (.int .i64 k),
  U1 w.heap.size k] (by kernel_rfl) (by simp) (by decide) rfl (by kernel_rfl) (by kernel_rfl) (by kernel_rfl) ?step ?tail
 case step=>
  intro x W i o s F hi ho hs hB aq hF;have fE:i=0\/i=1\/i=2:=by omega
  rcases fE with rfl|rfl|rfl
  all_goals (obtain rfl:=dp ho.symm;obtain rfl:=dp hs.symm;simp only[br,cW,List.setIfInBounds_toArray,List.set_cons_succ,List.set_cons_zero,Nat.reduceAdd]at hF)
  ·clear aq hi ho hs
   have t1:=ab (af hB G6.out) 0;simp at t1;subst hF
   go_wp2_with fail
   exact ky _ (Below.refl _ _) rfl
  ·clear aq hi ho hs
   have t1:=ab (af hB G3.out) 0;simp at t1;subst hF
   go_wp2_with fail
   exact ky _ (Below.refl _ _) rfl
  ·have d1:=oQ (aq ⟨1,.data⟩ (by simp) rfl)
   clear aq hi ho hs;have fO:=JH k hk;simp only[d1]at hF;subst hF
   go_wp2_with fail
   refine bD.mk (.slice (some ⟨W.heap.size,0,none⟩) 0 k) ?_ ?_ ?_
   ·exact(by go_grown)
   ·exact Ub (by have:=hB.size;omega) (GP (am _ _) (by have:=hB.size;omega) (by omega))
   ·first
    | rfl
    | simp only[List.setIfInBounds_toArray,List.set_cons_succ,List.set_cons_zero]
 case tail=>
  intro x W3 F hB aQ hF;have d0:x 0=(BH (w.heap.size+1) (w1.heap.size+1) w.heap.size (w1.heap.size+1+1)):=aQ 0 (by omega);have d1:x 1=.int .i64 k:=aQ 1 (by omega);have d2:=aQ 2 (by omega);obtain⟨wb,AF,e2,pW⟩:∃ g,w.heap.size<=g/\x 2=.slice (some ⟨g,0,none⟩) 0 k/\aG W3 w.heap.size 141 7 (.slice (some ⟨g,0,none⟩) 0 k) 0 []:=d2;clear aQ;simp only[br,cW,List.setIfInBounds_toArray,List.set_cons_succ,List.set_cons_zero,Nat.reduceAdd]at hF;rw[d0,d1,e2]at hF;subst hF;have fM:=aa hB;have ry:=aa pW;clear hB pW d0 d1 e2;simp only[List.drop_succ_cons,List.drop_zero]
  have oZ:WEnv a (.slice pa a.states.length ca) k w (w.heap.size+1) (w1.heap.size+1) w.heap.size (w1.heap.size+1+1) wb [] [] W3:=
   ⟨ae G1.out fM.out,by omega,af fM.out G3.out,af fM.out G2.out,af fM.out G6.out,⟨_,[],af fM.out G5.out,GP (n:=n) (cs:=(Value.slice none 0 0).cells) (by rw[Nat.mul_one];exact af fM.out G4.out) (by omega) (by omega),fun i hi=>by simp at hi⟩,ry.out⟩
  have eU:=LD a _ k hk w HV.out PR.out _ _ _ _ wb k 0 [] [] W3 (by simp) (by have:=HAOK.out.1;omega) (fun r hr=>by simp at hr) (by have:=HN.out;simp;omega) oZ;simp only[List.length_nil,List.nil_append,List.map_id']at eU;have bO:=aa eU;clear eU oZ
  go_wp2_with fail
  refine bO.out.mono ?_;rintro e w9 ⟨⟨u9,rfl⟩,nP⟩;have hbw9:=nP.old;obtain⟨vo,xs,q1,q2,q3⟩:=nP.o;obtain⟨wcur,wfz,hw9,hwlo⟩:=nP.wb_at;have t1:=ab q1 0;simp at t1;have jr:Hid (eR 1 (mi 7 mB) w9 vo (bU a k 0)):=aa (bX.sl (base:=w.heap.size) ⟨xs,q2,fun i hi=>by obtain⟨y,p1,p2⟩:=q3 i hi;exact⟨y,p1,p2.base (by omega)⟩⟩ (fun y l hl hy=>q6 hy (fun i hi=>vP a (sf HV.out) k 0 l hl _ (List.getElem_mem hi)) (by have:=jR a k 0 l hl;omega)) (by have:=HN.out;omega))
  have HLO9:Hid (∀ ad n c,vo=.slice (some ad) n c->w.heap.size<=ad.block):=aa (fun ad n c e=>by
   rcases q2.2 with ⟨e2,_⟩|⟨g,cap,cur,fz,e2,h1,_⟩
   ·rw[e2]at e;cases e
   ·rw[e2]at e;cases e;exact h1)
  obtain⟨av,cv,rfl⟩:=q2.slice;clear q1 q2 q3 nP hw9
  go_wp2_with fail
  go_ret2
  rw[CC.out];exact⟨_,rfl,jr.out,HLO9.out,hbw9⟩
theorem KeepT.grownNew{ts:List TypeId} {ms:List Nat} {base:Nat} {w w' w'':World} {row:Option Nat} (h:KeepT ts ms base w w') (hs:base<=w.heap.size) (hr:∀ g,row=some g->w.heap.size<=g) (hg:w'.grownBy w'' row):KeepT ts ms base w w'':=by
 refine⟨Below.grown h.old hg (Nat.le_trans hs h.old.size) (fun g e=>Nat.le_trans hs (hr g e)),fun j c t f h1 h2=>?_,fun j o h1 h2 h3=>?_⟩
 ·have h3:=h.keep j c t f h1 h2
  exact(hg.block j (aB h3) (fun e'=>by have:=hr j e'.symm;have:=aB h1;omega)).trans h3
 ·have h4:=h.oth j o h1 h2 h3
  exact(hg.block j (aB h4) (fun e'=>by have:=hr j e'.symm;have:=aB h1;omega)).trans h4
theorem KeepT.setNew{ts:List TypeId} {ms:List Nat} {base:Nat} {w w':World} {B o:Nat} (h:KeepT ts ms base w w') (hs:base<=w.heap.size) (hb:w.heap.size<=B) (v:Value):KeepT ts ms base w (w'.setCell ⟨B,o,none⟩ v):=by
 refine⟨h.old.setCell (Nat.le_trans hs hb) v,fun j c' t' f' h1 h2=>aJ (h.keep j c' t' f' h1 h2) ?_ o v,fun j o' h1 h2 h3=>aJ (h.oth j o' h1 h2 h3) ?_ o v⟩
 ·have:=aB h1
  omega
 ·have:=aB h1
  omega
theorem BldIs.set{base b mb n:Nat} {tab:List Vw} {W:World} {B o:Nat} {c:Array Value} {t:TypeId} {f:Nat × Nat} (h:BldIs base b mb n tab W) (hB:W.heap[B]?=some (.cells c t f)) (ht:t∉bldT) (v:Value):BldIs base b mb n tab (W.setCell ⟨B,o,none⟩ v):=by
 obtain⟨vs,h1,h2,h3,es,ck,p1,p2⟩:=h.ex;refine⟨h.lo,vs,aJ h1 (fun e=>?_) _ _,h2,h3.put (fun g e=>h3.ne hB (fun e=>ht (by simp[<-e])) g e) _ _,es,ck,aJ p1 (fun e=>?_) _ _,p2⟩
 ·rw[<-e,h1]at hB;cases hB;exact ht (by simp)
 ·rw[<-e,p1]at hB;cases hB
theorem BldIs.grown{base b mb n:Nat} {tab:List Vw} {W W':World} {e:TypeId} {b' k m:Nat} {u:Value} {xs:List Value} (h:BldIs base b mb n tab W) (ho:aG W b' e k u m xs) (he:e∉bldT) (hg:W.grownBy W' u.ownBlock):BldIs base b mb n tab W':=by
 obtain⟨vs,h1,h2,h3,es,ck,p1,p2⟩:=h.ex;refine⟨h.lo,vs,fV hg h1 (fun e'=>ho.ne h1 (fun e=>he (by simp[e])) b e' rfl),h2,h3.keepT fun g o e1 e2=>fV hg e2 (fun e'=>?_),es,ck,fV hg p1 (fun e'=>ho.isCells p1 rfl e'.symm),p2⟩;rcases h3.2 with ⟨rfl,_⟩|⟨g',cap,cur,fz,rfl,_,q3,_⟩
 ·cases e1
 ·cases e1
  exact ho.ne q3 (fun e=>he (by simp[e])) _ e' rfl
theorem KeepT.below9{ts us:List TypeId} {ms ns:List Nat} {w0 w w1 w2:World} (h0:Below w0.heap.size w0 w) (h1:KeepT ts ms w0.heap.size w w1) (h2:KeepT us ns w0.heap.size w1 w2):Below w0.heap.size w0 w2:=
 ⟨(h2.old.os.trans h1.old.os).trans h0.os,(h2.old.tape.trans h1.old.tape).trans h0.tape,(h2.old.output.trans h1.old.output).trans h0.output,Nat.le_trans h0.size (Nat.le_trans h1.old.size h2.old.size),fun k hk=>((h2.old.block k hk).trans (h1.old.block k hk)).trans (h0.block k hk)⟩
def lC(n:Nat) (l:List Int):Array Value:=((List.range n).map fun j=>Value.int .i64 (l.getD j 0)).toArray
theorem xE(n:Nat) (l:List Int):(lC n l).size=n:=by simp[lC]
theorem vQ(n:Nat) (l:List Int) (j:Nat) (h:j<n):(lC n l)[j]?=some (.int .i64 (l.getD j 0)):=by simp[lC,h]
theorem GQ(n:Nat):lC n []=fC n (fun _=>0) 0:=by
 unfold lC fC;simp
theorem GR(n:Nat) (l:List Int) (z:Int) (h:l.length<n):(lC n l).setIfInBounds l.length (.int .i64 z)=lC n (l++[z]):=by
 apply Array.ext_getElem?;intro j;rw[Array.getElem?_setIfInBounds];by_cases hj:j<n
 ·rw[vQ _ _ _ hj,vQ _ _ _ hj]
  by_cases e:l.length=j
  ·subst e
   rw[if_pos rfl,if_pos (by rw[xE];exact hj)];simp
  ·rw[if_neg e]
   by_cases h2:j<l.length
   ·simp[List.getD_eq_getElem?_getD,List.getElem?_append_left h2]
   ·rw[List.getD_eq_getElem?_getD,List.getD_eq_getElem?_getD,List.getElem?_eq_none (by omega),List.getElem?_eq_none (by simp;omega)]
 ·have h1:(lC n l)[j]?=none:=by rw[Array.getElem?_eq_none];rw[xE];omega
  have h2:(lC n (l++[z]))[j]?=none:=by rw[Array.getElem?_eq_none];rw[xE];omega
  rw[h1,h2,if_neg (by omega)]
theorem GT(l:List Int):lC l.length l=bu l:=by
 unfold lC bu;congr 1;apply List.ext_getElem (by simp);intro i h1 h2;simp at h1;simp[List.getD_eq_getElem?_getD,h1]
structure PCore (base b mb n:Nat) (tab tab':List Vw) (k:Nat) (Wr:World) (D:Nat->Bool) (x:Nat->Value) (W:World):Prop where
 lo:base<=Wr.heap.size
 keep:KeepT bldT [mb] base Wr W
 bld:BldIs base b mb n (bif D k then tab' else tab) W
section
variable {base b mb n k : Nat} {tab tab' : List Vw} {Wr : World} {D : Nat → Bool} {x : Nat → Value} {W : World}
theorem PCore.other(h:PCore base b mb n tab tab' k Wr D x W) {i:Nat} (u:Value) (hi:k≠i):PCore base b mb n tab tab' k Wr (bA D i) (bZ x i u) W:=
 ⟨h.lo,h.keep,by simpa only[bA,if_neg hi] using h.bld⟩
theorem PCore.grow(h:PCore base b mb n tab tab' k Wr D x W) {W':World} (hb:Below W.heap.size W W'):PCore base b mb n tab tab' k Wr D x W':=⟨h.lo,h.keep.trans (.of_below _ hb (Nat.le_trans h.lo h.keep.old.size)),h.bld.up hb⟩
theorem PCore.put(h:PCore base b mb n tab tab' k Wr D x W) {W':World} (u:Value) (hk:KeepT bldT [mb] base W W') (hb:BldIs base b mb n tab' W'):PCore base b mb n tab tab' k Wr (bA D k) (bZ x k u) W':=⟨h.lo,h.keep.trans hk,by simpa[bA] using hb⟩
end
abbrev fW(inp:List Int) (n:Nat):List Vw:=(List.range n).map (dS inp)
abbrev fB(n k:Nat) (r:Rd) (now:List Int):List Vw:=(List.range n).map (nextV n k r now)
theorem GU{α:Type} (n:Nat) (f:Nat->α) (i:Nat) (h:i<((List.range n).map f).length):((List.range n).map f)[i]=f i:=by simp
theorem il(n:Nat) (inp:List Int) (word:List Rd) (tb:List Vw):∀ k,(playTo n inp word tb k).2.length=k+1/\((playTo n inp word tb k).2.getLastD []).length=n/\(playTo n inp word tb k).1.length<=tb.length+n * (k+1)
 | 0=>by
  have h:=fA (fW inp n) (tb,[]);change (addAll tb (fW inp n)).2.length=_/\(addAll tb (fW inp n)).1.length<=_ at h;simp only[List.length_nil,List.length_map,List.length_range,Nat.zero_add]at h;exact⟨rfl,h.1,by have:=h.2;show (addAll tb (fW inp n)).1.length<=_;omega⟩
 | k+1=>by
  have ih:=il n inp word tb k;have h:=fA (fB n k (word.getD k default) ((playTo n inp word tb k).2.getLastD [])) ((playTo n inp word tb k).1,[]);change (addAll (playTo n inp word tb k).1 _).2.length=_/\(addAll (playTo n inp word tb k).1 _).1.length<=_ at h;simp only[List.length_nil,List.length_map,List.length_range,Nat.zero_add]at h;have e:(playTo n inp word tb (k+1)).2=(playTo n inp word tb k).2++[(addAll (playTo n inp word tb k).1 (fB n k (word.getD k default) ((playTo n inp word tb k).2.getLastD []))).2]:=rfl;rw[e];refine⟨by rw[List.length_append,ih.1];rfl,?_,?_⟩
  ·rw[List.getLastD_concat];exact h.1
  ·have:n * (k+1+1)=n * (k+1)+n:=Nat.mul_succ n (k+1)
   show (addAll (playTo n inp word tb k).1 (fB n k (word.getD k default) ((playTo n inp word tb k).2.getLastD []))).1.length<=_
   omega
def rg(n k:Nat) (r:Rd) (now:List Int) (p q:Nat):Vw:=
 let g:=fun j=>if j<q/\hasB (r.g.hear p) j=true then now.getD j 0 else -1
 ⟨p,k+1,0,g 0,g 1,g 2,g 3,g 4⟩
theorem Uc(n k:Nat) (r:Rd) (now:List Int) (p:Nat):rg n k r now p n=nextV n k r now p:=rfl
theorem QC(n k:Nat) (r:Rd) (now:List Int) (p:Nat):rg n k r now p 0=⟨p,k+1,0,-1,-1,-1,-1,-1⟩:=by simp[rg]
theorem Ud(n k:Nat) (r:Rd) (now:List Int) (p q:Nat) (h:hasB (r.g.hear p) q=false):rg n k r now p (q+1)=rg n k r now p q:=by
 have key:∀ j,(if j<q+1/\hasB (r.g.hear p) j=true then now.getD j 0 else -1)=if j<q/\hasB (r.g.hear p) j=true then now.getD j 0 else -1:=fun j=>by
  by_cases e:j=q
  ·subst e;simp[h]
  ·have:j<q+1↔j<q:=by omega
   simp only[this]
 simp only[rg,key]
theorem Ue(n k:Nat) (r:Rd) (now:List Int) (p q:Nat) (hq:q<5) (h:hasB (r.g.hear p) q=true):(rg n k r now p q).c.setIfInBounds (3+q) (.int .i64 (now.getD q 0))=(rg n k r now p (q+1)).c:=by
 have:q=0\/q=1\/q=2\/q=3\/q=4:=by omega
 rcases this with e|e|e|e|e<;>subst e<;>simp[rg,h]
theorem LG(r:Rd) (k:Nat) (hk:k<5) (w:World) (B:Nat) (t:TypeId) (hw:w.heap[B]?=some (.cells r.c t)):w.cell? ⟨B,1+k,none⟩=some (.int .i64 (r.g.hear k)):=by
 have:k=0\/k=1\/k=2\/k=3\/k=4:=by omega
 rcases this with h|h|h|h|h<;>subst h<;>simp[World.cell?,hw,Gr.hear]
theorem Kc{W:World} {base B n:Nat} {l:List Int} (h:W.heap[B]?=some (.cells (bu l) 3)) (hl:l.length=n) (hb:base<=B) (hn:n<=256):aG W base 3 1 (.slice (some ⟨B,0,none⟩) n n) n (l.map (Value.int .i64)):=
 ⟨by simp[hl],.inr ⟨B,n,_,(0,0),rfl,hb,h,fun i _ h=>by have:=h.2;simp at this,Nat.le_refl _,by unfold maxLen;omega,by simp[bu,hl],by simp only[bu];rw[Nat.mul_one,List.take_of_length_le (by simp;omega)]⟩⟩
theorem N3(w0:World) (b mb n:Nat) (hn:n<=5) (tab:List Vw) (vi vw:Value) (inp:List Int) (word:List Rd) (w:World) (h0:Below w0.heap.size w0 w) (hi:aT w0 vi inp) (hw:j8 w0 vw word) (gM:n<=inp.length) (IU:word.length<=6) (hl:tab.length+100<=100000) (hB:BldIs w0.heap.size b mb n tab w) :
  Calls Tryz.prog 166 #[.pointer (some ⟨b,0,none⟩),vi,vw] w fun e w'=>∃ u,e=.returned u/\cI w' w.heap.size u (gh n inp word tab).2/\BldIs w0.heap.size b mb n (gh n inp word tab).1 w'/\KeepT bldT [mb] w0.heap.size w w':=by
 obtain⟨pi,ci,rfl,li1,li2,ei⟩:=hi.at;obtain⟨pw,cw,rfl,lw1,lw2,ew⟩:=hw.at;have EI:=aa ei;have EW:=aa ew;have HB:=aa hB;have H0:=aa h0;have cg:=h0.size;clear hi hw ei ew hB h0;obtain⟨vs,h1,_⟩:=HB.out.ex;have t1:=ab h1 0;simp at t1;have fO:=je (fun _=>0) n (by omega);clear h1
 go_enter Tryz.func166,Tryz.ntmps166
 go_wp2_with fail
 clear t1 fO;refine bm (fun W=>KeepT bldT [mb] w0.heap.size w W/\BldIs w0.heap.size b mb n tab W/\W.heap[w.heap.size]?=some (.cells (lC n []) 3)) ⟨KeepT.of_below _ (by go_grown) cg,HB.out.up (by go_grown),by rw[GQ];exact am _ _⟩ (fun W0 aV=>?_);obtain⟨eP,aH,rL⟩:=aV
 go_loopw [24] (fun i wr=>∃ q:Nat,q<=n/\i=.int .i64 q/\KeepT bldT [mb] w0.heap.size w wr/\BldIs w0.heap.size b mb n (addAll tab ((fW inp n).take q)).1 wr/\wr.heap[w.heap.size]?=some (.cells (lC n (addAll tab ((fW inp n).take q)).2) 3)) (fun i _=>n - (intOf i).toNat)
 case atStart=>exact⟨0,by omega,rfl,eP,aH,rL⟩
 case round=>
  clear eP aH rL;obtain⟨q,hq,rfl,hk,hb,hr⟩:=hrel;by_cases aA:q<n
  ·have ju:=aa (tm tab (fW inp n) q (by simpa using aA))
   have cG:=(fA ((fW inp n).take q) (tab,[])).1;have nK:=(fA ((fW inp n).take q) (tab,[])).2;have P6:((fW inp n).take q).length=q:=by simp;omega
   rw[GU]at ju;change (addAll tab ((fW inp n).take q)).2.length=_ at cG;change (addAll tab ((fW inp n).take q)).1.length<=_ at nK;simp only[List.length_nil,P6,Nat.zero_add]at cG nK;obtain⟨b1,o1,rfl,hx⟩:=EI.out q (by omega);have HX:=aa hx.1;have Pc:=aa hk;have eC:=aa hb;have AD:=aa hr;have WB:=hk.old.size;rw[Nat.mul_one]at HX;have Iv:Hid (dS inp q=⟨q,0,inp[q],-1,-1,-1,-1,-1⟩):=aa (by unfold dS;rw[az 0 (by omega)]);generalize inp[q]=y at HX Iv;clear hx hk hb hr P6;generalize (addAll tab ((fW inp n).take q))=st at ju cG nK eC AD
   go_wp2_with fail
   refine mo 11 [27,28,29,30,31,32,33,34,35,36,37] [some (.slice (some ⟨w.heap.size,0,none⟩) n n),
    some (.int .i64 q),
    some (.pointer (some ⟨b,0,none⟩)),
    some (.int .i64 q),
    some (.slice (some ⟨b1,o1,none⟩) inp.length ci),
    some (.int .i64 q),
    some (.pointer (some ⟨b1,o1+q,none⟩)),
    some (.int .i64 y),
    some (silV),
    some ((dS inp q).v),
    some (.int .i64 ((putV st.1 (dS inp q)).2:Nat))] (PCore w0.heap.size b mb n st.1 (putV st.1 (dS inp q)).1 10 wr) (by kernel_rfl) rfl (by decide) rfl (by kernel_rfl) (by kernel_rfl) (by kernel_rfl) (fun _=>⟨by omega,(KeepT.refl _ _ _).drew,eC.out.up (Below.refl _ _).drew⟩) ?step ?tail
   case step=>
    intro x W D i o s F hi ho hs hD cF bP aq hv aL hF;have fE:i=0\/i=1\/i=2\/i=3\/i=4\/i=5\/i=6\/i=7\/i=8\/i=9\/i=10:=by omega
    rcases fE with rfl|rfl|rfl|rfl|rfl|rfl|rfl|rfl|rfl|rfl|rfl
    all_goals (have dA:=cF _ _ hs hD;obtain rfl:=dp ho.symm;obtain rfl:=dp hs.symm)
    ·clear aq hi hv
     have e7:F.getD 7 undef=.slice (some ⟨w.heap.size,0,none⟩) n n:=ls hF (by decide) rfl;clear cF bP;clear hF dA;have e7':=dr e7;have HD:=aa hD;have bg:=aa aL;clear hD aL
     go_wp2_with fail
     refine bS.mk _ fH ?_ rfl;exact bg.out.other _ (by decide)
    ·clear aq hi hv
     have e8:F.getD 8 undef=.int .i64 q:=ls hF (by decide) rfl;clear cF bP;clear hF dA;have e8':=dr e8;have HD:=aa hD;have bg:=aa aL;clear hD aL
     go_wp2_with fail
     refine bS.mk _ fH ?_ rfl;exact bg.out.other _ (by decide)
    ·clear aq hi hv
     have e0:F.getD 0 undef=.pointer (some ⟨b,0,none⟩):=ls hF (by decide) rfl;clear cF bP;clear hF dA;have e0':=dr e0;have HD:=aa hD;have bg:=aa aL;clear hD aL
     go_wp2_with fail
     refine bS.mk _ fH ?_ rfl;exact bg.out.other _ (by decide)
    ·clear aq hi hv
     have e8:F.getD 8 undef=.int .i64 q:=ls hF (by decide) rfl;clear cF bP;clear hF dA;have e8':=dr e8;have HD:=aa hD;have bg:=aa aL;clear hD aL
     go_wp2_with fail
     refine bS.mk _ fH ?_ rfl;exact bg.out.other _ (by decide)
    ·clear aq hi hv
     have e1:F.getD 1 undef=.slice (some ⟨b1,o1,none⟩) inp.length ci:=ls hF (by decide) rfl;clear cF bP;clear hF dA;have e1':=dr e1;have HD:=aa hD;have bg:=aa aL;clear hD aL
     go_wp2_with fail
     refine bS.mk _ fH ?_ rfl;exact bg.out.other _ (by decide)
    ·clear aq hi hv
     have e8:F.getD 8 undef=.int .i64 q:=ls hF (by decide) rfl;clear cF bP;clear hF dA;have e8':=dr e8;have HD:=aa hD;have bg:=aa aL;clear hD aL
     go_wp2_with fail
     refine bS.mk _ fH ?_ rfl;exact bg.out.other _ (by decide)
    ·have g4:=aq ⟨4,.data⟩ (by simp) rfl
     have d4:=hv 4 _ (by omega) g4 rfl;have g5:=aq ⟨5,.data⟩ (by simp) rfl;have d5:=hv 5 _ (by omega) g5 rfl;clear aq hi hv;have e31:=fi hF 4 31 (by decide) rfl (by kernel_rfl) d4;have e32:=fi hF 5 32 (by decide) rfl (by kernel_rfl) d5;clear cF bP;clear hF dA d4 d5;have e31':=dr e31;have e32':=dr e32;have HD:=aa hD;have bg:=aa aL;clear hD aL;clear g4;clear g5
     go_wp2_with fail
     refine bS.mk _ fH ?_ rfl;exact bg.out.other _ (by decide)
    ·have g6:=aq ⟨6,.data⟩ (by simp) rfl
     have d6:=hv 6 _ (by omega) g6 rfl;clear aq hi hv;have e33:=fi hF 6 33 (by decide) rfl (by kernel_rfl) d6;clear cF bP;clear hF dA d6;have t1:=ak (KeepT.below9 H0.out Pc.out aL.keep) HX.out;have e33':=dr e33;have HD:=aa hD;have bg:=aa aL;clear hD aL;clear g6
     go_wp2_with fail
     refine bS.mk _ fH ?_ rfl;exact bg.out.other _ (by decide)
    ·clear aq hi hv
     clear cF bP;clear hF dA;have HD:=aa hD;have bg:=aa aL;clear hD aL
     go_wp2_with fail
     refine(zL W).mono ?_;rintro e w9 ⟨rfl,fk⟩
     go_wp2_with fail
     refine bS.mk _ fH ?_ rfl;exact(bg.out.grow fk).other _ (by decide)
    ·have g3:=aq ⟨3,.data⟩ (by simp) rfl
     have d3:=hv 3 _ (by omega) g3 rfl;have g7:=aq ⟨7,.data⟩ (by simp) rfl;have d7:=hv 7 _ (by omega) g7 rfl;have g8:=aq ⟨8,.data⟩ (by simp) rfl;have d8:=hv 8 _ (by omega) g8 rfl;clear aq hi hv;have e30:=fi hF 3 30 (by decide) rfl (by kernel_rfl) d3;have e34:=fi hF 7 34 (by decide) rfl (by kernel_rfl) d7;have e35:=fi hF 8 35 (by decide) rfl (by kernel_rfl) d8;clear cF bP;clear hF dA d3 d7 d8;have HFV9:=Iv;have e30':=dr e30;have e34':=dr e34;have e35':=dr e35;have HD:=aa hD;have bg:=aa aL;clear hD aL;clear g3;clear g7;clear g8
     go_wp2_with fail
     refine bS.mk _ (fun c hc=>by rw[<-dp hc,Iv.out]) ?_ rfl;exact bg.out.other _ (by decide)
    ·have g2:=aq ⟨2,.data⟩ (by simp) rfl
     have d2:=hv 2 _ (by omega) g2 rfl;have g9:=aq ⟨9,.data⟩ (by simp) rfl;have d9:=hv 9 _ (by omega) g9 rfl;clear aq hi hv;have e29:=fi hF 2 29 (by decide) rfl (by kernel_rfl) d2;have e36:=fi hF 9 36 (by decide) rfl (by kernel_rfl) d9;clear cF bP;clear hF dA d2 d9;have n':=aL.bld;rw[hD]at n';have CD:=aa (show BldIs w0.heap.size b mb n st.1 W from n');clear n';have e29':=dr e29;have e36':=dr e36;have HD:=aa hD;have bg:=aa aL;clear hD aL;clear g2;clear g9
     go_wp2_with fail
     refine(Ka w0.heap.size b mb n st.1 (dS inp q) W CD.out (by omega)).mono ?_;rintro e w9 ⟨rfl,fk,yy⟩;have fM:=aa fk;have pT:=aa yy;clear fk yy
     go_wp2_with fail
     refine bS.mk _ fH ?_ rfl;exact bg.out.put _ pT.out fM.out
   case tail=>
    intro x W' D F aQ hv aL hF;have x0:=hv 0 _ (by omega) rfl;have x1:=hv 1 _ (by omega) rfl;have x2:=hv 2 _ (by omega) rfl;have x3:=hv 3 _ (by omega) rfl;have x4:=hv 4 _ (by omega) rfl;have x5:=hv 5 _ (by omega) rfl;have x6:=hv 6 _ (by omega) rfl;have x7:=hv 7 _ (by omega) rfl;have x8:=hv 8 _ (by omega) rfl;have x9:=hv 9 _ (by omega) rfl;have x10:=hv 10 _ (by omega) rfl;have n':=aL.bld;rw[aQ 10 (by omega)]at n';have CD:=aa (show BldIs w0.heap.size b mb n (putV st.1 (dS inp q)).1 W' from n');have pT:=aa aL.keep;have bW:=pT.out.keep _ _ _ _ AD.out (by decide);have jZ:=aa bW;have z1:=aE bW q;have c1:=ab bW q;rw[vQ _ _ _ aA]at c1;have hltI:(q:Int)<(n:Int):=by omega
    simp only[br,cW,List.setIfInBounds_toArray,List.set_cons_succ,List.set_cons_zero,Nat.reduceAdd,x0,x1,x2,x3,x4,x5,x6,x7,x8,x9,x10]at hF;subst hF;clear hv aQ aL n' bW x0 x1 x2 x3 x4 x5 x6 x7 x8 x9 x10;simp only[List.drop_succ_cons,List.drop_zero]
    go_wp2_with fail
    go_roundw
    case rel=>
     refine⟨q+1,by omega,by go_num,(Pc.out.trans pT.out).setNew cg (Nat.le_refl _) _,?_,?_⟩
     ·rw[ju.out]
      exact CD.out.set jZ.out (by decide) _
     ·rw[ju.out,aF jZ.out]
      have:=GR n st.2 ((putV st.1 (dS inp q)).2:Nat) (by omega);rw[cG]at this;rw[this];rfl
    case measure=>simp[intOf];omega
  ·obtain rfl:q=n:=by omega
   have aQ:=fA (fW inp q) (tab,[]);change (addAll tab (fW inp q)).2.length=_/\(addAll tab (fW inp q)).1.length<=_ at aQ;simp only[List.length_nil,List.length_map,List.length_range,Nat.zero_add]at aQ;rw[List.take_of_length_le (by simp)]at hb hr
   have E7:wr.heap[w.heap.size]?=some (.cells (bu (addAll tab (fW inp q)).2) 3):=by
    rw[hr,<-GT,aQ.1]
   have Pc:=aa hk;have eC:=aa hb;have AD:=aa E7;have mz:=aa aQ;have WB:=hk.old.size;clear hk hb hr E7 aQ
   go_wp2_with fail
   refine bm (fun W=>KeepT bldT [mb] w0.heap.size w W/\BldIs w0.heap.size b mb q (playTo q inp word tab 0).1 W/\cI W w.heap.size (.slice (some ⟨wr.heap.size,0,none⟩) 1 1) (playTo q inp word tab 0).2/\W.heap[w.heap.size]?=some (.cells (bu ((playTo q inp word tab 0).2.getLastD [])) 3))
    ⟨Pc.out.trans (.of_below _ (by go_grown) (by omega)),eC.out.up (by go_grown),⟨[.slice (some ⟨w.heap.size,0,none⟩) q q],⟨by simp[playTo],.inr ⟨wr.heap.size,1,_,(0,0),rfl,by omega,am _ _,fun i _ h=>by have:=h.2;simp at this,by simp[playTo],by unfold maxLen;omega,by simp,by simp[playTo]⟩⟩,fun i hi=>by
     have cU:i=0:=by simp[playTo]at hi;omega
     subst cU;refine⟨_,rfl,?_⟩;have:=(Kc AD.out mz.out.1 (Nat.le_refl w.heap.size) (by omega)).up (w':=wr.alloc (.cells #[.slice (some ⟨w.heap.size,0,none⟩) q q] 38)) (by go_grown)
     simpa[playTo,uk,mz.out.1] using this⟩,by simpa[playTo,uk] using ap _ AD.out⟩ (fun W1 cD=>?_)
   obtain⟨lV,aI,eF,K6⟩:=cD;clear Pc eC AD mz
   go_loopw [7,9,44] (fun nv ov i wr=>∃ k:Nat,k<=word.length/\i=.int .i64 k/\KeepT bldT [mb] w0.heap.size w wr/\BldIs w0.heap.size b mb q (playTo q inp word tab k).1 wr/\cI wr w.heap.size ov (playTo q inp word tab k).2/\∃ Bn,nv=.slice (some ⟨Bn,0,none⟩) q q/\wr.heap[Bn]?=some (.cells (bu ((playTo q inp word tab k).2.getLastD [])) 3)) (fun _ _ i _=>word.length - (intOf i).toNat)
   case atStart=>exact⟨0,by omega,rfl,lV,aI,eF,_,rfl,K6⟩
   case round=>
    clear lV aI eF K6;obtain⟨k,lX,rfl,hk,hb,hf,Bn,rfl,FJ⟩:=hrel;have Cz:=aa hk;have cL:=aa hb;have wP:=aa hf;have rl:=aa FJ;by_cases aA:k<word.length
    ·obtain⟨wrA,A7⟩:∃ x,x=wr:=⟨_,rfl⟩
     subst A7;have dU:=il q inp word tab k;have ju:Hid (playTo q inp word tab (k+1)=Li q k (word.getD k default) (playTo q inp word tab k)):=aa rfl;obtain⟨b3,o3,rfl,⟨d0,_⟩,⟨d1,_⟩,⟨d2,_⟩,⟨d3,_⟩,⟨d4,_⟩,⟨d5,_⟩,⟨d6,_⟩⟩:=EW.out k aA;rw[az default aA]at ju;generalize word[k]=r at d0 d1 d2 d3 d4 d5 d6 ju;have FI:=KeepT.below9 H0.out hk (KeepT.refl (ms:=[mb]) bldT _ wrA)
     replace d0:=ak FI d0
     replace d1:=ak FI d1
     replace d2:=ak FI d2
     replace d3:=ak FI d3
     replace d4:=ak FI d4
     replace d5:=ak FI d5
     replace d6:=ak FI d6
     obtain⟨vs',kE,_⟩:=hb.ex;have t1:=ab kE 0;have hbsz:=aB kE;simp at t1;have fO:=je (fun _=>0) q (by omega)
     have hkq:(playTo q inp word tab k).1.length<=tab.length+40:=by
      have h9:q * (k+1)<=5 * (k+1):=Nat.mul_le_mul_right _ hn;omega
     have hzw:=hk.old.size;clear hk hb hf FJ FI kE;generalize playTo q inp word tab k=st at cL wP rl ju dU hkq;generalize pg:st.2.getLastD []=now at rl dU;have HNOW:=aa pg;clear pg;obtain⟨fP,iI,mR⟩:=dU
     go_wp2_with fail
     clear d0 d1 d2 d3 d4 d5 d6 t1 fO;refine bm (fun W=>KeepT bldT [mb] w0.heap.size wrA W/\BldIs w0.heap.size b mb q st.1 W/\W.heap[wrA.heap.size]?=some (.cells r.c 141)/\W.heap[wrA.heap.size+1]?=some (.cells (lC q []) 3)) ⟨.of_below _ (by go_grown) (by omega),cL.out.up (by go_grown),ap _ (am _ _),by rw[GQ];exact bd _ _ _⟩ (fun W1 cD=>?_);obtain⟨lV,aI,K6,df⟩:=cD
     go_loopw [56] (fun i wrB=>∃ p:Nat,p<=q/\i=.int .i64 p/\KeepT bldT [mb] w0.heap.size wrA wrB/\BldIs w0.heap.size b mb q (addAll st.1 ((fB q k r now).take p)).1 wrB/\wrB.heap[wrA.heap.size]?=some (.cells r.c 141)/\wrB.heap[wrA.heap.size+1]?=some (.cells (lC q (addAll st.1 ((fB q k r now).take p)).2) 3)) (fun i _=>q - (intOf i).toNat)
     case atStart=>exact⟨0,by omega,rfl,lV,aI,K6,df⟩
     case round=>
      clear lV aI K6 df;obtain⟨p,hp,rfl,hZ,bC,KO,wH⟩:=hrel;obtain⟨wrB,hwrB⟩:∃ x,x=wr:=⟨_,rfl⟩;subst hwrB;by_cases jm:p<q
      ·have Ia:=aa (tm st.1 (fB q k r now) p (by simpa using jm))
       have cG:=(fA ((fB q k r now).take p) (st.1,[])).1;have nK:=(fA ((fB q k r now).take p) (st.1,[])).2;have P6:((fB q k r now).take p).length=p:=by simp;omega
       rw[GU]at Ia;change (addAll st.1 ((fB q k r now).take p)).2.length=_ at cG;change (addAll st.1 ((fB q k r now).take p)).1.length<=_ at nK;simp only[List.length_nil,P6,Nat.zero_add]at cG nK;have nX:=aa hZ;have eo:=aa bC;have fm:=aa KO;have jE:=aa wH;clear P6;clear hZ bC KO wH;generalize (addAll st.1 ((fB q k r now).take p))=st2 at Ia cG nK eo jE
       go_wp2_with fail
       refine(zL _).mono ?_;rintro e w9 ⟨rfl,fk⟩
       go_wp2_with fail
       refine bm (fun W=>Below w9.heap.size w9 W/\W.heap[w9.heap.size]?=some (.cells (rg q k r now p 0).c 190)) ⟨by go_grown,by rw[QC];exact am _ _⟩ (fun W4 hW4=>?_);obtain⟨bQ,hv4⟩:=hW4;have fM:=aa fk;clear fk
       go_loopw [66] (fun i wr=>∃ j:Nat,j<=q/\i=.int .i64 j/\Below w9.heap.size w9 wr/\wr.heap[w9.heap.size]?=some (.cells (rg q k r now p j).c 190)) (fun i _=>q - (intOf i).toNat)
       case atStart=>exact⟨0,by omega,rfl,bQ,hv4⟩
       case round=>
        clear bQ hv4;obtain⟨j,hj,rfl,dx,La⟩:=hrel;have FH:=aa La;by_cases WE:j<q
        ·have O7:=af (ae fM.out dx) fm.out
         have tr:=LG r p (by omega) wr _ _ O7;have iy:=af (ae fM.out dx) (nX.out.keep _ _ _ _ rl.out (by decide));have tn:=ab iy j;rw[En _ _ (by omega)]at tn
         obtain⟨x0,tv⟩:∃ x0,wr.cell? ⟨w9.heap.size,3+j,none⟩=some (.int .i64 x0):=by
          have h9:j=0\/j=1\/j=2\/j=3\/j=4:=by omega
          rcases h9 with h|h|h|h|h<;>subst h<;>exact⟨_,ab La _⟩
         have zv:=aE La (3+j);have hj5:(j:Int)<5:=by omega
         have Jf:(p:Int)<5:=by omega
         have gw:=qJ (r.g.hear p) j;have rx:=dx.size;cases wV:hasB (r.g.hear p) j with
         | false=>
          rw[wV]at gw;have KU:=aa (Ud q k r now p j wV);clear La O7 iy wV
          go_wp2_with fail
          go_roundw
          case rel=>exact⟨j+1,by omega,by go_num,dx,by rw[KU.out];exact FH.out⟩
          case measure=>simp[intOf];omega
         | true=>
          rw[wV]at gw;have IQ:=Ue q k r now p j (by omega) wV;rw[az 0 (by omega)]at IQ;have KU:=aa IQ;clear IQ;clear La O7 iy wV
          go_wp2_with fail
          go_roundw
          case rel=>exact⟨j+1,by omega,by go_num,dx.setCell (Nat.le_refl _) _,by rw[aF FH.out,KU.out]⟩
          case measure=>simp[intOf];omega
        ·obtain rfl:j=q:=by omega
         rw[Uc]at FH;generalize nextV j k r now p=vv at FH Ia;have tv:=ab FH.out;have CD:=aa (eo.out.up (ae fM.out dx));have Pr:=aa (af (ae fM.out dx) jE.out);have wK:=aa (af (ae fM.out dx) fm.out);have hlpI:(p:Int)<(j:Int):=by omega
         have TG:=nX.out.old.size;have PK:=fM.out.size;clear La
         go_wp2_with fail
         refine(Ka w0.heap.size b mb j st2.1 vv wr CD.out (by omega)).mono ?_;rintro e w10 ⟨rfl,A4,Ms⟩;have Bd:=aa (Ms.keep _ _ _ _ Pr.out (by decide));have HR10:=aa (Ms.keep _ _ _ _ wK.out (by decide));have RW:=aa A4;have HK10:=aa Ms;have z1:=aE Bd.out p;have c1:=ab Bd.out p;rw[vQ _ _ _ jm]at c1;clear A4 Ms tv
         go_wp2_with fail
         go_roundw
         case rel=>
          refine⟨p+1,by omega,by go_num,((nX.out.trans (.of_below _ (ae fM.out dx) (by omega))).trans HK10.out).setNew (by omega) (by omega) _,?_,aJ HR10.out (by omega) _ _,?_⟩
          ·rw[Ia.out]
           exact RW.out.set Bd.out (by decide) _
          ·rw[Ia.out,aF Bd.out]
           have:=GR j st2.2 ((putV st2.1 vv).2:Nat) (by omega);rw[cG]at this;rw[this];rfl
         case measure=>simp[intOf];omega
      ·obtain rfl:p=q:=by omega
       have aQ:=fA (fB p k r now) (st.1,[]);change (addAll st.1 (fB p k r now)).2.length=_/\(addAll st.1 (fB p k r now)).1.length<=_ at aQ;simp only[List.length_nil,List.length_map,List.length_range,Nat.zero_add]at aQ;rw[List.take_of_length_le (by simp)]at bC wH
       have RO:wrB.heap[wrA.heap.size+1]?=some (.cells (bu (addAll st.1 (fB p k r now)).2) 3):=by
        rw[wH,<-GT,aQ.1]
       have pU:Hid (playTo p inp word tab (k+1)=((addAll st.1 (fB p k r now)).1,st.2++[(addAll st.1 (fB p k r now)).2])):=aa (by rw[ju.out];unfold Li;rw[HNOW.out]);have hfB:=hZ.fresh wP.out (by decide) (by decide);obtain⟨xs,pP,cO⟩:=hfB;obtain⟨a9,c9,rfl⟩:=pP.slice;generalize addAll st.1 (fB p k r now)=st3 at pU aQ bC RO;have hA:Below wrB.heap.size wrB (wrB.alloc (.cells #[(Value.slice (some ⟨wrA.heap.size+1,0,none⟩) p p)] 38)):=by go_grown
       have dd:=aa (pP.up hA)
       have bL:∀ j u',[(Value.slice (some ⟨wrA.heap.size+1,0,none⟩) p p)][j]?=some u'->(wrB.alloc (.cells #[(Value.slice (some ⟨wrA.heap.size+1,0,none⟩) p p)] 38)).cell? (Addr.add ⟨wrB.heap.size,0,none⟩ j)=some u':=fun j u' hj=>by
        cases j with
        | zero=>simp at hj;subst hj;simp[Addr.add,ab (am wrB _)]
        | succ j=>simp at hj
       have bz:=aa bL;have iS:=aa cO;have nX:=aa hZ;have eo:=aa bC;have jE:=aa RO;obtain⟨i0,cU,iR,jk,iv⟩:=info_parts Tryz.infoInts;have hzB:=hZ.old.size;clear bL cO hZ bC wH RO KO pP
       go_wp2_with (at_builtin;(refine aY _ rfl (.tmp 92) (.tmp 94) 56 rfl w.heap.size 38 i0 _ 1 24 Tryz.underlying56 cU iR jk iv rfl (by decide) _ st.2.length xs rfl dd.out ⟨wrB.heap.size,0,none⟩ 1 1 [(Value.slice (some ⟨wrA.heap.size+1,0,none⟩) p p)] rfl rfl bz.out (by simp[Value.oneCell']) (by unfold maxLen;omega) (by omega) (by simp;omega) ?_;intro v' w2 fD dg _))
       go_roundw
       case rel=>
        have bW:=af hA jE.out;refine⟨k+1,by omega,by go_num,((Cz.out.trans nX.out).trans (.of_below _ hA (by omega))).grownNew cg (fun g e=>(dd.out.lt g e).1) dg,?_,?_,_,rfl,?_⟩
        ·rw[pU.out]
         exact(eo.out.up hA).grown dd.out (by decide) dg
        ·rw[pU.out]
         exact bX.snoc dd.out (fun i hi=>by obtain⟨y,q1,q2⟩:=iS.out i hi;exact⟨y,q1,q2.up hA⟩) (by decide) (by rw[aQ.1];exact Kc bW aQ.1 (by omega) (by omega)) dg fD
        ·rw[pU.out,List.getLastD_concat]
         exact fV dg bW (fun e=>dd.out.ne bW (by decide) _ e rfl)
       case measure=>simp[intOf];omega
    ·obtain rfl:k=word.length:=by omega
     obtain⟨xs,pP,_⟩:=hf;obtain⟨a9,c9,rfl⟩:=pP.slice;clear hk hb FJ pP
     go_wp2_with fail
     go_ret
     exact⟨_,rfl,wP.out,cL.out,Cz.out⟩
end Go.Proofs.YtmeaoneaephjeaaGreatDoor
