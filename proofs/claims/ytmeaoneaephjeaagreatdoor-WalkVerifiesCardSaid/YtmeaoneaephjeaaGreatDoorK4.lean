/-
  A part of the proof: lemmas and contracts that the parts behind it use. Each one's conditions are its own premises.
-/
import Derived.Laws.IdiomCopy
import Derived.Laws.CopyRow
import Derived.Test.YtmeaoneaephjeaaGreatDoorShelf
import Derived.Test.YtmeaoneaephjeaaGreatDoorK3
set_option maxRecDepth 100000
set_option maxHeartbeats 8000000
set_option linter.unusedVariables false
set_option linter.unusedSimpArgs false
namespace Go.Proofs.YtmeaoneaephjeaaGreatDoor
open Go.RowKit Go Go.Shelf
attribute [local go_sem] Oper.semAt_some
theorem Du(d:Nat) (a b:Vw) (w:World):(Op.equalIn (d+3) 190 a.v b.v).run Tryz.prog w=.ok (decide (a=b)) w:=by
 have hS:Tryz.prog.underlying 190=some (.struct (Tryz.prog.fieldsOf 190)):=by kernel_rfl
 have hp:Tryz.prog.stoodInHeld 190=false:=by kernel_rfl
 rw[run_equalIn_struct w (d+2) 190 _ _ hS hp];have ag:=Tryz.isAgg3;have ah:=Tryz.isAgg137;have zh:=Tryz.sizeOf137;have u3:=Tryz.underlying3;simp only[Program.fieldsOf,Tryz.underlying190];simp[Op.eqFields,part,ag,ah,zh,run_equalIn_int w (d+1) 3 _ .i64 _ _ u3,Gs d];obtain⟨n,k,j,h0,h1,h2,h3,h4⟩:=a;obtain⟨m,l,i,g0,g1,g2,g3,g4⟩:=b;by_cases hn:n=m
 case neg=>simp[hn]
 by_cases hk:k=l
 case neg=>simp[hn,hk]
 by_cases hj:j=i
 case neg=>simp[hn,hk,hj]
 by_cases hh:h0=g0/\h1=g1/\h2=g2/\h3=g3/\h4=g4<;>simp[hn,hk,hj,hh]
theorem kit_vw:KeyKit Tryz.prog 190 Vw.v:=
 ⟨fun a b w=>Du 9997 a b w,fun em a w=>by kernel_rfl,⟨_,Tryz.underlying190⟩⟩
theorem Tryz.infoView:(Tryz.prog.info? 190).map (fun i=>(i.zero,i.size,i.bytes))=some (some (.agg #[.int .i64 0,.int .i64 0,.int .i64 0,.int .i64 0,.int .i64 0,.int .i64 0,.int .i64 0,.int .i64 0]),8,64):=by kernel_rfl
abbrev silV:Value:=.agg #[.int .i64 (-1),.int .i64 (-1),.int .i64 (-1),.int .i64 (-1),.int .i64 (-1)]
theorem z6(w:World):Calls Tryz.prog 201 #[] w fun e w'=>e=.returned silV/\Below w.heap.size w w':=by
 go_enter Tryz.func201,Tryz.ntmps201
 go_wp2_with fail
 refine bj (fun W=>Below w.heap.size w W/\W.heap[w.heap.size]?=some (.cells (hC (fun _=>-1) 0) 137)/\W.heap[w.heap.size+1]?=some (.cells (hC (fun _=>-1) 0) 137)) ⟨by go_grown,by rw[Dr];exact am _ (ak _ _),by rw[Dr];exact ba _ _ _⟩ (fun W0 aW=>?_);obtain⟨aC,gJ,gS⟩:=aW
 go_loopw [3] (fun i wr=>∃ q:Nat,q<=5/\i=.int .i64 q/\Below w.heap.size w wr/\wr.heap[w.heap.size]?=some (.cells (hC (fun _=>-1) 0) 137)/\wr.heap[w.heap.size+1]?=some (.cells (hC (fun _=>-1) q) 137)) (fun i _=>5 - (intOf i).toNat)
 case atStart=>exact⟨0,by omega,rfl,aC,gJ,gS⟩
 case round=>
  clear aC gJ gS;obtain⟨q,hq,rfl,aq,hR,hO⟩:=hrel;by_cases az:q<5
  ·have zq:=aE hO q
   have tq:=ab hO q;rw[GM _ _ _ az]at tq;have HR:=aa hR;have HO:=aa hO;clear hR hO;have nE:(q:Int)<5:=by omega
   go_wp2_with fail
   go_roundw
   case rel=>exact⟨q+1,by omega,by go_num,aq.setCell (by dsimp only;omega) _,aH HR.out (by omega) _ _,by rw[aF HO.out,<-Vb (fun _=>-1) q az]⟩
   case measure=>simp[intOf];omega
  ·obtain rfl:q=5:=by omega
   have tq:=ab hO;have HR:=aa hR;have HO:=aa hO;have zq:=fun o=>aE hR o
   have tq0:=ab hR;rw[Uk]at tq;simp[Dr]at tq0;clear hR hO
   go_wp2_with fail
   have h5:=aF (aF (aF (aF (aF HR.out 0 (.int .i64 (-1))) 1 (.int .i64 (-1))) 2 (.int .i64 (-1))) 3 (.int .i64 (-1))) 4 (.int .i64 (-1));refine bodyPost_ret (JL _ _ 0 rfl w.heap.size _ (-1) (-1) (-1) (-1) (-1) 137 rfl (h5.trans rfl)) rfl ⟨rfl,?_⟩;exact((((aq.setCell (by dsimp only;omega) _).setCell (by dsimp only;omega) _).setCell (by dsimp only;omega) _).setCell (by dsimp only;omega) _).setCell (by dsimp only;omega) _
abbrev bldT:List TypeId:=[190,234]
structure BldIs (base b mb n:Nat) (tab:List Vw) (W:World):Prop where
 lo:base<=b
 ex:∃ vs,W.heap[b]?=some (.cells #[.int .i64 n,vs,.map (some mb)] 234)/\base<=mb/\aD W base 190 8 vs tab.length (eI tab)/\lN Vw.v W mb (tk tab)
theorem BldIs.up{base b mb n:Nat} {tab:List Vw} {W W':World} (h:BldIs base b mb n tab W) (hb:Below W.heap.size W W'):BldIs base b mb n tab W':=by
 obtain⟨vs,h1,h2,h3,h4⟩:=h.ex;exact⟨h.lo,vs,af hb h1,h2,h3.up hb,h4.up hb⟩
theorem Ly(v:Vw):∀ u∈v.c.toList,u.oneCell'=true:=fun u hu=>Ei [v] u (by simpa[eI] using hu)
theorem Um(tb:List Vw) (v:Vw):(putV tb v).2<=tb.length:=by
 unfold putV;split
 ·exact List.idxOf_le_length
 ·exact Nat.le_refl _
theorem Kf(base b mb n:Nat) (tab:List Vw) (v:Vw) (w:World) (hB:BldIs base b mb n tab w) (hl:tab.length<=100000) :
  Calls Tryz.prog 200 #[.pointer (some ⟨b,0,none⟩),v.v] w fun e w'=>e=.returned (.int .i64 (putV tab v).2)/\BldIs base b mb n (putV tab v).1 w'/\KeepT bldT [mb] base w w':=by
 have wV:=hB.lo;obtain⟨vs,h1,h2,h3,h4⟩:=hB.ex;have db:=ar h1;obtain⟨av,cv,rfl⟩:=h3.slice;have H1:=aa h1;have H3:=aa h3;have H4:=aa h4;clear h1 h3 h4 hB
 go_enter Tryz.func200,Tryz.ntmps200
 go_wp2_with fail
 refine bj (fun W=>Below w.heap.size w W/\W.heap[w.heap.size]?=some (.cells v.c 190)) ⟨by go_grown,ak _ _⟩ (fun W0 aW=>?_);obtain⟨aC,VV⟩:=aW;have CS:=aa VV;have k1:∀ x:ExtW W0,∀ o,x.val.cell? ⟨w.heap.size,o,none⟩=_:=fun x=>ab (af x.ext VV)
 have k2:∀ x:ExtW W0,∀ o,x.val.cell? ⟨b,o,none⟩=_:=fun x=>ab (af (ae aC x.ext) H1.out)
 have Pq:∀ x:ExtW W0,lN Vw.v x.val mb (tk tab):=fun x=>H4.out.up (ae aC x.ext)
 have gO:=aa Pq;have wn:=Qz tab v;clear VV Pq;by_cases hm:v∈tab
 ·have HP:Hid (putV tab v=(tab,tab.idxOf v)):=aa (by unfold putV;rw[if_pos hm])
  rw[if_pos hm]at wn
  have k3:∀ x:ExtW W0,(Instr.lookup 232 (.map (some mb)) v.v true).run Tryz.prog x.val=.ok (.tuple #[.int .i64 (tab.idxOf v:Nat),.bool true]) x.val:=fun x=>by
   have:=GL kit_vw (mt:=232) (vt:=3) (z:=.int .i64 0) Tryz.underlying232 (fun w=>by kernel_rfl) (gO.out x) v;rw[wn]at this;exact this
  clear wn;refine aB (by kernel_rfl) (by kernel_rfl) ?_
  repeat (go_big_quiet_step (fail))
  refine wpQuiet_nil ?_;intro _ dY;obtain⟨xq,cZ⟩:=dY;subst cZ;clear k1 k2 k3
  go_wp2_with fail
  go_ret
  rw[HP.out];have hx:=ae aC xq.ext;exact⟨rfl,⟨wV,_,af hx H1.out,h2,H3.out.up hx,H4.out.up hx⟩,KeepT.of_below _ hx (by omega)⟩
 ·have HP:Hid (putV tab v=(tab++[v],tab.length)):=aa (by unfold putV;rw[if_neg hm])
  rw[if_neg hm]at wn
  have k3:∀ x:ExtW W0,(Instr.lookup 232 (.map (some mb)) v.v true).run Tryz.prog x.val=.ok (.tuple #[.int .i64 0,.bool false]) x.val:=fun x=>by
   have:=GL kit_vw (mt:=232) (vt:=3) (z:=.int .i64 0) Tryz.underlying232 (fun w=>by kernel_rfl) (gO.out x) v;rw[wn]at this;exact this
  have HGET:=aa wn;clear wn;refine aB (by kernel_rfl) (by kernel_rfl) ?_
  repeat (go_big_quiet_step (fail))
  refine wpQuiet_nil ?_;intro _ dY;obtain⟨xq,cZ⟩:=dY;subst cZ;clear k1 k2 k3;have hx:=ae aC xq.ext;have Am:=af xq.ext CS.out;generalize xq.val=W1 at hx Am;have HX:=aa hx;have O7:=aa Am;have t1:=ab (af hx H1.out);have tv:=ab Am;obtain⟨o,KD,hG2⟩:=Uj kit_vw (mt:=232) (vt:=3) Tryz.underlying232 (w:=W1.drew) (b:=mb) (f:=tk tab) (H4.out.up hx.drew) v (.int .i64 (tab.length:Nat)) HGET.out;have rA:=aa hG2;clear hx Am hG2
  go_wp2_with fail
  go_still_tail 6,(by kernel_rfl)
  change wpList _ _ _ _ _ W1.drew
  go_wp2_with fail
  have kX:∃ o2,W1.drew.heap[mb]?=some o2/\o2.isCells=false:=by
   obtain⟨es,ck,p1,_⟩:=H4.out.up HX.out.drew;exact⟨_,p1,rfl⟩
  obtain⟨o2,kX,rh⟩:=kX;have Fw:b≠mb:=fun e=>by rw[<-e,(af HX.out.drew H1.out)]at kX;cases kX;cases rh
  have hvn:w.heap.size≠mb:=fun e=>by
   have h9:W1.drew.heap[w.heap.size]?=some (.cells v.c 190):=O7.out;rw[e,kX]at h9;cases h9;cases rh
  refine bj (fun W=>W.heap[b]?=some (.cells #[.int .i64 n,.slice av tab.length cv,.map (some mb)] 234)/\aD W base 190 8 (.slice av tab.length cv) tab.length (eI tab)/\lN Vw.v W mb (tk (tab++[v]))/\W.heap[w.heap.size]?=some (.cells v.c 190)/\KeepT bldT [mb] base w W/\w.heap.size<W.heap.size)
   ⟨(World.putObj_heap_other Fw).trans (af HX.out.drew H1.out),(H3.out.up HX.out.drew).keepT fun g o' e1 e2=>(World.putObj_heap_other (fun e=>(H3.out.up HX.out.drew).isCells (B:=mb) kX rh (by rw[e1,e]))).trans e2,by rw[NL];exact rA.out,(World.putObj_heap_other hvn).trans O7.out,(KeepT.of_below _ HX.out.drew (by omega)).put kX rh h2 (by simp),by have:=ar O7.out;simpa using this⟩ (fun W2 eF=>?_)
  obtain⟨g1,g3,g4,g5,g6,g7⟩:=eF;have G1:=aa g1;have G3:=aa g3;have G4:=aa g4;have G5:=aa g5;have G6:=aa g6;clear g1 g3 g4 g5 g6 kX rh KD t1 tv;obtain⟨i0,cG,cf,bP,cj⟩:=info_parts Tryz.infoView
  refine mi 8 [29,30,31,32,33,34,35,36] [some (.pointer (some ⟨b,0,none⟩)),
   some (.pointer (some ⟨b,0,none⟩)),
   some (.pointer (some ⟨b,0,none⟩)),
   some (.pointer (some ⟨b,1,none⟩)),
   some (.slice av tab.length cv),
   some (v.v),
   none,
   none] (CAppS W2 W2 base 190 8 (.slice av tab.length cv) tab.length 1 (eI tab) v.c.toList 6 7) (by kernel_rfl) rfl (by decide) rfl (by kernel_rfl) (by kernel_rfl) (by kernel_rfl) (fun _=>CAppS.start (by omega) (KeepT.refl _ _ _).drew (Nat.le_refl _) (fun _ _ h _=>h) G3.out) ?step ?tail
  case step=>
   intro x W D i o s F hi ho hs hD cL bU aj hv aK hF;have fy:i=0\/i=1\/i=2\/i=3\/i=4\/i=5\/i=6\/i=7:=by omega
   rcases fy with rfl|rfl|rfl|rfl|rfl|rfl|rfl|rfl
   all_goals (have dA:=cL _ _ hs hD;obtain rfl:=cU ho.symm;obtain rfl:=cU hs.symm)
   ·clear aj hi hv
    have e0:F.getD 0 undef=.pointer (some ⟨b,0,none⟩):=ln hF (by decide) rfl;clear cL bU;clear hF dA;have e0':=dx e0;have HD:=aa hD;have bh:=aa aK;clear hD aK
    go_wp2_with fail
    refine bR.mk _ fI ?_ rfl;exact bh.out.other _ (by decide) (by decide)
   ·clear aj hi hv
    have e0:F.getD 0 undef=.pointer (some ⟨b,0,none⟩):=ln hF (by decide) rfl;clear cL bU;clear hF dA;have e0':=dx e0;have HD:=aa hD;have bh:=aa aK;clear hD aK
    go_wp2_with fail
    refine bR.mk _ fI ?_ rfl;exact bh.out.other _ (by decide) (by decide)
   ·have g1:=aj ⟨1,.data⟩ (by simp) rfl
    have d1:=hv 1 _ (by omega) g1 rfl;clear aj hi hv;have e30:=fg hF 1 30 (by decide) rfl (by kernel_rfl) d1;clear cL bU;clear hF dA d1;have e30':=dx e30;have HD:=aa hD;have bh:=aa aK;clear hD aK;clear g1
    go_wp2_with fail
    refine bR.mk _ fI ?_ rfl;exact bh.out.other _ (by decide) (by decide)
   ·have g2:=aj ⟨2,.data⟩ (by simp) rfl
    have d2:=hv 2 _ (by omega) g2 rfl;clear aj hi hv;have e31:=fg hF 2 31 (by decide) rfl (by kernel_rfl) d2;clear cL bU;clear hF dA d2;have e31':=dx e31;have HD:=aa hD;have bh:=aa aK;clear hD aK;clear g2
    go_wp2_with fail
    refine bR.mk _ fI ?_ rfl;exact bh.out.other _ (by decide) (by decide)
   ·have g3:=aj ⟨3,.data⟩ (by simp) rfl
    have d3:=hv 3 _ (by omega) g3 rfl;clear aj hi hv;have e32:=fg hF 3 32 (by decide) rfl (by kernel_rfl) d3;clear cL bU;clear hF dA d3;have t1:=ab (aK.kept _ _ G1.out (fun e=>G3.out.ne G1.out (by decide) _ e rfl)) 1;simp at t1;have e32':=dx e32;have HD:=aa hD;have bh:=aa aK;clear hD aK;clear g3
    go_wp2_with fail
    refine bR.mk _ fI ?_ rfl;exact bh.out.other _ (by decide) (by decide)
   ·clear aj hi hv
    have e3:F.getD 3 undef=.pointer (some ⟨w.heap.size,0,none⟩):=ln hF (by decide) rfl;clear cL bU;clear hF dA;have t1:=ab (aK.kept _ _ G5.out (fun e=>by have:=(H3.out.lt _ e).2;omega));have e3':=dx e3;have HD:=aa hD;have bh:=aa aK;clear hD aK
    go_wp2_with fail
    refine bR.mk _ fI ?_ rfl;exact bh.out.other _ (by decide) (by decide)
   ·have g5:=aj ⟨5,.data⟩ (by simp) rfl
    have d5:=hv 5 _ (by omega) g5 rfl;clear aj hi hv;have e34:=fg hF 5 34 (by decide) rfl (by kernel_rfl) d5;clear cL bU;clear hF dA d5;have e34':=dx e34;have HD:=aa hD;have bh:=aa aK;clear hD aK;clear g5
    go_wp2_with fail
    refine bR.mk _ (fun c hc=>by cases hc) ?_ rfl;exact bh.out.build (by decide)
   ·have g4:=aj ⟨4,.data⟩ (by simp) rfl
    have d4:=hv 4 _ (by omega) g4 rfl;have g6:=aj ⟨6,.data⟩ (by simp) rfl;clear aj hi hv;have e33:=fg hF 4 33 (by decide) rfl (by kernel_rfl) d4;have e35:=fg hF 6 35 (by decide) rfl (by kernel_rfl) rfl;clear cL bU;clear hF dA d4;obtain⟨gb,qx,mQ,_⟩:=aK.sb g6 hD;rw[qx]at e35;have bV:=aK.rd;rw[hD]at bV;have Co:=aa (show aD W base 190 8 (.slice av tab.length cv) tab.length (eI tab) from bV)
    have bN:∀ j u',v.c.toList[j]?=some u'->W.cell? (Addr.add ⟨gb,0,none⟩ j)=some u':=fun j u' hj=>by
     have e1:(Addr.add ⟨gb,0,none⟩ j)=⟨gb,j,none⟩:=by unfold Addr.add;split<;>simp_all
     rw[e1,ab mQ];simpa using hj
    have bB:=aa bN;have gM:=aK.old.old.size;clear bN bV mQ qx;have e33':=dx e33;have e35':=dx e35;have HD:=aa hD;have bh:=aa aK;clear hD aK;clear g4;clear g6;refine aZ W rfl (.tmp 33) (.tmp 35) 30 rfl base 190 i0 _ 8 64 Tryz.underlying30 cG cf bP cj rfl (by decide) _ tab.length (eI tab) e33 Co.out ⟨gb,0,none⟩ 1 1 v.c.toList e35 rfl bB.out (Ly v) (by unfold maxLen;omega) (by omega) (by omega) ?_;intro v9 w3 nT jG _;refine bR.mk v9 (fun c hc=>by cases hc) ?_ rfl;exact bh.out.app HD.out nT jG
  case tail=>
   intro x W' D F aP hv aK hF;have x0:=hv 0 _ (by omega) rfl;have x1:=hv 1 _ (by omega) rfl;have x2:=hv 2 _ (by omega) rfl;have x3:=hv 3 _ (by omega) rfl;have x4:=hv 4 _ (by omega) rfl;have x5:=hv 5 _ (by omega) rfl;have KO:=aK.rd;rw[aP 7 (by omega)]at KO;have M2:aD W' base 190 8 (x 7) (tab.length+1) (eI tab++v.c.toList):=KO;obtain⟨g9,c9,q9⟩:=M2.slice;rw[q9]at M2;have Fu:=aa M2;have eN:=aK.kept _ _ G1.out (fun e=>G3.out.ne G1.out (by decide) _ e rfl)
   have hm9:lN Vw.v W' mb (tk (tab++[v])):=by
    obtain⟨es,ck,p1,p2⟩:=G4.out;exact⟨es,ck,aK.kept _ _ p1 (fun e=>G3.out.isCells p1 rfl e.symm),p2⟩
   have HM9:=aa hm9;have eO:=aa eN;have pS:=aa aK.old;have t1:=ab eN 1;have z1:=aE eN 1;simp only[bd,cJ,List.setIfInBounds_toArray,List.set_cons_succ,List.set_cons_zero,Nat.reduceAdd,x0,x1,x2,x3,x4,x5,q9]at hF;generalize x 6=y6 at hF;subst hF;clear hv aP aK KO M2 q9 eN hm9 x0 x1 x2 x3 x4 x5;simp only[List.drop_succ_cons,List.drop_zero]
   go_wp2_with fail
   go_ret
   rw[HP.out];have bM:∀ g,Value.ownBlock (.slice g9 (tab.length+1) c9)=some g->g≠b:=fun g e=>Fu.out.ne eO.out (by decide) g e
   refine⟨rfl,⟨wV,_,aF eO.out 1 _,h2,?_,?_⟩,?_⟩
   ·rw[List.length_append,List.length_singleton,Eh]
    exact Fu.out.put bM _ _
   ·obtain⟨es,ck,p1,p2⟩:=HM9.out
    exact⟨es,ck,aH p1 (fun e=>by rw[e,eO.out]at p1;cases p1) _ _,p2⟩
   ·exact(G6.out.trans (pS.out.mono (by simp) (by simp))).set eO.out (by simp) wV _
def xC(n:Nat) (x:Int) (q:Nat):Array Value:=fC n (fun _=>x) q
theorem Kg(n:Nat) (x:Int) (q j:Nat) (hj:j<n):(xC n x q)[j]?=some (.int .i64 (if j<q then x else 0)):=mZ n _ q j hj
theorem NM(n:Nat) (x:Int) (q m:Nat) (h:q+m<=n):((xC n x q).toList.take q++List.replicate m (Value.int .i64 x)++(xC n x q).toList.drop (q+m)).toArray=xC n x (q+m):=by
 apply Array.ext_getElem?;intro j;have hl:(xC n x q).toList.length=n:=by rw[Array.length_toList];exact oG n _ q
 have hg:∀ q j,(xC n x q).toList[j]?=if j<n then some (.int .i64 (if j<q then x else 0)) else none:=by
  intro q j;rw[Array.getElem?_toList];by_cases hj:j<n
  ·rw[if_pos hj];exact Kg n x q j hj
  ·rw[if_neg hj,Array.getElem?_eq_none];unfold xC;rw[oG];omega
 rw[<-Array.getElem?_toList (xs:=xC n x (q+m)),hg,List.getElem?_toArray,List.append_assoc];by_cases h1:j<q
 ·rw[List.getElem?_append_left (by rw[List.length_take,hl];omega),List.getElem?_take_of_lt h1,hg,if_pos (show j<n by omega),if_pos h1,if_pos (show j<n by omega),if_pos (show j<q+m by omega)]
 ·rw[List.getElem?_append_right (by rw[List.length_take,hl];omega),List.length_take,hl,Nat.min_eq_left (by omega)]
  by_cases h2:j<q+m
  ·rw[List.getElem?_append_left (by rw[List.length_replicate];omega),List.getElem?_replicate,if_pos (show j - q<m by omega),if_pos (show j<n by omega),if_pos h2]
  ·rw[List.getElem?_append_right (by rw[List.length_replicate];omega),List.length_replicate,List.getElem?_drop,show q+m+(j - q - m)=j by omega,hg]
   by_cases h3:j<n
   ·rw[if_pos h3,if_pos h3,if_neg h1,if_neg h2]
   ·rw[if_neg h3,if_neg h3]
theorem qP(w:World) (g:Nat) (cur cur':Array Value) (t:TypeId) (hg:w.heap[g]?=some (.cells cur t (0,0))):(w.setRow g cur').heap[g]?=some (.cells cur' t (0,0)):=setRow_heap w g cur cur' t _ hg
theorem xP{P:Program} {w:World} {ops:Array Oper} {rest:List Oper} {o:Oper} {a:Act} {Q:Exit->Act->World->Prop} {d s:Operand} {t t':TypeId} {v u v':Value} {w':World} (hg:o.guard=none)
  (ho:o.op=.call { callee:=.builtin .copy,args:=#[d,s],argTypes:=#[t,t'] }) (hd:a.eval d=v) (hs:a.eval s=u)
  (hr:(Builtin.copy_ #[t,t'] o.type #[v,u]).run P w=.ok v' w') (h:wpList P ops Q rest (a.put o.dst v') w'):wpList P ops Q (o :: rest) a w:=by
 refine wpList_plain hg fun _ hK=>?_
 unfold Oper.wp;simp[execOp,ho,resolve,invoke,builtin,hd,hs,hr,Result.andThen];exact hK _ _ h
theorem Lz(rv:Int) (n:Nat) (h1:1<=n) (p B:Nat) (W:World) (hp:W.heap[p]?=some (.cells #[.int .i64 rv] 3)) (hB:W.heap[B]?=some (.cells (xC n rv 0) 3)) :
  (Builtin.copy_ #[38,38] 3 #[.slice (some ⟨B,0,none⟩) n n,.slice (some ⟨p,0,none⟩) 1 1]).run Tryz.prog W=.ok (.int .i64 1) (W.setRow B (xC n rv 1)):=by
 have h:=run_copy_row Tryz.prog W 38 38 3 3 B 0 n n ⟨p,0,none⟩ 1 1 (xC n rv 0) 3 [.int .i64 rv] Tryz.underlying38 (by kernel_rfl) hB (by simp only[List.length_cons,List.length_nil];exact(Nat.min_eq_left h1).symm)
  (fun j v hj=>by
   cases j with
   | zero=>simp at hj;subst hj;rw[Addr.add_lit,ab hp];rfl
   | succ j=>simp at hj) (by unfold xC;rw[oG];simpa using h1) (by simp[Value.oneCell'])
 rw[h];exact congrArg (fun r=>Result.ok (Value.int .i64 1) (W.setRow B r)) (NM n rv 0 1 (by omega))
theorem NN(rv:Int) (n q m:Nat) (h1:q+m<=n) (hm:m=min q (n - q)) (B:Nat) (W:World) (hB:W.heap[B]?=some (.cells (xC n rv q) 3)) :
  (Builtin.copy_ #[38,38] 3 #[.slice (some ⟨B,q,none⟩) (n - q) (n - q),.slice (some ⟨B,0,none⟩) q n]).run Tryz.prog W=.ok (.int .i64 (m:Int)) (W.setRow B (xC n rv (q+m))):=by
 have h:=run_copy_row Tryz.prog W 38 38 3 3 B q (n - q) (n - q) ⟨B,0,none⟩ q n (xC n rv q) 3 (List.replicate m (.int .i64 rv)) Tryz.underlying38 (by kernel_rfl) hB (by rw[List.length_replicate];exact hm)
  (fun j v hj=>by
   rw[List.getElem?_replicate]at hj;by_cases TI:j<m
   ·rw[if_pos TI]at hj
    cases hj
    rw[Addr.add_lit,ab hB,Nat.zero_add,Kg _ _ _ _ (by omega),if_pos (by omega)]
   ·rw[if_neg TI]at hj;cases hj) (by unfold xC;rw[oG,List.length_replicate];exact h1) (fun v hv=>by rw[(List.mem_replicate.1 hv).2];rfl)
 rw[h];have e:=NM n rv q m h1;rw[List.length_replicate];exact congrArg (fun r=>Result.ok (Value.int .i64 (m:Int)) (W.setRow B r)) e
theorem rR{n:Nat} {w W:World} {g:Nat} {c:Array Value} (hn:n<=g) (h:Below n w W):Below n w (W.setRow g c):=
 ⟨h.os,h.tape,h.output,by simpa using h.size,fun k hk=>(setRow_other W g k c (by omega)).trans (h.block k hk)⟩
def p7(wq W2:World) (i:Nat) (D:Nat->Bool) (_x:Nat->Value) (W:World):Prop:=W=bif D i then W2 else wq
theorem p7.other{wq W2 W:World} {i j:Nat} {D:Nat->Bool} {x:Nat->Value} (h:p7 wq W2 i D x W) (v:Value) (hj:i≠j):p7 wq W2 i (bz D j) (cA x j v) W:=by
 unfold p7 at h ⊢;simp only[bz,if_neg hj];exact h
theorem p7.hit{wq W2:World} {i:Nat} {D:Nat->Bool} {x:Nat->Value} (v:Value):p7 wq W2 i (bz D i) (cA x i v) W2:=by simp[p7,bz]
theorem p7.yes{wq W2 W:World} {i:Nat} {D:Nat->Bool} {x:Nat->Value} (h:p7 wq W2 i D x W) (hD:D i=true):W=W2:=by unfold p7 at h;rw[hD]at h;exact h
theorem vL(rv:Int) (n:Nat) (h1:1<=n) (hn:n<=8192) (p:Nat) (w:World) (hp:w.heap[p]?=some (.cells #[.int .i64 rv] 3)) :
  Calls Tryz.prog 37 #[.slice (some ⟨p,0,none⟩) 1 1,.int .i64 n] w fun e w'=>e=.returned (.slice (some ⟨w.heap.size,0,none⟩) n n)/\w'.heap[w.heap.size]?=some (.cells (xC n rv n) 3)/\Below w.heap.size w w':=by
 have Iq:=fun W=>Tryz.bits_Mul 1 n (by omega) (by omega) W
 have e1:1 * n / 18446744073709551616=0:=by omega
 have e2:1 * n % 18446744073709551616=n:=by omega
 rw[e1,e2]at Iq;have hu:Tryz.prog.underlying 38=some (.slice 3):=Tryz.underlying38;have hs:(Tryz.prog.info? 3).map (·.size)=some 1:=by kernel_rfl
 have gL:=BL (fun _=>rv) n (by omega);have HM:=aa Iq;have HK:=aa gL;clear Iq gL e1 e2;have IW:¬ (9223372036854775807:Int)<n:=by omega
 have E6:¬ (n:Int)<0:=by omega
 have jn:IntKind.u64.wrap (n:Int)=n:=by rw[IntKind.wrap_u64];omega
 have xg:IntKind.i64.wrap (n:Int)=n:=by rw[IntKind.wrap_i64];omega
 go_enter Tryz.func37,Tryz.ntmps37
 go_wp2_with fail
 refine(HM.out _).mono ?_;rintro e w' ⟨rfl,rfl⟩;have gL:=HK.out;have VK:(w'.alloc (.cells (fC n (fun _=>rv) 0) 3)).heap[w'.heap.size]?=some (.cells (xC n rv 0) 3):=ak _ _;have kq:=Lz rv n h1 p w'.heap.size _ (am _ hp) VK
 go_wp2_with (at_builtin;refine xP rfl rfl rfl rfl kq ?_)
 refine bj (fun W=>Below w'.heap.size w' W/\W.heap[w'.heap.size]?=some (.cells (xC n rv 1) 3)) ⟨rR (Nat.le_refl _) ((Below.refl _ w').alloc (Nat.le_refl _) _),qP _ _ _ _ _ VK⟩ (fun W0 aW=>?_);clear kq VK gL HM HK
 go_loopw [8] (fun i wr=>Below w'.heap.size w' wr/\∃ q:Nat,1<=q/\q<=n/\i=.int .i64 q/\wr.heap[w'.heap.size]?=some (.cells (xC n rv q) 3)) (fun i _=>n - (intOf i).toNat)
 case atStart=>exact⟨aW.1,1,by omega,h1,rfl,aW.2⟩
 case round=>
  obtain⟨aq,q,hq1',hq2',rfl,bV⟩:=hrel;clear aW W0;by_cases az:q<n
  ·obtain⟨m,hm⟩:∃ m,m=min q (n - q):=⟨_,rfl⟩
   have FK:q+m<=n:=by omega
   have hm1:1<=m:=by omega
   have nE:(q:Int)<n:=by omega
   have hle':(q:Int)<=n:=by omega
   have hne1:¬ n=q:=by omega
   have hne2:¬ q=n:=by omega
   have hw3:IntKind.i64.wrap ((q:Int)+(m:Int))=(q:Int)+(m:Int):=by rw[IntKind.wrap_i64];omega
   have iT:=NN rv n q m FK hm w'.heap.size wr.drew bV;have l9:wr.drew.heap[w'.heap.size]?=some (.cells (xC n rv q) 3):=bV;have DS:Below w'.heap.size w' wr.drew:=aq.drew;clear hm bV aq
   go_wp2_with fail
   obtain⟨wq,If⟩:∃ wq,wr.drew=wq:=⟨_,rfl⟩;rw[If]at iT l9 DS;refine BJ 10 [38,39,40,41,42,43,44,45,46,8] [some (Value.int .i64 (q:Int)),some (Value.slice (some ⟨w'.heap.size,0,none⟩) n n),some (Value.int .i64 (q:Int)),some (Value.slice (some ⟨w'.heap.size,q,none⟩) (n - q) (n - q)),some (Value.slice (some ⟨w'.heap.size,0,none⟩) n n),some (Value.int .i64 (q:Int)),some (Value.slice (some ⟨w'.heap.size,0,none⟩) q n),some (Value.int .i64 (m:Int)),some (Value.int .i64 ((q:Int)+(m:Int))),some (Value.int .i64 ((q:Int)+(m:Int)))] (p7 wq (wq.setRow w'.heap.size (xC n rv (q+m))) 7) (by kernel_rfl) rfl (by decide) rfl (by kernel_rfl) (fun _=>If) ?step ?tail
   case step=>
    intro x W D i o s F hi ho hs hD cL bU aj hv aK hF;have fy:i=0\/i=1\/i=2\/i=3\/i=4\/i=5\/i=6\/i=7\/i=8\/i=9:=by omega
    rcases fy with rfl|rfl|rfl|rfl|rfl|rfl|rfl|rfl|rfl|rfl
    all_goals (have dA:=cL _ _ hs hD;obtain rfl:=cU ho.symm;obtain rfl:=cU hs.symm)
    ·have Fk:D 9=false:=by
      cases h:D 9 with
      | false=>rfl
      | true=>exact absurd (bU 9 _ rfl h ⟨0,.phase⟩ (by simp) rfl) (by rw[hD];decide)
     have e8:F.getD 8 undef=Value.int .i64 (q:Int):=by(rw[hF];exact(lM (by decide) (i:=9) rfl (Nat.le_of_ble_eq_true (by kernel_rfl))).trans (cL 9 8 rfl Fk))
     clear Fk;refine pB (.tmp 8) rfl rfl ?_;refine bR.mk (F.getD 8 undef) (fun c hc=>e8.trans (cU hc)) ?_ rfl;exact aK.other _ (by decide)
    ·have e7:F.getD 7 undef=Value.slice (some ⟨w'.heap.size,0,none⟩) n n:=ln hF (by decide) rfl
     refine pB (.tmp 7) rfl rfl ?_;refine bR.mk (F.getD 7 undef) (fun c hc=>e7.trans (cU hc)) ?_ rfl;exact aK.other _ (by decide)
    ·have Fk:D 9=false:=by
      cases h:D 9 with
      | false=>rfl
      | true=>exact absurd (bU 9 _ rfl h ⟨2,.phase⟩ (by simp) rfl) (by rw[hD];decide)
     have e8:F.getD 8 undef=Value.int .i64 (q:Int):=by(rw[hF];exact(lM (by decide) (i:=9) rfl (Nat.le_of_ble_eq_true (by kernel_rfl))).trans (cL 9 8 rfl Fk))
     clear Fk;refine pB (.tmp 8) rfl rfl ?_;refine bR.mk (F.getD 8 undef) (fun c hc=>e8.trans (cU hc)) ?_ rfl;exact aK.other _ (by decide)
    ·have g1:=aj ⟨1,.data⟩ (by simp) rfl
     have d1:=hv 1 _ (by omega) g1 rfl;have e39:=fg hF 1 39 (by decide) rfl (by kernel_rfl) d1;have e39':=dx e39;have g2:=aj ⟨2,.data⟩ (by simp) rfl;have d2:=hv 2 _ (by omega) g2 rfl;have e40:=fg hF 2 40 (by decide) rfl (by kernel_rfl) d2;have e40':=dx e40;have HC:=aa aK;clear aj hi hv aK cL bU hF dA iT l9 DS If g1 d1 g2 d2
     go_wp2_with fail
     exact bR.mk _ fI (HC.out.other _ (by decide)) rfl
    ·have e7:F.getD 7 undef=Value.slice (some ⟨w'.heap.size,0,none⟩) n n:=ln hF (by decide) rfl
     refine pB (.tmp 7) rfl rfl ?_;refine bR.mk (F.getD 7 undef) (fun c hc=>e7.trans (cU hc)) ?_ rfl;exact aK.other _ (by decide)
    ·have Fk:D 9=false:=by
      cases h:D 9 with
      | false=>rfl
      | true=>exact absurd (bU 9 _ rfl h ⟨5,.phase⟩ (by simp) rfl) (by rw[hD];decide)
     have e8:F.getD 8 undef=Value.int .i64 (q:Int):=by(rw[hF];exact(lM (by decide) (i:=9) rfl (Nat.le_of_ble_eq_true (by kernel_rfl))).trans (cL 9 8 rfl Fk))
     clear Fk;refine pB (.tmp 8) rfl rfl ?_;refine bR.mk (F.getD 8 undef) (fun c hc=>e8.trans (cU hc)) ?_ rfl;exact aK.other _ (by decide)
    ·have g4:=aj ⟨4,.data⟩ (by simp) rfl
     have d4:=hv 4 _ (by omega) g4 rfl;have e42:=fg hF 4 42 (by decide) rfl (by kernel_rfl) d4;have e42':=dx e42;have g5:=aj ⟨5,.data⟩ (by simp) rfl;have d5:=hv 5 _ (by omega) g5 rfl;have e43:=fg hF 5 43 (by decide) rfl (by kernel_rfl) d5;have e43':=dx e43;have HC:=aa aK;clear aj hi hv aK cL bU hF dA iT l9 DS If g4 d4 g5 d5
     go_wp2_with fail
     exact bR.mk _ fI (HC.out.other _ (by decide)) rfl
    ·have g3:=aj ⟨3,.data⟩ (by simp) rfl
     have d3:=hv 3 _ (by omega) g3 rfl;have e41:=fg hF 3 41 (by decide) rfl (by kernel_rfl) d3;have e41':=dx e41;have g6:=aj ⟨6,.data⟩ (by simp) rfl;have d6:=hv 6 _ (by omega) g6 rfl;have e44:=fg hF 6 44 (by decide) rfl (by kernel_rfl) d6;have e44':=dx e44;have hW:W=wq:=by(rw[aK,hD];rfl)
     subst hW;clear aj hi hv aK cL bU hF dA g3 d3 g6 d6;refine xP rfl rfl e41 e44 iT ?_;exact bR.mk _ fI (p7.hit _) rfl
    ·have g0:=aj ⟨0,.data⟩ (by simp) rfl
     have d0:=hv 0 _ (by omega) g0 rfl;have e38:=fg hF 0 38 (by decide) rfl (by kernel_rfl) d0;have e38':=dx e38;have g7:=aj ⟨7,.data⟩ (by simp) rfl;have d7:=hv 7 _ (by omega) g7 rfl;have e45:=fg hF 7 45 (by decide) rfl (by kernel_rfl) d7;have e45':=dx e45;have HC:=aa aK;clear aj hi hv aK cL bU hF dA iT l9 DS If g0 d0 g7 d7
     go_wp2_with fail
     exact bR.mk _ fI (HC.out.other _ (by decide)) rfl
    ·have g8:=aj ⟨8,.data⟩ (by simp) rfl
     have d8:=hv 8 _ (by omega) g8 rfl;have e46:=fg hF 8 46 (by decide) rfl (by kernel_rfl) d8;have e46':=dx e46;have g7:=aj ⟨7,.chain⟩ (by simp) rfl;have d7:=hv 7 _ (by omega) g7 rfl;have e45:=fg hF 7 45 (by decide) rfl (by kernel_rfl) d7;have e45':=dx e45;have HC:=aa aK;clear aj hi hv aK cL bU hF dA iT l9 DS If g8 d8 g7 d7
     go_wp2_with fail
     exact bR.mk _ fI (HC.out.other _ (by decide)) rfl
   case tail=>
    intro x W' D F aP hv aK hF;have x0:=hv 0 _ (by omega) rfl;have x1:=hv 1 _ (by omega) rfl;have x2:=hv 2 _ (by omega) rfl;have x3:=hv 3 _ (by omega) rfl;have x4:=hv 4 _ (by omega) rfl;have x5:=hv 5 _ (by omega) rfl;have x6:=hv 6 _ (by omega) rfl;have x7:=hv 7 _ (by omega) rfl;have x8:=hv 8 _ (by omega) rfl;have x9:=hv 9 _ (by omega) rfl;have hWq:W'=wq.setRow w'.heap.size (xC n rv (q+m)):=aK.yes (aP 7 (by omega));clear aK;simp only[bd,cJ,List.setIfInBounds_toArray,List.set_cons_succ,List.set_cons_zero,Nat.reduceAdd,x0,x1,x2,x3,x4,x5,x6,x7,x8,x9]at hF;subst hF hWq;clear hv aP iT If x0 x1 x2 x3 x4 x5 x6 x7 x8 x9
    go_wp2_with fail
    go_roundw
    case rel=>exact⟨rR (Nat.le_refl _) DS,q+m,by omega,FK,by go_num,qP _ _ _ _ _ l9⟩
    case measure=>simp[intOf];omega
  ·obtain rfl:q=n:=by omega
   go_wp2_with fail
   go_ret
   exact⟨rfl,bV,aq⟩
end Go.Proofs.YtmeaoneaephjeaaGreatDoor
namespace Go.Proofs.YtmeaoneaephjeaaGreatDoor
open Go.RowKit Go Go.Shelf
abbrev mA(Ds:List Nat):List Deferred:=Ds.map gZ
def cQ(B:Nat) (Ds:List Nat) (W:World):Prop:=Ds.Nodup/\∀ D∈Ds,B<=D/\W.heap[D]?=some (.deferred (some []))
theorem cQ.nil(B:Nat) (W:World):cQ B [] W:=⟨List.nodup_nil,fun D h=>by simp at h⟩
theorem cQ.up{B:Nat} {Ds:List Nat} {W W':World} (h:cQ B Ds W) (hb:Below W.heap.size W W'):cQ B Ds W':=⟨h.1,fun D hD=>⟨(h.2 D hD).1,af hb (h.2 D hD).2⟩⟩
theorem cQ.keep{B:Nat} {Ds:List Nat} {W W':World} (h:cQ B Ds W) (hk:∀ (k:Nat) (o:Obj),W.heap[k]?=some o->o.isCells=false->W'.heap[k]?=some o):cQ B Ds W':=⟨h.1,fun D hD=>⟨(h.2 D hD).1,hk _ _ (h.2 D hD).2 rfl⟩⟩
theorem cQ.cons{B:Nat} {Ds:List Nat} {W:World} {D:Nat} (h:cQ B Ds W) (hD:B<=D) (hk:W.heap[D]?=some (.deferred (some []))) (hn:∀ E∈Ds,E<D):cQ B (D :: Ds) W:=
 ⟨List.nodup_cons.2 ⟨fun e=>Nat.lt_irrefl _ (hn _ e),h.1⟩,fun E hE=>by
  rcases List.mem_cons.1 hE with rfl|hE
  ·exact⟨hD,hk⟩
  ·exact h.2 E hE⟩
def jE(Ds:List Nat) (W:World):World:=Ds.foldl (fun W D=>W.putObj D (.deferred none)) W
theorem FT(Ds:List Nat) (W:World) {k:Nat} (hk:k∉Ds):(jE Ds W).heap[k]?=W.heap[k]?:=by
 unfold jE;induction Ds generalizing W with
 | nil=>rfl
 | cons D r ih=>
  simp at hk;rw[List.foldl_cons,ih _ hk.2];exact World.putObj_heap_other hk.1
theorem l4{B n:Nat} {w W:World} {Ds:List Nat} (h:∀ D∈Ds,B<=D) (hn:n<=B) (hb:Below n w W):Below n w (jE Ds W):=by
 unfold jE;induction Ds generalizing W with
 | nil=>exact hb
 | cons D r ih=>exact ih (fun E hE=>h E (by simp[hE])) (eE (Nat.le_trans hn (h D (by simp))) hb)
theorem qQ{B:Nat} {Ds:List Nat} {W:World} (h:cQ B Ds W):CK W (jE Ds W):=fun k o hk ho=>by
 rw[FT]
 ·exact hk
 ·intro hm
  have:=(h.2 k hm).2;rw[hk]at this;cases this;cases ho
theorem GO{P:Program} {fn:Func} {R:Ending->World->Prop} {tmps:Array Value} (Ds:List Nat):∀ (W:World),Ds.Nodup->(∀ D∈Ds,W.heap[D]?=some (.deferred (some [])))->∀ {v:Value},
  (results fn tmps).run P (jE Ds W)=.ok v (jE Ds W)->R (.returned v) (jE Ds W)->LeavesInM Fence.wide 0 P fn tmps R (mA Ds) .returning W:=by
 induction Ds with
 | nil=>intro W _ _ v hv h;exact⟨v,hv,h⟩
 | cons D r ih=>
  intro W S3 hk v hv h;rw[List.nodup_cons]at S3;refine⟨by simp,.inl ⟨_,_,rfl,run_takeDeferred (hk D (by simp)),?_⟩⟩;exact ih _ S3.2 (fun E hE=>(World.putObj_heap_other (by rintro rfl;exact S3.1 hE)).trans (hk E (by simp[hE]))) hv h
theorem qR{P:Program} {fn:Func} {R:Ending->World->Prop} {tmps:Array Value} {B:Nat} {Ds:List Nat} {W:World} {v:Value} (hm:cQ B Ds W)
  (hv:(results fn tmps).run P (jE Ds W)=.ok v (jE Ds W)) (h:R (.returned v) (jE Ds W)):bodyPostM Fence.wide 0 P fn R .ret { tmps:=tmps,defers:=mA Ds } W:=
 GO Ds W hm.1 (fun D hD=>(hm.2 D hD).2) hv h
end Go.Proofs.YtmeaoneaephjeaaGreatDoor
namespace Go.Proofs.YtmeaoneaephjeaaGreatDoor
def jY(L:Int) (c acc:List Int) (sm:Nat × Mv):List Int:=acc.set sm.1 (oV L c (acc.getD sm.1 0) sm.2)
def jk(L:Int) (c:List Int) (l:List (List Mv)) (i:Nat):List Int:=((tZ l).take i).foldl (jY L c) (List.replicate l.length 0)
theorem LA(L:Int) (c:List Int) (l:List (List Mv)):jk L c l 0=List.replicate l.length 0:=rfl
theorem LB(L:Int) (c:List Int) (l:List (List Mv)) (i:Nat) (h:i<movesN l):jk L c l (i+1)=jY L c (jk L c l i) (mvAt l i):=by
 unfold jk mvAt;have hi:i<(tZ l).length:=by rw[ww];exact h
 rw[List.take_succ_eq_append_getElem hi,List.foldl_append,List.getD_eq_getElem?_getD,List.getElem?_eq_getElem hi];rfl
theorem NO(L:Int) (c:List Int) (l:List (List Mv)) (i:Nat):(jk L c l i).length=l.length:=by
 unfold jk
 have key:∀ (x:List (Nat × Mv)) (acc:List Int),(x.foldl (jY L c) acc).length=acc.length:=by
  intro x;induction x with
  | nil=>intro acc;rfl
  | cons a r ih=>intro acc;rw[List.foldl_cons,ih];simp[jY]
 rw[key];simp
theorem QA(L:Int) (c:List Int) (x:List Mv):∀ (pre rest:List Int) (z:Int),(x.map fun m=>(pre.length,m)).foldl (jY L c) (pre++z :: rest)=pre++x.foldl (oV L c) z :: rest:=by
 induction x with
 | nil=>intro pre rest z;rfl
 | cons m r ih=>
  intro pre rest z;rw[List.map_cons,List.foldl_cons,List.foldl_cons,<-ih];congr 1;simp[jY]
theorem NP(L:Int) (c:List Int) (l:List (List Mv)):∀ (pre:List Int),(im pre.length l).foldl (jY L c) (pre++List.replicate l.length 0)=pre++l.map (AS L c):=by
 induction l with
 | nil=>intro pre;simp[im]
 | cons x r ih=>
  intro pre;simp only[im,List.foldl_append,List.length_cons,List.replicate_succ,List.map_cons];rw[QA];have h:=ih (pre++[AS L c x]);simp only[List.length_append,List.length_cons,List.length_nil,Nat.zero_add,List.append_assoc,List.cons_append,List.nil_append]at h;exact h
theorem NQ(L:Int) (a:Adv) (c:List Int):jk L c a.states (movesN a.states)=zj L a c:=by
 unfold jk zj;rw[<-ww,List.take_length];have:=NP L c a.states [];simpa[tZ] using this
theorem QB{L:Int} (hL:0<=L) {c:List Int} (hc:Bt L c) (l:List (List Mv)) (i:Nat):Bt L (jk L c l i):=by
 unfold jk
 have key:∀ (x:List (Nat × Mv)) (acc:List Int),Bt L acc->Bt L (x.foldl (jY L c) acc):=by
  intro x;induction x with
  | nil=>intro acc h;exact h
  | cons m r ih=>
   intro acc h;refine ih _ fun y hy=>?_
   unfold jY at hy;rcases List.mem_or_eq_of_mem_set hy with hy|rfl
   ·exact h y hy
   ·exact Gn hL hc (uf hL h _) _
 exact key _ _ (fun y hy=>by rw[(List.mem_replicate.1 hy).2];omega)
end Go.Proofs.YtmeaoneaephjeaaGreatDoor
namespace Go.Proofs.YtmeaoneaephjeaaGreatDoor
open Go.RowKit Go Go.Shelf
attribute [local go_sem] Oper.semAt_some
theorem Es(l:List Int) (i:Nat) (h:i<l.length):(bJ l)[i]?=some (.int .i64 (l.getD i 0)):=by
 unfold bJ;rw[List.getElem?_toArray,List.getElem?_map,List.getElem?_eq_getElem h,List.getD_eq_getElem?_getD,List.getElem?_eq_getElem h];rfl
theorem NR(l:List Int) (s:Nat) (z:Int):(bJ l).setIfInBounds s (.int .i64 z)=bJ (l.set s z):=by
 unfold bJ;rw[List.setIfInBounds_toArray,List.map_set]
theorem cI.marks{B B0:Nat} {Ds:List Nat} (h:∀ D∈Ds,D<B):cI B (fun W=>cQ B0 Ds W):=fun _ _ c x=>⟨x.1,fun D hD=>⟨(x.2 D hD).1,c.same _ _ (x.2 D hD).2 (.inl (h D hD))⟩⟩
theorem cQ.lt{B:Nat} {Ds:List Nat} {W:World} (h:cQ B Ds W):∀ D∈Ds,D<W.heap.size:=fun D hD=>ar (h.2 D hD).2
theorem FU(a:Adv) (v:Value) (k:Nat) (L:Int) (w:World) (hv:bk w v a.states) (h1:1<=a.states.length) (h2:a.states.length<=256) (aP:∀ j,j<a.states.length->stateE a (a.states.getD j [])=0) (hk:k<=6) (hL:0<=L) (hL2:L<=1048576) :
  Calls Tryz.prog 212 #[.agg #[.int .i64 a.n,v],.int .i64 k,.int .i64 L] w fun e w'=>e=.returned (.int .i64 (numberL L a k))/\Below w.heap.size w w':=by
 have G:=aa hv;obtain⟨pa,ca,rfl,la1,la2,ea⟩:=hv.at;clear hv ea;have oR:=aa aP;clear aP;refine fT Tryz.func212 rfl ?_;simp only[Tryz.ntmps212,List.size_toArray,List.length_cons,List.length_nil,Nat.reduceAdd,Nat.reduceSub,Array.replicate_succ,Array.replicate_zero,List.push_toArray,List.append_toArray,List.nil_append,List.cons_append]
 go_wp2_with fail
 refine aL (fun W=>Below w.heap.size w W/\W.heap[w.heap.size]?=some (.cells #[.int .i64 a.n,.slice pa a.states.length ca] 27)/\W.heap[w.heap.size+1]?=some (.cells #[.int .i64 L] 3)/\W.heap[w.heap.size+1+1]?=some (.cells #[.int .i64 1] 3)) ⟨by go_grown,am _ (am _ (ak _ _)),am _ (ba _ _ _),dH _ _ _ _⟩ (fun W0 aW=>?_);obtain⟨aC,br,gJ,gS⟩:=aW;refine(vL 1 a.states.length h1 (by omega) _ W0 gS).mono ?_;rintro e w1 ⟨rfl,bV,aG⟩
 go_wp2_with fail
 have jb:=ae aC aG;have dM:=af aG br;have rj:=af aG gJ;have cf:=aC.size;have bP:=aG.size;have Wg:=ar gS
 refine wp_loop (fun act W=>∃ (q:Nat) (Ds:List Nat) (cb:Nat) (u8 u9 u10 u18 u19 u20 u21 u22 u23 u24 u25 u26 u27 u28 u29 u30 u31 u32 u33 u34 u35 u36 u37 u38 u39 u40 u41 u42 u43 u44 u45 u46:Value),
   act={ tmps:=#[Value.agg #[Value.int IntKind.i64 a.n,Value.slice pa a.states.length ca],Value.int IntKind.i64 k,Value.int IntKind.i64 L,Value.pointer (some ⟨w.heap.size,0,none⟩),undef,Value.pointer (some ⟨w.heap.size+1,0,none⟩),Value.int IntKind.i64 0,Value.pointer (some ⟨w1.heap.size,0,none⟩),u8,u9,u10,
     Value.slice (some ⟨w.heap.size+1+1,0,none⟩) 1 1,Value.pointer (some ⟨w.heap.size,1,none⟩),Value.slice pa a.states.length ca,Value.int IntKind.i64 a.states.length,Value.slice (some ⟨W0.heap.size,0,none⟩) a.states.length a.states.length,Value.int IntKind.i64 k,Value.int IntKind.i64 q,
     u18,u19,u20,u21,u22,u23,u24,u25,u26,u27,u28,u29,u30,u31,u32,u33,u34,u35,u36,u37,u38,u39,u40,u41,u42,u43,u44,u45,u46],defers:=mA Ds }/\q<=k/\cQ w.heap.size Ds W/\Below w.heap.size w W/\w1.heap.size<W.heap.size ∧
    W.heap[w.heap.size]?=some (.cells #[.int .i64 a.n,.slice pa a.states.length ca] 27)/\W.heap[w.heap.size+1]?=some (.cells #[.int .i64 L] 3) ∧
    W.heap[w1.heap.size]?=some (.cells #[.slice (some ⟨cb,0,none⟩) a.states.length a.states.length] 38)/\w.heap.size<=cb/\W.heap[cb]?=some (.cells (bJ (dQ L a q)) 3))
  (fun act _=>k - (intOf (act.tmps.getD 17 undef)).toNat) ?start ?round
 case start=>
  refine⟨0,[],W0.heap.size,_,_,_,_,_,_,_,_,_,_,_,_,_,_,_,_,_,_,_,_,_,_,_,_,_,_,_,_,_,_,_,_,rfl,by omega,cQ.nil _ _,jb.alloc jb.size _,by simp,am _ dM,am _ rj,ak _ _,by omega,am _ ?_⟩;rw[bV]
  have:xC a.states.length 1 a.states.length=bJ (dQ L a 0):=by
   unfold xC;rw[q7];congr 1;apply List.ext_getElem (by simp[dQ]);intro i _ _;simp[dQ]
  rw[this]
 case round=>
  rintro act W ⟨q,Ds,cb,u8,u9,u10,u18,u19,u20,u21,u22,u23,u24,u25,u26,u27,u28,u29,u30,u31,u32,u33,u34,u35,u36,u37,u38,u39,u40,u41,u42,u43,u44,u45,u46,rfl,hq,gL,dq,hsW,hA,hR,hC,Ar,hrw⟩;have KC:=aa gL;have yz:=aa hrw;clear gL hrw bV br gJ gS dM rj;by_cases az:q<k
  ·have hmake:=kO (fun _=>0) a.states.length h2
   have nE:(q:Int)<k:=by omega
   have t7:=ab hC 0;have tA:=ab hA;simp at t7;have hlA:=ar hA;have HC:=aa hC;have HA:=aa hA;have HR:=aa hR;clear hC hA hR
   go_wp2_with fail
   refine(xx _ _ _ _ _).mono ?_;rintro e w2 ⟨rfl,rfl⟩;clear t7 tA hmake
   go_wp2_with fail
   have hlt0:=KC.out.lt
   refine bj (fun W1=>Below w.heap.size w W1/\W.heap.size<W1.heap.size/\W1.heap[w.heap.size+1]?=some (.cells #[.int .i64 L] 3)/\W1.heap[w.heap.size]?=some (.cells #[.int .i64 a.n,.slice pa a.states.length ca] 27)/\W1.heap[w1.heap.size]?=some (.cells #[.slice (some ⟨cb,0,none⟩) a.states.length a.states.length] 38)/\W1.heap[cb]?=some (.cells (bJ (dQ L a q)) 3) ∧
     W1.heap[W.heap.size]?=some (.cells (bJ (jk L (dQ L a q) a.states 0)) 3)/\W1.heap[W.heap.size+1]?=some (.cells #[.slice (some ⟨W.heap.size,0,none⟩) a.states.length a.states.length] 38)/\W1.heap[W.heap.size+1+1]?=some (.cells #[.int .i64 a.n,.slice pa a.states.length ca] 27)/\cQ w.heap.size Ds W1)
    ⟨((dq.alloc dq.size _).alloc (by simp only[World.size_alloc];omega) _).alloc (by simp only[World.size_alloc];omega) _,by simp only[World.size_alloc];omega,am _ (am _ (am _ HR.out)),am _ (am _ (am _ HA.out)),am _ (am _ (am _ HC.out)),am _ (am _ (am _ yz.out)),am _ (am _ ?_),am _ (ba _ _ _),dH _ _ _ _,KC.out.up (by go_grown)⟩ (fun W1 cC=>?_)
   ·rw[ak,LA]
    have:fC a.states.length (fun _=>0) 0=bJ (List.replicate a.states.length 0):=by
     apply Array.ext (by simp[fC,bJ]);intro i _ _;simp[fC,bJ]
    rw[this]
   obtain⟨g1,g2,g3,g4,g5,g6,g7,g8,g9,g10⟩:=cC;have da:=vm w _ a.states G.out W1 g1 (W.heap.size+1+1) (by simp[ab g9]);have O':=aa g2;have hcbB:=ar g6
   refine mg (gf:=221) (lb:=#[.pointer (some ⟨W.heap.size+1+1,0,none⟩)]) rfl (enters_of Tryz.func221 (by kernel_rfl) rfl) da (Below.refl _ _) (fun k hk=>Nat.lt_of_lt_of_le hk g1.size) (fun i=>rfl)
    (fun i V=>Below w.heap.size w V/\V.heap[w.heap.size+1]?=some (.cells #[.int .i64 L] 3)/\V.heap[w.heap.size]?=some (.cells #[.int .i64 a.n,.slice pa a.states.length ca] 27)/\V.heap[w1.heap.size]?=some (.cells #[.slice (some ⟨cb,0,none⟩) a.states.length a.states.length] 38)/\V.heap[cb]?=some (.cells (bJ (dQ L a q)) 3) ∧
     V.heap[W.heap.size]?=some (.cells (bJ (jk L (dQ L a q) a.states i)) 3)/\V.heap[W.heap.size+1]?=some (.cells #[.slice (some ⟨W.heap.size,0,none⟩) a.states.length a.states.length] 38)/\cQ w.heap.size Ds V)
    (fun _ _ _=>False)
    (fun i=>(cI.below g1.size).and (cI.cells.and (cI.cells.and (cI.cells.and (cI.cells.and (cI.cells.and (cI.cells.and (cI.marks g10.lt)))))))) (fun c i=>cI.pure) ⟨g1,g3,g4,g5,g6,g7,g8,g10⟩ ?round2 ?done ?stop
   case stop=>rintro D c i V hD hi h;exact h.elim
   case done=>
    intro D V hD hI hK;obtain⟨f1,f2,f3,f4,f5,f6,f7,f8⟩:=hI;rw[NQ]at f6;have t8:=ab f7 0;have t7:=ab f4 0;have z7:=aE f4 0;simp at t8 t7;have HF:=aa (And.intro f1 (And.intro f2 (And.intro f3 (And.intro f4 (And.intro f5 (And.intro f6 (And.intro f7 (And.intro f8 hK))))))));have lp:∀ E∈Ds,E<D:=fun E hE=>Nat.lt_of_lt_of_le (g10.lt E hE) hD
    clear f1 f2 f3 f4 f5 f6 f7 f8 hK da g3 g4 g5 g6 g7 g8 g9
    go_wp2_with fail
    refine⟨⟨q+1,D :: Ds,W.heap.size,_,_,_,_,_,_,_,_,_,_,_,_,_,_,_,_,_,_,_,_,_,_,_,_,_,_,_,_,_,_,_,_,rfl,by omega,?_,HF.out.1.setCell (by dsimp only;omega) _,?_,?_,?_,?_,by omega,?_⟩,?_⟩
    ·refine cQ.cons (HF.out.2.2.2.2.2.2.2.1.keep fun k o hk ho=>?_) (by omega) ?_ lp
     ·exact(KeepsOthers.setCell _ _ _).same k o hk ho
     ·rw[Below.heap_setCell _ _ _ _ (by dsimp only;omega)];exact HF.out.2.2.2.2.2.2.2.2
    ·simp only[World.size_setCell];exact ar HF.out.2.2.2.1
    ·rw[Below.heap_setCell _ _ _ _ (by dsimp only;omega)];exact HF.out.2.2.1
    ·rw[Below.heap_setCell _ _ _ _ (by dsimp only;omega)];exact HF.out.2.1
    ·rw[aF HF.out.2.2.2.1];rfl
    ·rw[Below.heap_setCell _ _ _ _ (by dsimp only;omega)];exact HF.out.2.2.2.2.2.1
    ·simp[intOf];omega
   case round2=>
    intro yl i V hi hl hI;unfold Gt;obtain⟨s,j,hs,hj,rfl⟩:=J9 a.states i hi;have Ai:=aa (LB L (dQ L a q) a.states (cnt a.states s+j) hi);rw[zi a.states s j hs hj]at Ai ⊢;have od:=kJ oR.out hs hj;generalize a.states[s][j]=m at od Ai;dsimp only;have HI:=aa hI;clear hI;have hszV:=HI.out.1.size;clear da g3 g4 g5 g6 g7 g8 g9
    gi_wp2
    refine⟨Bod.of_below (fun k hk=>Nat.lt_of_lt_of_le hk hszV) (by go_grown),(fun X=>(Below w.heap.size w X/\X.heap[w.heap.size+1]?=some (.cells #[.int .i64 L] 3)/\X.heap[w.heap.size]?=some (.cells #[.int .i64 a.n,.slice pa a.states.length ca] 27)/\X.heap[w1.heap.size]?=some (.cells #[.slice (some ⟨cb,0,none⟩) a.states.length a.states.length] 38)/\X.heap[cb]?=some (.cells (bJ (dQ L a q)) 3) ∧
     X.heap[W.heap.size]?=some (.cells (bJ (jk L (dQ L a q) a.states (cnt a.states s+j))) 3)/\X.heap[W.heap.size+1]?=some (.cells #[.slice (some ⟨W.heap.size,0,none⟩) a.states.length a.states.length] 38)/\cQ w.heap.size Ds X)/\X.heap[V.heap.size]?=some (.cells #[.int .i64 m.r.g.n,.int .i64 m.r.g.h0,.int .i64 m.r.g.h1,.int .i64 m.r.g.h2,.int .i64 m.r.g.h3,.int .i64 m.r.g.h4,.int .i64 m.r.f,.int .i64 m.to] 143)),
     ((cI.below g1.size).and (cI.cells.and (cI.cells.and (cI.cells.and (cI.cells.and (cI.cells.and (cI.cells.and (cI.marks g10.lt)))))))).and cI.cells,⟨⟨HI.out.1.alloc hszV _,am _ HI.out.2.1,am _ HI.out.2.2.1,am _ HI.out.2.2.2.1,am _ HI.out.2.2.2.2.1,am _ HI.out.2.2.2.2.2.1,am _ HI.out.2.2.2.2.2.2.1,HI.out.2.2.2.2.2.2.2.up (by go_grown)⟩,ak _ _⟩,fun V2 hV2 _=>?_⟩
    obtain⟨⟨x1,x2,x3,x4,x5,x6,x7,x8⟩,x9⟩:=hV2;have hln:=Ed L a q;have hfn:=NO L (dQ L a q) a.states (cnt a.states s+j);have hok1:=uf hL (AT hL a q) m.to.toNat;have hok2:=uf hL (QB hL (AT hL a q) a.states (cnt a.states s+j)) s;have t5:=ab x2 0;have t7:=ab x4 0;have t8:=ab x7 0;have tM:=ab x9;have tc:=ab x5 m.to.toNat;have tr:=ab x6 s;have zr:=aE x6 s;simp at t5 t7 t8;rw[Es _ _ (by omega)]at tc tr;have HX:=aa (And.intro x1 (And.intro x2 (And.intro x3 (And.intro x4 (And.intro x5 (And.intro x6 (And.intro x7 (And.intro x8 x9))))))));clear x1 x2 x3 x4 x5 x6 x7 x8 x9;have sy:jk L (dQ L a q) a.states (cnt a.states s+j+1)=(jk L (dQ L a q) a.states (cnt a.states s+j)).set s (min ((jk L (dQ L a q) a.states (cnt a.states s+j)).getD s 0+(dQ L a q).getD m.to.toNat 0) (L+1)):=Ai.out;have Rw:=aa sy;clear sy Ai;generalize (dQ L a q).getD m.to.toNat 0=nx at hok1 tc Rw;generalize (jk L (dQ L a q) a.states (cnt a.states s+j)).getD s 0=ns at hok2 tr Rw;have uW:0<=m.to:=od.2.1;have hm1:m.to<a.states.length:=od.2.2;have jn:IntKind.i64.wrap (ns+nx)=ns+nx:=IntWalk.i64_in _ (by omega);have xg:IntKind.i64.wrap (L+1)=L+1:=IntWalk.i64_in _ (by omega)
    gi_wp2
    refine kL 15 (fun ⟨_,_,h⟩=>h) (by kernel_rfl) (by kernel_rfl) (by kernel_rfl) (fun ops Lq hops hLq=>?_);simp only[List.take_succ_cons,List.take_zero,List.drop_succ_cons,List.drop_zero]at hLq ⊢;have CJ:=aa hLq;clear hLq;have Sp:=aa hops;clear hops
    repeat still_step
    refine wpStill_nil ?_;refine CJ.out _ ?_
    go_wp2_with fail
    all_goals
     obtain⟨x1,x2,x3,x4,x5,x6,x7,x8,x9⟩:=HX.out;have z1:=O'.out;have z2:=ar yz.out;refine⟨⟨by simp,fun k hk=>(Below.heap_setCell V2 _ _ _ (by dsimp only;omega)),fun k o _ hk ho=>(KeepsOthers.setCell V2 _ _).same k o hk ho⟩,(x1.setCell (by dsimp only;omega) _).drew,?_,?_,?_,?_,?_,?_,?_⟩
     ·exact(Below.heap_setCell V2 _ _ _ (by dsimp only;omega)).trans x2
     ·exact(Below.heap_setCell V2 _ _ _ (by dsimp only;omega)).trans x3
     ·exact(Below.heap_setCell V2 _ _ _ (by dsimp only;omega)).trans x4
     ·exact(Below.heap_setCell V2 _ _ _ (by dsimp only;omega)).trans x5
     ·refine(aF x6 s _).trans ?_
      rw[Rw.out,<-NR]
      all_goals first
       | rw[Int.min_eq_right (by omega)]
       | rw[Int.min_eq_left (by omega)]
     ·exact(Below.heap_setCell V2 _ _ _ (by dsimp only;omega)).trans x7
     ·exact x8.keep fun k o hk ho=>(KeepsOthers.setCell V2 _ _).same k o hk ho
  ·obtain rfl:q=k:=by omega
   have t7:=ab hC 0;simp at t7;have c0:=ab yz.out 0
   have wn:(bJ (dQ L a q))[0]?=some (.int .i64 (numberL L a q)):=by
    have hl:=Ed L a q;unfold numberL bJ;rw[List.getElem?_toArray,List.getElem?_map,List.getElem?_eq_getElem (by omega)];simp[List.getD_eq_getElem?_getD,List.getElem?_eq_getElem (show 0<(dQ L a q).length by omega)]
   rw[wn]at c0;have sM:0<a.states.length:=by omega
   go_wp2_with fail
   refine qR KC.out (v:=.int .i64 (numberL L a q)) ?_ ⟨rfl,l4 (fun D hD=>(KC.out.2 D hD).1) (Nat.le_refl _) dq⟩;simp[results,Tryz.results212,go_sem]
end Go.Proofs.YtmeaoneaephjeaaGreatDoor
namespace Go.Proofs.YtmeaoneaephjeaaGreatDoor
open Go.RowKit Go Go.Shelf
def countedR(L:Int) (a:Adv) (r:Int):Int × Int:=
 if advE a≠0 then(0,advE a) else if r<0\/6<r then(0,2) else if L<numberL L a r.toNat then(0,17) else(numberL L a r.toNat,0)
theorem z'(a:Adv) (v:Value) (r L:Int) (w:World) (hv:bk w v a.states) (hN:movesN a.states<1099511627776) (hL:0<=L) (hL2:L<=1048576) :
  Calls Tryz.prog 192 #[.agg #[.int .i64 a.n,v],.int .i64 r,.int .i64 L] w fun e w'=>e=.returned (.tuple #[.int .i64 (countedR L a r).1,.int .i64 (countedR L a r).2])/\Below w.heap.size w w':=by
 have G:=aa hv;obtain⟨pa,ca,rfl,_⟩:=hv.at;clear hv
 go_enter Tryz.func192,Tryz.ntmps192
 go_wp2_with fail
 refine aL (fun W=>Below w.heap.size w W/\W.heap[w.heap.size]?=some (.cells #[.int .i64 a.n,.slice pa a.states.length ca] 27)) ⟨by go_grown,ak _ _⟩ (fun W0 aW=>?_);obtain⟨aC,br⟩:=aW;refine(xy a _ W0 (G.out.up up_moves aC) hN).mono ?_;rintro e w1 ⟨rfl,aG⟩;have jb:=ae aC aG;have dM:=af aG br;have t1:=ab dM;have HE:=aa (show advE a=0->_ from fun h=>hH h);have HV:Hid (countedR L a r=if advE a≠0 then(0,advE a) else if r<0\/6<r then(0,2) else if L<numberL L a r.toNat then(0,17) else(numberL L a r.toNat,0)):=by exact rfl
 generalize advE a=ea at HE HV;have dy:=aa dM;clear dM br;by_cases xh:ea=0
 case neg=>
  have hea':(ea != 0)=true:=by simpa using xh
  have cT:Hid (countedR L a r=(0,ea)):=by(have h:countedR L a r=(0,ea):=by rw[HV.out,if_pos xh]);exact h
  clear HV xh
  go_wp2_with fail
  go_ret2
  refine⟨jU ?_ ?_,jb⟩<;>rw[cT.out]
 subst xh;by_cases hr:r<0\/6<r
 ·have cT:Hid (countedR L a r=(0,2)):=by(have h:countedR L a r=(0,2):=by rw[HV.out,if_neg (by simp),if_pos hr]);exact h
  clear HV;rcases hr with hr|hr
  ·go_wp2_with fail
   go_ret2
   refine⟨jU ?_ ?_,jb⟩<;>rw[cT.out]
  ·go_wp2_with fail
   go_ret2
   refine⟨jU ?_ ?_,jb⟩<;>rw[cT.out]
 obtain⟨k,rfl⟩:∃ k:Nat,r=(k:Int):=⟨r.toNat,by omega⟩;have hk:k<=6:=by omega
 rw[Int.toNat_natCast,if_neg (by simp),if_neg hr]at HV;have Kz:¬ ((k:Int)<0):=by omega
 have KE:¬ (6<(k:Int)):=by omega
 clear hr
 go_wp2_with fail
 refine(FU a _ k L w1 (G.out.up up_moves jb) (HE.out trivial).1.1 (HE.out trivial).1.2 (HE.out trivial).2.1 hk hL hL2).mono ?_;rintro e w2 ⟨rfl,aV⟩;have rE:=ae jb aV;generalize numberL L a k=x at HV;by_cases hx:L<x
 ·have cT:Hid (countedR L a k=(0,17)):=by(have h:countedR L a k=(0,17):=by rw[HV.out,if_pos hx]);exact h
  clear HV t1
  go_wp2_with fail
  go_ret2
  refine⟨jU ?_ ?_,rE⟩<;>rw[cT.out]
 ·have cT:Hid (countedR L a k=(x,0)):=by(have h:countedR L a k=(x,0):=by rw[HV.out,if_neg hx]);exact h
  clear HV t1
  go_wp2_with fail
  go_ret2
  refine⟨jU ?_ ?_,rE⟩<;>rw[cT.out]
theorem GP(a:Adv) (v:Value) (r:Int) (w:World) (hv:bk w v a.states) (hN:movesN a.states<1099511627776) :
  Calls Tryz.prog 191 #[.agg #[.int .i64 a.n,v],.int .i64 r] w fun e w'=>e=.returned (.tuple #[.int .i64 (countedR 1048576 a r).1,.int .i64 (countedR 1048576 a r).2])/\Below w.heap.size w w':=by
 have G:=aa hv;obtain⟨pa,ca,rfl,_⟩:=hv.at;clear hv
 go_enter Tryz.func191,Tryz.ntmps191
 go_wp2_with fail
 refine aL (fun W=>Below w.heap.size w W) (by go_grown) (fun W0 aC=>?_);refine(z' a _ r 1048576 W0 (G.out.up up_moves aC) hN (by omega) (by omega)).mono ?_;rintro e w1 ⟨rfl,aG⟩
 go_wp2_with fail
 go_ret2
 exact⟨rfl,ae aC aG⟩
theorem Et(a b:List Rd):cV (a++b)=cV a++cV b:=by simp[cV]
theorem um(v:Value) (l:List Int) (w:World) (hv:aY w v l) (hn:l.length<=1099511627776) :
  Calls Tryz.prog 195 #[v] w fun e w'=>∃ u,e=.returned u/\aD w' w.heap.size 3 1 u l.length (l.map (Value.int .i64))/\Below w.heap.size w w':=by
 refine(xz v _ w (zM hv) (by simpa using hn)).mono ?_;rintro e w' ⟨u,rfl,ho,hb⟩;exact⟨u,rfl,aD.of_owns (by simpa using ho),hb⟩
theorem uq(v:Value) (l:List Rd) (w:World) (hv:ka w v l) (hn:l.length<=1048576) :
  Calls Tryz.prog 165 #[v] w fun e w'=>∃ u,e=.returned u/\aD w' w.heap.size 141 7 u l.length (cV l)/\Below w.heap.size w w':=by
 obtain⟨i0,hi,cf,bP,cj⟩:=info_parts Tryz.infoRound;have HW:=aa (Np hv);have jK:=fun w=>Lib.run_eql_slice_nil (P:=Tryz.prog) w 87
 obtain⟨a,cap,rfl,⟨_,_,jH⟩,_,_⟩:=hv;cases a with
 | none=>
  have hl:l.length=0:=by have:=jH rfl;omega
  obtain rfl:l=[]:=List.eq_nil_of_length_eq_zero hl;obtain rfl:=jH rfl
  go_enter Tryz.func165,Tryz.ntmps165
  go_wp2_with fail
  go_ret
  exact⟨_,rfl,aD.nil _ _ _ _,Below.refl _ _⟩
 | some ad=>
  have bN:∀ j u,(cV l)[j]?=some u->(w.alloc (.cells #[] 141)).cell? (ad.add j)=some u:=fun j u hj=>by
   obtain⟨b,o,c,e,eB⟩:=HW.out j u hj;have:ad=⟨b,o,none⟩:=by simp at e;exact e.1
   subst this;have:(Addr.add ⟨b,o,none⟩ j)=⟨b,o+j,none⟩:=by unfold Addr.add;split<;>simp_all
   rw[this];exact ai (by go_grown) eB
  have aX:aD (w.alloc (.cells #[] 141)) w.heap.size 141 7 (.slice (some ⟨w.heap.size,0,none⟩) 0 0) 0 []:=⟨by simp,.inr ⟨w.heap.size,0,#[],(0,0),rfl,Nat.le_refl _,ak _ _,fun i hi=>by simp at hi,by omega,by simp[maxLen],by simp,by simp⟩⟩;have bB:=aa bN;have bL:=aa aX;clear bN aX jH
  go_enter Tryz.func165,Tryz.ntmps165
  go_wp2_with (at_builtin;(refine aZ _ rfl (.tmp 5) (.tmp 6) 87 rfl w.heap.size 141 i0 _ 7 56 Tryz.underlying87 hi cf bP cj rfl (by decide) _ 0 [] rfl bL.out ad l.length cap (cV l) rfl (xA l) bB.out (rK l) (by unfold maxLen;omega) (by omega) (by simp) ?_;intro v' w1 gG kZ _;obtain⟨av',cv',rfl⟩:=gG.slice))
  go_ret
  rw[Nat.zero_add,List.nil_append]at gG;refine⟨_,rfl,by simpa using gG,Below.grown (w:=w.alloc (.cells #[] 141)) (by go_grown) kZ (by simp) (fun k hk=>?_)⟩;cases hk;exact Nat.le_refl _
theorem FV{P:Program} (w:World) (base:Nat) (t ty e:TypeId) (i:TypeInfo) (size:Nat) (ht:P.underlying t=some (.slice e)) (hi:P.info? e=some i)
  (eJ:i.size=size) (g cap n:Nat) (xs:List Value) (aX:aD w base e size (.slice (some ⟨g,0,none⟩) n cap) n xs)
  (a:Addr) (m c:Nat) (news:List Value) (hl:news.length=m * size) (bN:∀ j u,news[j]?=some u->w.cell? (a.add j)=some u) (h1:∀ u∈news,u.oneCell'=true) (l6:n+m<=cap) :
  ∃ w',(Builtin.append_ #[t,t] ty #[.slice (some ⟨g,0,none⟩) n cap,.slice (some a) m c]).run P w=.ok (.slice (some ⟨g,0,none⟩) (n+m) cap) w'/\aD w' base e size (.slice (some ⟨g,0,none⟩) (n+m) cap) (n+m) (xs++news)/\w.grownBy w' (some g)/\w'.heap.size=w.heap.size:=by
 obtain⟨iw,h⟩:=aX;rcases h with ⟨h,_⟩|⟨g',cap',cur,fz,h,IF,hg,mI,jO,pT,jv,Mq⟩
 ·cases h
 cases h
 subst eJ;have Ij:n * i.size+news.length<=cur.size:=by rw[hl,jv,<-Nat.add_mul];exact Nat.mul_le_mul_right _ l6
 have hr:=run_append_room_cells (P:=P) w t ty e i ht hi g 0 n cap a m c news hl bN h1 l6 (fun j hj=>by rw[Nat.zero_add,ab hg];simp;omega)
  (fun j hj=>by
   simp only[World.frozen?,hg,Nat.zero_add];have:=mI (n * i.size+j) (by omega)
   simpa using this)
 rw[Nat.zero_add]at hr;obtain⟨cur',g1,g2,g3⟩:=lZ g e fz news (n * i.size) w cur hg Ij;obtain⟨o1,o2,o3,o4,o5⟩:=ld g news (n * i.size) w;refine⟨_,hr,⟨by rw[List.length_append,iw,hl,Nat.add_mul],.inr ⟨g,cap,cur',fz,rfl,IF,g1,fun k hk=>mI k (by omega),l6,pT,by omega,?_⟩⟩,⟨o2,o3,o4,by omega,fun k _ hk=>o1 k (fun e=>hk (by rw[e]))⟩,o5⟩;rw[Nat.add_mul,<-hl,g3,Mq]
theorem A0{P:Program} {ops:Array Oper} {rest:List Oper} {o:Oper} {a:Act} {w:World} {Q:Exit->Act->World->Prop} (k9:o.guard=none) (s x:Operand) (t:TypeId)
  (ho:o.op=.call { callee:=.builtin .append,args:=#[s,x],argTypes:=#[t,t] })
  (base:Nat) (e:TypeId) (i:TypeInfo) (size:Nat) (ht:P.underlying t=some (.slice e)) (hi:P.info? e=some i)
  (eJ:i.size=size) (g cap n:Nat) (xs:List Value) (hs:a.eval s=.slice (some ⟨g,0,none⟩) n cap) (aX:aD w base e size (.slice (some ⟨g,0,none⟩) n cap) n xs)
  (ad:Addr) (m c:Nat) (news:List Value) (hx:a.eval x=.slice (some ad) m c) (hl:news.length=m * size) (bN:∀ j u,news[j]?=some u->w.cell? (ad.add j)=some u) (h1:∀ u∈news,u.oneCell'=true) (l6:n+m<=cap)
  (h:∀ w',aD w' base e size (.slice (some ⟨g,0,none⟩) (n+m) cap) (n+m) (xs++news)->w.grownBy w' (some g)->w'.heap.size=w.heap.size->wpList P ops Q rest (a.put o.dst (.slice (some ⟨g,0,none⟩) (n+m) cap)) w'):wpList P ops Q (o :: rest) a w:=by
 refine wpList_plain k9 fun _ hK=>?_
 obtain⟨w',hr,h2,h3,h4⟩:=FV (P:=P) w base t o.type e i size ht hi eJ g cap n xs aX ad m c news hl bN h1 l6;unfold Oper.wp execOp;simp only[ho,resolve,invoke,builtin,Sem.run_bind,Sem.run_pure,Result.andThen_ok,List.map_toArray,List.map_cons,List.map_nil,hs,hx,hr];exact hK _ _ (h w' h2 h3 h4)
theorem aD.shrink{w:World} {base:Nat} {e:TypeId} {k:Nat} {g cap n m:Nat} {xs ys:List Value} (h:aD w base e k (.slice (some ⟨g,0,none⟩) (n+m) cap) (n+m) (xs++ys)) (hx:xs.length=n * k):aD w base e k (.slice (some ⟨g,0,none⟩) n cap) n xs:=by
 obtain⟨hl,h⟩:=h;rcases h with ⟨h,_⟩|⟨g',cap',cur,fz,h,IF,hg,mI,jO,pT,jv,ht⟩
 ·cases h
 cases h
 refine⟨hx,.inr ⟨g,cap,cur,fz,rfl,IF,hg,mI,by omega,pT,jv,?_⟩⟩;have h2:=congrArg (List.take (n * k)) ht;rw[List.take_take,List.take_append_of_le_length (by omega),List.take_of_length_le (by omega:xs.length<=n * k)]at h2;rw[<-h2];congr 1;have:=Nat.mul_le_mul_right k (Nat.le_add_right n m);omega
end Go.Proofs.YtmeaoneaephjeaaGreatDoor
namespace Go.Proofs.YtmeaoneaephjeaaGreatDoor
open Go.RowKit Go Go.Shelf
attribute [local go_sem] Oper.semAt_some
theorem mj{W:World} {b c:Nat} {x y:Array Value} {t u:TypeId} {f g:Nat × Nat} (h1:W.heap[b]?=some (.cells x t f)) (h2:W.heap[c]?=some (.cells y u g)) (bM:t≠u):b≠c:=by
 rintro rfl;rw[h1]at h2;cases h2;exact bM rfl
theorem fX{W W':World} {row:Option Nat} (hg:W.grownBy W' row) {k:Nat} {o:Obj} (hk:W.heap[k]?=some o) (hn:row≠some k):W'.heap[k]?=some o:=(hg.block k (ar hk) (fun e=>hn e.symm)).trans hk
theorem JM{w:World} {base:Nat} {e:TypeId} {k:Nat} {v:Value} {n:Nat} {xs:List Value} (h:aD w base e k v n xs):v.oneCell'=true:=by
 obtain⟨a,c,rfl⟩:=h.slice;rfl
abbrev oH(r:Rd):Prop:=bI r.g.n/\bI r.g.h0/\bI r.g.h1/\bI r.g.h2/\bI r.g.h3/\bI r.g.h4/\bI r.f
abbrev BN(Br Bo Ba Bf:Nat):Value:=.func (.func 193) #[] #[.pointer (some ⟨Br,0,none⟩),.pointer (some ⟨Bo,0,none⟩),.pointer (some ⟨Ba,0,none⟩),.pointer (some ⟨Bf,0,none⟩)]
structure WEnv (a:Adv) (v:Value) (k:Nat) (w:World) (Br Bo Ba Bf wb:Nat) (L:List (List Rd)) (word:List Rd) (W:World):Prop where
 old:Below w.heap.size w W
 lo:w.heap.size<=Bo
 r:W.heap[Br]?=some (.cells #[.int .i64 k] 3)
 a:W.heap[Ba]?=some (.cells #[.int .i64 a.n,v] 27)
 f:W.heap[Bf]?=some (.cells #[BN Br Bo Ba Bf] 259)
 o:∃ vo xs,W.heap[Bo]?=some (.cells #[vo] 221)/\aD W w.heap.size 87 1 vo L.length xs/\∀ i (hi:i<L.length),∃ x,xs[i]?=some x/\aD W (wb+1) 141 7 x L[i].length (cV L[i])
 b:aD W w.heap.size 141 7 (.slice (some ⟨wb,0,none⟩) word.length k) word.length (cV word)
section
variable {a : Adv} {v : Value} {k : Nat} {w : World} {Br Bo Ba Bf wb : Nat} {L : List (List Rd)} {word : List Rd} {W W' : World}
theorem WEnv.up(h:WEnv a v k w Br Bo Ba Bf wb L word W) (hb:Below W.heap.size W W'):WEnv a v k w Br Bo Ba Bf wb L word W':=by
 refine⟨ae h.old hb,h.lo,af hb h.r,af hb h.a,af hb h.f,?_,h.b.up hb⟩;obtain⟨vo,xs,h1,h2,h3⟩:=h.o;exact⟨vo,xs,af hb h1,h2.up hb,fun i hi=>by obtain⟨x,q1,q2⟩:=h3 i hi;exact⟨x,q1,q2.up hb⟩⟩
theorem WEnv.wb_at(h:WEnv a v k w Br Bo Ba Bf wb L word W):∃ cur fz,W.heap[wb]?=some (.cells cur 141 fz)/\w.heap.size<=wb:=by
 obtain⟨_,h⟩:=h.b;rcases h with ⟨h,_⟩|⟨g,cap,cur,fz,h,IF,hg,_⟩
 ·cases h
 ·cases h;exact⟨cur,fz,hg,IF⟩
theorem WEnv.grow_word(h:WEnv a v k w Br Bo Ba Bf wb L word W) (hg:W.grownBy W' (some wb)) {word':List Rd} (hb:aD W' w.heap.size 141 7 (.slice (some ⟨wb,0,none⟩) word'.length k) word'.length (cV word')):WEnv a v k w Br Bo Ba Bf wb L word' W':=by
 obtain⟨cur,fz,AH,wV⟩:=h.wb_at;have kp:∀ {k:Nat} {x:Array Value} {t:TypeId} {f:Nat × Nat},W.heap[k]?=some (.cells x t f)->t≠141->W'.heap[k]?=some (.cells x t f):=fun hk bM=>fX hg hk (fun e=>mj hk AH bM (cU e).symm)
 refine⟨Below.grown h.old hg h.old.size (fun g e=>by cases e;exact wV),h.lo,kp h.r (by decide),kp h.a (by decide),kp h.f (by decide),?_,hb⟩;obtain⟨vo,xs,h1,h2,h3⟩:=h.o;refine⟨vo,xs,kp h1 (by decide),h2.keepT fun g o e1 e2=>fX hg e2 (fun e=>h2.ne AH (by decide) g e1 (cU e).symm),fun i hi=>?_⟩;obtain⟨x,q1,q2⟩:=h3 i hi;exact⟨x,q1,q2.keepT fun g o e1 e2=>fX hg e2 (fun e=>by have h4:=(q2.lt g e1).1;have h5:=cU e;omega)⟩
theorem WEnv.shrink{r:Rd} (h:WEnv a v k w Br Bo Ba Bf wb L (word++[r]) W):WEnv a v k w Br Bo Ba Bf wb L word W:=by
 refine⟨h.old,h.lo,h.r,h.a,h.f,h.o,?_⟩;have hb:=h.b;rw[List.length_append,List.length_singleton,Et]at hb;exact hb.shrink (xA word)
theorem WEnv.put{vo x v':Value} {xs:List Value} {w2:World} (h:WEnv a v k w Br Bo Ba Bf wb L word W) (h1:W.heap[Bo]?=some (.cells #[vo] 221)) (h2:aD W w.heap.size 87 1 vo L.length xs) (h3:∀ i (hi:i<L.length),∃ x,xs[i]?=some x/\aD W (wb+1) 141 7 x L[i].length (cV L[i]))
  {l:List Rd} (hx:aD W (wb+1) 141 7 x l.length (cV l)) (hg:W.grownBy w2 vo.ownBlock) (ho:aD w2 w.heap.size 87 1 v' (L.length+1) (xs++[x])):WEnv a v k w Br Bo Ba Bf wb (L++[l]) word (w2.setCell ⟨Bo,0,none⟩ v'):=by
 have kp:∀ {k:Nat} {x:Array Value} {t:TypeId} {f:Nat × Nat},W.heap[k]?=some (.cells x t f)->t≠87->w2.heap[k]?=some (.cells x t f):=fun hk bM=>fX hg hk (fun e=>h2.ne hk (fun e=>bM e.symm) _ e rfl)
 have Fm:=kp h1 (by decide);have kp2:∀ {k:Nat} {x:Array Value} {t:TypeId} {f:Nat × Nat},W.heap[k]?=some (.cells x t f)->t≠87->t≠221->(w2.setCell ⟨Bo,0,none⟩ v').heap[k]?=some (.cells x t f):=fun hk bM hne2=>aH (kp hk bM) (mj hk h1 hne2) _ _
 have ko:∀ {x:Value} {l:List Rd} {b:Nat},aD W b 141 7 x l.length (cV l)->aD (w2.setCell ⟨Bo,0,none⟩ v') b 141 7 x l.length (cV l):=fun hq=>(hq.apart h2 (by decide) hg).put (fun g e=>(hq.apart h2 (by decide) hg).ne Fm (by decide) g e) _ _
 have aV:Below w.heap.size w w2:=Below.grown h.old hg h.old.size (fun g e=>(h2.lt g e).1);refine⟨aV.setCell h.lo _,h.lo,kp2 h.r (by decide) (by decide),kp2 h.a (by decide) (by decide),kp2 h.f (by decide) (by decide),⟨v',xs++[x],by rw[aF Fm];rfl,?_,fun i hi=>?_⟩,?_⟩
 ·rw[List.length_append,List.length_singleton]
  exact ho.put (fun g e=>ho.ne Fm (by decide) g e) _ _
 ·have hl:xs.length=L.length:=by have:=h2.1;omega
  rw[List.length_append,List.length_singleton]at hi;by_cases az:i<L.length
  ·obtain⟨y,q1,q2⟩:=h3 i az
   refine⟨y,by rw[List.getElem?_append_left (by omega)];exact q1,?_⟩;rw[List.getElem_append_left az];exact ko q2
  ·obtain rfl:i=L.length:=by omega
   refine⟨x,by rw[<-hl,List.getElem?_append_right (Nat.le_refl _)];simp,?_⟩;have e:(L++[l])[L.length]'(by simp)=l:=by simp
   rw[e];exact ko hx
 ·have hq:=h.b
  exact ko (l:=word) hq
end
def jz(a:Adv) (d:Nat) (word:List Rd) (l:List Mv):List (List Rd):=l.flatMap fun m=>(bS a d m.to.toNat).map fun y=>word++(m.r :: y)
theorem Eu(a:Adv) (d s:Nat) (word:List Rd):(bS a (d+1) s).map (word++·)=jz a d word (a.states.getD s []):=by
 simp only[bS,jz,List.map_flatMap,List.map_map];rfl
theorem LC(a:Adv) (d:Nat) (word:List Rd) (l:List Mv) (j:Nat) (h:j<l.length):jz a d word (l.take (j+1))=jz a d word (l.take j)++(bS a d l[j].to.toNat).map ((word++[l[j].r])++·):=by
 unfold jz;rw[List.take_succ_eq_append_getElem h,List.flatMap_append];simp
theorem QC(a:Adv) (d:Nat) (word:List Rd) (l:List Mv) (j:Nat):(jz a d word (l.take j)).length<=(jz a d word l).length:=by
 conv=>rhs;rw[<-List.take_append_drop j l]
 unfold jz;rw[List.flatMap_append,List.length_append];omega
structure WCore (a:Adv) (v:Value) (k:Nat) (w:World) (Br Bo Ba Bf wb B9:Nat) (L:List (List Rd)) (word:List Rd) (m:Mv) (D:Nat->Bool) (x:Nat->Value) (W:World):Prop where
 env:WEnv a v k w Br Bo Ba Bf wb L (bif D 7 then word++[m.r] else word) W
 box:W.heap[B9]?=some (.cells #[.int .i64 m.r.g.n,.int .i64 m.r.g.h0,.int .i64 m.r.g.h1,.int .i64 m.r.g.h2,.int .i64 m.r.g.h3,.int .i64 m.r.g.h4,.int .i64 m.r.f,.int .i64 m.to] 143)
 sb:D 6=true->D 7=false->∃ g,x 6=.slice (some ⟨g,0,none⟩) 1 1/\W.heap[g]?=some (.cells #[.int .i64 m.r.g.n,.int .i64 m.r.g.h0,.int .i64 m.r.g.h1,.int .i64 m.r.g.h2,.int .i64 m.r.g.h3,.int .i64 m.r.g.h4,.int .i64 m.r.f] 141)
section
variable {a : Adv} {v : Value} {k : Nat} {w : World} {Br Bo Ba Bf wb B9 : Nat} {L : List (List Rd)} {word : List Rd} {m : Mv} {D : Nat → Bool} {x : Nat → Value} {W : World}
theorem WCore.other(h:WCore a v k w Br Bo Ba Bf wb B9 L word m D x W) {i:Nat} (u:Value) (h6:6≠i) (h7:7≠i):WCore a v k w Br Bo Ba Bf wb B9 L word m (bz D i) (cA x i u) W:=by
 refine⟨?_,h.box,?_⟩
 ·simpa only[bz,if_neg h7] using h.env
 ·simpa only[bz,cA,if_neg h6,if_neg h7] using h.sb
theorem WCore.build(h:WCore a v k w Br Bo Ba Bf wb B9 L word m D x W):WCore a v k w Br Bo Ba Bf wb B9 L word m (bz D 6) (cA x 6 (.slice (some ⟨W.heap.size,0,none⟩) 1 1)) (W.alloc (.cells #[.int .i64 m.r.g.n,.int .i64 m.r.g.h0,.int .i64 m.r.g.h1,.int .i64 m.r.g.h2,.int .i64 m.r.g.h3,.int .i64 m.r.g.h4,.int .i64 m.r.f] 141)):=by
 refine⟨?_,am _ h.box,fun _ _=>⟨W.heap.size,by simp[cA],ak _ _⟩⟩;have:=h.env.up (W':=W.alloc (.cells #[.int .i64 m.r.g.n,.int .i64 m.r.g.h0,.int .i64 m.r.g.h1,.int .i64 m.r.g.h2,.int .i64 m.r.g.h3,.int .i64 m.r.g.h4,.int .i64 m.r.f] 141)) (by go_grown);simpa only[bz,if_neg (show (7:Nat)≠6 by decide)] using this
theorem WCore.app(h:WCore a v k w Br Bo Ba Bf wb B9 L word m D x W) (h7:D 7=false) {w3:World} (u:Value) (ho:aD w3 w.heap.size 141 7 (.slice (some ⟨wb,0,none⟩) (word.length+1) k) (word.length+1) (cV word++cV [m.r])) (hg:W.grownBy w3 (some wb)):WCore a v k w Br Bo Ba Bf wb B9 L word m (bz D 7) (cA x 7 u) w3:=by
 have he:=h.env;rw[h7]at he;obtain⟨cur,fz,AH,_⟩:=he.wb_at;refine⟨?_,fX hg h.box (fun e=>mj h.box AH (by decide) (cU e).symm),fun _ e=>by simp[bz]at e⟩;simp only[bz,if_true,cond_true];refine he.grow_word hg ?_;rw[List.length_append,List.length_singleton,Et];exact ho
end
def XI(wb:Nat) (word:List Rd):MP:=⟨fun x W=>aD W (wb+1) 141 7 x word.length (cV word),fun _ _ _ h hb=>h.up hb⟩
def NS(wb:Nat) (word:List Rd):MP:=⟨fun y W=>∃ x g,aD W (wb+1) 141 7 x word.length (cV word)/\y=.slice (some ⟨g,0,none⟩) 1 1/\W.heap[g]?=some (.cells #[x] 87),fun _ _ _ h hb=>by obtain⟨x,g,h1,h2,h3⟩:=h;exact⟨x,g,h1.up hb,h2,af hb h3⟩⟩
theorem NT{wb:Nat} {word:List Rd} {W:World} {x:Value} {g:Nat} (h1:aD W (wb+1) 141 7 x word.length (cV word)) (h3:W.heap[g]?=some (.cells #[x] 87)):(NS wb word).p (.slice (some ⟨g,0,none⟩) 1 1) W:=⟨x,g,h1,rfl,h3⟩
theorem Tryz.infoWordRow:(Tryz.prog.info? 87).map (fun i=>(i.zero,i.size,i.bytes))=some (some (.slice none 0 0),1,24):=by kernel_rfl
theorem LD(a:Adv) (v:Value) (k:Nat) (hk:k<=6) (w:World) (hv:bk w v a.states) (od:∀ s,s<a.states.length->∀ m∈a.states.getD s [],0<=m.to/\m.to.toNat<a.states.length) (Br Bo Ba Bf wb:Nat) :
  ∀ (d:Nat) (s:Nat) (L:List (List Rd)) (word:List Rd) (W:World),word.length+d=k->s<a.states.length->(∀ r∈word,oH r)->L.length+(bS a d s).length<=1048576->WEnv a v k w Br Bo Ba Bf wb L word W →
   Calls Tryz.prog 193 #[.int .i64 s,.slice (some ⟨wb,0,none⟩) word.length k,.pointer (some ⟨Br,0,none⟩),.pointer (some ⟨Bo,0,none⟩),.pointer (some ⟨Ba,0,none⟩),.pointer (some ⟨Bf,0,none⟩)] W fun e W'=>(∃ u,e=.returned u)/\WEnv a v k w Br Bo Ba Bf wb (L++(bS a d s).map (word++·)) word W':=by
 have HV:=aa hv;clear hv;have Pn:=aa od;clear od;intro d;induction d with
 | zero=>
  intro s L word W hd hs cP cK oO;have gu:=aa cP;have DY:=aa oO;have p9:=aa cK;have tr:=ab oO.r 0;obtain⟨vo,xs,h1,h2,h3⟩:=oO.o;have to:=ab h1 0;simp at tr to;have za:(word.length:Int)=k:=by omega
  have Lg:=aa za;have yO:=aa hd;clear cP cK oO hd
  go_enter Tryz.func193,Tryz.ntmps193
  obtain⟨i0,cG,cf,bP,cj⟩:=info_parts Tryz.infoWordRow;have H2:=aa h2;have H3:=aa h3;clear h2 h3;have az:=(DY.out.wb_at).elim fun _ h=>h.elim fun _ h=>ar h.1
  go_wp2_with fail
  refine dJ 4 [14,15,16,17] [MP.eq vo,
   MP.eq (.slice (some ⟨wb,0,none⟩) word.length k),
   XI wb word,
   NS wb word] (by kernel_rfl) (by simp) (by decide) rfl (by kernel_rfl) (by kernel_rfl) (by kernel_rfl) ?step ?tail
  case step=>
   intro x W i o s F hi ho hs hB aj hF;have fy:i=0\/i=1\/i=2\/i=3:=by omega
   rcases fy with rfl|rfl|rfl|rfl
   all_goals (obtain rfl:=cU ho.symm;obtain rfl:=cU hs.symm;simp only[bd,cJ,List.setIfInBounds_toArray,List.set_cons_succ,List.set_cons_zero,Nat.reduceAdd]at hF)
   ·clear aj hi ho hs
    have t1:=ai hB to;subst hF
    go_wp2_with fail
    exact kD _ (Below.refl _ _) rfl
   ·clear aj hi ho hs
    subst hF
    go_wp2_with fail
    exact kD _ (Below.refl _ _) rfl
   ·have d1:=oE (aj ⟨1,.data⟩ (by simp) rfl)
    clear aj hi ho hs;simp only[d1]at hF;subst hF
    go_wp2_with fail
    refine(uq _ word W ((qW DY.out.b (fun i hi=>gu.out _ (List.getElem_mem hi)) (by omega)).up up_round hB) (by omega)).mono ?_;rintro e w9 ⟨u9,rfl,jp,eN⟩;have mL:=aa (jp.base (base':=wb+1) (by have:=hB.size;omega));clear jp
    go_wp2_with fail
    exact kD _ eN mL.out
   ·have d2:=aj ⟨2,.data⟩ (by simp) rfl
    clear aj hi ho hs;obtain⟨a9,c9,e9⟩:=aD.slice d2;rw[e9]at d2;have Pc:=aa (show aD W (wb+1) 141 7 (.slice a9 word.length c9) word.length (cV word) from d2);clear d2;simp only[e9]at hF;subst hF
    go_wp2_with fail
    refine aQ.mk (.slice (some ⟨W.heap.size,0,none⟩) 1 1) ?_ ?_ ?_
    ·exact(by go_grown)
    ·exact NT (Pc.out.up (by go_grown)) (ak _ _)
    ·first
     | rfl
     | simp only[List.setIfInBounds_toArray,List.set_cons_succ,List.set_cons_zero]
  case tail=>
   intro x W2 F hB aP hF;have d0:x 0=vo:=aP 0 (by omega);have d3:=aP 3 (by omega);obtain⟨x9,g9,jp,e9,AO⟩:∃ x9 g9,aD W2 (wb+1) 141 7 x9 word.length (cV word)/\x 3=.slice (some ⟨g9,0,none⟩) 1 1/\W2.heap[g9]?=some (.cells #[x9] 87):=d3;clear aP;simp only[bd,cJ,List.setIfInBounds_toArray,List.set_cons_succ,List.set_cons_zero,Nat.reduceAdd]at hF;rw[d0,e9]at hF;subst hF;have mL:=aa jp;have O4:=aa AO;have eO:=aa hB;have PD:=eO.out.size;have hL:=p9.out;simp only[bS,List.length_singleton]at hL;clear jp AO hB d0 e9;simp only[List.drop_succ_cons,List.drop_zero];refine aZ W2 rfl (.tmp 14) (.tmp 17) 221 rfl w.heap.size 87 i0 _ 1 24 Tryz.underlying221 cG cf bP cj rfl (by decide) _ L.length xs rfl (H2.out.up eO.out) ⟨g9,0,none⟩ 1 1 [x9] rfl rfl (fun j u hj=>?_) (by simpa using JM mL.out) (by unfold maxLen;omega) (by omega) (by have:=DY.out.old.size;omega) ?_
   ·cases j with
    | zero=>simp at hj;subst hj;simp[Addr.add,ab O4.out]
    | succ j=>simp at hj
   intro v9 w9 eh dg _;have DX:=aa eh;have IE:=aa dg;clear eh dg;have Fm:=fX IE.out (af eO.out h1) (fun e=>H2.out.ne h1 (by decide) _ e rfl);have tBo:=ab Fm 0;have zBo:=aE Fm 0;simp at tBo;have hBoL:=ar Fm;obtain⟨a9,c9,hv9⟩:=DX.out.slice;subst hv9;clear Fm
   go_wp2_with fail
   go_returns
   refine⟨⟨_,rfl⟩,?_⟩;have e9:L++(bS a 0 s).map (word++·)=L++[word]:=by simp[bS]
   rw[e9];exact(DY.out.up eO.out).put (af eO.out h1) (H2.out.up eO.out) (fun i hi=>by obtain⟨y,q1,q2⟩:=H3.out i hi;exact⟨y,q1,q2.up eO.out⟩) mL.out IE.out DX.out
 | succ d ih=>
  intro s L word W hd hs cP cK oO;have gu:=aa cP;have DY:=aa oO;have p9:=aa (show L.length+(jz a d word (a.states.getD s [])).length<=1048576 by rw[<-Eu];simpa using cK);have tr:=ab oO.r 0;have ta:=ab oO.a 1;simp at tr ta;obtain⟨pa,ca,rfl,la1,la2,ea⟩:=HV.out.at;obtain⟨b1,o1,rfl,xc,cx0,hx⟩:=ea s hs;rw[Nat.mul_one]at cx0;have cx:=ai oO.old cx0;clear cx0;obtain⟨px,qx,rfl,x1,x2,ex⟩:=hx.at;have EX:=aa ex;have SO:=aa (ap [] hs);have So:=aa (Pn.out s hs);rw[SO.out]at p9 So;rw[Eu,SO.out];clear hx ex ea cK oO cP;generalize a.states[s]=l at EX x1 x2 cx p9 So;have za:((word.length:Int) == (k:Int))=false:=by simp;omega
  have Lg:=aa za;have yO:=aa hd;clear hd
  go_enter Tryz.func193,Tryz.ntmps193
  go_wp2_with fail
  clear cx ta tr;obtain⟨i1,n8,_,jm,_⟩:=info_parts Tryz.infoRound
  go_loopw [25] (fun i wr=>∃ j:Nat,j<=l.length/\i=.int .i64 j/\WEnv a (.slice (some ⟨b1,o1,none⟩) a.states.length ca) k w Br Bo Ba Bf wb (L++jz a d word (l.take j)) word wr) (fun i _=>l.length - (intOf i).toNat)
  case atStart=>exact⟨0,by omega,rfl,by simpa[jz] using DY.out⟩
  case round=>
   obtain⟨j,hj,rfl,nO⟩:=hrel;have VG:=aa nO;by_cases az:j<l.length
   ·obtain⟨b3,o3,rfl,⟨⟨d0,j0⟩,⟨d1,j1⟩,⟨d2,j2⟩,⟨d3,j3⟩,⟨d4,j4⟩,⟨d5,j5⟩,⟨d6,j6⟩⟩,⟨d7,_⟩⟩:=EX.out j az
    have HINM:Hid (∀ r∈word++[l[j].r],oH r):=aa (fun r hr=>by
     rcases List.mem_append.1 hr with h|h
     ·exact gu.out r h
     ·rw[List.mem_singleton]at h;subst h;exact⟨j0,j1,j2,j3,j4,j5,j6⟩)
    have Ic:=LC a d word l j az;have lu:=QC a d word l (j+1);have HM:=aa (So.out _ (List.getElem_mem az))
    have VC:(L++jz a d word (l.take j)).length+(bS a d l[j].to.toNat).length<=1048576:=by
     have h9:=p9.out;rw[Ic,List.length_append,List.length_map]at lu;rw[List.length_append];omega
    have HLJ:=aa VC;have jy:=aa Ic;clear Ic lu VC j0 j1 j2 j3 j4 j5 j6;generalize l[j]=m at d0 d1 d2 d3 d4 d5 d6 d7 HINM HM HLJ jy;have HTON:Hid (((m.to.toNat:Nat):Int)=m.to):=aa (by have:=HM.out.1;omega)
    replace d0:=ai nO.old d0
    replace d1:=ai nO.old d1
    replace d2:=ai nO.old d2
    replace d3:=ai nO.old d3
    replace d4:=ai nO.old d4
    replace d5:=ai nO.old d5
    replace d6:=ai nO.old d6
    replace d7:=ai nO.old d7
    clear nO
    go_wp2_with fail
    refine bj (fun W1=>WEnv a (.slice (some ⟨b1,o1,none⟩) a.states.length ca) k w Br Bo Ba Bf wb (L++jz a d word (l.take j)) word W1/\W1.heap[wr.heap.size]?=some (.cells #[.int .i64 m.r.g.n,.int .i64 m.r.g.h0,.int .i64 m.r.g.h1,.int .i64 m.r.g.h2,.int .i64 m.r.g.h3,.int .i64 m.r.g.h4,.int .i64 m.r.f,.int .i64 m.to] 143)) ⟨VG.out.up (by go_grown),ak _ _⟩ (fun W1 cC=>?_);have gc:=aa cC;clear cC d0 d1 d2 d3 d4 d5 d6 d7
    refine mi 8 [29,30,31,32,33,34,35,36] [some (BN Br Bo Ba Bf),
     some (.pointer (some ⟨wr.heap.size,7,none⟩)),
     some (.int .i64 m.to),
     some (.slice (some ⟨wb,0,none⟩) word.length k),
     some (.pointer (some ⟨wr.heap.size,0,none⟩)),
     some (m.r.v),
     none,
     some ((.slice (some ⟨wb,0,none⟩) (word.length+1) k))] (WCore a (.slice (some ⟨b1,o1,none⟩) a.states.length ca) k w Br Bo Ba Bf wb wr.heap.size (L++jz a d word (l.take j)) word m) (by kernel_rfl) rfl (by decide) rfl (by kernel_rfl) (by kernel_rfl) (by kernel_rfl) (fun _=>⟨gc.out.1.up (by go_grown),af (by go_grown) gc.out.2,nofun⟩) ?step ?tail
    case step=>
     intro x W D i o s F hi ho hs hD cL bU aj hv aK hF;have fy:i=0\/i=1\/i=2\/i=3\/i=4\/i=5\/i=6\/i=7:=by omega
     rcases fy with rfl|rfl|rfl|rfl|rfl|rfl|rfl|rfl
     all_goals (have dA:=cL _ _ hs hD;obtain rfl:=cU ho.symm;obtain rfl:=cU hs.symm)
     ·clear aj hi hv
      have e5:F.getD 5 undef=.pointer (some ⟨Bf,0,none⟩):=ln hF (by decide) rfl;clear cL bU;clear hF dA;have t1:=ab aK.env.f 0;simp at t1;have e5':=dx e5;have HD:=aa hD;have bh:=aa aK;clear hD aK
      go_wp2_with fail
      refine bR.mk _ fI ?_ rfl;exact bh.out.other _ (by decide) (by decide)
     ·clear aj hi hv
      have e9:F.getD 9 undef=.pointer (some ⟨wr.heap.size,0,none⟩):=ln hF (by decide) rfl;clear cL bU;clear hF dA;have e9':=dx e9;have HD:=aa hD;have bh:=aa aK;clear hD aK
      go_wp2_with fail
      refine bR.mk _ fI ?_ rfl;exact bh.out.other _ (by decide) (by decide)
     ·have g1:=aj ⟨1,.data⟩ (by simp) rfl
      have d1:=hv 1 _ (by omega) g1 rfl;clear aj hi hv;have e30:=fg hF 1 30 (by decide) rfl (by kernel_rfl) d1;clear cL bU;clear hF dA d1;have t1:=ab aK.box 7;simp at t1;have e30':=dx e30;have HD:=aa hD;have bh:=aa aK;clear hD aK;clear g1
      go_wp2_with fail
      refine bR.mk _ fI ?_ rfl;exact bh.out.other _ (by decide) (by decide)
     ·clear aj hi hv
      have e1:F.getD 1 undef=.slice (some ⟨wb,0,none⟩) word.length k:=ln hF (by decide) rfl;clear cL bU;clear hF dA;have e1':=dx e1;have HD:=aa hD;have bh:=aa aK;clear hD aK
      go_wp2_with fail
      refine bR.mk _ fI ?_ rfl;exact bh.out.other _ (by decide) (by decide)
     ·clear aj hi hv
      have e9:F.getD 9 undef=.pointer (some ⟨wr.heap.size,0,none⟩):=ln hF (by decide) rfl;clear cL bU;clear hF dA;have e9':=dx e9;have HD:=aa hD;have bh:=aa aK;clear hD aK
      go_wp2_with fail
      refine bR.mk _ fI ?_ rfl;exact bh.out.other _ (by decide) (by decide)
     ·have g4:=aj ⟨4,.data⟩ (by simp) rfl
      have d4:=hv 4 _ (by omega) g4 rfl;clear aj hi hv;have e33:=fg hF 4 33 (by decide) rfl (by kernel_rfl) d4;clear cL bU;clear hF dA d4;have t1:=ab aK.box;have e33':=dx e33;have HD:=aa hD;have bh:=aa aK;clear hD aK;clear g4
      go_wp2_with fail
      refine bR.mk _ fI ?_ rfl;exact bh.out.other _ (by decide) (by decide)
     ·have g5:=aj ⟨5,.data⟩ (by simp) rfl
      have d5:=hv 5 _ (by omega) g5 rfl;clear aj hi hv;have e34:=fg hF 5 34 (by decide) rfl (by kernel_rfl) d5;clear cL bU;clear hF dA d5;have e34':=dx e34;have HD:=aa hD;have bh:=aa aK;clear hD aK;clear g5
      go_wp2_with fail
      refine bR.mk _ (fun c hc=>by cases hc) ?_ rfl;exact bh.out.build
     ·have g3:=aj ⟨3,.data⟩ (by simp) rfl
      have d3:=hv 3 _ (by omega) g3 rfl;have g6:=aj ⟨6,.data⟩ (by simp) rfl;clear aj hi hv;have e32:=fg hF 3 32 (by decide) rfl (by kernel_rfl) d3;have e35:=fg hF 6 35 (by decide) rfl (by kernel_rfl) rfl;clear cL bU;clear hF dA d3;obtain⟨gb,qx,mQ⟩:=aK.sb g6 hD;rw[qx]at e35;have bV:=aK.env.b;rw[hD]at bV;have Co:=aa (show aD W w.heap.size 141 7 (.slice (some ⟨wb,0,none⟩) word.length k) word.length (cV word) from bV)
      have bN:∀ j u',(cV [m.r])[j]?=some u'->W.cell? (Addr.add ⟨gb,0,none⟩ j)=some u':=fun j u' hj=>by
       have e1:(Addr.add ⟨gb,0,none⟩ j)=⟨gb,j,none⟩:=by unfold Addr.add;split<;>simp_all
       rw[e1,ab mQ];simpa[cV] using hj
      have bB:=aa bN;clear bN bV mQ qx;have e32':=dx e32;have e35':=dx e35;have HD:=aa hD;have bh:=aa aK;clear hD aK;clear g3;clear g6;refine A0 rfl (.tmp 32) (.tmp 35) 87 rfl w.heap.size 141 i1 7 Tryz.underlying87 n8 jm wb k word.length (cV word) e32 Co.out ⟨gb,0,none⟩ 1 1 (cV [m.r]) e35 rfl bB.out (rK _) (by have:=yO.out;omega) ?_;intro w3 nT jG _;refine bR.mk _ fI ?_ rfl;exact bh.out.app HD.out _ nT jG
    case tail=>
     intro x W' D F aP hv aK hF;have x0:=hv 0 _ (by omega) rfl;have x1:=hv 1 _ (by omega) rfl;have x2:=hv 2 _ (by omega) rfl;have x3:=hv 3 _ (by omega) rfl;have x4:=hv 4 _ (by omega) rfl;have x5:=hv 5 _ (by omega) rfl;have x7:=hv 7 _ (by omega) rfl;have nN:=aK.env;rw[aP 7 (by omega)]at nN;have HE9:=aa (show WEnv a (.slice (some ⟨b1,o1,none⟩) a.states.length ca) k w Br Bo Ba Bf wb (L++jz a d word (l.take j)) (word++[m.r]) W' from nN);simp only[bd,cJ,List.setIfInBounds_toArray,List.set_cons_succ,List.set_cons_zero,Nat.reduceAdd,x0,x1,x2,x3,x4,x5,x7]at hF;generalize x 6=y6 at hF;subst hF;clear hv aP aK nN x0 x1 x2 x3 x4 x5 x7;simp only[List.drop_succ_cons,List.drop_zero];have eQ:=ih m.to.toNat (L++jz a d word (l.take j)) (word++[m.r]) W' (by have:=yO.out;simp;omega) HM.out.2 HINM.out (HLJ.out) HE9.out;rw[List.length_append,List.length_singleton,HTON.out]at eQ;have bO:=aa eQ;clear eQ ih
     go_wp2_with fail
     refine bO.out.mono ?_;rintro e w9 ⟨⟨u9,rfl⟩,nN⟩;have HE10:=aa nN;clear nN
     go_wp2_with fail
     go_roundw
     case rel=>
      refine⟨j+1,by omega,by go_num,?_⟩;rw[jy.out,<-List.append_assoc];exact HE10.out.shrink
     case measure=>simp[intOf];omega
   ·obtain rfl:j=l.length:=by omega
    rw[List.take_length]at VG;clear nO
    go_wp2_with fail
    go_returns
    exact⟨⟨_,rfl⟩,VG.out⟩
theorem xQ(P:Program) (w:World) (a:Addr) (m:Mode) (g:Fn) (b c:Array Value):(store a (.func g b c) m).run P w=stored P w a (.func g b c) m:=run_store P w a _ m rfl
attribute [local go_sem] xQ
theorem NU(cs:Array Value) (m:Nat):(madeCells cs m).size=m:=by simp[madeCells]
theorem LE(n:Nat) (hn:n<=4096) (w:World):(Instr.makeSlice 221 (.int .i64 0) (.int .i64 (n:Int))).run Tryz.prog w=.ok (.slice (some ⟨w.heap.size,0,none⟩) 0 n) (w.alloc (.cells (madeCells (Value.slice none 0 0).cells n) 87)):=by
 obtain⟨i,hi,cf,bP,cj⟩:=info_parts Tryz.infoWordRow;have:=run_make (P:=Tryz.prog) w 221 87 i (.slice none 0 0) Tryz.underlying221 hi cf .i64 .i64 0 (n:Int) (by omega) (by omega) (by rw[cj];omega) (by omega);rw[this,bP,Nat.mul_one];rfl
theorem JN(k:Nat) (hk:k<=6) (w:World):(Instr.makeSlice 87 (.int .i64 0) (.int .i64 (k:Int))).run Tryz.prog w=.ok (.slice (some ⟨w.heap.size,0,none⟩) 0 k) (w.alloc (.cells (madeCells (Value.agg #[.int .i64 0,.int .i64 0,.int .i64 0,.int .i64 0,.int .i64 0,.int .i64 0,.int .i64 0]).cells (k * 7)) 141)):=by
 obtain⟨i,hi,cf,bP,cj⟩:=info_parts Tryz.infoRound;have:=run_make (P:=Tryz.prog) w 87 141 i _ Tryz.underlying87 hi cf .i64 .i64 0 (k:Int) (by omega) (by omega) (by rw[cj];omega) (by omega);rw[this,bP];rfl
theorem GQ{W:World} {base g n k:Nat} {e:TypeId} {cs:Array Value} (h:W.heap[g]?=some (.cells (madeCells cs (n * k)) e)) (hb:base<=g) (hn:n<=1048576):aD W base e k (.slice (some ⟨g,0,none⟩) 0 n) 0 []:=
 ⟨by simp,.inr ⟨g,n,_,(0,0),rfl,hb,h,fun i _ h=>by have:=h.2;simp at this,by omega,by unfold maxLen;omega,NU _ _,by simp⟩⟩
def Vc(base k:Nat):MP:=⟨fun v W=>∃ g,base<=g/\v=.slice (some ⟨g,0,none⟩) 0 k/\aD W base 141 7 (.slice (some ⟨g,0,none⟩) 0 k) 0 [],fun _ _ _ h hb=>by obtain⟨g,h1,h2,h3⟩:=h;exact⟨g,h1,h2,h3.up hb⟩⟩
theorem Un{base k g:Nat} {W:World} (h1:base<=g) (h3:aD W base 141 7 (.slice (some ⟨g,0,none⟩) 0 k) 0 []):(Vc base k).p (.slice (some ⟨g,0,none⟩) 0 k) W:=⟨g,h1,rfl,h3⟩
theorem rS{w:World} {v:Value} {l:List (List Mv)} (h:bk w v l):∀ s,∀ m∈l.getD s [],oH m.r:=fun s m hm=>by
 by_cases hs:s<l.length
 ·rw[ap [] hs]at hm
  obtain⟨pa,ca,rfl,_,_,ea⟩:=h.at;obtain⟨_,_,_,x,_,hx⟩:=ea s hs;obtain⟨px,qx,rfl,_,_,ex⟩:=hx.at;obtain⟨j,hj,rfl⟩:=List.getElem_of_mem hm;obtain⟨_,_,_,⟨⟨_,j0⟩,⟨_,j1⟩,⟨_,j2⟩,⟨_,j3⟩,⟨_,j4⟩,⟨_,j5⟩,⟨_,j6⟩⟩,_⟩:=ex j hj;exact⟨j0,j1,j2,j3,j4,j5,j6⟩
 ·rw[List.getD_eq_getElem?_getD,List.getElem?_eq_none (by omega)]at hm
  simp at hm
theorem vM(a:Adv) (h:∀ s,∀ m∈a.states.getD s [],oH m.r) (k:Nat):∀ s,∀ x∈bS a k s,∀ r∈x,oH r:=by
 induction k with
 | zero=>intro s x hx r hr;simp[bS]at hx;subst hx;simp at hr
 | succ k ih=>
  intro s x hx r hr;simp only[bS,List.mem_flatMap,List.mem_map]at hx;obtain⟨m,hm,y,hy,rfl⟩:=hx;rcases List.mem_cons.1 hr with rfl|hr
  ·exact h s m hm
  ·exact ih _ y hy r hr
theorem ur{a:Adv} (h:advE a=0):∀ s,s<a.states.length->∀ m∈a.states.getD s [],0<=m.to/\m.to.toNat<a.states.length:=fun s hs m hm=>by
 rw[ap [] hs]at hm;obtain⟨j,hj,rfl⟩:=List.getElem_of_mem hm;have:=(kJ (hH h).2.1 hs hj).2;omega
def pC(a:Adv) (r:Int):List (List Rd) × Int:=if (countedR 4096 a r).2≠0 then([],(countedR 4096 a r).2) else(bS a r.toNat 0,0)
theorem LF{a:Adv} {r:Int} (h:(countedR 4096 a r).2=0):advE a=0/\0<=r/\r<=6/\(bS a r.toNat 0).length<=4096/\(countedR 4096 a r).1=(bS a r.toNat 0).length:=by
 unfold countedR at h ⊢;by_cases h1:advE a=0
 ·rw[if_neg (by simpa using h1)]at h ⊢
  by_cases h2:r<0\/6<r
  ·rw[if_pos h2]at h;cases h
  ·rw[if_neg h2]at h ⊢
   have hn:=qF (L:=4096) (by omega) a (fun s hs m hm=>(ur h1 s hs m hm).2) (by have:=(hH h1).1;omega) r.toNat;by_cases h3:4096<numberL 4096 a r.toNat
   ·rw[if_pos h3]at h;cases h
   ·rw[if_neg h3]
    refine⟨h1,by omega,by omega,?_,?_⟩
    ·omega
    ·show numberL 4096 a r.toNat=_
     omega
 ·rw[if_pos h1]at h
  exact absurd h h1
theorem NV(a:Adv) (v:Value) (r:Int) (w:World) (hv:bk w v a.states) (hN:movesN a.states<1099511627776) :
  Calls Tryz.prog 162 #[.agg #[.int .i64 a.n,v],.int .i64 r] w fun e w'=>∃ u,e=.returned (.tuple #[u,.int .i64 (pC a r).2])/\eM 1 (mf 7 mo) w' u (pC a r).1/\(∀ ad n c,u=.slice (some ad) n c->w.heap.size<=ad.block)/\Below w.heap.size w w':=by
 have HV:=aa hv;obtain⟨pa,ca,rfl,_⟩:=hv.at;clear hv
 go_enter Tryz.func162,Tryz.ntmps162
 go_wp2_with fail
 refine aL (fun W=>Below w.heap.size w W/\W.heap[w.heap.size]?=some (.cells #[.int .i64 a.n,.slice pa a.states.length ca] 27)/\W.heap[w.heap.size+1]?=some (.cells #[.int .i64 r] 3)) ⟨by go_grown,am _ (ak _ _),ba _ _ _⟩ (fun W0 aW=>?_);obtain⟨aC,br,gJ⟩:=aW;refine(z' a _ r 4096 W0 (HV.out.up up_moves aC) hN (by omega) (by omega)).mono ?_;rintro e w1 ⟨rfl,aG⟩;have jb:=ae aC aG;have dM:=af aG br;have rj:=af aG gJ;by_cases he:(countedR 4096 a r).2=0
 case neg=>
  have CW:Hid (pC a r=([],(countedR 4096 a r).2)):=aa (by unfold pC;rw[if_pos he]);generalize (countedR 4096 a r).2=x at he CW;have Th:(x != 0)=true:=by simpa using he
  clear br gJ dM rj he
  go_wp2_with fail
  go_ret2
  rw[CW.out];exact⟨_,rfl,⟨none,0,rfl,⟨by simp,by omega,fun _=>rfl⟩,by simp,fun i x hx=>by simp at hx⟩,(fun ad n c e=>by cases e),jb⟩
 obtain⟨ha,ro,pL,cK,nF⟩:=LF he;obtain⟨k,rfl⟩:∃ k:Nat,r=(k:Int):=⟨r.toNat,by omega⟩;rw[Int.toNat_natCast]at cK nF;have CW:Hid (pC a k=(bS a k 0,0)):=aa (by unfold pC;rw[if_neg (by simpa using he),Int.toNat_natCast]);have Pn:=aa (ur ha);have HAOK:=aa (hH ha);rw[he,nF];have hk:k<=6:=by omega
 have p9:=aa cK;generalize hn:(bS a k 0).length=n at cK;have HN:=aa hn;have gL:=LE n cK;clear hn he nF ha ro pL;have bP:=jb.size;have dy:=aa dM;have cX:=aa rj;clear br gJ dM rj
 go_wp2_with fail
 refine bj (fun W=>Below w.heap.size w W/\W.heap[w.heap.size]?=some (.cells #[.int .i64 a.n,.slice pa a.states.length ca] 27)/\W.heap[w.heap.size+1]?=some (.cells #[.int .i64 k] 3)/\W.heap[w1.heap.size]?=some (.cells (madeCells (Value.slice none 0 0).cells n) 87)/\W.heap[w1.heap.size+1]?=some (.cells #[.slice (some ⟨w1.heap.size,0,none⟩) 0 n] 221)/\W.heap[w1.heap.size+1+1]?=some (.cells #[BN (w.heap.size+1) (w1.heap.size+1) w.heap.size (w1.heap.size+1+1)] 259)) ?_ (fun W2 eF=>?_)
 ·exact⟨((jb.alloc bP _).alloc (by simp only[World.size_alloc];omega) _).alloc (by simp only[World.size_alloc];omega) _,am _ (am _ (am _ dy.out)),am _ (am _ (am _ cX.out)),am _ (am _ (ak _ _)),am _ (ba _ _ _),dH _ _ _ _⟩
 obtain⟨g1,g2,g3,g4,g5,g6⟩:=eF;have G1:=aa g1;have G2:=aa g2;have G3:=aa g3;have G4:=aa g4;have G5:=aa g5;have G6:=aa g6;have cj:=g1.size;clear g1 g2 g3 g4 g5 g6 gL
 refine dJ 3 [22,23,24] [MP.eq (BN (w.heap.size+1) (w1.heap.size+1) w.heap.size (w1.heap.size+1+1)),
  MP.eq (.int .i64 k),
  Vc w.heap.size k] (by kernel_rfl) (by simp) (by decide) rfl (by kernel_rfl) (by kernel_rfl) (by kernel_rfl) ?step ?tail
 case step=>
  intro x W i o s F hi ho hs hB aj hF;have fy:i=0\/i=1\/i=2:=by omega
  rcases fy with rfl|rfl|rfl
  all_goals (obtain rfl:=cU ho.symm;obtain rfl:=cU hs.symm;simp only[bd,cJ,List.setIfInBounds_toArray,List.set_cons_succ,List.set_cons_zero,Nat.reduceAdd]at hF)
  ·clear aj hi ho hs
   have t1:=ab (af hB G6.out) 0;simp at t1;subst hF
   go_wp2_with fail
   exact kD _ (Below.refl _ _) rfl
  ·clear aj hi ho hs
   have t1:=ab (af hB G3.out) 0;simp at t1;subst hF
   go_wp2_with fail
   exact kD _ (Below.refl _ _) rfl
  ·have d1:=oE (aj ⟨1,.data⟩ (by simp) rfl)
   clear aj hi ho hs;have gL:=JN k hk;simp only[d1]at hF;subst hF
   go_wp2_with fail
   refine aQ.mk (.slice (some ⟨W.heap.size,0,none⟩) 0 k) ?_ ?_ ?_
   ·exact(by go_grown)
   ·exact Un (by have:=hB.size;omega) (GQ (ak _ _) (by have:=hB.size;omega) (by omega))
   ·first
    | rfl
    | simp only[List.setIfInBounds_toArray,List.set_cons_succ,List.set_cons_zero]
 case tail=>
  intro x W3 F hB aP hF;have d0:x 0=(BN (w.heap.size+1) (w1.heap.size+1) w.heap.size (w1.heap.size+1+1)):=aP 0 (by omega);have d1:x 1=.int .i64 k:=aP 1 (by omega);have d2:=aP 2 (by omega);obtain⟨wb,AH,e2,pI⟩:∃ g,w.heap.size<=g/\x 2=.slice (some ⟨g,0,none⟩) 0 k/\aD W3 w.heap.size 141 7 (.slice (some ⟨g,0,none⟩) 0 k) 0 []:=d2;clear aP;simp only[bd,cJ,List.setIfInBounds_toArray,List.set_cons_succ,List.set_cons_zero,Nat.reduceAdd]at hF;rw[d0,d1,e2]at hF;subst hF;have eO:=aa hB;have jL:=aa pI;clear hB pI d0 d1 e2;simp only[List.drop_succ_cons,List.drop_zero]
  have oO:WEnv a (.slice pa a.states.length ca) k w (w.heap.size+1) (w1.heap.size+1) w.heap.size (w1.heap.size+1+1) wb [] [] W3:=
   ⟨ae G1.out eO.out,by omega,af eO.out G3.out,af eO.out G2.out,af eO.out G6.out,⟨_,[],af eO.out G5.out,GQ (n:=n) (cs:=(Value.slice none 0 0).cells) (by rw[Nat.mul_one];exact af eO.out G4.out) (by omega) (by omega),fun i hi=>by simp at hi⟩,jL.out⟩
  have eQ:=LD a _ k hk w HV.out Pn.out _ _ _ _ wb k 0 [] [] W3 (by simp) (by have:=HAOK.out.1;omega) (fun r hr=>by simp at hr) (by have:=HN.out;simp;omega) oO;simp only[List.length_nil,List.nil_append,List.map_id']at eQ;have bO:=aa eQ;clear eQ oO
  go_wp2_with fail
  refine bO.out.mono ?_;rintro e w9 ⟨⟨u9,rfl⟩,nN⟩;have hbw9:=nN.old;obtain⟨vo,xs,q1,q2,q3⟩:=nN.o;obtain⟨wcur,wfz,hw9,hwlo⟩:=nN.wb_at;have t1:=ab q1 0;simp at t1;have jt:Hid (eM 1 (mf 7 mo) w9 vo (bS a k 0)):=aa (bW.sl (base:=w.heap.size) ⟨xs,q2,fun i hi=>by obtain⟨y,p1,p2⟩:=q3 i hi;exact⟨y,p1,p2.base (by omega)⟩⟩ (fun y l hl hy=>qW hy (fun i hi=>vM a (rS HV.out) k 0 l hl _ (List.getElem_mem hi)) (by have:=jR a k 0 l hl;omega)) (by have:=HN.out;omega))
  have HLO9:Hid (∀ ad n c,vo=.slice (some ad) n c->w.heap.size<=ad.block):=aa (fun ad n c e=>by
   rcases q2.2 with ⟨e2,_⟩|⟨g,cap,cur,fz,e2,h1,_⟩
   ·rw[e2]at e;cases e
   ·rw[e2]at e;cases e;exact h1)
  obtain⟨av,cv,rfl⟩:=q2.slice;clear q1 q2 q3 nN hw9
  go_wp2_with fail
  go_ret2
  rw[CW.out];exact⟨_,rfl,jt.out,HLO9.out,hbw9⟩
theorem KeepT.grownNew{ts:List TypeId} {ms:List Nat} {base:Nat} {w w' w'':World} {row:Option Nat} (h:KeepT ts ms base w w') (hs:base<=w.heap.size) (hr:∀ g,row=some g->w.heap.size<=g) (hg:w'.grownBy w'' row):KeepT ts ms base w w'':=by
 refine⟨Below.grown h.old hg (Nat.le_trans hs h.old.size) (fun g e=>Nat.le_trans hs (hr g e)),fun j c t f h1 h2=>?_,fun j o h1 h2 h3=>?_⟩
 ·have h3:=h.keep j c t f h1 h2
  exact(hg.block j (ar h3) (fun e'=>by have:=hr j e'.symm;have:=ar h1;omega)).trans h3
 ·have h4:=h.oth j o h1 h2 h3
  exact(hg.block j (ar h4) (fun e'=>by have:=hr j e'.symm;have:=ar h1;omega)).trans h4
theorem KeepT.setNew{ts:List TypeId} {ms:List Nat} {base:Nat} {w w':World} {B o:Nat} (h:KeepT ts ms base w w') (hs:base<=w.heap.size) (hb:w.heap.size<=B) (v:Value):KeepT ts ms base w (w'.setCell ⟨B,o,none⟩ v):=by
 refine⟨h.old.setCell (Nat.le_trans hs hb) v,fun j c' t' f' h1 h2=>aH (h.keep j c' t' f' h1 h2) ?_ o v,fun j o' h1 h2 h3=>aH (h.oth j o' h1 h2 h3) ?_ o v⟩
 ·have:=ar h1
  omega
 ·have:=ar h1
  omega
theorem BldIs.set{base b mb n:Nat} {tab:List Vw} {W:World} {B o:Nat} {c:Array Value} {t:TypeId} {f:Nat × Nat} (h:BldIs base b mb n tab W) (hB:W.heap[B]?=some (.cells c t f)) (ht:t∉bldT) (v:Value):BldIs base b mb n tab (W.setCell ⟨B,o,none⟩ v):=by
 obtain⟨vs,h1,h2,h3,es,ck,p1,p2⟩:=h.ex;refine⟨h.lo,vs,aH h1 (fun e=>?_) _ _,h2,h3.put (fun g e=>h3.ne hB (fun e=>ht (by simp[<-e])) g e) _ _,es,ck,aH p1 (fun e=>?_) _ _,p2⟩
 ·rw[<-e,h1]at hB;cases hB;exact ht (by simp)
 ·rw[<-e,p1]at hB;cases hB
theorem BldIs.grown{base b mb n:Nat} {tab:List Vw} {W W':World} {e:TypeId} {b' k m:Nat} {u:Value} {xs:List Value} (h:BldIs base b mb n tab W) (ho:aD W b' e k u m xs) (he:e∉bldT) (hg:W.grownBy W' u.ownBlock):BldIs base b mb n tab W':=by
 obtain⟨vs,h1,h2,h3,es,ck,p1,p2⟩:=h.ex;refine⟨h.lo,vs,fX hg h1 (fun e'=>ho.ne h1 (fun e=>he (by simp[e])) b e' rfl),h2,h3.keepT fun g o e1 e2=>fX hg e2 (fun e'=>?_),es,ck,fX hg p1 (fun e'=>ho.isCells p1 rfl e'.symm),p2⟩;rcases h3.2 with ⟨rfl,_⟩|⟨g',cap,cur,fz,rfl,_,q3,_⟩
 ·cases e1
 ·cases e1
  exact ho.ne q3 (fun e=>he (by simp[e])) _ e' rfl
theorem KeepT.below9{ts us:List TypeId} {ms ns:List Nat} {w0 w w1 w2:World} (h0:Below w0.heap.size w0 w) (h1:KeepT ts ms w0.heap.size w w1) (h2:KeepT us ns w0.heap.size w1 w2):Below w0.heap.size w0 w2:=
 ⟨(h2.old.os.trans h1.old.os).trans h0.os,(h2.old.tape.trans h1.old.tape).trans h0.tape,(h2.old.output.trans h1.old.output).trans h0.output,Nat.le_trans h0.size (Nat.le_trans h1.old.size h2.old.size),fun k hk=>((h2.old.block k hk).trans (h1.old.block k hk)).trans (h0.block k hk)⟩
def lD(n:Nat) (l:List Int):Array Value:=((List.range n).map fun j=>Value.int .i64 (l.getD j 0)).toArray
theorem xR(n:Nat) (l:List Int):(lD n l).size=n:=by simp[lD]
theorem vN(n:Nat) (l:List Int) (j:Nat) (h:j<n):(lD n l)[j]?=some (.int .i64 (l.getD j 0)):=by simp[lD,h]
theorem GR(n:Nat):lD n []=fC n (fun _=>0) 0:=by
 unfold lD fC;simp
theorem GT(n:Nat) (l:List Int) (z:Int) (h:l.length<n):(lD n l).setIfInBounds l.length (.int .i64 z)=lD n (l++[z]):=by
 apply Array.ext_getElem?;intro j;rw[Array.getElem?_setIfInBounds];by_cases hj:j<n
 ·rw[vN _ _ _ hj,vN _ _ _ hj]
  by_cases e:l.length=j
  ·subst e
   rw[if_pos rfl,if_pos (by rw[xR];exact hj)];simp
  ·rw[if_neg e]
   by_cases h2:j<l.length
   ·simp[List.getD_eq_getElem?_getD,List.getElem?_append_left h2]
   ·rw[List.getD_eq_getElem?_getD,List.getD_eq_getElem?_getD,List.getElem?_eq_none (by omega),List.getElem?_eq_none (by simp;omega)]
 ·have h1:(lD n l)[j]?=none:=by rw[Array.getElem?_eq_none];rw[xR];omega
  have h2:(lD n (l++[z]))[j]?=none:=by rw[Array.getElem?_eq_none];rw[xR];omega
  rw[h1,h2,if_neg (by omega)]
theorem GU(l:List Int):lD l.length l=bJ l:=by
 unfold lD bJ;congr 1;apply List.ext_getElem (by simp);intro i h1 h2;simp at h1;simp[List.getD_eq_getElem?_getD,h1]
structure PCore (base b mb n:Nat) (tab tab':List Vw) (k:Nat) (Wr:World) (D:Nat->Bool) (x:Nat->Value) (W:World):Prop where
 lo:base<=Wr.heap.size
 keep:KeepT bldT [mb] base Wr W
 bld:BldIs base b mb n (bif D k then tab' else tab) W
section
variable {base b mb n k : Nat} {tab tab' : List Vw} {Wr : World} {D : Nat → Bool} {x : Nat → Value} {W : World}
theorem PCore.other(h:PCore base b mb n tab tab' k Wr D x W) {i:Nat} (u:Value) (hi:k≠i):PCore base b mb n tab tab' k Wr (bz D i) (cA x i u) W:=
 ⟨h.lo,h.keep,by simpa only[bz,if_neg hi] using h.bld⟩
theorem PCore.grow(h:PCore base b mb n tab tab' k Wr D x W) {W':World} (hb:Below W.heap.size W W'):PCore base b mb n tab tab' k Wr D x W':=⟨h.lo,h.keep.trans (.of_below _ hb (Nat.le_trans h.lo h.keep.old.size)),h.bld.up hb⟩
theorem PCore.put(h:PCore base b mb n tab tab' k Wr D x W) {W':World} (u:Value) (hk:KeepT bldT [mb] base W W') (hb:BldIs base b mb n tab' W'):PCore base b mb n tab tab' k Wr (bz D k) (cA x k u) W':=⟨h.lo,h.keep.trans hk,by simpa[bz] using hb⟩
end
abbrev fY(inp:List Int) (n:Nat):List Vw:=(List.range n).map (dS inp)
abbrev fw(n k:Nat) (r:Rd) (now:List Int):List Vw:=(List.range n).map (nextV n k r now)
theorem GV{α:Type} (n:Nat) (f:Nat->α) (i:Nat) (h:i<((List.range n).map f).length):((List.range n).map f)[i]=f i:=by simp
theorem ik(n:Nat) (inp:List Int) (word:List Rd) (tb:List Vw):∀ k,(playTo n inp word tb k).2.length=k+1/\((playTo n inp word tb k).2.getLastD []).length=n/\(playTo n inp word tb k).1.length<=tb.length+n * (k+1)
 | 0=>by
  have h:=fr (fY inp n) (tb,[]);change (addAll tb (fY inp n)).2.length=_/\(addAll tb (fY inp n)).1.length<=_ at h;simp only[List.length_nil,List.length_map,List.length_range,Nat.zero_add]at h;exact⟨rfl,h.1,by have:=h.2;show (addAll tb (fY inp n)).1.length<=_;omega⟩
 | k+1=>by
  have ih:=ik n inp word tb k;have h:=fr (fw n k (word.getD k default) ((playTo n inp word tb k).2.getLastD [])) ((playTo n inp word tb k).1,[]);change (addAll (playTo n inp word tb k).1 _).2.length=_/\(addAll (playTo n inp word tb k).1 _).1.length<=_ at h;simp only[List.length_nil,List.length_map,List.length_range,Nat.zero_add]at h;have e:(playTo n inp word tb (k+1)).2=(playTo n inp word tb k).2++[(addAll (playTo n inp word tb k).1 (fw n k (word.getD k default) ((playTo n inp word tb k).2.getLastD []))).2]:=rfl;rw[e];refine⟨by rw[List.length_append,ih.1];rfl,?_,?_⟩
  ·rw[List.getLastD_concat];exact h.1
  ·have:n * (k+1+1)=n * (k+1)+n:=Nat.mul_succ n (k+1)
   show (addAll (playTo n inp word tb k).1 (fw n k (word.getD k default) ((playTo n inp word tb k).2.getLastD []))).1.length<=_
   omega
def q8(n k:Nat) (r:Rd) (now:List Int) (p q:Nat):Vw:=
 let g:=fun j=>if j<q/\hasB (r.g.hear p) j=true then now.getD j 0 else -1
 ⟨p,k+1,0,g 0,g 1,g 2,g 3,g 4⟩
theorem Uo(n k:Nat) (r:Rd) (now:List Int) (p:Nat):q8 n k r now p n=nextV n k r now p:=rfl
theorem QD(n k:Nat) (r:Rd) (now:List Int) (p:Nat):q8 n k r now p 0=⟨p,k+1,0,-1,-1,-1,-1,-1⟩:=by simp[q8]
theorem Uq(n k:Nat) (r:Rd) (now:List Int) (p q:Nat) (h:hasB (r.g.hear p) q=false):q8 n k r now p (q+1)=q8 n k r now p q:=by
 have key:∀ j,(if j<q+1/\hasB (r.g.hear p) j=true then now.getD j 0 else -1)=if j<q/\hasB (r.g.hear p) j=true then now.getD j 0 else -1:=fun j=>by
  by_cases e:j=q
  ·subst e;simp[h]
  ·have:j<q+1↔j<q:=by omega
   simp only[this]
 simp only[q8,key]
theorem Ur(n k:Nat) (r:Rd) (now:List Int) (p q:Nat) (hq:q<5) (h:hasB (r.g.hear p) q=true):(q8 n k r now p q).c.setIfInBounds (3+q) (.int .i64 (now.getD q 0))=(q8 n k r now p (q+1)).c:=by
 have:q=0\/q=1\/q=2\/q=3\/q=4:=by omega
 rcases this with e|e|e|e|e<;>subst e<;>simp[q8,h]
theorem LG(r:Rd) (k:Nat) (hk:k<5) (w:World) (B:Nat) (t:TypeId) (hw:w.heap[B]?=some (.cells r.c t)):w.cell? ⟨B,1+k,none⟩=some (.int .i64 (r.g.hear k)):=by
 have:k=0\/k=1\/k=2\/k=3\/k=4:=by omega
 rcases this with h|h|h|h|h<;>subst h<;>simp[World.cell?,hw,Gr.hear]
theorem Kh{W:World} {base B n:Nat} {l:List Int} (h:W.heap[B]?=some (.cells (bJ l) 3)) (hl:l.length=n) (hb:base<=B) (hn:n<=256):aD W base 3 1 (.slice (some ⟨B,0,none⟩) n n) n (l.map (Value.int .i64)):=
 ⟨by simp[hl],.inr ⟨B,n,_,(0,0),rfl,hb,h,fun i _ h=>by have:=h.2;simp at this,Nat.le_refl _,by unfold maxLen;omega,by simp[bJ,hl],by simp only[bJ];rw[Nat.mul_one,List.take_of_length_le (by simp;omega)]⟩⟩
theorem NW(w0:World) (b mb n:Nat) (hn:n<=5) (tab:List Vw) (vi vw:Value) (inp:List Int) (word:List Rd) (w:World) (h0:Below w0.heap.size w0 w) (hi:aY w0 vi inp) (hw:ka w0 vw word) (gN:n<=inp.length) (I4:word.length<=6) (hl:tab.length+100<=100000) (hB:BldIs w0.heap.size b mb n tab w) :
  Calls Tryz.prog 166 #[.pointer (some ⟨b,0,none⟩),vi,vw] w fun e w'=>∃ u,e=.returned u/\cN w' w.heap.size u (gi n inp word tab).2/\BldIs w0.heap.size b mb n (gi n inp word tab).1 w'/\KeepT bldT [mb] w0.heap.size w w':=by
 obtain⟨pi,ci,rfl,li1,li2,ei⟩:=hi.at;obtain⟨pw,cw,rfl,lw1,lw2,ew⟩:=hw.at;have EI:=aa ei;have EW:=aa ew;have HB:=aa hB;have H0:=aa h0;have cf:=h0.size;clear hi hw ei ew hB h0;obtain⟨vs,h1,_⟩:=HB.out.ex;have t1:=ab h1 0;simp at t1;have gL:=kO (fun _=>0) n (by omega);clear h1
 go_enter Tryz.func166,Tryz.ntmps166
 go_wp2_with fail
 clear t1 gL;refine bj (fun W=>KeepT bldT [mb] w0.heap.size w W/\BldIs w0.heap.size b mb n tab W/\W.heap[w.heap.size]?=some (.cells (lD n []) 3)) ⟨KeepT.of_below _ (by go_grown) cf,HB.out.up (by go_grown),by rw[GR];exact ak _ _⟩ (fun W0 aW=>?_);obtain⟨eT,aC,ro⟩:=aW
 go_loopw [24] (fun i wr=>∃ q:Nat,q<=n/\i=.int .i64 q/\KeepT bldT [mb] w0.heap.size w wr/\BldIs w0.heap.size b mb n (addAll tab ((fY inp n).take q)).1 wr/\wr.heap[w.heap.size]?=some (.cells (lD n (addAll tab ((fY inp n).take q)).2) 3)) (fun i _=>n - (intOf i).toNat)
 case atStart=>exact⟨0,by omega,rfl,eT,aC,ro⟩
 case round=>
  clear eT aC ro;obtain⟨q,hq,rfl,hk,hb,hr⟩:=hrel;by_cases az:q<n
  ·have jy:=aa (sY tab (fY inp n) q (by simpa using az))
   have cK:=(fr ((fY inp n).take q) (tab,[])).1;have nB:=(fr ((fY inp n).take q) (tab,[])).2;have Pw:((fY inp n).take q).length=q:=by simp;omega
   rw[GV]at jy;change (addAll tab ((fY inp n).take q)).2.length=_ at cK;change (addAll tab ((fY inp n).take q)).1.length<=_ at nB;simp only[List.length_nil,Pw,Nat.zero_add]at cK nB;obtain⟨b1,o1,rfl,hx⟩:=EI.out q (by omega);have HX:=aa hx.1;have PW:=aa hk;have jx:=aa hb;have AE:=aa hr;have Xm:=hk.old.size;rw[Nat.mul_one]at HX;have H':Hid (dS inp q=⟨q,0,inp[q],-1,-1,-1,-1,-1⟩):=aa (by unfold dS;rw[ap 0 (by omega)]);generalize inp[q]=y at HX H';clear hx hk hb hr Pw;generalize (addAll tab ((fY inp n).take q))=st at jy cK nB jx AE
   go_wp2_with fail
   refine mi 11 [27,28,29,30,31,32,33,34,35,36,37] [some (.slice (some ⟨w.heap.size,0,none⟩) n n),
    some (.int .i64 q),
    some (.pointer (some ⟨b,0,none⟩)),
    some (.int .i64 q),
    some (.slice (some ⟨b1,o1,none⟩) inp.length ci),
    some (.int .i64 q),
    some (.pointer (some ⟨b1,o1+q,none⟩)),
    some (.int .i64 y),
    some (silV),
    some ((dS inp q).v),
    some (.int .i64 ((putV st.1 (dS inp q)).2:Nat))] (PCore w0.heap.size b mb n st.1 (putV st.1 (dS inp q)).1 10 wr) (by kernel_rfl) rfl (by decide) rfl (by kernel_rfl) (by kernel_rfl) (by kernel_rfl) (fun _=>⟨by omega,(KeepT.refl _ _ _).drew,jx.out.up (Below.refl _ _).drew⟩) ?step ?tail
   case step=>
    intro x W D i o s F hi ho hs hD cL bU aj hv aK hF;have fy:i=0\/i=1\/i=2\/i=3\/i=4\/i=5\/i=6\/i=7\/i=8\/i=9\/i=10:=by omega
    rcases fy with rfl|rfl|rfl|rfl|rfl|rfl|rfl|rfl|rfl|rfl|rfl
    all_goals (have dA:=cL _ _ hs hD;obtain rfl:=cU ho.symm;obtain rfl:=cU hs.symm)
    ·clear aj hi hv
     have e7:F.getD 7 undef=.slice (some ⟨w.heap.size,0,none⟩) n n:=ln hF (by decide) rfl;clear cL bU;clear hF dA;have e7':=dx e7;have HD:=aa hD;have bh:=aa aK;clear hD aK
     go_wp2_with fail
     refine bR.mk _ fI ?_ rfl;exact bh.out.other _ (by decide)
    ·clear aj hi hv
     have e8:F.getD 8 undef=.int .i64 q:=ln hF (by decide) rfl;clear cL bU;clear hF dA;have e8':=dx e8;have HD:=aa hD;have bh:=aa aK;clear hD aK
     go_wp2_with fail
     refine bR.mk _ fI ?_ rfl;exact bh.out.other _ (by decide)
    ·clear aj hi hv
     have e0:F.getD 0 undef=.pointer (some ⟨b,0,none⟩):=ln hF (by decide) rfl;clear cL bU;clear hF dA;have e0':=dx e0;have HD:=aa hD;have bh:=aa aK;clear hD aK
     go_wp2_with fail
     refine bR.mk _ fI ?_ rfl;exact bh.out.other _ (by decide)
    ·clear aj hi hv
     have e8:F.getD 8 undef=.int .i64 q:=ln hF (by decide) rfl;clear cL bU;clear hF dA;have e8':=dx e8;have HD:=aa hD;have bh:=aa aK;clear hD aK
     go_wp2_with fail
     refine bR.mk _ fI ?_ rfl;exact bh.out.other _ (by decide)
    ·clear aj hi hv
     have e1:F.getD 1 undef=.slice (some ⟨b1,o1,none⟩) inp.length ci:=ln hF (by decide) rfl;clear cL bU;clear hF dA;have e1':=dx e1;have HD:=aa hD;have bh:=aa aK;clear hD aK
     go_wp2_with fail
     refine bR.mk _ fI ?_ rfl;exact bh.out.other _ (by decide)
    ·clear aj hi hv
     have e8:F.getD 8 undef=.int .i64 q:=ln hF (by decide) rfl;clear cL bU;clear hF dA;have e8':=dx e8;have HD:=aa hD;have bh:=aa aK;clear hD aK
     go_wp2_with fail
     refine bR.mk _ fI ?_ rfl;exact bh.out.other _ (by decide)
    ·have g4:=aj ⟨4,.data⟩ (by simp) rfl
     have d4:=hv 4 _ (by omega) g4 rfl;have g5:=aj ⟨5,.data⟩ (by simp) rfl;have d5:=hv 5 _ (by omega) g5 rfl;clear aj hi hv;have e31:=fg hF 4 31 (by decide) rfl (by kernel_rfl) d4;have e32:=fg hF 5 32 (by decide) rfl (by kernel_rfl) d5;clear cL bU;clear hF dA d4 d5;have e31':=dx e31;have e32':=dx e32;have HD:=aa hD;have bh:=aa aK;clear hD aK;clear g4;clear g5
     go_wp2_with fail
     refine bR.mk _ fI ?_ rfl;exact bh.out.other _ (by decide)
    ·have g6:=aj ⟨6,.data⟩ (by simp) rfl
     have d6:=hv 6 _ (by omega) g6 rfl;clear aj hi hv;have e33:=fg hF 6 33 (by decide) rfl (by kernel_rfl) d6;clear cL bU;clear hF dA d6;have t1:=ai (KeepT.below9 H0.out PW.out aK.keep) HX.out;have e33':=dx e33;have HD:=aa hD;have bh:=aa aK;clear hD aK;clear g6
     go_wp2_with fail
     refine bR.mk _ fI ?_ rfl;exact bh.out.other _ (by decide)
    ·clear aj hi hv
     clear cL bU;clear hF dA;have HD:=aa hD;have bh:=aa aK;clear hD aK
     go_wp2_with fail
     refine(z6 W).mono ?_;rintro e w9 ⟨rfl,eN⟩
     go_wp2_with fail
     refine bR.mk _ fI ?_ rfl;exact(bh.out.grow eN).other _ (by decide)
    ·have g3:=aj ⟨3,.data⟩ (by simp) rfl
     have d3:=hv 3 _ (by omega) g3 rfl;have g7:=aj ⟨7,.data⟩ (by simp) rfl;have d7:=hv 7 _ (by omega) g7 rfl;have g8:=aj ⟨8,.data⟩ (by simp) rfl;have d8:=hv 8 _ (by omega) g8 rfl;clear aj hi hv;have e30:=fg hF 3 30 (by decide) rfl (by kernel_rfl) d3;have e34:=fg hF 7 34 (by decide) rfl (by kernel_rfl) d7;have e35:=fg hF 8 35 (by decide) rfl (by kernel_rfl) d8;clear cL bU;clear hF dA d3 d7 d8;have HFV9:=H';have e30':=dx e30;have e34':=dx e34;have e35':=dx e35;have HD:=aa hD;have bh:=aa aK;clear hD aK;clear g3;clear g7;clear g8
     go_wp2_with fail
     refine bR.mk _ (fun c hc=>by rw[<-cU hc,H'.out]) ?_ rfl;exact bh.out.other _ (by decide)
    ·have g2:=aj ⟨2,.data⟩ (by simp) rfl
     have d2:=hv 2 _ (by omega) g2 rfl;have g9:=aj ⟨9,.data⟩ (by simp) rfl;have d9:=hv 9 _ (by omega) g9 rfl;clear aj hi hv;have e29:=fg hF 2 29 (by decide) rfl (by kernel_rfl) d2;have e36:=fg hF 9 36 (by decide) rfl (by kernel_rfl) d9;clear cL bU;clear hF dA d2 d9;have kl:=aK.bld;rw[hD]at kl;have C6:=aa (show BldIs w0.heap.size b mb n st.1 W from kl);clear kl;have e29':=dx e29;have e36':=dx e36;have HD:=aa hD;have bh:=aa aK;clear hD aK;clear g2;clear g9
     go_wp2_with fail
     refine(Kf w0.heap.size b mb n st.1 (dS inp q) W C6.out (by omega)).mono ?_;rintro e w9 ⟨rfl,eN,yD⟩;have eO:=aa eN;have pS:=aa yD;clear eN yD
     go_wp2_with fail
     refine bR.mk _ fI ?_ rfl;exact bh.out.put _ pS.out eO.out
   case tail=>
    intro x W' D F aP hv aK hF;have x0:=hv 0 _ (by omega) rfl;have x1:=hv 1 _ (by omega) rfl;have x2:=hv 2 _ (by omega) rfl;have x3:=hv 3 _ (by omega) rfl;have x4:=hv 4 _ (by omega) rfl;have x5:=hv 5 _ (by omega) rfl;have x6:=hv 6 _ (by omega) rfl;have x7:=hv 7 _ (by omega) rfl;have x8:=hv 8 _ (by omega) rfl;have x9:=hv 9 _ (by omega) rfl;have x10:=hv 10 _ (by omega) rfl;have kl:=aK.bld;rw[aP 10 (by omega)]at kl;have C6:=aa (show BldIs w0.heap.size b mb n (putV st.1 (dS inp q)).1 W' from kl);have pS:=aa aK.keep;have bV:=pS.out.keep _ _ _ _ AE.out (by decide);have j8:=aa bV;have z1:=aE bV q;have c1:=ab bV q;rw[vN _ _ _ az]at c1;have hltI:(q:Int)<(n:Int):=by omega
    simp only[bd,cJ,List.setIfInBounds_toArray,List.set_cons_succ,List.set_cons_zero,Nat.reduceAdd,x0,x1,x2,x3,x4,x5,x6,x7,x8,x9,x10]at hF;subst hF;clear hv aP aK kl bV x0 x1 x2 x3 x4 x5 x6 x7 x8 x9 x10;simp only[List.drop_succ_cons,List.drop_zero]
    go_wp2_with fail
    go_roundw
    case rel=>
     refine⟨q+1,by omega,by go_num,(PW.out.trans pS.out).setNew cf (Nat.le_refl _) _,?_,?_⟩
     ·rw[jy.out]
      exact C6.out.set j8.out (by decide) _
     ·rw[jy.out,aF j8.out]
      have:=GT n st.2 ((putV st.1 (dS inp q)).2:Nat) (by omega);rw[cK]at this;rw[this];rfl
    case measure=>simp[intOf];omega
  ·obtain rfl:q=n:=by omega
   have aP:=fr (fY inp q) (tab,[]);change (addAll tab (fY inp q)).2.length=_/\(addAll tab (fY inp q)).1.length<=_ at aP;simp only[List.length_nil,List.length_map,List.length_range,Nat.zero_add]at aP;rw[List.take_of_length_le (by simp)]at hb hr
   have Fl:wr.heap[w.heap.size]?=some (.cells (bJ (addAll tab (fY inp q)).2) 3):=by
    rw[hr,<-GU,aP.1]
   have PW:=aa hk;have jx:=aa hb;have AE:=aa Fl;have oR:=aa aP;have Xm:=hk.old.size;clear hk hb hr Fl aP
   go_wp2_with fail
   refine bj (fun W=>KeepT bldT [mb] w0.heap.size w W/\BldIs w0.heap.size b mb q (playTo q inp word tab 0).1 W/\cN W w.heap.size (.slice (some ⟨wr.heap.size,0,none⟩) 1 1) (playTo q inp word tab 0).2/\W.heap[w.heap.size]?=some (.cells (bJ ((playTo q inp word tab 0).2.getLastD [])) 3))
    ⟨PW.out.trans (.of_below _ (by go_grown) (by omega)),jx.out.up (by go_grown),⟨[.slice (some ⟨w.heap.size,0,none⟩) q q],⟨by simp[playTo],.inr ⟨wr.heap.size,1,_,(0,0),rfl,by omega,ak _ _,fun i _ h=>by have:=h.2;simp at this,by simp[playTo],by unfold maxLen;omega,by simp,by simp[playTo]⟩⟩,fun i hi=>by
     have cG:i=0:=by simp[playTo]at hi;omega
     subst cG;refine⟨_,rfl,?_⟩;have:=(Kh AE.out oR.out.1 (Nat.le_refl w.heap.size) (by omega)).up (w':=wr.alloc (.cells #[.slice (some ⟨w.heap.size,0,none⟩) q q] 38)) (by go_grown)
     simpa[playTo,ug,oR.out.1] using this⟩,by simpa[playTo,ug] using am _ AE.out⟩ (fun W1 cC=>?_)
   obtain⟨jI,aG,ez,Kz⟩:=cC;clear PW jx AE oR
   go_loopw [7,9,44] (fun nv ov i wr=>∃ k:Nat,k<=word.length/\i=.int .i64 k/\KeepT bldT [mb] w0.heap.size w wr/\BldIs w0.heap.size b mb q (playTo q inp word tab k).1 wr/\cN wr w.heap.size ov (playTo q inp word tab k).2/\∃ Bn,nv=.slice (some ⟨Bn,0,none⟩) q q/\wr.heap[Bn]?=some (.cells (bJ ((playTo q inp word tab k).2.getLastD [])) 3)) (fun _ _ i _=>word.length - (intOf i).toNat)
   case atStart=>exact⟨0,by omega,rfl,jI,aG,ez,_,rfl,Kz⟩
   case round=>
    clear jI aG ez Kz;obtain⟨k,lW,rfl,hk,hb,hf,Bn,rfl,Fw⟩:=hrel;have uH:=aa hk;have cB:=aa hb;have wI:=aa hf;have rf:=aa Fw;by_cases az:k<word.length
    ·obtain⟨wrA,Bi⟩:∃ x,x=wr:=⟨_,rfl⟩
     subst Bi;have dT:=ik q inp word tab k;have jy:Hid (playTo q inp word tab (k+1)=Ll q k (word.getD k default) (playTo q inp word tab k)):=aa rfl;obtain⟨b3,o3,rfl,⟨d0,_⟩,⟨d1,_⟩,⟨d2,_⟩,⟨d3,_⟩,⟨d4,_⟩,⟨d5,_⟩,⟨d6,_⟩⟩:=EW.out k az;rw[ap default az]at jy;generalize word[k]=r at d0 d1 d2 d3 d4 d5 d6 jy;have FI:=KeepT.below9 H0.out hk (KeepT.refl (ms:=[mb]) bldT _ wrA)
     replace d0:=ai FI d0
     replace d1:=ai FI d1
     replace d2:=ai FI d2
     replace d3:=ai FI d3
     replace d4:=ai FI d4
     replace d5:=ai FI d5
     replace d6:=ai FI d6
     obtain⟨vs',kF,_⟩:=hb.ex;have t1:=ab kF 0;have hbsz:=ar kF;simp at t1;have gL:=kO (fun _=>0) q (by omega)
     have hkq:(playTo q inp word tab k).1.length<=tab.length+40:=by
      have h9:q * (k+1)<=5 * (k+1):=Nat.mul_le_mul_right _ hn;omega
     have hzw:=hk.old.size;clear hk hb hf Fw FI kF;generalize playTo q inp word tab k=st at cB wI rf jy dT hkq;generalize oQ:st.2.getLastD []=now at rf dT;have HNOW:=aa oQ;clear oQ;obtain⟨fP,iL,mM⟩:=dT
     go_wp2_with fail
     clear d0 d1 d2 d3 d4 d5 d6 t1 gL;refine bj (fun W=>KeepT bldT [mb] w0.heap.size wrA W/\BldIs w0.heap.size b mb q st.1 W/\W.heap[wrA.heap.size]?=some (.cells r.c 141)/\W.heap[wrA.heap.size+1]?=some (.cells (lD q []) 3)) ⟨.of_below _ (by go_grown) (by omega),cB.out.up (by go_grown),am _ (ak _ _),by rw[GR];exact ba _ _ _⟩ (fun W1 cC=>?_);obtain⟨jI,aG,Kz,dj⟩:=cC
     go_loopw [56] (fun i wrB=>∃ p:Nat,p<=q/\i=.int .i64 p/\KeepT bldT [mb] w0.heap.size wrA wrB/\BldIs w0.heap.size b mb q (addAll st.1 ((fw q k r now).take p)).1 wrB/\wrB.heap[wrA.heap.size]?=some (.cells r.c 141)/\wrB.heap[wrA.heap.size+1]?=some (.cells (lD q (addAll st.1 ((fw q k r now).take p)).2) 3)) (fun i _=>q - (intOf i).toNat)
     case atStart=>exact⟨0,by omega,rfl,jI,aG,Kz,dj⟩
     case round=>
      clear jI aG Kz dj;obtain⟨p,hp,rfl,hZ,bA,KJ,Ff⟩:=hrel;obtain⟨wrB,hwrB⟩:∃ x,x=wr:=⟨_,rfl⟩;subst hwrB;by_cases jq:p<q
      ·have I5:=aa (sY st.1 (fw q k r now) p (by simpa using jq))
       have cK:=(fr ((fw q k r now).take p) (st.1,[])).1;have nB:=(fr ((fw q k r now).take p) (st.1,[])).2;have Pw:((fw q k r now).take p).length=p:=by simp;omega
       rw[GV]at I5;change (addAll st.1 ((fw q k r now).take p)).2.length=_ at cK;change (addAll st.1 ((fw q k r now).take p)).1.length<=_ at nB;simp only[List.length_nil,Pw,Nat.zero_add]at cK nB;have kW:=aa hZ;have dP:=aa bA;have fZ:=aa KJ;have iW:=aa Ff;clear Pw;clear hZ bA KJ Ff;generalize (addAll st.1 ((fw q k r now).take p))=st2 at I5 cK nB dP iW
       go_wp2_with fail
       refine(z6 _).mono ?_;rintro e w9 ⟨rfl,eN⟩
       go_wp2_with fail
       refine bj (fun W=>Below w9.heap.size w9 W/\W.heap[w9.heap.size]?=some (.cells (q8 q k r now p 0).c 190)) ⟨by go_grown,by rw[QD];exact ak _ _⟩ (fun W4 hW4=>?_);obtain⟨cg,hv4⟩:=hW4;have eO:=aa eN;clear eN
       go_loopw [66] (fun i wr=>∃ j:Nat,j<=q/\i=.int .i64 j/\Below w9.heap.size w9 wr/\wr.heap[w9.heap.size]?=some (.cells (q8 q k r now p j).c 190)) (fun i _=>q - (intOf i).toNat)
       case atStart=>exact⟨0,by omega,rfl,cg,hv4⟩
       case round=>
        clear cg hv4;obtain⟨j,hj,rfl,dO,Ld⟩:=hrel;have E9:=aa Ld;by_cases VC:j<q
        ·have O3:=af (ae eO.out dO) fZ.out
         have tr:=LG r p (by omega) wr _ _ O3;have iz:=af (ae eO.out dO) (kW.out.keep _ _ _ _ rf.out (by decide));have tn:=ab iz j;rw[Es _ _ (by omega)]at tn
         obtain⟨x0,tv⟩:∃ x0,wr.cell? ⟨w9.heap.size,3+j,none⟩=some (.int .i64 x0):=by
          have h9:j=0\/j=1\/j=2\/j=3\/j=4:=by omega
          rcases h9 with h|h|h|h|h<;>subst h<;>exact⟨_,ab Ld _⟩
         have zv:=aE Ld (3+j);have hj5:(j:Int)<5:=by omega
         have II:(p:Int)<5:=by omega
         have gq:=qG (r.g.hear p) j;have rt:=dO.size;cases wY:hasB (r.g.hear p) j with
         | false=>
          rw[wY]at gq;have KN:=aa (Uq q k r now p j wY);clear Ld O3 iz wY
          go_wp2_with fail
          go_roundw
          case rel=>exact⟨j+1,by omega,by go_num,dO,by rw[KN.out];exact E9.out⟩
          case measure=>simp[intOf];omega
         | true=>
          rw[wY]at gq;have Ao:=Ur q k r now p j (by omega) wY;rw[ap 0 (by omega)]at Ao;have KN:=aa Ao;clear Ao;clear Ld O3 iz wY
          go_wp2_with fail
          go_roundw
          case rel=>exact⟨j+1,by omega,by go_num,dO.setCell (Nat.le_refl _) _,by rw[aF E9.out,KN.out]⟩
          case measure=>simp[intOf];omega
        ·obtain rfl:j=q:=by omega
         rw[Uo]at E9;generalize nextV j k r now p=vv at E9 I5;have tv:=ab E9.out;have C6:=aa (dP.out.up (ae eO.out dO));have H7:=aa (af (ae eO.out dO) iW.out);have xb:=aa (af (ae eO.out dO) fZ.out);have hlpI:(p:Int)<(j:Int):=by omega
         have Tl:=kW.out.old.size;have PD:=eO.out.size;clear Ld
         go_wp2_with fail
         refine(Kf w0.heap.size b mb j st2.1 vv wr C6.out (by omega)).mono ?_;rintro e w10 ⟨rfl,rD,MQ⟩;have Bl:=aa (MQ.keep _ _ _ _ H7.out (by decide));have HR10:=aa (MQ.keep _ _ _ _ xb.out (by decide));have Si:=aa rD;have HK10:=aa MQ;have z1:=aE Bl.out p;have c1:=ab Bl.out p;rw[vN _ _ _ jq]at c1;clear rD MQ tv
         go_wp2_with fail
         go_roundw
         case rel=>
          refine⟨p+1,by omega,by go_num,((kW.out.trans (.of_below _ (ae eO.out dO) (by omega))).trans HK10.out).setNew (by omega) (by omega) _,?_,aH HR10.out (by omega) _ _,?_⟩
          ·rw[I5.out]
           exact Si.out.set Bl.out (by decide) _
          ·rw[I5.out,aF Bl.out]
           have:=GT j st2.2 ((putV st2.1 vv).2:Nat) (by omega);rw[cK]at this;rw[this];rfl
         case measure=>simp[intOf];omega
      ·obtain rfl:p=q:=by omega
       have aP:=fr (fw p k r now) (st.1,[]);change (addAll st.1 (fw p k r now)).2.length=_/\(addAll st.1 (fw p k r now)).1.length<=_ at aP;simp only[List.length_nil,List.length_map,List.length_range,Nat.zero_add]at aP;rw[List.take_of_length_le (by simp)]at bA Ff
       have RC:wrB.heap[wrA.heap.size+1]?=some (.cells (bJ (addAll st.1 (fw p k r now)).2) 3):=by
        rw[Ff,<-GU,aP.1]
       have pJ:Hid (playTo p inp word tab (k+1)=((addAll st.1 (fw p k r now)).1,st.2++[(addAll st.1 (fw p k r now)).2])):=aa (by rw[jy.out];unfold Ll;rw[HNOW.out]);have hfB:=hZ.fresh wI.out (by decide) (by decide);obtain⟨xs,pQ,cP⟩:=hfB;obtain⟨a9,c9,rfl⟩:=pQ.slice;generalize addAll st.1 (fw p k r now)=st3 at pJ aP bA RC;have hA:Below wrB.heap.size wrB (wrB.alloc (.cells #[(Value.slice (some ⟨wrA.heap.size+1,0,none⟩) p p)] 38)):=by go_grown
       have df:=aa (pQ.up hA)
       have bN:∀ j u',[(Value.slice (some ⟨wrA.heap.size+1,0,none⟩) p p)][j]?=some u'->(wrB.alloc (.cells #[(Value.slice (some ⟨wrA.heap.size+1,0,none⟩) p p)] 38)).cell? (Addr.add ⟨wrB.heap.size,0,none⟩ j)=some u':=fun j u' hj=>by
        cases j with
        | zero=>simp at hj;subst hj;simp[Addr.add,ab (ak wrB _)]
        | succ j=>simp at hj
       have bB:=aa bN;have gu:=aa cP;have kW:=aa hZ;have dP:=aa bA;have iW:=aa RC;obtain⟨i0,cG,iV,jm,iD⟩:=info_parts Tryz.infoInts;have hzB:=hZ.old.size;clear bN cP hZ bA Ff RC KJ pQ
       go_wp2_with (at_builtin;(refine aZ _ rfl (.tmp 92) (.tmp 94) 56 rfl w.heap.size 38 i0 _ 1 24 Tryz.underlying56 cG iV jm iD rfl (by decide) _ st.2.length xs rfl df.out ⟨wrB.heap.size,0,none⟩ 1 1 [(Value.slice (some ⟨wrA.heap.size+1,0,none⟩) p p)] rfl rfl bB.out (by simp[Value.oneCell']) (by unfold maxLen;omega) (by omega) (by simp;omega) ?_;intro v' w2 fx dk _))
       go_roundw
       case rel=>
        have bV:=af hA iW.out;refine⟨k+1,by omega,by go_num,((uH.out.trans kW.out).trans (.of_below _ hA (by omega))).grownNew cf (fun g e=>(df.out.lt g e).1) dk,?_,?_,_,rfl,?_⟩
        ·rw[pJ.out]
         exact(dP.out.up hA).grown df.out (by decide) dk
        ·rw[pJ.out]
         exact bW.snoc df.out (fun i hi=>by obtain⟨y,q1,q2⟩:=gu.out i hi;exact⟨y,q1,q2.up hA⟩) (by decide) (by rw[aP.1];exact Kh bV aP.1 (by omega) (by omega)) dk fx
        ·rw[pJ.out,List.getLastD_concat]
         exact fX dk bV (fun e=>df.out.ne bV (by decide) _ e rfl)
       case measure=>simp[intOf];omega
    ·obtain rfl:k=word.length:=by omega
     obtain⟨xs,pQ,_⟩:=hf;obtain⟨a9,c9,rfl⟩:=pQ.slice;clear hk hb Fw pQ
     go_wp2_with fail
     go_ret
     exact⟨_,rfl,wI.out,cB.out,uH.out⟩
end Go.Proofs.YtmeaoneaephjeaaGreatDoor
