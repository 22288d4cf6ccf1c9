/-
  A part of the proof: lemmas and contracts that the parts behind it use. Each one's conditions are its own premises.
-/
import Derived.WalkSpells
import Derived.Shelf.Spec.TrailingZeros
import Derived.Laws.CopyOwn
import Derived.Test.YtmeaoneaephjeaaGreatDoorL4
set_option maxRecDepth 100000
set_option maxHeartbeats 8000000
set_option linter.unusedVariables false
set_option linter.unusedSimpArgs false
namespace Go.Proofs.YtmeaoneaephjeaaGreatDoor
open Go.RowKit Go Go.Shelf
attribute [local go_sem] Oper.semAt_some
theorem Gg(l:List Int) (i:Nat) (h:i<l.length):(bC l)[i]?=some (.int .i64 (l.getD i 0)):=by
 unfold bC;rw[List.getElem?_toArray,List.getElem?_map,List.getElem?_eq_getElem h,List.getD_eq_getElem?_getD,List.getElem?_eq_getElem h];rfl
theorem P1(l:List Int) (s:Nat) (z:Int):(bC l).setIfInBounds s (.int .i64 z)=bC (l.set s z):=by
 unfold bC;rw[List.setIfInBounds_toArray,List.map_set]
theorem cO.marks{B B0:Nat} {Ds:List Nat} (h:∀ D∈Ds,D<B):cO B (fun W=>cX B0 Ds W):=fun _ _ c x=>⟨x.1,fun D hD=>⟨(x.2 D hD).1,c.same _ _ (x.2 D hD).2 (.inl (h D hD))⟩⟩
theorem cX.lt{B:Nat} {Ds:List Nat} {W:World} (h:cX B Ds W):∀ D∈Ds,D<W.heap.size:=fun D hD=>aC (h.2 D hD).2
theorem Ia(a:Adv) (v:Value) (k:Nat) (L:Int) (w:World) (hv:bF w v a.states) (h1:1<=a.states.length) (h2:a.states.length<=256) (aU:∀ j,j<a.states.length->stateE a (a.states.getD j [])=0) (hk:k<=6) (hL:0<=L) (hL2:L<=1048576) :
  Calls Tryz.prog 212 #[.agg #[.int .i64 a.n,v],.int .i64 k,.int .i64 L] w fun e w'=>e=.returned (.int .i64 (numberL L a k))/\Below w.heap.size w w':=by
 have G:=aa hv;obtain⟨pa,ca,rfl,la1,la2,ea⟩:=hv.at;clear hv ea;have nB:=aa aU;clear aU;refine gq Tryz.func212 rfl ?_;simp only[Tryz.ntmps212,List.size_toArray,List.length_cons,List.length_nil,Nat.reduceAdd,Nat.reduceSub,Array.replicate_succ,Array.replicate_zero,List.push_toArray,List.append_toArray,List.nil_append,List.cons_append]
 go_wp2_with fail
 refine aN (fun W=>Below w.heap.size w W/\W.heap[w.heap.size]?=some (.cells #[.int .i64 a.n,.slice pa a.states.length ca] 27)/\W.heap[w.heap.size+1]?=some (.cells #[.int .i64 L] 3)/\W.heap[w.heap.size+1+1]?=some (.cells #[.int .i64 1] 3)) ⟨by go_grown,ar _ (ar _ (aq _ _)),ar _ (bd _ _ _),eI _ _ _ _⟩ (fun W0 aZ=>?_);obtain⟨aI,bI,ic,gl⟩:=aZ;refine(xF 1 a.states.length h1 (by omega) _ W0 gl).mono ?_;rintro e w1 ⟨rfl,bQ,aJ⟩
 go_wp2_with fail
 have jt:=ae aI aJ;have eK:=af aJ bI;have sJ:=af aJ ic;have bX:=aI.size;have bP:=aJ.size;have Yk:=aC gl
 refine wp_loop (fun act W=>∃ (q:Nat) (Ds:List Nat) (cb:Nat) (u8 u9 u10 u18 u19 u20 u21 u22 u23 u24 u25 u26 u27 u28 u29 u30 u31 u32 u33 u34 u35 u36 u37 u38 u39 u40 u41 u42 u43 u44 u45 u46:Value),
   act={ tmps:=#[Value.agg #[Value.int IntKind.i64 a.n,Value.slice pa a.states.length ca],Value.int IntKind.i64 k,Value.int IntKind.i64 L,Value.pointer (some ⟨w.heap.size,0,none⟩),undef,Value.pointer (some ⟨w.heap.size+1,0,none⟩),Value.int IntKind.i64 0,Value.pointer (some ⟨w1.heap.size,0,none⟩),u8,u9,u10,
     Value.slice (some ⟨w.heap.size+1+1,0,none⟩) 1 1,Value.pointer (some ⟨w.heap.size,1,none⟩),Value.slice pa a.states.length ca,Value.int IntKind.i64 a.states.length,Value.slice (some ⟨W0.heap.size,0,none⟩) a.states.length a.states.length,Value.int IntKind.i64 k,Value.int IntKind.i64 q,
     u18,u19,u20,u21,u22,u23,u24,u25,u26,u27,u28,u29,u30,u31,u32,u33,u34,u35,u36,u37,u38,u39,u40,u41,u42,u43,u44,u45,u46],defers:=nF Ds }/\q<=k/\cX w.heap.size Ds W/\Below w.heap.size w W/\w1.heap.size<W.heap.size ∧
    W.heap[w.heap.size]?=some (.cells #[.int .i64 a.n,.slice pa a.states.length ca] 27)/\W.heap[w.heap.size+1]?=some (.cells #[.int .i64 L] 3) ∧
    W.heap[w1.heap.size]?=some (.cells #[.slice (some ⟨cb,0,none⟩) a.states.length a.states.length] 38)/\w.heap.size<=cb/\W.heap[cb]?=some (.cells (bC (eB L a q)) 3))
  (fun act _=>k - (intOf (act.tmps.getD 17 undef)).toNat) ?start ?round
 case start=>
  refine⟨0,[],W0.heap.size,_,_,_,_,_,_,_,_,_,_,_,_,_,_,_,_,_,_,_,_,_,_,_,_,_,_,_,_,_,_,_,_,rfl,by omega,cX.nil _ _,jt.alloc jt.size _,by simp,ar _ eK,ar _ sJ,aq _ _,by omega,ar _ ?_⟩;rw[bQ]
  have:xC a.states.length 1 a.states.length=bC (eB L a 0):=by
   unfold xC;rw[oE];congr 1;apply List.ext_getElem (by simp[eB]);intro i _ _;simp[eB]
  rw[this]
 case round=>
  rintro act W ⟨q,Ds,cb,u8,u9,u10,u18,u19,u20,u21,u22,u23,u24,u25,u26,u27,u28,u29,u30,u31,u32,u33,u34,u35,u36,u37,u38,u39,u40,u41,u42,u43,u44,u45,u46,rfl,hq,fT,dH,hsW,hA,hR,hC,VW,hrw⟩;have mM:=aa fT;have wZ:=aa hrw;clear fT hrw bQ bI ic gl eK sJ;by_cases aB:q<k
  ·have hmake:=iP (fun _=>0) a.states.length h2;have mx:(q:Int)<k:=by omega
   have t7:=ab hC 0;have tA:=ab hA;simp at t7;have hlA:=aC hA;have HC:=aa hC;have HA:=aa hA;have HR:=aa hR;clear hC hA hR
   go_wp2_with fail
   refine(zA _ _ _ _ _).mono ?_;rintro e w2 ⟨rfl,rfl⟩;clear t7 tA hmake
   go_wp2_with fail
   have hlt0:=mM.o.lt
   refine bu (fun W1=>Below w.heap.size w W1/\W.heap.size<W1.heap.size/\W1.heap[w.heap.size+1]?=some (.cells #[.int .i64 L] 3)/\W1.heap[w.heap.size]?=some (.cells #[.int .i64 a.n,.slice pa a.states.length ca] 27)/\W1.heap[w1.heap.size]?=some (.cells #[.slice (some ⟨cb,0,none⟩) a.states.length a.states.length] 38)/\W1.heap[cb]?=some (.cells (bC (eB L a q)) 3) ∧
     W1.heap[W.heap.size]?=some (.cells (bC (jx L (eB L a q) a.states 0)) 3)/\W1.heap[W.heap.size+1]?=some (.cells #[.slice (some ⟨W.heap.size,0,none⟩) a.states.length a.states.length] 38)/\W1.heap[W.heap.size+1+1]?=some (.cells #[.int .i64 a.n,.slice pa a.states.length ca] 27)/\cX w.heap.size Ds W1)
    ⟨((dH.alloc dH.size _).alloc (by simp only[World.size_alloc];omega) _).alloc (by simp only[World.size_alloc];omega) _,by simp only[World.size_alloc];omega,ar _ (ar _ (ar _ HR.o)),ar _ (ar _ (ar _ HA.o)),ar _ (ar _ (ar _ HC.o)),ar _ (ar _ (ar _ wZ.o)),ar _ (ar _ ?_),ar _ (bd _ _ _),eI _ _ _ _,mM.o.up (by go_grown)⟩ (fun W1 cD=>?_)
   ·rw[aq,M5]
    have:fC a.states.length (fun _=>0) 0=bC (List.replicate a.states.length 0):=by
     apply Array.ext (by simp[fC,bC]);intro i _ _;simp[fC,bC]
    rw[this]
   obtain⟨g1,g2,g3,g4,g5,g6,g7,g8,g9,g10⟩:=cD;have dr:=xE w _ a.states G.o W1 g1 (W.heap.size+1+1) (by simp[ab g9]);have HZ1:=aa g2;have hcbB:=aC g6
   refine ni (gf:=221) (lb:=#[.pointer (some ⟨W.heap.size+1+1,0,none⟩)]) rfl (enters_of Tryz.func221 (by kernel_rfl) rfl) dr (Below.refl _ _) (fun k hk=>Nat.lt_of_lt_of_le hk g1.size) (fun i=>rfl)
    (fun i V=>Below w.heap.size w V/\V.heap[w.heap.size+1]?=some (.cells #[.int .i64 L] 3)/\V.heap[w.heap.size]?=some (.cells #[.int .i64 a.n,.slice pa a.states.length ca] 27)/\V.heap[w1.heap.size]?=some (.cells #[.slice (some ⟨cb,0,none⟩) a.states.length a.states.length] 38)/\V.heap[cb]?=some (.cells (bC (eB L a q)) 3) ∧
     V.heap[W.heap.size]?=some (.cells (bC (jx L (eB L a q) a.states i)) 3)/\V.heap[W.heap.size+1]?=some (.cells #[.slice (some ⟨W.heap.size,0,none⟩) a.states.length a.states.length] 38)/\cX w.heap.size Ds V)
    (fun _ _ _=>False)
    (fun i=>(cO.below g1.size).and (cO.cells.and (cO.cells.and (cO.cells.and (cO.cells.and (cO.cells.and (cO.cells.and (cO.marks g10.lt)))))))) (fun c i=>cO.pure) ⟨g1,g3,g4,g5,g6,g7,g8,g10⟩ ?round2 ?done ?stop
   case stop=>rintro D c i V hD hi h;exact h.elim
   case done=>
    intro D V hD hI hK;obtain⟨f1,f2,f3,f4,f5,f6,f7,f8⟩:=hI;rw[Pm]at f6;have t8:=ab f7 0;have t7:=ab f4 0;have z7:=aE f4 0;simp at t8 t7;have HF:=aa (And.intro f1 (And.intro f2 (And.intro f3 (And.intro f4 (And.intro f5 (And.intro f6 (And.intro f7 (And.intro f8 hK))))))));have mq:∀ E∈Ds,E<D:=fun E hE=>Nat.lt_of_lt_of_le (g10.lt E hE) hD
    clear f1 f2 f3 f4 f5 f6 f7 f8 hK dr g3 g4 g5 g6 g7 g8 g9
    go_wp2_with fail
    refine⟨⟨q+1,D :: Ds,W.heap.size,_,_,_,_,_,_,_,_,_,_,_,_,_,_,_,_,_,_,_,_,_,_,_,_,_,_,_,_,_,_,_,_,rfl,by omega,?_,HF.o.1.setCell (by dsimp only;omega) _,?_,?_,?_,?_,by omega,?_⟩,?_⟩
    ·refine cX.cons (HF.o.2.2.2.2.2.2.2.1.keep fun k o hk ho=>?_) (by omega) ?_ mq
     ·exact(KeepsOthers.setCell _ _ _).same k o hk ho
     ·rw[Below.heap_setCell _ _ _ _ (by dsimp only;omega)];exact HF.o.2.2.2.2.2.2.2.2
    ·simp only[World.size_setCell];exact aC HF.o.2.2.2.1
    ·rw[Below.heap_setCell _ _ _ _ (by dsimp only;omega)];exact HF.o.2.2.1
    ·rw[Below.heap_setCell _ _ _ _ (by dsimp only;omega)];exact HF.o.2.1
    ·rw[aF HF.o.2.2.2.1];rfl
    ·rw[Below.heap_setCell _ _ _ _ (by dsimp only;omega)];exact HF.o.2.2.2.2.2.1
    ·simp[intOf];omega
   case round2=>
    intro yl i V hi hl hI;unfold I';obtain⟨s,j,hs,hj,rfl⟩:=LF a.states i hi;have Cc:=aa (M6 L (eB L a q) a.states (cnt a.states s+j) hi);rw[AN a.states s j hs hj]at Cc ⊢;have pK:=lF nB.o hs hj;generalize a.states[s][j]=m at pK Cc;dsimp only;have HI:=aa hI;clear hI;have hszV:=HI.o.1.size;clear dr g3 g4 g5 g6 g7 g8 g9
    gi_wp2
    refine⟨Bod.of_below (fun k hk=>Nat.lt_of_lt_of_le hk hszV) (by go_grown),(fun X=>(Below w.heap.size w X/\X.heap[w.heap.size+1]?=some (.cells #[.int .i64 L] 3)/\X.heap[w.heap.size]?=some (.cells #[.int .i64 a.n,.slice pa a.states.length ca] 27)/\X.heap[w1.heap.size]?=some (.cells #[.slice (some ⟨cb,0,none⟩) a.states.length a.states.length] 38)/\X.heap[cb]?=some (.cells (bC (eB L a q)) 3) ∧
     X.heap[W.heap.size]?=some (.cells (bC (jx L (eB L a q) a.states (cnt a.states s+j))) 3)/\X.heap[W.heap.size+1]?=some (.cells #[.slice (some ⟨W.heap.size,0,none⟩) a.states.length a.states.length] 38)/\cX w.heap.size Ds X)/\X.heap[V.heap.size]?=some (.cells #[.int .i64 m.r.g.n,.int .i64 m.r.g.h0,.int .i64 m.r.g.h1,.int .i64 m.r.g.h2,.int .i64 m.r.g.h3,.int .i64 m.r.g.h4,.int .i64 m.r.f,.int .i64 m.to] 143)),
     ((cO.below g1.size).and (cO.cells.and (cO.cells.and (cO.cells.and (cO.cells.and (cO.cells.and (cO.cells.and (cO.marks g10.lt)))))))).and cO.cells,⟨⟨HI.o.1.alloc hszV _,ar _ HI.o.2.1,ar _ HI.o.2.2.1,ar _ HI.o.2.2.2.1,ar _ HI.o.2.2.2.2.1,ar _ HI.o.2.2.2.2.2.1,ar _ HI.o.2.2.2.2.2.2.1,HI.o.2.2.2.2.2.2.2.up (by go_grown)⟩,aq _ _⟩,fun V2 hV2 _=>?_⟩
    obtain⟨⟨x1,x2,x3,x4,x5,x6,x7,x8⟩,x9⟩:=hV2;have BM:=F1 L a q;have hfn:=Pj L (eB L a q) a.states (cnt a.states s+j);have hok1:=vZ hL (Cn hL a q) m.to.toNat;have hok2:=vZ hL (Sm hL (Cn hL a q) a.states (cnt a.states s+j)) s;have t5:=ab x2 0;have t7:=ab x4 0;have t8:=ab x7 0;have tM:=ab x9;have tc:=ab x5 m.to.toNat;have tr:=ab x6 s;have zr:=aE x6 s;simp at t5 t7 t8;rw[Gg _ _ (by omega)]at tc tr;have HX:=aa (And.intro x1 (And.intro x2 (And.intro x3 (And.intro x4 (And.intro x5 (And.intro x6 (And.intro x7 (And.intro x8 x9))))))));clear x1 x2 x3 x4 x5 x6 x7 x8 x9;have vB:jx L (eB L a q) a.states (cnt a.states s+j+1)=(jx L (eB L a q) a.states (cnt a.states s+j)).set s (min ((jx L (eB L a q) a.states (cnt a.states s+j)).getD s 0+(eB L a q).getD m.to.toNat 0) (L+1)):=Cc.o;have TS:=aa vB;clear vB Cc;generalize (eB L a q).getD m.to.toNat 0=nx at hok1 tc TS;generalize (jx L (eB L a q) a.states (cnt a.states s+j)).getD s 0=ns at hok2 tr TS;have wS:0<=m.to:=pK.2.1;have hm1:m.to<a.states.length:=pK.2.2;have jc:IntKind.i64.wrap (ns+nx)=ns+nx:=IntWalk.i64_in _ (by omega);have AI:IntKind.i64.wrap (L+1)=L+1:=IntWalk.i64_in _ (by omega)
    gi_wp2
    refine lE 15 (fun ⟨_,_,h⟩=>h) (by kernel_rfl) (by kernel_rfl) (by kernel_rfl) (fun ops Lq hops hLq=>?_);simp only[List.take_succ_cons,List.take_zero,List.drop_succ_cons,List.drop_zero]at hLq ⊢;have EZ:=aa hLq;clear hLq;have TN:=aa hops;clear hops
    repeat still_step
    refine wpStill_nil ?_;refine EZ.o _ ?_
    go_wp2_with fail
    all_goals
     obtain⟨x1,x2,x3,x4,x5,x6,x7,x8,x9⟩:=HX.o;have z1:=HZ1.o;have z2:=aC wZ.o;refine⟨⟨by simp,fun k hk=>(Below.heap_setCell V2 _ _ _ (by dsimp only;omega)),fun k o _ hk ho=>(KeepsOthers.setCell V2 _ _).same k o hk ho⟩,(x1.setCell (by dsimp only;omega) _).drew,?_,?_,?_,?_,?_,?_,?_⟩
     ·exact(Below.heap_setCell V2 _ _ _ (by dsimp only;omega)).trans x2
     ·exact(Below.heap_setCell V2 _ _ _ (by dsimp only;omega)).trans x3
     ·exact(Below.heap_setCell V2 _ _ _ (by dsimp only;omega)).trans x4
     ·exact(Below.heap_setCell V2 _ _ _ (by dsimp only;omega)).trans x5
     ·refine(aF x6 s _).trans ?_;rw[TS.o,<-P1]
      all_goals first
       | rw[Int.min_eq_right (by omega)]
       | rw[Int.min_eq_left (by omega)]
     ·exact(Below.heap_setCell V2 _ _ _ (by dsimp only;omega)).trans x7
     ·exact x8.keep fun k o hk ho=>(KeepsOthers.setCell V2 _ _).same k o hk ho
  ·obtain rfl:q=k:=by omega
   have t7:=ab hC 0;simp at t7;have c0:=ab wZ.o 0
   have ru:(bC (eB L a q))[0]?=some (.int .i64 (numberL L a q)):=by
    have hl:=F1 L a q;unfold numberL bC;rw[List.getElem?_toArray,List.getElem?_map,List.getElem?_eq_getElem (by omega)];simp[List.getD_eq_getElem?_getD,List.getElem?_eq_getElem (show 0<(eB L a q).length by omega)]
   rw[ru]at c0;have uV:0<a.states.length:=by omega
   go_wp2_with fail
   refine rV mM.o (v:=.int .i64 (numberL L a q)) ?_ ⟨rfl,mV (fun D hD=>(mM.o.2 D hD).1) (Nat.le_refl _) dH⟩;simp[results,Tryz.results212,go_sem]
end Go.Proofs.YtmeaoneaephjeaaGreatDoor
namespace Go.Proofs.YtmeaoneaephjeaaGreatDoor
open Go.RowKit Go Go.Shelf
theorem qr{α:Type} (c:α->Array Value) (k:Nat) (hc:∀ x,(c x).size=k) (xs:List α) (i j:Nat) (hi:i<xs.length) (hj:j<k):(xs.flatMap fun x=>(c x).toList)[i * k+j]?=(c xs[i])[j]?:=by
 induction xs generalizing i with
 | nil=>simp at hi
 | cons x r ih=>
  rw[List.flatMap_cons];have hx:(c x).toList.length=k:=by rw[Array.length_toList,hc]
  cases i with
  | zero=>
   rw[List.getElem?_append_left (by omega)];simp
  | succ i=>
   rw[List.getElem?_append_right (by rw[hx,Nat.succ_mul];omega)];have:=ih i (by simpa using hi);simp only[List.getElem_cons_succ];rw[<-this,hx];congr 1;rw[Nat.succ_mul];omega
def dd(xs:List Rd):List Value:=xs.flatMap fun r=>r.c.toList
theorem zD(xs:List Rd):(dd xs).length=xs.length * 7:=by
 unfold dd;induction xs with
 | nil=>rfl
 | cons x r ih=>rw[List.flatMap_cons,List.length_append,ih];simp;omega
theorem uu(xs:List Rd):∀ u∈dd xs,u.oneCell'=true:=by
 intro u hu;unfold dd at hu;rw[List.mem_flatMap]at hu;obtain⟨r,_,hr⟩:=hu;simp at hr;rcases hr with rfl|rfl|rfl|rfl|rfl|rfl|rfl<;>rfl
theorem P2{w:World} {v:Value} {l:List Rd} (h:kQ w v l) (j:Nat) (u:Value) (hu:(dd l)[j]?=some u):∃ b o c,v=.slice (some ⟨b,o,none⟩) l.length c/\w.cell? ⟨b,o+j,none⟩=some u:=by
 have hj:=(List.getElem?_eq_some_iff.1 hu).1;rw[zD]at hj;obtain⟨i,s,hs,rfl⟩:∃ i s,s<7/\j=i * 7+s:=⟨j / 7,j % 7,by omega,by omega⟩;have hi:i<l.length:=by omega
 unfold dd at hu;rw[qr Rd.c 7 (fun _=>rfl) l i s hi hs]at hu;obtain⟨a,cap,rfl,_,_,e⟩:=h.at;obtain⟨b,o,rfl,⟨c0,_⟩,⟨c1,_⟩,⟨c2,_⟩,⟨c3,_⟩,⟨c4,_⟩,⟨c5,_⟩,⟨c6,_⟩⟩:=e i hi;refine⟨b,o,cap,rfl,?_⟩;rw[<-Nat.add_assoc];rcases (show s=0\/s=1\/s=2\/s=3\/s=4\/s=5\/s=6 by omega) with rfl|rfl|rfl|rfl|rfl|rfl|rfl<;>(simp at hu;subst hu;first|exact c0|exact c1|exact c2|exact c3|exact c4|exact c5|exact c6)
theorem sE{w:World} {base:Nat} {v:Value} {l:List Rd} (h:aH w base 141 7 v l.length (dd l)) (hx:∀ i (hi:i<l.length),bN l[i].g.n/\bN l[i].g.h0/\bN l[i].g.h1/\bN l[i].g.h2/\bN l[i].g.h3/\bN l[i].g.h4/\bN l[i].f) (hn:l.length<=17592186044416):kQ w v l:=by
 have aU:=fun i (hi:i<l.length) j (u:Value) (hj:j<7) (hu:l[i].c[j]?=some u)=>h.cell (i * 7+j) u (by unfold dd;rw[qr Rd.c 7 (fun _=>rfl) l i j hi hj];exact hu)
 rcases h.2 with ⟨rfl,hz⟩|⟨g,cap,cur,fz,rfl,_,hg,_,kZ,jk,_,_⟩
 ·refine⟨none,0,by rw[hz],⟨by omega,by omega,fun _=>rfl⟩,hn,fun i x hi=>?_⟩;have:=(List.getElem?_eq_some_iff.1 hi).1;omega
 ·refine⟨some ⟨g,0,none⟩,cap,rfl,⟨kZ,by simp only[maxLen]at jk;omega,fun e=>by cases e⟩,hn,fun i x hi=>⟨g,0,rfl,?_⟩⟩;obtain⟨gZ,rfl⟩:=List.getElem?_eq_some_iff.1 hi;obtain⟨r0,r1,r2,r3,r4,r5,r6⟩:=hx i gZ
  have key:∀ j u,j<7->l[i].c[j]?=some u->w.cell? ⟨g,0+i * 7+j,none⟩=some u:=fun j u hj hu=>by
   obtain⟨g',c',e1,e2⟩:=aU i gZ j u hj hu;have:g=g':=by simp at e1;exact e1.1
   rw[this,Nat.zero_add];exact e2
  exact⟨⟨key 0 _ (by omega) rfl,r0⟩,⟨key 1 _ (by omega) rfl,r1⟩,⟨key 2 _ (by omega) rfl,r2⟩,⟨key 3 _ (by omega) rfl,r3⟩,⟨key 4 _ (by omega) rfl,r4⟩,⟨key 5 _ (by omega) rfl,r5⟩,⟨key 6 _ (by omega) rfl,r6⟩⟩
theorem Tryz.infoRound:(Tryz.prog.info? 141).map (fun i=>(i.zero,i.size,i.bytes))=some (some (.agg #[.int .i64 0,.int .i64 0,.int .i64 0,.int .i64 0,.int .i64 0,.int .i64 0,.int .i64 0]),7,56):=by kernel_rfl
theorem kJ{k l:IntKind} {a b c d:Int} (h1:a=b) (h2:c=d):Ending.returned (.tuple #[.int k a,.int l c])=.returned (.tuple #[.int k b,.int l d]):=by rw[h1,h2]
abbrev rE(p:Pb) (vc vs:Value):Value:=.agg #[.int .i64 p.t.n,.int .i64 p.t.ins,.int .i64 p.t.outs,vc,.int .i64 p.a.n,vs,.int .i64 p.rounds]
theorem Ib(p:Pb) (vc vs:Value) (w:World) (hc:bS w vc p.t.cases) (hs:bF w vs p.a.states) (hN:movesN p.a.states<1099511627776) :
  Calls Tryz.prog 190 #[rE p vc vs] w fun e w'=>e=.returned (.int .i64 (probE p))/\Below w.heap.size w w':=by
 have GC:=aa hc;have GS:=aa hs;obtain⟨pc,cc,rfl,_⟩:=hc.at;obtain⟨ps,cs,rfl,_⟩:=hs.at;clear hc hs;have HV:am (probE p=if taskE p.t≠0 then taskE p.t else if advE p.a≠0 then advE p.a else if p.t.n≠p.a.n then 22 else if p.rounds<0\/6<p.rounds then 2 else 0):=by exact rfl
 go_enter Tryz.func190,Tryz.ntmps190
 go_wp2_with fail
 refine aN (fun W=>Below w.heap.size w W/\W.heap[w.heap.size]?=some (.cells #[.int .i64 p.t.n,.int .i64 p.t.ins,.int .i64 p.t.outs,.slice pc p.t.cases.length cc,.int .i64 p.a.n,.slice ps p.a.states.length cs,.int .i64 p.rounds] 29)) ⟨by go_grown,aq _ _⟩ (fun W0 aZ=>?_);obtain⟨aI,bI⟩:=aZ;refine(ro p.t _ W0 (GC.o.up up_case aI)).mono ?_;rintro e w1 ⟨rfl,aJ⟩;have gB:=ae aI aJ;have eK:=af aJ bI;have t1:=ab eK;generalize taskE p.t=et at HV;have db:=aa eK;clear eK bI;by_cases oZ:et=0
 case neg=>
  have Oi:(et != 0)=true:=by simpa using oZ
  go_wp2_with fail
  go_ret
  exact⟨aG (by rw[HV.o,if_pos oZ]),gB⟩
 subst oZ
 go_wp2_with fail
 refine(zC p.a _ w1 (GS.o.up up_moves gB) hN).mono ?_;rintro e w2 ⟨rfl,a8⟩;have kP:=ae gB a8;have t2:=ab (af a8 db.o);clear t1;generalize advE p.a=ea at HV;by_cases yN:ea=0
 case neg=>
  have hea':(ea != 0)=true:=by simpa using yN
  go_wp2_with fail
  go_ret
  exact⟨aG (by rw[HV.o,if_neg (by simp),if_pos yN]),kP⟩
 subst yN
 go_wp2_with fail
 all_goals
  go_ret
  refine⟨aG ?_,kP⟩;rw[HV.o]
  go_light
  grind
theorem Il(P:Program) (t:TypeId) (w:World):(Instr.makeMap t none).run P w=.ok (.map (some w.heap.size)) (w.alloc (.map #[] 0)):=rfl
def hC(f:Nat->Int) (q:Nat):Array Value:=((List.range 5).map fun j=>Value.int .i64 (if j<q then f j else 0)).toArray
theorem Fi(f:Nat->Int) (q:Nat):(hC f q).size=5:=by simp[hC]
theorem Jc(f:Nat->Int) (q j:Nat) (hj:j<5):(hC f q)[j]?=some (.int .i64 (if j<q then f j else 0)):=by simp[hC,hj]
theorem Xw(f:Nat->Int) (q:Nat) (hq:q<5):(hC f q).setIfInBounds q (.int .i64 (f q))=hC f (q+1):=by
 apply Array.ext_getElem?;intro j;rw[Array.getElem?_setIfInBounds];by_cases hj:j<5
 ·rw[Jc _ _ _ hj,Jc _ _ _ hj];by_cases e:q=j
  ·subst e;rw[if_pos rfl,if_pos (by rw[Fi];exact hj),if_pos (by omega)]
  ·rw[if_neg e];by_cases h:j<q
   ·rw[if_pos h,if_pos (by omega)]
   ·rw[if_neg h,if_neg (by omega)]
 ·have h1:(hC f q)[j]?=none:=by rw[Array.getElem?_eq_none];rw[Fi];omega
  have h2:(hC f (q+1))[j]?=none:=by rw[Array.getElem?_eq_none];rw[Fi];omega
  rw[h1,h2,if_neg (by omega)]
theorem Fj(f:Nat->Int):hC f 0=#[.int .i64 0,.int .i64 0,.int .i64 0,.int .i64 0,.int .i64 0]:=rfl
theorem Wy(f:Nat->Int):hC f 5=#[.int .i64 (f 0),.int .i64 (f 1),.int .i64 (f 2),.int .i64 (f 3),.int .i64 (f 4)]:=rfl
theorem Lg(tmps:Array Value) (f:Func) (s:Nat) (hf:f.results=#[.cell s 137]) (B:Nat) (W:World) (x0 x1 x2 x3 x4:Int) (ty:TypeId) (h1:tmps[s]?.getD undef=.pointer (some ⟨B,0,none⟩)) (hb:W.heap[B]?=some (.cells #[.int .i64 x0,.int .i64 x1,.int .i64 x2,.int .i64 x3,.int .i64 x4] ty)) :
  (results f tmps).run Tryz.prog W=.ok (.agg #[.int .i64 x0,.int .i64 x1,.int .i64 x2,.int .i64 x3,.int .i64 x4]) W:=by
 have t1:=ab hb;simp[results,hf,go_sem,h1,t1]
def countedR(L:Int) (a:Adv) (r:Int):Int × Int:=
 if advE a≠0 then(0,advE a) else if r<0\/6<r then(0,2) else if L<numberL L a r.toNat then(0,17) else(numberL L a r.toNat,0)
theorem Bv(a:Adv) (v:Value) (r L:Int) (w:World) (hv:bF w v a.states) (hN:movesN a.states<1099511627776) (hL:0<=L) (hL2:L<=1048576) :
  Calls Tryz.prog 192 #[.agg #[.int .i64 a.n,v],.int .i64 r,.int .i64 L] w fun e w'=>e=.returned (.tuple #[.int .i64 (countedR L a r).1,.int .i64 (countedR L a r).2])/\Below w.heap.size w w':=by
 have G:=aa hv;obtain⟨pa,ca,rfl,_⟩:=hv.at;clear hv
 go_enter Tryz.func192,Tryz.ntmps192
 go_wp2_with fail
 refine aN (fun W=>Below w.heap.size w W/\W.heap[w.heap.size]?=some (.cells #[.int .i64 a.n,.slice pa a.states.length ca] 27)) ⟨by go_grown,aq _ _⟩ (fun W0 aZ=>?_);obtain⟨aI,bI⟩:=aZ;refine(zC a _ W0 (G.o.up up_moves aI) hN).mono ?_;rintro e w1 ⟨rfl,aJ⟩;have jt:=ae aI aJ;have eK:=af aJ bI;have t1:=ab eK;have HE:=aa (show advE a=0->_ from fun h=>ir h);have HV:am (countedR L a r=if advE a≠0 then(0,advE a) else if r<0\/6<r then(0,2) else if L<numberL L a r.toNat then(0,17) else(numberL L a r.toNat,0)):=by exact rfl
 generalize advE a=ea at HE HV;have db:=aa eK;clear eK bI;by_cases yN:ea=0
 case neg=>
  have hea':(ea != 0)=true:=by simpa using yN
  have da:am (countedR L a r=(0,ea)):=by(have h:countedR L a r=(0,ea):=by rw[HV.o,if_pos yN]);exact h
  clear HV yN
  go_wp2_with fail
  go_ret2
  refine⟨kJ ?_ ?_,jt⟩<;>rw[da.o]
 subst yN;by_cases hr:r<0\/6<r
 ·have da:am (countedR L a r=(0,2)):=by(have h:countedR L a r=(0,2):=by rw[HV.o,if_neg (by simp),if_pos hr]);exact h
  clear HV;rcases hr with hr|hr
  ·go_wp2_with fail
   go_ret2
   refine⟨kJ ?_ ?_,jt⟩<;>rw[da.o]
  ·go_wp2_with fail
   go_ret2
   refine⟨kJ ?_ ?_,jt⟩<;>rw[da.o]
 obtain⟨k,rfl⟩:∃ k:Nat,r=(k:Int):=⟨r.toNat,by omega⟩;have hk:k<=6:=by omega
 rw[Int.toNat_natCast,if_neg (by simp),if_neg hr]at HV;have Me:¬ ((k:Int)<0):=by omega
 have MS:¬ (6<(k:Int)):=by omega
 clear hr
 go_wp2_with fail
 refine(Ia a _ k L w1 (G.o.up up_moves jt) (HE.o trivial).1.1 (HE.o trivial).1.2 (HE.o trivial).2.1 hk hL hL2).mono ?_;rintro e w2 ⟨rfl,a8⟩;have sK:=ae jt a8;generalize numberL L a k=x at HV;by_cases hx:L<x
 ·have da:am (countedR L a k=(0,17)):=by(have h:countedR L a k=(0,17):=by rw[HV.o,if_pos hx]);exact h
  clear HV t1
  go_wp2_with fail
  go_ret2
  refine⟨kJ ?_ ?_,sK⟩<;>rw[da.o]
 ·have da:am (countedR L a k=(x,0)):=by(have h:countedR L a k=(x,0):=by rw[HV.o,if_neg hx]);exact h
  clear HV t1
  go_wp2_with fail
  go_ret2
  refine⟨kJ ?_ ?_,sK⟩<;>rw[da.o]
theorem Jd(a:Adv) (v:Value) (r:Int) (w:World) (hv:bF w v a.states) (hN:movesN a.states<1099511627776) :
  Calls Tryz.prog 191 #[.agg #[.int .i64 a.n,v],.int .i64 r] w fun e w'=>e=.returned (.tuple #[.int .i64 (countedR 1048576 a r).1,.int .i64 (countedR 1048576 a r).2])/\Below w.heap.size w w':=by
 have G:=aa hv;obtain⟨pa,ca,rfl,_⟩:=hv.at;clear hv
 go_enter Tryz.func191,Tryz.ntmps191
 go_wp2_with fail
 refine aN (fun W=>Below w.heap.size w W) (by go_grown) (fun W0 aI=>?_);refine(Bv a _ r 1048576 W0 (G.o.up up_moves aI) hN (by omega) (by omega)).mono ?_;rintro e w1 ⟨rfl,aJ⟩
 go_wp2_with fail
 go_ret2
 exact⟨rfl,ae aI aJ⟩
theorem Gh(a b:List Rd):dd (a++b)=dd a++dd b:=by simp[dd]
theorem wj(v:Value) (l:List Int) (w:World) (hv:aT w v l) (hn:l.length<=1099511627776) :
  Calls Tryz.prog 195 #[v] w fun e w'=>∃ u,e=.returned u/\aH w' w.heap.size 3 1 u l.length (l.map (Value.int .i64))/\Below w.heap.size w w':=by
 refine(zy v _ w (Bl hv) (by simpa using hn)).mono ?_;rintro e w' ⟨u,rfl,ho,hb⟩;exact⟨u,rfl,aH.of_owns (by simpa using ho),hb⟩
theorem wl(v:Value) (l:List Rd) (w:World) (hv:kQ w v l) (hn:l.length<=1048576) :
  Calls Tryz.prog 165 #[v] w fun e w'=>∃ u,e=.returned u/\aH w' w.heap.size 141 7 u l.length (dd l)/\Below w.heap.size w w':=by
 obtain⟨i0,hi,bX,bP,bY⟩:=info_parts Tryz.infoRound;have HW:=aa (P2 hv);have kh:=fun w=>Lib.run_eql_slice_nil (P:=Tryz.prog) w 87
 obtain⟨a,cap,rfl,⟨_,_,kl⟩,_,_⟩:=hv;cases a with
 | none=>
  have hl:l.length=0:=by have:=kl rfl;omega
  obtain rfl:l=[]:=List.eq_nil_of_length_eq_zero hl;obtain rfl:=kl rfl
  go_enter Tryz.func165,Tryz.ntmps165
  go_wp2_with fail
  go_ret
  exact⟨_,rfl,aH.nil _ _ _ _,Below.refl _ _⟩
 | some ad=>
  have bU:∀ j u,(dd l)[j]?=some u->(w.alloc (.cells #[] 141)).cell? (ad.add j)=some u:=fun j u hj=>by
   obtain⟨b,o,c,e,eQ⟩:=HW.o j u hj;have:ad=⟨b,o,none⟩:=by simp at e;exact e.1
   subst this;have:(Addr.add ⟨b,o,none⟩ j)=⟨b,o+j,none⟩:=by unfold Addr.add;split<;>simp_all
   rw[this];exact ak (by go_grown) eQ
  have aS:aH (w.alloc (.cells #[] 141)) w.heap.size 141 7 (.slice (some ⟨w.heap.size,0,none⟩) 0 0) 0 []:=⟨by simp,.inr ⟨w.heap.size,0,#[],(0,0),rfl,Nat.le_refl _,aq _ _,fun i hi=>by simp at hi,by omega,by simp[maxLen],by simp,by simp⟩⟩;have bA:=aa bU;have bG:=aa aS;clear bU aS kl
  go_enter Tryz.func165,Tryz.ntmps165
  go_wp2_with (at_builtin;(refine aX _ rfl (.tmp 5) (.tmp 6) 87 rfl w.heap.size 141 i0 _ 7 56 Tryz.underlying87 hi bX bP bY rfl (by decide) _ 0 [] rfl bG.o ad l.length cap (dd l) rfl (zD l) bA.o (uu l) (by unfold maxLen;omega) (by omega) (by simp) ?_;intro v' w1 gU lY _;obtain⟨av',cv',rfl⟩:=gU.slice))
  go_ret
  rw[Nat.zero_add,List.nil_append]at gU;refine⟨_,rfl,by simpa using gU,Below.grown (w:=w.alloc (.cells #[] 141)) (by go_grown) lY (by simp) (fun k hk=>?_)⟩;cases hk;exact Nat.le_refl _
theorem Ic{P:Program} (w:World) (base:Nat) (t ty e:TypeId) (i:TypeInfo) (size:Nat) (ht:P.underlying t=some (.slice e)) (hi:P.info? e=some i)
  (ff:i.size=size) (g cap n:Nat) (xs:List Value) (aS:aH w base e size (.slice (some ⟨g,0,none⟩) n cap) n xs)
  (a:Addr) (m c:Nat) (news:List Value) (hl:news.length=m * size) (bU:∀ j u,news[j]?=some u->w.cell? (a.add j)=some u) (h1:∀ u∈news,u.oneCell'=true) (mZ:n+m<=cap) :
  ∃ w',(Builtin.append_ #[t,t] ty #[.slice (some ⟨g,0,none⟩) n cap,.slice (some a) m c]).run P w=.ok (.slice (some ⟨g,0,none⟩) (n+m) cap) w'/\aH w' base e size (.slice (some ⟨g,0,none⟩) (n+m) cap) (n+m) (xs++news)/\w.grownBy w' (some g)/\w'.heap.size=w.heap.size:=by
 obtain⟨iQ,h⟩:=aS;rcases h with ⟨h,_⟩|⟨g',cap',cur,fz,h,DY,hg,oh,jH,rk,jU,Oh⟩
 ·cases h
 cases h
 subst ff;have J4:n * i.size+news.length<=cur.size:=by rw[hl,jU,<-Nat.add_mul];exact Nat.mul_le_mul_right _ mZ
 have hr:=run_append_room_cells (P:=P) w t ty e i ht hi g 0 n cap a m c news hl bU h1 mZ (fun j hj=>by rw[Nat.zero_add,ab hg];simp;omega)
  (fun j hj=>by
   simp only[World.frozen?,hg,Nat.zero_add];have:=oh (n * i.size+j) (by omega)
   simpa using this)
 rw[Nat.zero_add]at hr;obtain⟨cur',g1,g2,g3⟩:=mW g e fz news (n * i.size) w cur hg J4;obtain⟨o1,o2,o3,o4,o5⟩:=l9 g news (n * i.size) w;refine⟨_,hr,⟨by rw[List.length_append,iQ,hl,Nat.add_mul],.inr ⟨g,cap,cur',fz,rfl,DY,g1,fun k hk=>oh k (by omega),mZ,rk,by omega,?_⟩⟩,⟨o2,o3,o4,by omega,fun k _ hk=>o1 k (fun e=>hk (by rw[e]))⟩,o5⟩;rw[Nat.add_mul,<-hl,g3,Oh]
theorem Cw{P:Program} {ops:Array Oper} {rest:List Oper} {o:Oper} {a:Act} {w:World} {Q:Exit->Act->World->Prop} (l3:o.guard=none) (s x:Operand) (t:TypeId)
  (ho:o.op=.call { callee:=.builtin .append,args:=#[s,x],argTypes:=#[t,t] })
  (base:Nat) (e:TypeId) (i:TypeInfo) (size:Nat) (ht:P.underlying t=some (.slice e)) (hi:P.info? e=some i)
  (ff:i.size=size) (g cap n:Nat) (xs:List Value) (hs:a.eval s=.slice (some ⟨g,0,none⟩) n cap) (aS:aH w base e size (.slice (some ⟨g,0,none⟩) n cap) n xs)
  (ad:Addr) (m c:Nat) (news:List Value) (hx:a.eval x=.slice (some ad) m c) (hl:news.length=m * size) (bU:∀ j u,news[j]?=some u->w.cell? (ad.add j)=some u) (h1:∀ u∈news,u.oneCell'=true) (mZ:n+m<=cap)
  (h:∀ w',aH w' base e size (.slice (some ⟨g,0,none⟩) (n+m) cap) (n+m) (xs++news)->w.grownBy w' (some g)->w'.heap.size=w.heap.size->wpList P ops Q rest (a.put o.dst (.slice (some ⟨g,0,none⟩) (n+m) cap)) w'):wpList P ops Q (o :: rest) a w:=by
 refine wpList_plain l3 fun _ hK=>?_
 obtain⟨w',hr,h2,h3,h4⟩:=Ic (P:=P) w base t o.type e i size ht hi ff g cap n xs aS ad m c news hl bU h1 mZ;unfold Oper.wp execOp;simp only[ho,resolve,invoke,builtin,Sem.run_bind,Sem.run_pure,Result.andThen_ok,List.map_toArray,List.map_cons,List.map_nil,hs,hx,hr];exact hK _ _ (h w' h2 h3 h4)
theorem aH.shrink{w:World} {base:Nat} {e:TypeId} {k:Nat} {g cap n m:Nat} {xs ys:List Value} (h:aH w base e k (.slice (some ⟨g,0,none⟩) (n+m) cap) (n+m) (xs++ys)) (hx:xs.length=n * k):aH w base e k (.slice (some ⟨g,0,none⟩) n cap) n xs:=by
 obtain⟨hl,h⟩:=h;rcases h with ⟨h,_⟩|⟨g',cap',cur,fz,h,DY,hg,oh,jH,rk,jU,ht⟩
 ·cases h
 cases h
 refine⟨hx,.inr ⟨g,cap,cur,fz,rfl,DY,hg,oh,by omega,rk,jU,?_⟩⟩;have h2:=congrArg (List.take (n * k)) ht;rw[List.take_take,List.take_append_of_le_length (by omega),List.take_of_length_le (by omega:xs.length<=n * k)]at h2;rw[<-h2];congr 1;have:=Nat.mul_le_mul_right k (Nat.le_add_right n m);omega
theorem P3(a b:Rd) (w:World):(binOp .neq 141 a.v b.v).run Tryz.prog w=.ok (.bool (!decide (a=b))) w:=by
 rw[run_neq_struct,Fb 9996];rfl
theorem fq{α:Type} [DecidableEq α] {a b:List α} (d:α) (hl:a.length=b.length) (h:∀ j,j<a.length->a.getD j d=b.getD j d):a=b:=
 List.ext_getElem hl fun i h1 h2=>by
  have:=h i h1
  rwa [aA d h1,aA d h2]at this
theorem Dr(va vb:Value) (a b:List Rd) (w:World) (ha:kQ w va a) (hb:kQ w vb b) :
  Calls Tryz.prog 167 #[va,vb] w fun e w'=>e=.returned (.bool (decide (a=b)))/\Below w.heap.size w w':=by
 obtain⟨pa,ca,rfl,la1,la2,ea⟩:=ha.at;obtain⟨pb,cb,rfl,lb1,lb2,eb⟩:=hb.at;clear ha hb;have EA:=aa ea;clear ea;have EB:=aa eb;clear eb;generalize pz:decide (a=b)=res;have jP:=aa pz;clear pz;by_cases hl:a.length=b.length
 case neg=>
  have iD:((a.length:Int) != (b.length:Int))=true:=by simp;omega
  have HR:am (res=false):=by(have h:res=false:=by(rw[<-jP.o];simp;intro h;exact hl (by rw[h])));exact h
  clear hl
  go_enter Tryz.func167,Tryz.ntmps167
  go_wp2
  go_ret
  exact⟨aR HR.o.symm,Below.refl _ _⟩
 have iD:((a.length:Int) != (b.length:Int))=false:=by simp[hl]
 have HL:=aa hl;clear hl
 go_enter Tryz.func167,Tryz.ntmps167
 go_wp2
 clear iD
 go_loopw [13] (fun i wr=>Below w.heap.size w wr/\∃ k:Nat,k<=a.length/\i=.int .i64 k/\∀ j,j<k->a.getD j default=b.getD j default) (fun i _=>a.length - (intOf i).toNat)
 ·exact⟨Below.refl _ _,0,by omega,rfl,by simp⟩
 ·
  obtain⟨az,k,hk,rfl,aW⟩:=hrel;have H:=aa aW;clear aW;by_cases aB:k<a.length
  ·have je:k<b.length:=by have:=HL.o;omega
   obtain⟨b1,o1,rfl,⟨c0,r0⟩,⟨c1,r1⟩,⟨c2,r2⟩,⟨c3,r3⟩,⟨c4,r4⟩,⟨c5,r5⟩,⟨c6,r6⟩⟩:=EA.o k aB;obtain⟨b2,o2,rfl,⟨e0,s0⟩,⟨e1,s1⟩,⟨e2,s2⟩,⟨e3,s3⟩,⟨e4,s4⟩,⟨e5,s5⟩,⟨e6,s6⟩⟩:=EB.o k je;have c0':∀ y:ExtW wr,y.val.cell? ⟨b1,o1+k * 7,none⟩=_:=fun y=>y.cell (ak az c0)
   have c1':∀ y:ExtW wr,y.val.cell? ⟨b1,o1+k * 7+1,none⟩=_:=fun y=>y.cell (ak az c1)
   have c2':∀ y:ExtW wr,y.val.cell? ⟨b1,o1+k * 7+2,none⟩=_:=fun y=>y.cell (ak az c2)
   have c3':∀ y:ExtW wr,y.val.cell? ⟨b1,o1+k * 7+3,none⟩=_:=fun y=>y.cell (ak az c3)
   have c4':∀ y:ExtW wr,y.val.cell? ⟨b1,o1+k * 7+4,none⟩=_:=fun y=>y.cell (ak az c4)
   have c5':∀ y:ExtW wr,y.val.cell? ⟨b1,o1+k * 7+5,none⟩=_:=fun y=>y.cell (ak az c5)
   have c6':∀ y:ExtW wr,y.val.cell? ⟨b1,o1+k * 7+6,none⟩=_:=fun y=>y.cell (ak az c6)
   have e0':∀ y:ExtW wr,y.val.cell? ⟨b2,o2+k * 7,none⟩=_:=fun y=>y.cell (ak az e0)
   have e1':∀ y:ExtW wr,y.val.cell? ⟨b2,o2+k * 7+1,none⟩=_:=fun y=>y.cell (ak az e1)
   have e2':∀ y:ExtW wr,y.val.cell? ⟨b2,o2+k * 7+2,none⟩=_:=fun y=>y.cell (ak az e2)
   have e3':∀ y:ExtW wr,y.val.cell? ⟨b2,o2+k * 7+3,none⟩=_:=fun y=>y.cell (ak az e3)
   have e4':∀ y:ExtW wr,y.val.cell? ⟨b2,o2+k * 7+4,none⟩=_:=fun y=>y.cell (ak az e4)
   have e5':∀ y:ExtW wr,y.val.cell? ⟨b2,o2+k * 7+5,none⟩=_:=fun y=>y.cell (ak az e5)
   have e6':∀ y:ExtW wr,y.val.cell? ⟨b2,o2+k * 7+6,none⟩=_:=fun y=>y.cell (ak az e6)
   have HX:=aa (aA default aB);have HY:=aa (aA default je);clear c0 r0 e0 s0 c1 r1 e1 s1 c2 r2 e2 s2 c3 r3 e3 s3 c4 r4 e4 s4 c5 r5 e5 s5 c6 r6 e6 s6;generalize a[k]=x at c0' c1' c2' c3' c4' c5' c6' HX;generalize b[k]=y at e0' e1' e2' e3' e4' e5' e6' HY;have bM:=fun w=>P3 x y w
   go_wp2
   by_cases cG:x=y
   ·have hd:decide (x=y)=true:=by simpa using cG
    have oU:am (a.getD k default=b.getD k default):=by(have h:a.getD k default=b.getD k default:=by(rw[HX.o,HY.o,cG]));exact h
    rw[hd]at bM;clear cG hd;refine aD (by kernel_rfl) (by kernel_rfl) ?_
    repeat (go_big_quiet_step (fail))
    refine wpQuiet_nil ?_;intro _ eJ;obtain⟨xq,dq⟩:=eJ;subst dq;clear c0' c1' c2' c3' c4' c5' c6' e0' e1' e2' e3' e4' e5' e6' bM
    go_wp2
    go_roundw
    ·exact⟨ae az xq.ext,k+1,by omega,by go_num,aV H.o oU.o⟩
    ·simp[intOf];omega
   ·have hd:decide (x=y)=false:=by simpa using cG
    have HR:am (res=false):=by(have h:res=false:=by(rw[<-jP.o];simp;intro h;subst h;rw[HX.o]at HY;exact cG HY.o));exact h
    rw[hd]at bM;clear cG hd;refine aD (by kernel_rfl) (by kernel_rfl) ?_
    repeat (go_big_quiet_step (fail))
    refine wpQuiet_nil ?_;intro _ eJ;obtain⟨xq,dq⟩:=eJ;subst dq;clear c0' c1' c2' c3' c4' c5' c6' e0' e1' e2' e3' e4' e5' e6' bM
    go_wp2
    go_ret
    exact⟨aR HR.o.symm,ae az xq.ext⟩
  ·have HR:am (res=true):=by(have h:res=true:=by(rw[<-jP.o];simp;exact fq default HL.o fun j hj=>H.o j (by omega)));exact h
   go_wp2
   go_ret
   exact⟨aR HR.o.symm,az⟩
end Go.Proofs.YtmeaoneaephjeaaGreatDoor
namespace Go.Proofs.YtmeaoneaephjeaaGreatDoor
open Go.RowKit Go Go.Shelf
attribute [local go_sem] Oper.semAt_some
theorem wm(P:Program) (w:World) (a:Addr) (m:Mode) (g:Fn) (b c:Array Value):(store a (.func g b c) m).run P w=stored P w a (.func g b c) m:=run_store P w a _ m rfl
attribute [local go_sem] wm
abbrev iH(w:World):Prop:=TabAt 1 Lib.deBruijn64tab w
theorem iH.up{w w':World} (h:iH w) (hb:Below w.heap.size w w'):iH w':=fun j hj=>ak hb (h j hj)
theorem iH.keep{w w':World} (h:iH w) (hb:js w.heap.size w w'):iH w':=fun j hj=>hb.cell (h j hj)
theorem Wz(x k idx:Nat) (w:World) (dj:((x:Int) == 0)=false)
  (key:IntKind.u64.wrap (bits BinOp.and IntKind.u64 (x:Int) (IntKind.u64.wrap (-(x:Int))) * 285870213051353865) / 288230376151711744=(idx:Int))
  (hi:idx<64) (hk:k<64) (eQ:w.cell? ⟨1,idx,none⟩=some (.int .u8 k)) :
  Calls Tryz.prog 178 #[.int .u64 x] w fun e w'=>e=.returned (.int .i64 k)/\w=w':=by
 go_enter Tryz.func178,Tryz.ntmps178
 go_wp2_with (simp only[key])
 go_ret
 exact⟨rfl,rfl⟩
def xG(l:List Int):List Value:=l.map (Value.int .i64)
theorem aH.ints{w:World} {base:Nat} {v:Value} {l:List Int} (h:aH w base 3 1 v l.length (xG l)) (hl:l.length<=1048576) (hr:∀ x∈l,bN x):aT w v l:=by
 rcases h.2 with ⟨rfl,h0⟩|⟨g,cap,cur,fz,rfl,_,hg,_,jH,rk,_,ht⟩
 ·have:l=[]:=List.eq_nil_of_length_eq_zero h0;subst this;exact⟨none,0,rfl,⟨by simp,by omega,fun _=>rfl⟩,by simp,fun i x hx=>by simp at hx⟩
 ·refine⟨some ⟨g,0,none⟩,cap,rfl,⟨jH,by unfold maxLen at rk;omega,fun e=>by cases e⟩,by omega,fun i x hx=>⟨g,0,rfl,?_,hr x (List.mem_of_getElem? hx)⟩⟩;rw[Nat.zero_add,Nat.mul_one,ab hg];have h1:(xG l)[i]?=some (.int .i64 x):=by unfold xG;rw[List.getElem?_map,hx];rfl
  rw[<-ht,List.getElem?_take]at h1;split at h1
  ·simpa using h1
  ·cases h1
theorem yu(v:Value) (l:List Int) (x:Int) (w:World) (hv:aT w v l) :
  Calls Tryz.prog 48 #[v,.int .i64 x] w fun e w'=>e=.returned (.int .i64 (firstIx l.length fun i=>decide (x=l.getD i 0)))/\Below w.heap.size w w':=by
 obtain⟨pa,ca,rfl,la1,la2,ea⟩:=hv.at;have EA:=aa ea;clear hv ea;generalize hr:(firstIx l.length fun i=>decide (x=l.getD i 0))=r;have HR:=aa hr;clear hr
 go_enter Tryz.func48,Tryz.ntmps48
 go_wp2
 go_loop [8] (fun i=>∃ k:Nat,k<=l.length/\i=.int .i64 k/\∀ j,j<k->decide (x=l.getD j 0)=false) (fun i=>l.length - (intOf i).toNat)
 ·exact⟨0,by omega,rfl,by simp⟩
 ·
  obtain⟨k,hk,rfl,aW⟩:=hrel;have H:=aa aW;clear aW;by_cases aB:k<l.length
  ·obtain⟨b1,o1,rfl,h1⟩:=EA.o k aB;rw[Nat.mul_one]at h1;have c1:=h1.1;have HG:=aa (aA 0 aB);clear h1;generalize l[k]=y at c1 HG;by_cases cG:x=y
   ·subst cG
    go_wp2
    go_ret
    exact⟨aG (by rw[<-HR.o,dk _ k _ aB H.o (by rw[HG.o];simp)]),Below.refl _ _⟩
   ·have hxy':(x == y)=false:=by simpa using cG
    have HX:am (decide (x=l.getD k 0)=false):=by(have h:decide (x=l.getD k 0)=false:=by(rw[HG.o];simpa using cG));exact h
    clear cG
    go_wp2
    go_round
    ·exact⟨k+1,by omega,by go_num,aV H.o HX.o⟩
    ·simp[intOf];omega
  ·go_wp2
   go_ret
   exact⟨aG (by rw[<-HR.o,dM];intro j hj;exact H.o j (by omega)),Below.refl _ _⟩
theorem Fk(l:List Int) (x:Int):(anyLt l.length fun i=>decide (x=l.getD i 0))=l.contains x:=by
 rw[Bool.eq_iff_iff,lD,List.contains_iff_mem];constructor
 ·rintro⟨k,hk,h⟩;simp only[decide_eq_true_eq]at h;rw[aA 0 hk]at h;rw[h];exact List.getElem_mem hk
 ·intro h;obtain⟨k,hk,rfl⟩:=List.getElem_of_mem h;exact⟨k,hk,by rw[aA 0 hk];simp⟩
theorem Cx(v:Value) (l:List Int) (x:Int) (w:World) (hv:aT w v l) :
  Calls Tryz.prog 33 #[v,.int .i64 x] w fun e w'=>e=.returned (.bool (l.contains x))/\Below w.heap.size w w':=by
 have HC:=aa (yu v l x w hv);have HA:am (l.contains x=decide (0<=firstIx l.length fun i=>decide (x=l.getD i 0))):=by(have h:l.contains x=decide (0<=firstIx l.length fun i=>decide (x=l.getD i 0)):=by(rw[qG,Fk]));exact h
 generalize (firstIx l.length fun i=>decide (x=l.getD i 0))=r at HC HA;obtain⟨pa,ca,rfl,_⟩:=hv.at;clear hv
 go_enter Tryz.func33,Tryz.ntmps33
 go_wp2_with fail
 refine HC.o.mono ?_;rintro e w1 ⟨rfl,aJ⟩
 go_wp2_with fail
 go_ret
 exact⟨aR HA.o.symm,aJ⟩
theorem Je{α:Type} {k:Nat} {R:World->Nat->Nat->α->Prop} {W:World} {B n:Nat} {cs:Array Value} {t:TypeId} {xs:List (List α)} (h:W.heap[B]?=some (.cells cs t)) (hn:n=xs.length) (hs:xs.length<=256) (he:∀ i (hi:i<xs.length),∃ v,cs[i]?=some v/\fm k R W v xs[i]):fm 1 (nh k R) W (.slice (some ⟨B,0,none⟩) n n) xs:=by
 subst hn;refine⟨some ⟨B,0,none⟩,xs.length,rfl,⟨Nat.le_refl _,by omega,fun e=>by cases e⟩,by omega,fun i x hx=>⟨B,0,rfl,?_⟩⟩;obtain⟨hi,rfl⟩:=List.getElem?_eq_some_iff.1 hx;obtain⟨v,h1,h2⟩:=he i hi;exact⟨v,by rw[Nat.zero_add,Nat.mul_one,ab h];exact h1,h2⟩
theorem Dt(l:List Obj) (w:World) {k:Nat} {o:Obj} (h:w.heap[k]?=some o):(l.foldl World.alloc w).heap[k]?=some o:=by
 induction l generalizing w with
 | nil=>exact h
 | cons a r ih=>exact ih _ (ar _ h)
theorem Nn(l:List Obj) (w:World) (i:Nat) {o:Obj} (h:l[i]?=some o):(l.foldl World.alloc w).heap[w.heap.size+i]?=some o:=by
 induction l generalizing w i with
 | nil=>simp at h
 | cons a r ih=>
  cases i with
  | zero=>
   simp at h;subst h;exact Dt r _ (aq w a)
  | succ i=>
   have:=ih (w.alloc a) i (by simpa using h);rw[World.size_alloc]at this;rw[show w.heap.size+(i+1)=w.heap.size+1+i by omega];exact this
theorem P4{l:List Int} (h:∀ x∈l,-2<x/\x<100):∀ i,i<l.length->bN (l.getD i 0):=fun i hi=>by
 have:=h _ (List.getElem_mem hi);rw[aA 0 hi];unfold bN;omega
theorem ib{W:World} {B:Nat} (l:List Int) (h:W.heap[B]?=some (.cells (bC l) 3)) (hn:l.length<=256) (hs:∀ x∈l,-2<x/\x<100):aT W (.slice (some ⟨B,0,none⟩) l.length l.length) l:=sC rfl hn h (P4 hs)
theorem P5{α:Type} {k:Nat} {R:World->Nat->Nat->α->Prop} {W:World} {B:Nat} {a b:Value} {t:TypeId} {x y:List α} (h:W.heap[B]?=some (.cells #[a,b] t)) (ha:fm k R W a x) (hb:fm k R W b y):fm 1 (nh k R) W (.slice (some ⟨B,0,none⟩) 2 2) [x,y]:=
 Je h rfl (by simp) fun i hi=>by
  rcases (show i=0\/i=1 by simp at hi;omega) with rfl|rfl
  ·exact⟨a,rfl,ha⟩
  ·exact⟨b,rfl,hb⟩
theorem zF{α:Type} {k:Nat} {R:World->Nat->Nat->α->Prop} {W:World} {B:Nat} {a:Value} {t:TypeId} {x:List α} (h:W.heap[B]?=some (.cells #[a] t)) (ha:fm k R W a x):fm 1 (nh k R) W (.slice (some ⟨B,0,none⟩) 1 1) [x]:=
 Je h rfl (by simp) fun i hi=>by
  obtain rfl:i=0:=by simp at hi;omega
  exact⟨a,rfl,ha⟩
abbrev iC(l:List Int):Obj:=.cells (bC l) 3
abbrev sV(B n:Nat):Value:=.slice (some ⟨B,0,none⟩) n n
theorem nu{W:World} {b c:Nat} {x y:Array Value} {t u:TypeId} {f g:Nat × Nat} (h1:W.heap[b]?=some (.cells x t f)) (h2:W.heap[c]?=some (.cells y u g)) (bM:t≠u):b≠c:=by
 rintro rfl;rw[h1]at h2;cases h2;exact bM rfl
theorem gx{W W':World} {row:Option Nat} (hg:W.grownBy W' row) {k:Nat} {o:Obj} (hk:W.heap[k]?=some o) (hn:row≠some k):W'.heap[k]?=some o:=(hg.block k (aC hk) (fun e=>hn e.symm)).trans hk
theorem Lh{w:World} {base:Nat} {e:TypeId} {k:Nat} {v:Value} {n:Nat} {xs:List Value} (h:aH w base e k v n xs):v.oneCell'=true:=by
 obtain⟨a,c,rfl⟩:=h.slice;rfl
abbrev qz(r:Rd):Prop:=bN r.g.n/\bN r.g.h0/\bN r.g.h1/\bN r.g.h2/\bN r.g.h3/\bN r.g.h4/\bN r.f
abbrev Du(Br Bo Ba Bf:Nat):Value:=.func (.func 193) #[] #[.pointer (some ⟨Br,0,none⟩),.pointer (some ⟨Bo,0,none⟩),.pointer (some ⟨Ba,0,none⟩),.pointer (some ⟨Bf,0,none⟩)]
structure WEnv (a:Adv) (v:Value) (k:Nat) (w:World) (Br Bo Ba Bf wb:Nat) (L:List (List Rd)) (word:List Rd) (W:World):Prop where
 old:Below w.heap.size w W
 lo:w.heap.size<=Bo
 r:W.heap[Br]?=some (.cells #[.int .i64 k] 3)
 a:W.heap[Ba]?=some (.cells #[.int .i64 a.n,v] 27)
 f:W.heap[Bf]?=some (.cells #[Du Br Bo Ba Bf] 259)
 o:∃ vo xs,W.heap[Bo]?=some (.cells #[vo] 221)/\aH W w.heap.size 87 1 vo L.length xs/\∀ i (hi:i<L.length),∃ x,xs[i]?=some x/\aH W (wb+1) 141 7 x L[i].length (dd L[i])
 b:aH W w.heap.size 141 7 (.slice (some ⟨wb,0,none⟩) word.length k) word.length (dd word)
section
variable {a : Adv} {v : Value} {k : Nat} {w : World} {Br Bo Ba Bf wb : Nat} {L : List (List Rd)} {word : List Rd} {W W' : World}
theorem WEnv.up(h:WEnv a v k w Br Bo Ba Bf wb L word W) (hb:Below W.heap.size W W'):WEnv a v k w Br Bo Ba Bf wb L word W':=by
 refine⟨ae h.old hb,h.lo,af hb h.r,af hb h.a,af hb h.f,?_,h.b.up hb⟩;obtain⟨vo,xs,h1,h2,h3⟩:=h.o;exact⟨vo,xs,af hb h1,h2.up hb,fun i hi=>by obtain⟨x,q1,q2⟩:=h3 i hi;exact⟨x,q1,q2.up hb⟩⟩
theorem WEnv.wb_at(h:WEnv a v k w Br Bo Ba Bf wb L word W):∃ cur fz,W.heap[wb]?=some (.cells cur 141 fz)/\w.heap.size<=wb:=by
 obtain⟨_,h⟩:=h.b;rcases h with ⟨h,_⟩|⟨g,cap,cur,fz,h,DY,hg,_⟩
 ·cases h
 ·cases h;exact⟨cur,fz,hg,DY⟩
theorem WEnv.grow_word(h:WEnv a v k w Br Bo Ba Bf wb L word W) (hg:W.grownBy W' (some wb)) {word':List Rd} (hb:aH W' w.heap.size 141 7 (.slice (some ⟨wb,0,none⟩) word'.length k) word'.length (dd word')):WEnv a v k w Br Bo Ba Bf wb L word' W':=by
 obtain⟨cur,fz,B8,yU⟩:=h.wb_at;have kp:∀ {k:Nat} {x:Array Value} {t:TypeId} {f:Nat × Nat},W.heap[k]?=some (.cells x t f)->t≠141->W'.heap[k]?=some (.cells x t f):=fun hk bM=>gx hg hk (fun e=>nu hk B8 bM (dp e).symm)
 refine⟨Below.grown h.old hg h.old.size (fun g e=>by cases e;exact yU),h.lo,kp h.r (by decide),kp h.a (by decide),kp h.f (by decide),?_,hb⟩;obtain⟨vo,xs,h1,h2,h3⟩:=h.o;refine⟨vo,xs,kp h1 (by decide),h2.keepT fun g o e1 e2=>gx hg e2 (fun e=>h2.ne B8 (by decide) g e1 (dp e).symm),fun i hi=>?_⟩;obtain⟨x,q1,q2⟩:=h3 i hi;exact⟨x,q1,q2.keepT fun g o e1 e2=>gx hg e2 (fun e=>by have h4:=(q2.lt g e1).1;have h5:=dp e;omega)⟩
theorem WEnv.shrink{r:Rd} (h:WEnv a v k w Br Bo Ba Bf wb L (word++[r]) W):WEnv a v k w Br Bo Ba Bf wb L word W:=by
 refine⟨h.old,h.lo,h.r,h.a,h.f,h.o,?_⟩;have hb:=h.b;rw[List.length_append,List.length_singleton,Gh]at hb;exact hb.shrink (zD word)
theorem WEnv.put{vo x v':Value} {xs:List Value} {w2:World} (h:WEnv a v k w Br Bo Ba Bf wb L word W) (h1:W.heap[Bo]?=some (.cells #[vo] 221)) (h2:aH W w.heap.size 87 1 vo L.length xs) (h3:∀ i (hi:i<L.length),∃ x,xs[i]?=some x/\aH W (wb+1) 141 7 x L[i].length (dd L[i]))
  {l:List Rd} (hx:aH W (wb+1) 141 7 x l.length (dd l)) (hg:W.grownBy w2 vo.ownBlock) (ho:aH w2 w.heap.size 87 1 v' (L.length+1) (xs++[x])):WEnv a v k w Br Bo Ba Bf wb (L++[l]) word (w2.setCell ⟨Bo,0,none⟩ v'):=by
 have kp:∀ {k:Nat} {x:Array Value} {t:TypeId} {f:Nat × Nat},W.heap[k]?=some (.cells x t f)->t≠87->w2.heap[k]?=some (.cells x t f):=fun hk bM=>gx hg hk (fun e=>h2.ne hk (fun e=>bM e.symm) _ e rfl)
 have Hr:=kp h1 (by decide);have kp2:∀ {k:Nat} {x:Array Value} {t:TypeId} {f:Nat × Nat},W.heap[k]?=some (.cells x t f)->t≠87->t≠221->(w2.setCell ⟨Bo,0,none⟩ v').heap[k]?=some (.cells x t f):=fun hk bM TX=>aK (kp hk bM) (nu hk h1 TX) _ _
 have ko:∀ {x:Value} {l:List Rd} {b:Nat},aH W b 141 7 x l.length (dd l)->aH (w2.setCell ⟨Bo,0,none⟩ v') b 141 7 x l.length (dd l):=fun hq=>(hq.apart h2 (by decide) hg).put (fun g e=>(hq.apart h2 (by decide) hg).ne Hr (by decide) g e) _ _
 have a8:Below w.heap.size w w2:=Below.grown h.old hg h.old.size (fun g e=>(h2.lt g e).1);refine⟨a8.setCell h.lo _,h.lo,kp2 h.r (by decide) (by decide),kp2 h.a (by decide) (by decide),kp2 h.f (by decide) (by decide),⟨v',xs++[x],by rw[aF Hr];rfl,?_,fun i hi=>?_⟩,?_⟩
 ·rw[List.length_append,List.length_singleton];exact ho.put (fun g e=>ho.ne Hr (by decide) g e) _ _
 ·have hl:xs.length=L.length:=by have:=h2.1;omega
  rw[List.length_append,List.length_singleton]at hi;by_cases aB:i<L.length
  ·obtain⟨y,q1,q2⟩:=h3 i aB;refine⟨y,by rw[List.getElem?_append_left (by omega)];exact q1,?_⟩;rw[List.getElem_append_left aB];exact ko q2
  ·obtain rfl:i=L.length:=by omega
   refine⟨x,by rw[<-hl,List.getElem?_append_right (Nat.le_refl _)];simp,?_⟩;have e:(L++[l])[L.length]'(by simp)=l:=by simp
   rw[e];exact ko hx
 ·have hq:=h.b;exact ko (l:=word) hq
end
def jW(a:Adv) (d:Nat) (word:List Rd) (l:List Mv):List (List Rd):=l.flatMap fun m=>(cf a d m.to.toNat).map fun y=>word++(m.r :: y)
theorem Gi(a:Adv) (d s:Nat) (word:List Rd):(cf a (d+1) s).map (word++·)=jW a d word (a.states.getD s []):=by
 simp only[cf,jW,List.map_flatMap,List.map_map];rfl
theorem No(a:Adv) (d:Nat) (word:List Rd) (l:List Mv) (j:Nat) (h:j<l.length):jW a d word (l.take (j+1))=jW a d word (l.take j)++(cf a d l[j].to.toNat).map ((word++[l[j].r])++·):=by
 unfold jW;rw[List.take_succ_eq_append_getElem h,List.flatMap_append];simp
theorem SM(a:Adv) (d:Nat) (word:List Rd) (l:List Mv) (j:Nat):(jW a d word (l.take j)).length<=(jW a d word l).length:=by
 conv=>rhs;rw[<-List.take_append_drop j l]
 unfold jW;rw[List.flatMap_append,List.length_append];omega
structure WCore (a:Adv) (v:Value) (k:Nat) (w:World) (Br Bo Ba Bf wb B9:Nat) (L:List (List Rd)) (word:List Rd) (m:Mv) (D:Nat->Bool) (x:Nat->Value) (W:World):Prop where
 env:WEnv a v k w Br Bo Ba Bf wb L (bif D 7 then word++[m.r] else word) W
 box:W.heap[B9]?=some (.cells #[.int .i64 m.r.g.n,.int .i64 m.r.g.h0,.int .i64 m.r.g.h1,.int .i64 m.r.g.h2,.int .i64 m.r.g.h3,.int .i64 m.r.g.h4,.int .i64 m.r.f,.int .i64 m.to] 143)
 sb:D 6=true->D 7=false->∃ g,x 6=.slice (some ⟨g,0,none⟩) 1 1/\W.heap[g]?=some (.cells #[.int .i64 m.r.g.n,.int .i64 m.r.g.h0,.int .i64 m.r.g.h1,.int .i64 m.r.g.h2,.int .i64 m.r.g.h3,.int .i64 m.r.g.h4,.int .i64 m.r.f] 141)
section
variable {a : Adv} {v : Value} {k : Nat} {w : World} {Br Bo Ba Bf wb B9 : Nat} {L : List (List Rd)} {word : List Rd} {m : Mv} {D : Nat → Bool} {x : Nat → Value} {W : World}
theorem WCore.other(h:WCore a v k w Br Bo Ba Bf wb B9 L word m D x W) {i:Nat} (u:Value) (h6:6≠i) (h7:7≠i):WCore a v k w Br Bo Ba Bf wb B9 L word m (bJ D i) (cI x i u) W:=by
 refine⟨?_,h.box,?_⟩
 ·simpa only[bJ,if_neg h7] using h.env
 ·simpa only[bJ,cI,if_neg h6,if_neg h7] using h.sb
theorem WCore.build(h:WCore a v k w Br Bo Ba Bf wb B9 L word m D x W):WCore a v k w Br Bo Ba Bf wb B9 L word m (bJ D 6) (cI x 6 (.slice (some ⟨W.heap.size,0,none⟩) 1 1)) (W.alloc (.cells #[.int .i64 m.r.g.n,.int .i64 m.r.g.h0,.int .i64 m.r.g.h1,.int .i64 m.r.g.h2,.int .i64 m.r.g.h3,.int .i64 m.r.g.h4,.int .i64 m.r.f] 141)):=by
 refine⟨?_,ar _ h.box,fun _ _=>⟨W.heap.size,by simp[cI],aq _ _⟩⟩;have:=h.env.up (W':=W.alloc (.cells #[.int .i64 m.r.g.n,.int .i64 m.r.g.h0,.int .i64 m.r.g.h1,.int .i64 m.r.g.h2,.int .i64 m.r.g.h3,.int .i64 m.r.g.h4,.int .i64 m.r.f] 141)) (by go_grown);simpa only[bJ,if_neg (show (7:Nat)≠6 by decide)] using this
theorem WCore.app(h:WCore a v k w Br Bo Ba Bf wb B9 L word m D x W) (h7:D 7=false) {w3:World} (u:Value) (ho:aH w3 w.heap.size 141 7 (.slice (some ⟨wb,0,none⟩) (word.length+1) k) (word.length+1) (dd word++dd [m.r])) (hg:W.grownBy w3 (some wb)):WCore a v k w Br Bo Ba Bf wb B9 L word m (bJ D 7) (cI x 7 u) w3:=by
 have he:=h.env;rw[h7]at he;obtain⟨cur,fz,B8,_⟩:=he.wb_at;refine⟨?_,gx hg h.box (fun e=>nu h.box B8 (by decide) (dp e).symm),fun _ e=>by simp[bJ]at e⟩;simp only[bJ,if_true,cond_true];refine he.grow_word hg ?_;rw[List.length_append,List.length_singleton,Gh];exact ho
end
def ZK(wb:Nat) (word:List Rd):MP:=⟨fun x W=>aH W (wb+1) 141 7 x word.length (dd word),fun _ _ _ h hb=>h.up hb⟩
def P6(wb:Nat) (word:List Rd):MP:=⟨fun y W=>∃ x g,aH W (wb+1) 141 7 x word.length (dd word)/\y=.slice (some ⟨g,0,none⟩) 1 1/\W.heap[g]?=some (.cells #[x] 87),fun _ _ _ h hb=>by obtain⟨x,g,h1,h2,h3⟩:=h;exact⟨x,g,h1.up hb,h2,af hb h3⟩⟩
theorem P7{wb:Nat} {word:List Rd} {W:World} {x:Value} {g:Nat} (h1:aH W (wb+1) 141 7 x word.length (dd word)) (h3:W.heap[g]?=some (.cells #[x] 87)):(P6 wb word).p (.slice (some ⟨g,0,none⟩) 1 1) W:=⟨x,g,h1,rfl,h3⟩
theorem Tryz.infoWordRow:(Tryz.prog.info? 87).map (fun i=>(i.zero,i.size,i.bytes))=some (some (.slice none 0 0),1,24):=by kernel_rfl
theorem Np(a:Adv) (v:Value) (k:Nat) (hk:k<=6) (w:World) (hv:bF w v a.states) (pK:∀ s,s<a.states.length->∀ m∈a.states.getD s [],0<=m.to/\m.to.toNat<a.states.length) (Br Bo Ba Bf wb:Nat) :
  ∀ (d:Nat) (s:Nat) (L:List (List Rd)) (word:List Rd) (W:World),word.length+d=k->s<a.states.length->(∀ r∈word,qz r)->L.length+(cf a d s).length<=1048576->WEnv a v k w Br Bo Ba Bf wb L word W →
   Calls Tryz.prog 193 #[.int .i64 s,.slice (some ⟨wb,0,none⟩) word.length k,.pointer (some ⟨Br,0,none⟩),.pointer (some ⟨Bo,0,none⟩),.pointer (some ⟨Ba,0,none⟩),.pointer (some ⟨Bf,0,none⟩)] W fun e W'=>(∃ u,e=.returned u)/\WEnv a v k w Br Bo Ba Bf wb (L++(cf a d s).map (word++·)) word W':=by
 have HV:=aa hv;clear hv;have RR:=aa pK;clear pK;intro d;induction d with
 | zero=>
  intro s L word W hd hs cW cC qE;have fZ:=aa cW;have FY:=aa qE;have rz:=aa cC;have tr:=ab qE.r 0;obtain⟨vo,xs,h1,h2,h3⟩:=qE.o;have to:=ab h1 0;simp at tr to;have Ap:(word.length:Int)=k:=by omega
  have Mm:=aa Ap;have AF:=aa hd;clear cW cC qE hd
  go_enter Tryz.func193,Tryz.ntmps193
  obtain⟨i0,cM,bX,bP,bY⟩:=info_parts Tryz.infoWordRow;have H2:=aa h2;have H3:=aa h3;clear h2 h3;have aB:=(FY.o.wb_at).elim fun _ h=>h.elim fun _ h=>aC h.1
  go_wp2_with fail
  refine fL 4 [14,15,16,17] [MP.eq vo,
   MP.eq (.slice (some ⟨wb,0,none⟩) word.length k),
   ZK wb word,
   P6 wb word] (by kernel_rfl) (by simp) (by decide) rfl (by kernel_rfl) (by kernel_rfl) (by kernel_rfl) ?step ?tail
  case step=>
   intro x W i o s F hi ho hs hB ap hF;have fY:i=0\/i=1\/i=2\/i=3:=by omega
   rcases fY with rfl|rfl|rfl|rfl
   all_goals (obtain rfl:=dp ho.symm;obtain rfl:=dp hs.symm;simp only[bz,cT,List.setIfInBounds_toArray,List.set_cons_succ,List.set_cons_zero,Nat.reduceAdd]at hF)
   ·clear ap hi ho hs;have t1:=ak hB to;subst hF
    go_wp2_with fail
    exact lm _ (Below.refl _ _) rfl
   ·clear ap hi ho hs;subst hF
    go_wp2_with fail
    exact lm _ (Below.refl _ _) rfl
   ·have d1:=p9 (ap ⟨1,.data⟩ (by simp) rfl);clear ap hi ho hs;simp only[d1]at hF;subst hF
    go_wp2_with fail
    refine(wl _ word W ((sE FY.o.b (fun i hi=>fZ.o _ (List.getElem_mem hi)) (by omega)).up up_round hB) (by omega)).mono ?_;rintro e w9 ⟨u9,rfl,jK,dS⟩;have nQ:=aa (jK.base (base':=wb+1) (by have:=hB.size;omega));clear jK
    go_wp2_with fail
    exact lm _ dS nQ.o
   ·have d2:=ap ⟨2,.data⟩ (by simp) rfl;clear ap hi ho hs;obtain⟨a9,c9,e9⟩:=aH.slice d2;rw[e9]at d2;have RW:=aa (show aH W (wb+1) 141 7 (.slice a9 word.length c9) word.length (dd word) from d2);clear d2;simp only[e9]at hF;subst hF
    go_wp2_with fail
    refine aY.mk (.slice (some ⟨W.heap.size,0,none⟩) 1 1) ?_ ?_ ?_
    ·exact(by go_grown)
    ·exact P7 (RW.o.up (by go_grown)) (aq _ _)
    ·first
     | rfl
     | simp only[List.setIfInBounds_toArray,List.set_cons_succ,List.set_cons_zero]
  case tail=>
   intro x W2 F hB aU hF;have d0:x 0=vo:=aU 0 (by omega);have d3:=aU 3 (by omega);obtain⟨x9,g9,jK,e9,wM⟩:∃ x9 g9,aH W2 (wb+1) 141 7 x9 word.length (dd word)/\x 3=.slice (some ⟨g9,0,none⟩) 1 1/\W2.heap[g9]?=some (.cells #[x9] 87):=d3;clear aU;simp only[bz,cT,List.setIfInBounds_toArray,List.set_cons_succ,List.set_cons_zero,Nat.reduceAdd]at hF;rw[d0,e9]at hF;subst hF;have nQ:=aa jK;have KM:=aa wM;have fy:=aa hB;have RM:=fy.o.size;have hL:=rz.o;simp only[cf,List.length_singleton]at hL;clear jK wM hB d0 e9;simp only[List.drop_succ_cons,List.drop_zero];refine aX W2 rfl (.tmp 14) (.tmp 17) 221 rfl w.heap.size 87 i0 _ 1 24 Tryz.underlying221 cM bX bP bY rfl (by decide) _ L.length xs rfl (H2.o.up fy.o) ⟨g9,0,none⟩ 1 1 [x9] rfl rfl (fun j u hj=>?_) (by simpa using Lh nQ.o) (by unfold maxLen;omega) (by omega) (by have:=FY.o.old.size;omega) ?_
   ·cases j with
    | zero=>simp at hj;subst hj;simp[Addr.add,ab KM.o]
    | succ j=>simp at hj
   intro v9 w9 eV du _;have FI:=aa eV;have KL:=aa du;clear eV du;have Hr:=gx KL.o (af fy.o h1) (fun e=>H2.o.ne h1 (by decide) _ e rfl);have tBo:=ab Hr 0;have zBo:=aE Hr 0;simp at tBo;have hBoL:=aC Hr;obtain⟨a9,c9,hv9⟩:=FI.o.slice;subst hv9;clear Hr
   go_wp2_with fail
   go_returns
   refine⟨⟨_,rfl⟩,?_⟩;have e9:L++(cf a 0 s).map (word++·)=L++[word]:=by simp[cf]
   rw[e9];exact(FY.o.up fy.o).put (af fy.o h1) (H2.o.up fy.o) (fun i hi=>by obtain⟨y,q1,q2⟩:=H3.o i hi;exact⟨y,q1,q2.up fy.o⟩) nQ.o KL.o FI.o
 | succ d ih=>
  intro s L word W hd hs cW cC qE;have fZ:=aa cW;have FY:=aa qE;have rz:=aa (show L.length+(jW a d word (a.states.getD s [])).length<=1048576 by rw[<-Gi];simpa using cC);have tr:=ab qE.r 0;have ta:=ab qE.a 1;simp at tr ta;obtain⟨pa,ca,rfl,la1,la2,ea⟩:=HV.o.at;obtain⟨b1,o1,rfl,xc,cx0,hx⟩:=ea s hs;rw[Nat.mul_one]at cx0;have cx:=ak qE.old cx0;clear cx0;obtain⟨px,qx,rfl,x1,x2,ex⟩:=hx.at;have EX:=aa ex;have VG:=aa (aA [] hs);have T5:=aa (RR.o s hs);rw[VG.o]at rz T5;rw[Gi,VG.o];clear hx ex ea cC qE cW;generalize a.states[s]=l at EX x1 x2 cx rz T5;have Ap:((word.length:Int) == (k:Int))=false:=by simp;omega
  have Mm:=aa Ap;have AF:=aa hd;clear hd
  go_enter Tryz.func193,Tryz.ntmps193
  go_wp2_with fail
  clear cx ta tr;obtain⟨i1,pN,_,jj,_⟩:=info_parts Tryz.infoRound
  go_loopw [25] (fun i wr=>∃ j:Nat,j<=l.length/\i=.int .i64 j/\WEnv a (.slice (some ⟨b1,o1,none⟩) a.states.length ca) k w Br Bo Ba Bf wb (L++jW a d word (l.take j)) word wr) (fun i _=>l.length - (intOf i).toNat)
  ·exact⟨0,by omega,rfl,by simpa[jW] using FY.o⟩
  ·
   obtain⟨j,hj,rfl,pg⟩:=hrel;have X8:=aa pg;by_cases aB:j<l.length
   ·obtain⟨b3,o3,rfl,⟨⟨d0,j0⟩,⟨d1,j1⟩,⟨d2,j2⟩,⟨d3,j3⟩,⟨d4,j4⟩,⟨d5,j5⟩,⟨d6,j6⟩⟩,⟨d7,_⟩⟩:=EX.o j aB
    have HINM:am (∀ r∈word++[l[j].r],qz r):=aa (fun r hr=>by
     rcases List.mem_append.1 hr with h|h
     ·exact fZ.o r h
     ·rw[List.mem_singleton]at h;subst h;exact⟨j0,j1,j2,j3,j4,j5,j6⟩)
    have Ke:=No a d word l j aB;have jQ:=SM a d word l (j+1);have HM:=aa (T5.o _ (List.getElem_mem aB))
    have Yd:(L++jW a d word (l.take j)).length+(cf a d l[j].to.toNat).length<=1048576:=by
     have h9:=rz.o;rw[Ke,List.length_append,List.length_map]at jQ;rw[List.length_append];omega
    have HLJ:=aa Yd;have jR:=aa Ke;clear Ke jQ Yd j0 j1 j2 j3 j4 j5 j6;generalize l[j]=m at d0 d1 d2 d3 d4 d5 d6 d7 HINM HM HLJ jR;have HTON:am (((m.to.toNat:Nat):Int)=m.to):=aa (by have:=HM.o.1;omega)
    replace d0:=ak pg.old d0
    replace d1:=ak pg.old d1
    replace d2:=ak pg.old d2
    replace d3:=ak pg.old d3
    replace d4:=ak pg.old d4
    replace d5:=ak pg.old d5
    replace d6:=ak pg.old d6
    replace d7:=ak pg.old d7
    clear pg
    go_wp2_with fail
    refine bu (fun W1=>WEnv a (.slice (some ⟨b1,o1,none⟩) a.states.length ca) k w Br Bo Ba Bf wb (L++jW a d word (l.take j)) word W1/\W1.heap[wr.heap.size]?=some (.cells #[.int .i64 m.r.g.n,.int .i64 m.r.g.h0,.int .i64 m.r.g.h1,.int .i64 m.r.g.h2,.int .i64 m.r.g.h3,.int .i64 m.r.g.h4,.int .i64 m.r.f,.int .i64 m.to] 143)) ⟨X8.o.up (by go_grown),aq _ _⟩ (fun W1 cD=>?_);have fx:=aa cD;clear cD d0 d1 d2 d3 d4 d5 d6 d7
    refine nm 8 [29,30,31,32,33,34,35,36] [some (Du Br Bo Ba Bf),
     some (.pointer (some ⟨wr.heap.size,7,none⟩)),
     some (.int .i64 m.to),
     some (.slice (some ⟨wb,0,none⟩) word.length k),
     some (.pointer (some ⟨wr.heap.size,0,none⟩)),
     some (m.r.v),
     none,
     some ((.slice (some ⟨wb,0,none⟩) (word.length+1) k))] (WCore a (.slice (some ⟨b1,o1,none⟩) a.states.length ca) k w Br Bo Ba Bf wb wr.heap.size (L++jW a d word (l.take j)) word m) (by kernel_rfl) rfl (by decide) rfl (by kernel_rfl) (by kernel_rfl) (by kernel_rfl) (fun _=>⟨fx.o.1.up (by go_grown),af (by go_grown) fx.o.2,nofun⟩) ?step ?tail
    case step=>
     intro x W D i o s F hi ho hs hD cP bR ap hv aM hF;have fY:i=0\/i=1\/i=2\/i=3\/i=4\/i=5\/i=6\/i=7:=by omega
     rcases fY with rfl|rfl|rfl|rfl|rfl|rfl|rfl|rfl
     all_goals (have dP:=cP _ _ hs hD;obtain rfl:=dp ho.symm;obtain rfl:=dp hs.symm)
     ·clear ap hi hv;have e5:F.getD 5 undef=.pointer (some ⟨Bf,0,none⟩):=mh hF (by decide) rfl;clear cP bR;clear hF dP;have t1:=ab aM.env.f 0;simp at t1;have e5':=dI e5;have HD:=aa hD;have bD:=aa aM;clear hD aM
      go_wp2_with fail
      refine bZ.mk _ gg ?_ rfl;exact bD.o.other _ (by decide) (by decide)
     ·clear ap hi hv;have e9:F.getD 9 undef=.pointer (some ⟨wr.heap.size,0,none⟩):=mh hF (by decide) rfl;clear cP bR;clear hF dP;have e9':=dI e9;have HD:=aa hD;have bD:=aa aM;clear hD aM
      go_wp2_with fail
      refine bZ.mk _ gg ?_ rfl;exact bD.o.other _ (by decide) (by decide)
     ·have g1:=ap ⟨1,.data⟩ (by simp) rfl;have d1:=hv 1 _ (by omega) g1 rfl;clear ap hi hv;have e30:=fK hF 1 30 (by decide) rfl (by kernel_rfl) d1;clear cP bR;clear hF dP d1;have t1:=ab aM.box 7;simp at t1;have e30':=dI e30;have HD:=aa hD;have bD:=aa aM;clear hD aM;clear g1
      go_wp2_with fail
      refine bZ.mk _ gg ?_ rfl;exact bD.o.other _ (by decide) (by decide)
     ·clear ap hi hv;have e1:F.getD 1 undef=.slice (some ⟨wb,0,none⟩) word.length k:=mh hF (by decide) rfl;clear cP bR;clear hF dP;have e1':=dI e1;have HD:=aa hD;have bD:=aa aM;clear hD aM
      go_wp2_with fail
      refine bZ.mk _ gg ?_ rfl;exact bD.o.other _ (by decide) (by decide)
     ·clear ap hi hv;have e9:F.getD 9 undef=.pointer (some ⟨wr.heap.size,0,none⟩):=mh hF (by decide) rfl;clear cP bR;clear hF dP;have e9':=dI e9;have HD:=aa hD;have bD:=aa aM;clear hD aM
      go_wp2_with fail
      refine bZ.mk _ gg ?_ rfl;exact bD.o.other _ (by decide) (by decide)
     ·have g4:=ap ⟨4,.data⟩ (by simp) rfl;have d4:=hv 4 _ (by omega) g4 rfl;clear ap hi hv;have e33:=fK hF 4 33 (by decide) rfl (by kernel_rfl) d4;clear cP bR;clear hF dP d4;have t1:=ab aM.box;have e33':=dI e33;have HD:=aa hD;have bD:=aa aM;clear hD aM;clear g4
      go_wp2_with fail
      refine bZ.mk _ gg ?_ rfl;exact bD.o.other _ (by decide) (by decide)
     ·have g5:=ap ⟨5,.data⟩ (by simp) rfl;have d5:=hv 5 _ (by omega) g5 rfl;clear ap hi hv;have e34:=fK hF 5 34 (by decide) rfl (by kernel_rfl) d5;clear cP bR;clear hF dP d5;have e34':=dI e34;have HD:=aa hD;have bD:=aa aM;clear hD aM;clear g5
      go_wp2_with fail
      refine bZ.mk _ (fun c hc=>by cases hc) ?_ rfl;exact bD.o.build
     ·have g3:=ap ⟨3,.data⟩ (by simp) rfl;have d3:=hv 3 _ (by omega) g3 rfl;have g6:=ap ⟨6,.data⟩ (by simp) rfl;clear ap hi hv;have e32:=fK hF 3 32 (by decide) rfl (by kernel_rfl) d3;have e35:=fK hF 6 35 (by decide) rfl (by kernel_rfl) rfl;clear cP bR;clear hF dP d3;obtain⟨gb,qx,ml⟩:=aM.sb g6 hD;rw[qx]at e35;have bQ:=aM.env.b;rw[hD]at bQ;have vy:=aa (show aH W w.heap.size 141 7 (.slice (some ⟨wb,0,none⟩) word.length k) word.length (dd word) from bQ)
      have bU:∀ j u',(dd [m.r])[j]?=some u'->W.cell? (Addr.add ⟨gb,0,none⟩ j)=some u':=fun j u' hj=>by
       have e1:(Addr.add ⟨gb,0,none⟩ j)=⟨gb,j,none⟩:=by unfold Addr.add;split<;>simp_all
       rw[e1,ab ml];simpa[dd] using hj
      have bA:=aa bU;clear bU bQ ml qx;have e32':=dI e32;have e35':=dI e35;have HD:=aa hD;have bD:=aa aM;clear hD aM;clear g3;clear g6;refine Cw rfl (.tmp 32) (.tmp 35) 87 rfl w.heap.size 141 i1 7 Tryz.underlying87 pN jj wb k word.length (dd word) e32 vy.o ⟨gb,0,none⟩ 1 1 (dd [m.r]) e35 rfl bA.o (uu _) (by have:=AF.o;omega) ?_;intro w3 kO kb _;refine bZ.mk _ gg ?_ rfl;exact bD.o.app HD.o _ kO kb
    case tail=>
     intro x W' D F aU hv aM hF;have x0:=hv 0 _ (by omega) rfl;have x1:=hv 1 _ (by omega) rfl;have x2:=hv 2 _ (by omega) rfl;have x3:=hv 3 _ (by omega) rfl;have x4:=hv 4 _ (by omega) rfl;have x5:=hv 5 _ (by omega) rfl;have x7:=hv 7 _ (by omega) rfl;have pn:=aM.env;rw[aU 7 (by omega)]at pn;have HE9:=aa (show WEnv a (.slice (some ⟨b1,o1,none⟩) a.states.length ca) k w Br Bo Ba Bf wb (L++jW a d word (l.take j)) (word++[m.r]) W' from pn);simp only[bz,cT,List.setIfInBounds_toArray,List.set_cons_succ,List.set_cons_zero,Nat.reduceAdd,x0,x1,x2,x3,x4,x5,x7]at hF;generalize x 6=y6 at hF;subst hF;clear hv aU aM pn x0 x1 x2 x3 x4 x5 x7;simp only[List.drop_succ_cons,List.drop_zero];have fp:=ih m.to.toNat (L++jW a d word (l.take j)) (word++[m.r]) W' (by have:=AF.o;simp;omega) HM.o.2 HINM.o (HLJ.o) HE9.o;rw[List.length_append,List.length_singleton,HTON.o]at fp;have bW:=aa fp;clear fp ih
     go_wp2_with fail
     refine bW.o.mono ?_;rintro e w9 ⟨⟨u9,rfl⟩,pn⟩;have HE10:=aa pn;clear pn
     go_wp2_with fail
     go_roundw
     ·
      refine⟨j+1,by omega,by go_num,?_⟩;rw[jR.o,<-List.append_assoc];exact HE10.o.shrink
     ·simp[intOf];omega
   ·obtain rfl:j=l.length:=by omega
    rw[List.take_length]at X8;clear pg
    go_wp2_with fail
    go_returns
    exact⟨⟨_,rfl⟩,X8.o⟩
theorem zG(P:Program) (w:World) (a:Addr) (m:Mode) (g:Fn) (b c:Array Value):(store a (.func g b c) m).run P w=stored P w a (.func g b c) m:=run_store P w a _ m rfl
attribute [local go_sem] zG
theorem P8(cs:Array Value) (m:Nat):(madeCells cs m).size=m:=by simp[madeCells]
theorem Nq(n:Nat) (hn:n<=4096) (w:World):(Instr.makeSlice 221 (.int .i64 0) (.int .i64 (n:Int))).run Tryz.prog w=.ok (.slice (some ⟨w.heap.size,0,none⟩) 0 n) (w.alloc (.cells (madeCells (Value.slice none 0 0).cells n) 87)):=by
 obtain⟨i,hi,bX,bP,bY⟩:=info_parts Tryz.infoWordRow;have:=run_make (P:=Tryz.prog) w 221 87 i (.slice none 0 0) Tryz.underlying221 hi bX .i64 .i64 0 (n:Int) (by omega) (by omega) (by rw[bY];omega) (by omega);rw[this,bP,Nat.mul_one];rfl
theorem Li(k:Nat) (hk:k<=6) (w:World):(Instr.makeSlice 87 (.int .i64 0) (.int .i64 (k:Int))).run Tryz.prog w=.ok (.slice (some ⟨w.heap.size,0,none⟩) 0 k) (w.alloc (.cells (madeCells (Value.agg #[.int .i64 0,.int .i64 0,.int .i64 0,.int .i64 0,.int .i64 0,.int .i64 0,.int .i64 0]).cells (k * 7)) 141)):=by
 obtain⟨i,hi,bX,bP,bY⟩:=info_parts Tryz.infoRound;have:=run_make (P:=Tryz.prog) w 87 141 i _ Tryz.underlying87 hi bX .i64 .i64 0 (k:Int) (by omega) (by omega) (by rw[bY];omega) (by omega);rw[this,bP];rfl
theorem Jf{W:World} {base g n k:Nat} {e:TypeId} {cs:Array Value} (h:W.heap[g]?=some (.cells (madeCells cs (n * k)) e)) (hb:base<=g) (hn:n<=1048576):aH W base e k (.slice (some ⟨g,0,none⟩) 0 n) 0 []:=
 ⟨by simp,.inr ⟨g,n,_,(0,0),rfl,hb,h,fun i _ h=>by have:=h.2;simp at this,by omega,by unfold maxLen;omega,P8 _ _,by simp⟩⟩
def Xx(base k:Nat):MP:=⟨fun v W=>∃ g,base<=g/\v=.slice (some ⟨g,0,none⟩) 0 k/\aH W base 141 7 (.slice (some ⟨g,0,none⟩) 0 k) 0 [],fun _ _ _ h hb=>by obtain⟨g,h1,h2,h3⟩:=h;exact⟨g,h1,h2,h3.up hb⟩⟩
theorem WA{base k g:Nat} {W:World} (h1:base<=g) (h3:aH W base 141 7 (.slice (some ⟨g,0,none⟩) 0 k) 0 []):(Xx base k).p (.slice (some ⟨g,0,none⟩) 0 k) W:=⟨g,h1,rfl,h3⟩
theorem ux{w:World} {v:Value} {l:List (List Mv)} (h:bF w v l):∀ s,∀ m∈l.getD s [],qz m.r:=fun s m hm=>by
 by_cases hs:s<l.length
 ·rw[aA [] hs]at hm;obtain⟨pa,ca,rfl,_,_,ea⟩:=h.at;obtain⟨_,_,_,x,_,hx⟩:=ea s hs;obtain⟨px,qx,rfl,_,_,ex⟩:=hx.at;obtain⟨j,hj,rfl⟩:=List.getElem_of_mem hm;obtain⟨_,_,_,⟨⟨_,j0⟩,⟨_,j1⟩,⟨_,j2⟩,⟨_,j3⟩,⟨_,j4⟩,⟨_,j5⟩,⟨_,j6⟩⟩,_⟩:=ex j hj;exact⟨j0,j1,j2,j3,j4,j5,j6⟩
 ·rw[List.getD_eq_getElem?_getD,List.getElem?_eq_none (by omega)]at hm;simp at hm
theorem xH(a:Adv) (h:∀ s,∀ m∈a.states.getD s [],qz m.r) (k:Nat):∀ s,∀ x∈cf a k s,∀ r∈x,qz r:=by
 induction k with
 | zero=>intro s x hx r hr;simp[cf]at hx;subst hx;simp at hr
 | succ k ih=>
  intro s x hx r hr;simp only[cf,List.mem_flatMap,List.mem_map]at hx;obtain⟨m,hm,y,hy,rfl⟩:=hx;rcases List.mem_cons.1 hr with rfl|hr
  ·exact h s m hm
  ·exact ih _ y hy r hr
theorem wn{a:Adv} (h:advE a=0):∀ s,s<a.states.length->∀ m∈a.states.getD s [],0<=m.to/\m.to.toNat<a.states.length:=fun s hs m hm=>by
 rw[aA [] hs]at hm;obtain⟨j,hj,rfl⟩:=List.getElem_of_mem hm;have:=(lF (ir h).2.1 hs hj).2;omega
def qT(a:Adv) (r:Int):List (List Rd) × Int:=if (countedR 4096 a r).2≠0 then([],(countedR 4096 a r).2) else(cf a r.toNat 0,0)
theorem Nr{a:Adv} {r:Int} (h:(countedR 4096 a r).2=0):advE a=0/\0<=r/\r<=6/\(cf a r.toNat 0).length<=4096/\(countedR 4096 a r).1=(cf a r.toNat 0).length:=by
 unfold countedR at h ⊢;by_cases h1:advE a=0
 ·rw[if_neg (by simpa using h1)]at h ⊢;by_cases h2:r<0\/6<r
  ·rw[if_pos h2]at h;cases h
  ·rw[if_neg h2]at h ⊢;have hn:=rW (L:=4096) (by omega) a (fun s hs m hm=>(wn h1 s hs m hm).2) (by have:=(ir h1).1;omega) r.toNat;by_cases h3:4096<numberL 4096 a r.toNat
   ·rw[if_pos h3]at h;cases h
   ·rw[if_neg h3];refine⟨h1,by omega,by omega,?_,?_⟩
    ·omega
    ·show numberL 4096 a r.toNat=_
     omega
 ·rw[if_pos h1]at h;exact absurd h h1
theorem P9(a:Adv) (v:Value) (r:Int) (w:World) (hv:bF w v a.states) (hN:movesN a.states<1099511627776) :
  Calls Tryz.prog 162 #[.agg #[.int .i64 a.n,v],.int .i64 r] w fun e w'=>∃ u,e=.returned (.tuple #[u,.int .i64 (qT a r).2])/\fm 1 (nh 7 nE) w' u (qT a r).1/\(∀ ad n c,u=.slice (some ad) n c->w.heap.size<=ad.block)/\Below w.heap.size w w':=by
 have HV:=aa hv;obtain⟨pa,ca,rfl,_⟩:=hv.at;clear hv
 go_enter Tryz.func162,Tryz.ntmps162
 go_wp2_with fail
 refine aN (fun W=>Below w.heap.size w W/\W.heap[w.heap.size]?=some (.cells #[.int .i64 a.n,.slice pa a.states.length ca] 27)/\W.heap[w.heap.size+1]?=some (.cells #[.int .i64 r] 3)) ⟨by go_grown,ar _ (aq _ _),bd _ _ _⟩ (fun W0 aZ=>?_);obtain⟨aI,bI,ic⟩:=aZ;refine(Bv a _ r 4096 W0 (HV.o.up up_moves aI) hN (by omega) (by omega)).mono ?_;rintro e w1 ⟨rfl,aJ⟩;have jt:=ae aI aJ;have eK:=af aJ bI;have sJ:=af aJ ic;by_cases he:(countedR 4096 a r).2=0
 case neg=>
  have Eo:am (qT a r=([],(countedR 4096 a r).2)):=aa (by unfold qT;rw[if_pos he]);generalize (countedR 4096 a r).2=x at he Eo;have Va:(x != 0)=true:=by simpa using he
  clear bI ic eK sJ he
  go_wp2_with fail
  go_ret2
  rw[Eo.o];exact⟨_,rfl,⟨none,0,rfl,⟨by simp,by omega,fun _=>rfl⟩,by simp,fun i x hx=>by simp at hx⟩,(fun ad n c e=>by cases e),jt⟩
 obtain⟨ha,sS,rl,cC,lT⟩:=Nr he;obtain⟨k,rfl⟩:∃ k:Nat,r=(k:Int):=⟨r.toNat,by omega⟩;rw[Int.toNat_natCast]at cC lT;have Eo:am (qT a k=(cf a k 0,0)):=aa (by unfold qT;rw[if_neg (by simpa using he),Int.toNat_natCast]);have RR:=aa (wn ha);have HAOK:=aa (ir ha);rw[he,lT];have hk:k<=6:=by omega
 have rz:=aa cC;generalize hn:(cf a k 0).length=n at cC;have HN:=aa hn;have fT:=Nq n cC;clear hn he lT ha sS rl;have bP:=jt.size;have db:=aa eK;have dg:=aa sJ;clear bI ic eK sJ
 go_wp2_with fail
 refine bu (fun W=>Below w.heap.size w W/\W.heap[w.heap.size]?=some (.cells #[.int .i64 a.n,.slice pa a.states.length ca] 27)/\W.heap[w.heap.size+1]?=some (.cells #[.int .i64 k] 3)/\W.heap[w1.heap.size]?=some (.cells (madeCells (Value.slice none 0 0).cells n) 87)/\W.heap[w1.heap.size+1]?=some (.cells #[.slice (some ⟨w1.heap.size,0,none⟩) 0 n] 221)/\W.heap[w1.heap.size+1+1]?=some (.cells #[Du (w.heap.size+1) (w1.heap.size+1) w.heap.size (w1.heap.size+1+1)] 259)) ?_ (fun W2 eY=>?_)
 ·exact⟨((jt.alloc bP _).alloc (by simp only[World.size_alloc];omega) _).alloc (by simp only[World.size_alloc];omega) _,ar _ (ar _ (ar _ db.o)),ar _ (ar _ (ar _ dg.o)),ar _ (ar _ (aq _ _)),ar _ (bd _ _ _),eI _ _ _ _⟩
 obtain⟨g1,g2,g3,g4,g5,g6⟩:=eY;have G1:=aa g1;have G2:=aa g2;have G3:=aa g3;have G4:=aa g4;have G5:=aa g5;have G6:=aa g6;have bY:=g1.size;clear g1 g2 g3 g4 g5 g6 fT
 refine fL 3 [22,23,24] [MP.eq (Du (w.heap.size+1) (w1.heap.size+1) w.heap.size (w1.heap.size+1+1)),
  MP.eq (.int .i64 k),
  Xx w.heap.size k] (by kernel_rfl) (by simp) (by decide) rfl (by kernel_rfl) (by kernel_rfl) (by kernel_rfl) ?step ?tail
 case step=>
  intro x W i o s F hi ho hs hB ap hF;have fY:i=0\/i=1\/i=2:=by omega
  rcases fY with rfl|rfl|rfl
  all_goals (obtain rfl:=dp ho.symm;obtain rfl:=dp hs.symm;simp only[bz,cT,List.setIfInBounds_toArray,List.set_cons_succ,List.set_cons_zero,Nat.reduceAdd]at hF)
  ·clear ap hi ho hs;have t1:=ab (af hB G6.o) 0;simp at t1;subst hF
   go_wp2_with fail
   exact lm _ (Below.refl _ _) rfl
  ·clear ap hi ho hs;have t1:=ab (af hB G3.o) 0;simp at t1;subst hF
   go_wp2_with fail
   exact lm _ (Below.refl _ _) rfl
  ·have d1:=p9 (ap ⟨1,.data⟩ (by simp) rfl);clear ap hi ho hs;have fT:=Li k hk;simp only[d1]at hF;subst hF
   go_wp2_with fail
   refine aY.mk (.slice (some ⟨W.heap.size,0,none⟩) 0 k) ?_ ?_ ?_
   ·exact(by go_grown)
   ·exact WA (by have:=hB.size;omega) (Jf (aq _ _) (by have:=hB.size;omega) (by omega))
   ·first
    | rfl
    | simp only[List.setIfInBounds_toArray,List.set_cons_succ,List.set_cons_zero]
 case tail=>
  intro x W3 F hB aU hF;have d0:x 0=(Du (w.heap.size+1) (w1.heap.size+1) w.heap.size (w1.heap.size+1+1)):=aU 0 (by omega);have d1:x 1=.int .i64 k:=aU 1 (by omega);have d2:=aU 2 (by omega);obtain⟨wb,B8,e2,qY⟩:∃ g,w.heap.size<=g/\x 2=.slice (some ⟨g,0,none⟩) 0 k/\aH W3 w.heap.size 141 7 (.slice (some ⟨g,0,none⟩) 0 k) 0 []:=d2;clear aU;simp only[bz,cT,List.setIfInBounds_toArray,List.set_cons_succ,List.set_cons_zero,Nat.reduceAdd]at hF;rw[d0,d1,e2]at hF;subst hF;have fy:=aa hB;have lZ:=aa qY;clear hB qY d0 d1 e2;simp only[List.drop_succ_cons,List.drop_zero]
  have qE:WEnv a (.slice pa a.states.length ca) k w (w.heap.size+1) (w1.heap.size+1) w.heap.size (w1.heap.size+1+1) wb [] [] W3:=
   ⟨ae G1.o fy.o,by omega,af fy.o G3.o,af fy.o G2.o,af fy.o G6.o,⟨_,[],af fy.o G5.o,Jf (n:=n) (cs:=(Value.slice none 0 0).cells) (by rw[Nat.mul_one];exact af fy.o G4.o) (by omega) (by omega),fun i hi=>by simp at hi⟩,lZ.o⟩
  have fp:=Np a _ k hk w HV.o RR.o _ _ _ _ wb k 0 [] [] W3 (by simp) (by have:=HAOK.o.1;omega) (fun r hr=>by simp at hr) (by have:=HN.o;simp;omega) qE;simp only[List.length_nil,List.nil_append,List.map_id']at fp;have bW:=aa fp;clear fp qE
  go_wp2_with fail
  refine bW.o.mono ?_;rintro e w9 ⟨⟨u9,rfl⟩,pn⟩;have hbw9:=pn.old;obtain⟨vo,xs,q1,q2,q3⟩:=pn.o;obtain⟨wcur,wfz,hw9,hwlo⟩:=pn.wb_at;have t1:=ab q1 0;simp at t1;have jP:am (fm 1 (nh 7 nE) w9 vo (cf a k 0)):=aa (cB.sl (base:=w.heap.size) ⟨xs,q2,fun i hi=>by obtain⟨y,p1,p2⟩:=q3 i hi;exact⟨y,p1,p2.base (by omega)⟩⟩ (fun y l hl hy=>sE hy (fun i hi=>xH a (ux HV.o) k 0 l hl _ (List.getElem_mem hi)) (by have:=kA a k 0 l hl;omega)) (by have:=HN.o;omega))
  have HLO9:am (∀ ad n c,vo=.slice (some ad) n c->w.heap.size<=ad.block):=aa (fun ad n c e=>by
   rcases q2.2 with ⟨e2,_⟩|⟨g,cap,cur,fz,e2,h1,_⟩
   ·rw[e2]at e;cases e
   ·rw[e2]at e;cases e;exact h1)
  obtain⟨av,cv,rfl⟩:=q2.slice;clear q1 q2 q3 pn hw9
  go_wp2_with fail
  go_ret2
  rw[Eo.o];exact⟨_,rfl,jP.o,HLO9.o,hbw9⟩
theorem Dv(v:Value) (l:List Int) (w:World) (hv:aT w v l) (hp:mD l) (hl:l.length<=65536) :
  Calls Tryz.prog 206 #[v] w fun e w'=>e=.returned (.int .i64 0)/\Below w.heap.size w w':=by
 obtain⟨pa,ca,rfl,la1,la2,ea⟩:=hv.at;have EA:=aa ea;obtain⟨N,hN,hs⟩:=hp;have HS:=aa hs;have HN:=aa hN;clear hv ea hs hN
 go_enter Tryz.func206,Tryz.ntmps206
 go_wp2
 go_loop [3,11] (fun nx i=>∃ k:Nat,k<=l.length/\i=.int .i64 k/\nx=.int .i64 (N k)/\0<=N k/\N k<=k) (fun _ i=>l.length - (intOf i).toNat)
 ·exact⟨0,by omega,rfl,by rw[HN.o],by rw[HN.o];omega,by rw[HN.o];omega⟩
 ·
  obtain⟨k,hk,rfl,rfl,kX,jS⟩:=hrel;by_cases aB:k<l.length
  ·obtain⟨b1,o1,rfl,h1⟩:=EA.o k aB;rw[Nat.mul_one]at h1;have c1:=h1.1;obtain⟨dj,dL,eA⟩:=HS.o k aB;rw[aA 0 aB]at dj dL eA;clear h1;generalize l[k]=x at c1 dj dL eA;have HX:=aa eA;clear eA;generalize N k=nk at kX jS dL HX;by_cases Yr:x=nk
   ·subst Yr;have fG:am (N (k+1)=x+1):=aa (by rw[HX.o,if_pos rfl])
    go_wp2
    go_round
    ·exact⟨k+1,by omega,by go_num,by rw[fG.o],by rw[fG.o];omega,by rw[fG.o];omega⟩
    ·simp[intOf];omega
   ·have hxn':(x == nk)=false:=by simpa using Yr
    have eA:¬ nk<x:=by omega
    have yP:¬ x<0:=by omega
    have fG:am (N (k+1)=nk):=aa (by rw[HX.o,if_neg Yr])
    go_wp2
    go_round
    ·exact⟨k+1,by omega,by go_num,by rw[fG.o],by rw[fG.o];omega,by rw[fG.o];omega⟩
    ·simp[intOf];omega
  ·go_wp2
   go_ret
   exact⟨rfl,by go_grown⟩
theorem Qa(va vb:Value) (a b:List Int) (w:World) (ha:aT w va a) (hb:aT w vb b) (pa:mD a) (pb:mD b) (hl:b.length=a.length) (nW:a.length<=65536) :
  Calls Tryz.prog 174 #[va,vb] w fun e w'=>e=.returned (.int .i64 0)/\Below w.heap.size w w':=by
 have HA:=aa ha;have HB:=aa hb;have HL:=aa hl;have PA:=aa pa;have PB:=aa pb;obtain⟨qa,ca,rfl,_⟩:=ha.at;obtain⟨qb,cb,rfl,_⟩:=hb.at;clear ha hb hl pa pb;have Kk:((a.length:Int) != (b.length:Int))=false:=by rw[HL.o];simp
 go_enter Tryz.func174,Tryz.ntmps174
 go_wp2_with fail
 refine bu (fun W=>Below w.heap.size w W/\W.heap[w.heap.size]?=some (.cells #[.slice qa a.length ca,.slice qb b.length cb] 38)) ⟨by go_grown,aq _ _⟩ (fun W0 aZ=>?_);obtain⟨aI,bI⟩:=aZ;have jm:=aa bI;clear bI
 go_loopw [12] (fun i wr=>∃ k:Nat,k<=2/\i=.int .i64 k/\Below w.heap.size w wr/\Below W0.heap.size W0 wr) (fun i _=>2 - (intOf i).toNat)
 ·exact⟨0,by omega,rfl,aI,Below.refl _ _⟩
 ·
  clear aI;obtain⟨k,hk,rfl,cZ,az⟩:=hrel;have tB:=ab (af az jm.o);by_cases h0:k=0
  ·subst h0
   go_wp2_with fail
   refine(Dv _ _ wr (HA.o.up up_int cZ) PA.o nW).mono ?_;rintro e w1 ⟨rfl,aJ⟩;clear tB
   go_wp2_with fail
   go_roundw
   ·exact⟨1,by omega,by go_num,ae cZ aJ,ae az aJ⟩
   ·simp[intOf]
  by_cases h1:k=1
  ·subst h1
   go_wp2_with fail
   refine(Dv _ _ wr (HB.o.up up_int cZ) PB.o (by rw[HL.o];exact nW)).mono ?_;rintro e w1 ⟨rfl,aJ⟩;clear tB
   go_wp2_with fail
   go_roundw
   ·exact⟨2,by omega,by go_num,ae cZ aJ,ae az aJ⟩
   ·simp[intOf]
  obtain rfl:k=2:=by omega
  clear tB
  go_wp2_with fail
  go_ret
  exact⟨rfl,cZ⟩
theorem Lj(v:Value) (keys:List Int) (w:World) (hv:aT w v keys) (hl:keys.length<=256) :
  Calls Tryz.prog 176 #[v] w fun e w'=>∃ u,e=.returned u/\aT w' u (lG keys)/\Below w.heap.size w w':=by
 obtain⟨pa,ca,rfl,la1,la2,ea⟩:=hv.at;have EA:=aa ea;clear hv ea;obtain⟨f,hf⟩:∃ f,f=fun i=>(lG keys).getD i 0:=⟨_,rfl⟩
 obtain⟨key,nD⟩:∃ key:Nat->Int,key=fun i=>keys.getD i 0:=⟨_,rfl⟩
 obtain⟨q,hq⟩:∃ q:Nat->Nat->Bool,q=fun k i=>decide (keys.getD k 0=keys.getD i 0):=⟨_,rfl⟩
 have HF:am ((∀ i,f i=(iG q keys.length).getD i 0)/\(List.range keys.length).map f=lG keys):=aa (by
  subst hf hq;refine⟨fun _=>rfl,?_⟩;refine List.ext_getElem (by simp[lG,qj]) fun i h1 h2=>?_
  simp[h2])
 have HQ:am (∀ k,firstIx k (fun j=>q j k)=firstIx k (fun j=>decide (key j=key k))):=aa (fun k=>by subst hq nD;rfl);have HK:am (∀ k (h:k<keys.length),key k=keys[k]):=aa (fun k h=>by subst nD;exact aA 0 h);have HC:=aa (j8 q);clear hf hq nD;have fT:=iP f keys.length hl;have DU:=@Il Tryz.prog
 go_enter Tryz.func176,Tryz.ntmps176
 go_wp2_with fail
 clear fT DU;refine bu (fun W=>Below w.heap.size w W/\dy W w.heap.size (dJ key f 0) 0/\W.heap[w.heap.size+1]?=some (.cells (fC keys.length f 0) 3)) ⟨by go_grown,((dy.new w).up (Below.refl _ _ |>.alloc (Nat.le_refl _) _)).congr (fun _=>rfl) rfl,bd _ _ _⟩ (fun W0 aZ=>?_);obtain⟨aI,hM0,gl⟩:=aZ
 go_loopw [15] (fun i wr=>∃ k:Nat,k<=keys.length/\i=.int .i64 k/\Below w.heap.size w wr/\dy wr w.heap.size (dJ key f k) (br q k).2.toNat/\wr.heap[w.heap.size+1]?=some (.cells (fC keys.length f k) 3)) (fun i _=>keys.length - (intOf i).toNat)
 ·exact⟨0,by omega,rfl,aI,hM0,gl⟩
 ·
  clear aI hM0 gl;obtain⟨k,hk,rfl,az,hM,hO⟩:=hrel;by_cases aB:k<keys.length
  ·obtain⟨b1,o1,rfl,h1⟩:=EA.o k aB;rw[Nat.mul_one]at h1;have c1:=ak az h1.1;have oK:=HK.o k aB;clear h1;generalize keys[k]=x at c1 oK;have HX:=aa oK;have Am:=Fh (mt:=245) (kt:=3) (vt:=3) Tryz.underlying245 Tryz.underlying3 (fun w=>by kernel_rfl) hM x;have HM:=aa hM;have HO:=aa hO;have aP:=aa az;have fk:=hM.lt;have JT:=aC hO;have hc:=(HC.o k).1;have jk:=(HC.o k).2.1;cases hs:dJ key f k x with
   | none=>
    rw[hs]at Am;have BM:=Wx (mt:=245) (kt:=3) (vt:=3) Tryz.underlying245 3 hM;obtain⟨nn,fj⟩:∃ nn:Nat,(br q k).2.toNat=nn:=⟨_,rfl⟩;rw[fj]at BM
    have CR:am (∀ y,dJ key f (k+1) y=if y=x then some (f k) else dJ key f k y):=aa (by
     have:=zj (key:=key) (f:=f) (k:=k) (by rw[oK];exact hs)
     rwa [oK]at this)
    have hfi:firstIx k (fun j=>q j k)<0:=by
     rw[HQ.o,oK];unfold dJ at hs;split at hs
     ·assumption
     ·cases hs
    obtain⟨n1,n2⟩:=IO (q:=q) aB hfi;have ri:am (f k=nn):=aa ((HF.o.1 k).trans (by omega));have tp:am ((br q (k+1)).2.toNat=if (dJ key f k x).isSome then(br q k).2.toNat else(br q k).2.toNat+1):=aa (by rw[hs,n2];simp;omega);obtain⟨o,L',sO⟩:=wh (mt:=245) (kt:=3) (vt:=3) Tryz.underlying245 Tryz.underlying3 HM.o x (nn:Int);have y':=aa sO;have dR:am ((wr.putObj w.heap.size o).heap[w.heap.size+1]?=some (.cells (fC keys.length f k) 3)):=aa ((World.putObj_heap_other (by omega)).trans HO.o);have tq:=ab dR.o k;rw[kS _ _ _ _ aB]at tq;have zq:=aE dR.o k;clear sO hM hO az hs hfi n1 n2 fj oK
    go_wp2_with fail
    go_roundw
    ·
     refine⟨k+1,by omega,by go_num,Below.setCell (eX (Nat.le_refl _) aP.o) (by dsimp only;omega) _,?_,?_⟩
     ·refine dy.congr (dy.kept y'.o (Below.heap_setCell _ _ _ _ (by dsimp only;omega))) (fun y=>?_) tp.o.symm;rw[CR.o,ri.o]
     ·rw[aF dR.o,<-sB _ _ _ aB,ri.o]
    ·simp[intOf];omega
   | some z=>
    rw[hs]at Am;have Ak:am (∀ y,dJ key f (k+1) y=dJ key f k y):=aa (zk (z:=z) (by rw[oK];exact hs));obtain⟨j,hj,e1,e2,e3⟩:=rY hs;obtain⟨n1,n2⟩:=IP (q:=q) (j:=j) aB (by rw[HQ.o,oK];exact e1);have ri:am (f k=z):=aa (by rw[HF.o.1 k,n1,<-HF.o.1 j,e3]);have tp:am ((br q (k+1)).2.toNat=(br q k).2.toNat):=aa (by rw[n2]);have tq:=ab HO.o k;rw[kS _ _ _ _ aB]at tq;have zq:=aE HO.o k;clear hM hO az hs n1 n2 e1 e2 e3 oK
    go_wp2_with fail
    go_roundw
    ·
     refine⟨k+1,by omega,by go_num,aP.o.setCell (by dsimp only;omega) _,?_,?_⟩
     ·exact dy.congr (dy.kept HM.o (Below.heap_setCell _ _ _ _ (by dsimp only;omega))) (fun y=>(Ak.o y).symm) tp.o.symm
     ·rw[aF HO.o,<-sB _ _ _ aB,ri.o]
    ·simp[intOf];omega
  ·obtain rfl:k=keys.length:=by omega
   have HO:=aa hO;have aP:=aa az;clear hM hO az
   go_wp2_with fail
   go_ret
   refine⟨_,rfl,?_,aP.o⟩;have h1:=HO.o;rw[oE,HF.o.2]at h1;refine sC (by simp[lG,qj]) hl h1 fun i hi=>?_
   have:=mE (qk (fun k i=>decide (keys.getD k 0=keys.getD i 0)) keys.length) i hi;have pU:i<keys.length:=by simpa[lG,qj] using hi
   unfold bN lG;omega
theorem eR(l:List Int) (j:Nat) (h:j<l.length):(bC l)[j]?=some (.int .i64 (l.getD j 0)):=by simp[bC,h]
theorem kT(l:List Int) (j:Nat) (x:Int):(bC l).setIfInBounds j (.int .i64 x)=bC (l.set j x):=by
 unfold bC;rw[List.map_set,List.setIfInBounds_toArray]
structure Only (B:Nat) (w w':World):Prop where
 os:w'.os=w.os
 tape:w'.tape=w.tape
 output:w'.output=w.output
 size:w'.heap.size=w.heap.size
 same:∀ k,k≠B->w'.heap[k]?=w.heap[k]?
theorem Only.refl(B:Nat) (w:World):Only B w w:=⟨rfl,rfl,rfl,rfl,fun _ _=>rfl⟩
theorem Only.trans{B:Nat} {a b c:World} (h:Only B a b) (k:Only B b c):Only B a c:=⟨k.os.trans h.os,k.tape.trans h.tape,k.output.trans h.output,k.size.trans h.size,fun i hi=>(k.same i hi).trans (h.same i hi)⟩
theorem Only.drew{B:Nat} {a b:World} (h:Only B a b):Only B a b.drew:=⟨h.os,h.tape,h.output,h.size,h.same⟩
theorem Only.setCell{B:Nat} {a b:World} (h:Only B a b) (o:Nat) (v:Value):Only B a (b.setCell ⟨B,o,none⟩ v):=
 ⟨h.os,h.tape,h.output,by simpa using h.size,fun k hk=>(Below.heap_setCell _ _ _ _ hk).trans (h.same k hk)⟩
theorem Only.below{B n:Nat} {w a b:World} (h:Only B a b) (hb:Below n w a) (hn:n<=B):Below n w b:=
 ⟨h.os.trans hb.os,h.tape.trans hb.tape,h.output.trans hb.output,by rw[h.size];exact hb.size,fun k hk=>(h.same k (by omega)).trans (hb.block k hk)⟩
theorem zH(n bx B:Nat) (P:List Int) (hP:Par n P) (i:Nat) (hi:i<n) (w:World) (bM:bx≠B) (h1:w.heap[bx]?=some (.cells #[.slice (some ⟨B,0,none⟩) n n] 38)) (h2:w.heap[B]?=some (.cells (bC P) 3)) :
  Calls Tryz.prog 175 #[.int .i64 i,.pointer (some ⟨bx,0,none⟩)] w fun e w'=>e=.returned (.int .i64 (rootN P i))/\Only B w w'/\∃ P',w'.heap[B]?=some (.cells (bC P') 3)/\Par n P'/\∀ j,j<n->rootN P' j=rootN P j:=by
 have H1:=aa h1;have H2:=aa h2;have HP:=aa hP;clear h1 h2 hP
 go_enter Tryz.func175,Tryz.ntmps175
 go_wp2_with fail
 go_loopw [0] (fun x wr=>∃ (j:Nat) (Q:List Int),x=.int .i64 j/\j<n/\Only B w wr/\wr.heap[B]?=some (.cells (bC Q) 3)/\Par n Q/\(∀ j,j<n->rootN Q j=rootN P j)/\rootN P j=rootN P i) (fun x _=>(intOf x).toNat)
 ·exact⟨i,P,rfl,hi,Only.refl _ _,H2.o,HP.o,fun _ _=>rfl,rfl⟩
 ·
  obtain⟨j,Q,rfl,hj,ho,hB,hQ,hr,pS⟩:=hrel;have ly:wr.heap[bx]?=_:=(ho.same bx bM).trans H1.o;have tx:=ab ly 0;simp at tx;obtain⟨a0,a1⟩:=hQ.le j hj;obtain⟨A,hA⟩:∃ A:Nat,Q.getD j 0=A:=⟨(Q.getD j 0).toNat,by omega⟩;have hl:=hQ.len;have t1:=ab hB j;rw[eR _ _ (by omega),hA]at t1;have HO:=aa ho;have HB:=aa hB;have HQ:=aa hQ;have HR:=aa hr;have HJ:=aa pS;have HA:=aa hA;clear ho hQ hr pS ly;by_cases hd:A=j
  ·subst hd;clear hB;have ie:am (rootN P i=A):=aa (by rw[<-HJ.o,<-HR.o A hj];exact oC HA.o)
   go_wp2_with fail
   go_ret
   exact⟨by rw[ie.o];rfl,HO.o,Q,HB.o,HQ.o,HR.o⟩
  ·have hd':((A:Int) != (j:Int))=true:=by simp;omega
   have hAn:A<n:=by omega
   obtain⟨b0,b1⟩:=HQ.o.le A hAn;obtain⟨C,hC⟩:∃ C:Nat,Q.getD A 0=C:=⟨(Q.getD A 0).toNat,by omega⟩;have hCA:C<=A:=by omega
   have hAj:A<j:=by have:=HA.o;omega
   have t2:=ab hB A;rw[eR _ _ (by omega),hC]at t2;have zq:=aE hB j;have HC:=aa hC
   have lW:(wr.drew.setCell ⟨B,j,none⟩ (.int .i64 C)).heap[B]?=some (.cells (bC (Q.set j C)) 3):=by
    rw[aF (W:=wr.drew) hB,kT]
   have t3:=ab lW j;rw[eR _ _ (by simp;omega),fO _ _ _ _ _ (by omega),if_pos rfl]at t3;have hbx2:(wr.drew.setCell ⟨B,j,none⟩ (.int .i64 C)).heap[bx]?=_:=((HO.o.drew.setCell j (.int .i64 C)).same bx bM).trans H1.o;have tx2:=ab hbx2 0;simp at tx2;have HS:=aa lW;clear lW hbx2 hC hA hB
   go_wp2_with fail
   go_still_tail 10,(by kernel_rfl)
   change wpList _ _ _ _ _ wr.drew
   go_wp2_with fail
   go_roundw
   ·
    have hh:=Pf HQ.o j hj;rw[HA.o,Int.toNat_natCast,HC.o]at hh;refine⟨C,Q.set j C,rfl,by omega,HO.o.drew.setCell j _,HS.o,hh.1,fun x hx=>(hh.2 x hx).trans (HR.o x hx),?_⟩;have e1:=nG HQ.o j hj;have e2:=nG HQ.o A hAn;rw[HA.o,Int.toNat_natCast]at e1;rw[HC.o,Int.toNat_natCast]at e2;rw[<-HR.o C (by omega),e2,e1,HR.o j hj];exact HJ.o
   ·simp[intOf];omega
theorem Uni.same{a b:List Int} {n:Nat} {P Q:List Int} (h:Uni a b n P) (hq:Par n Q) (hr:∀ j,j<n->rootN Q j=rootN P j):Uni a b n Q:=⟨hq,fun i hi=>by rw[hr i hi];exact h.wr i hi⟩
theorem SN{a b l:List Int} {n m j p q:Nat} {P Q Q3:List Int} (hU:Uni a b n Q) (h3:Par n Q3) (hr:∀ i,i<n->rootN Q3 i=rootN Q i) (JQ:jw n P Q) (hD:fP l n m Q) (hm:m<n) (hj:j<m) (e:l.getD j 0=l.getD m 0) (hjq:dN a b m j=true) (hp:rootN Q m=p) (hq:rootN Q j=q) :
  Uni a b n (Q3.set (max p q) (min p q:Nat))/\jw n P (Q3.set (max p q) (min p q:Nat))/\fP l n (m+1) (Q3.set (max p q) (min p q:Nat)):=by
 have hU3:=hU.same h3 hr;have hu:=hU3.union m j hm (by omega) hjq;have e1:rootN Q3 m=p:=(hr m hm).trans hp;have e2:rootN Q3 j=q:=(hr j (by omega)).trans hq;rw[e1,e2]at hu;have k1:jw n Q (Q3.set (max p q) (min p q:Nat)):=(K8 hr).trans (K9 hu.2);refine⟨hu.1,JQ.trans k1,hD.join hm hj e k1 ?_⟩;rw[hu.2 m hm,hu.2 j (by omega),e1,e2];rcases Nat.le_total p q with h|h
 ·rw[Nat.max_eq_right h,Nat.min_eq_left h];split<;>simp
 ·rw[Nat.max_eq_left h,Nat.min_eq_right h];simp
theorem Qb{a b:List Int} {qa qb:Option Addr} {n ca cb j:Nat} {w:World} {P:List Int} (hj:j<2) (ha:aT w (.slice qa n ca) a) (hb:aT w (.slice qb n cb) b) (AH:a.length=n) (iz:b.length=n) (h1:1<=j->fP a n n P) :
  ∃ (l:List Int) (ql:Option Addr) (cl:Nat),(#[Value.slice qa n ca,Value.slice qb n cb])[j]?=some (.slice ql n cl)/\aT w (.slice ql n cl) l/\l.length=n/\(∀ i k,l.getD i 0=l.getD k 0->dN a b i k=true)/\∀ Q,fP l n n Q->jw n P Q->(1<=j+1->fP a n n Q)/\(2<=j+1->fP b n n Q):=by
 by_cases e:j=0
 ·subst e;exact⟨a,qa,ca,rfl,ha,AH,fun i k h=>by unfold dN;rw[decide_eq_true h];rfl,fun Q h _=>⟨fun _=>h,fun h'=>by omega⟩⟩
 ·obtain rfl:j=1:=by omega
  exact⟨b,qb,cb,rfl,hb,iz,fun i k h=>by unfold dN;rw[decide_eq_true h,Bool.or_true],fun Q h k=>⟨fun _=>(h1 (by omega)).keep k,fun _=>h⟩⟩
theorem Qc(va vb:Value) (a b:List Int) (w:World) (ha:aT w va a) (hb:aT w vb b) (pa:mD a) (pb:mD b) (hl:b.length=a.length) (hn:a.length<=256) :
  Calls Tryz.prog 130 #[va,vb] w fun e w'=>∃ u,e=.returned (.tuple #[u,.int .i64 0])/\aT w' u (lp a b)/\Below w.heap.size w w':=by
 have HA:=aa ha;have HB:=aa hb;have PA:=aa pa;have PB:=aa pb;obtain⟨n,AH⟩:∃ n,a.length=n:=⟨_,rfl⟩;have iz:b.length=n:=hl.trans AH;obtain⟨qa,ca,rfl,_⟩:=ha.at;obtain⟨qb,cb,rfl,_⟩:=hb.at;have HC:=aa (Qa _ _ a b w HA.o HB.o PA.o PB.o hl (by omega));have Iu:n<=256:=by omega
 rw[AH]at HA HC ⊢;rw[iz]at HB HC ⊢;clear ha hb hl pa pb hn;have HNA:=aa AH;have BQ:=aa iz;clear AH iz;obtain⟨f,hf⟩:∃ f:Nat->Int,f=fun i:Nat=>(i:Int):=⟨_,rfl⟩
 have wL:am (∀ i,f i=(i:Int)):=aa fun i=>by rw[hf]
 clear hf;have fT:=iP f n Iu;have eg:=enters_of Tryz.func175 (by kernel_rfl) rfl
 go_enter Tryz.func130,Tryz.ntmps130
 go_wp2_with fail
 refine HC.o.mono ?_;rintro e w1 ⟨rfl,aJ⟩
 go_wp2_with fail
 clear fT
 refine bu (fun W=>Below w.heap.size w W/\W.heap[w1.heap.size]?=some (.cells (fC n f 0) 3)/\W.heap[w1.heap.size+1]?=some (.cells #[.slice (some ⟨w1.heap.size,0,none⟩) n n] 38))
  ⟨ae aJ (by go_grown),ar _ (aq _ _),bd _ _ _⟩ (fun W0 aZ=>?_)
 obtain⟨aI,gl,wE⟩:=aZ;have hBw:=aJ.size;generalize w1.heap.size=B at gl wE hBw;clear aJ w1;have iU:=aa (And.intro aI (And.intro gl wE));have tx0:=ab wE 0;simp at tx0;clear aI gl wE
 go_wp2_with fail
 clear tx0
 go_loopw [32] (fun i wr=>∃ k:Nat,k<=n/\i=.int .i64 k/\Below w.heap.size w wr/\wr.heap[B]?=some (.cells (fC n f k) 3)/\wr.heap[B+1]?=some (.cells #[.slice (some ⟨B,0,none⟩) n n] 38)) (fun i _=>n - (intOf i).toNat)
 ·exact⟨0,by omega,rfl,iU.o.1,iU.o.2.1,iU.o.2.2⟩
 ·
  clear iU;obtain⟨k,hk,rfl,az,hO,hX⟩:=hrel;have tx:=ab hX 0;simp at tx;have fk:=aC hX;by_cases aB:k<n
  ·have tq:=ab hO k;rw[kS _ _ _ _ aB]at tq;have zq:=aE hO k;have HO:=aa hO;have HX:=aa hX;have aP:=aa az;clear hO hX az
   go_wp2_with fail
   go_roundw
   ·exact⟨k+1,by omega,by go_num,aP.o.setCell (by dsimp only;omega) _,by rw[aF HO.o,<-wL.o k,sB _ _ _ aB],aK HX.o (by omega) _ _⟩
   ·simp[intOf];omega
  obtain rfl:k=n:=by omega
  clear tx;have n9:=hO;rw[oE]at n9;have hU:=Uni.start a b k
  have HU:am (Uni a b k ((List.range k).map f)):=aa (by
   have e:(List.range k).map f=(List.range k).map fun i:Nat=>(i:Int):=List.map_congr_left fun i _=>wL.o i
   rw[e];exact hU)
  have HO:=aa n9;have HX:=aa hX;have aP:=aa az;clear hO n9 hX az hU;have nA:=aP.o.size
  go_wp2_with fail
  refine bu (fun W=>Below w.heap.size w W/\W.heap[wr.heap.size]?=some (.cells #[.slice qa k ca,.slice qb k cb] 38)/\W.heap[B+1]?=some (.cells #[.slice (some ⟨B,0,none⟩) k k] 38)/\W.heap[B]?=some (.cells (bC ((List.range k).map f)) 3)) ⟨aP.o.alloc nA _,aq _ _,ar _ HX.o,ar _ HO.o⟩ (fun W1 cD=>?_);have hLB:=fk;generalize wr.heap.size=L at cD nA hLB;have fx:=aa cD;clear cD HO HX aP fk wr W0
  go_loopw [45] (fun i wr=>∃ (j:Nat) (P:List Int),j<=2/\i=.int .i64 j/\Below w.heap.size w wr/\wr.heap[L]?=some (.cells #[.slice qa k ca,.slice qb k cb] 38)/\wr.heap[B+1]?=some (.cells #[.slice (some ⟨B,0,none⟩) k k] 38)/\wr.heap[B]?=some (.cells (bC P) 3)/\Uni a b k P/\(1<=j->fP a k k P)/\(2<=j->fP b k k P)) (fun i _=>2 - (intOf i).toNat)
  ·exact⟨0,_,by omega,rfl,fx.o.1,fx.o.2.1,fx.o.2.2.1,fx.o.2.2.2,HU.o,fun h=>by omega,fun h=>by omega⟩
  ·
   clear fx HU;obtain⟨j,P,hj,rfl,az,hL,hX,hO,hU,Vs,Hj⟩:=hrel;by_cases aB:j<2
   ·obtain⟨l,ql,cl,uV,Ab,GP,hp4,Kq⟩:=Qb aB HA.o HB.o HNA.o BQ.o Vs;have tL:=ab hL j;rw[uV]at tL;have DU:=@Il Tryz.prog;have HP2:=aa Ab;have Zf:=aa GP;have HP4:=aa hp4;have HP5:=aa Kq;have HL:=aa hL;have HX:=aa hX;have HO:=aa hO;have HU:=aa hU;have aP:=aa az;have OL:=aC hL;have CV:=az.size;clear uV Ab GP hp4 Kq hL hX hO hU az Vs Hj
    go_wp2_with fail
    clear DU tL;obtain⟨key,nD⟩:∃ key:Nat->Int,key=fun i=>l.getD i 0:=⟨_,rfl⟩
    have HK:am (∀ i,key i=l.getD i 0):=aa fun i=>by rw[nD]
    clear nD;refine bu (fun W=>Below w.heap.size w W/\W.heap[L]?=some (.cells #[.slice qa k ca,.slice qb k cb] 38)/\W.heap[B+1]?=some (.cells #[.slice (some ⟨B,0,none⟩) k k] 38)/\W.heap[B]?=some (.cells (bC P) 3)/\dy W wr.heap.size (dJ key f 0) 0) ⟨aP.o.alloc CV _,ar _ HL.o,ar _ HX.o,ar _ HO.o,dy.new wr⟩ (fun W2 eY=>?_);have hML:=OL;generalize wr.heap.size=M at eY hML CV;have cS:=aa eY;clear eY HL HX HO aP OL wr;have hd:decide ((j:Int)<2)=true:=decide_eq_true (by omega);simp only[hd];clear hd
    go_loopw [52] (fun i wr=>∃ (m:Nat) (Q:List Int),m<=k/\i=.int .i64 m/\Below w.heap.size w wr/\wr.heap[L]?=some (.cells #[.slice qa k ca,.slice qb k cb] 38)/\wr.heap[B+1]?=some (.cells #[.slice (some ⟨B,0,none⟩) k k] 38)/\wr.heap[B]?=some (.cells (bC Q) 3)/\Uni a b k Q/\jw k P Q/\fP l k m Q/\∃ c,dy wr M (dJ key f m) c) (fun i _=>k - (intOf i).toNat)
    ·exact⟨0,P,by omega,rfl,cS.o.1,cS.o.2.1,cS.o.2.2.1,cS.o.2.2.2.1,HU.o,jw.refl _ _,fun i _ _ _ h=>by omega,0,cS.o.2.2.2.2⟩
    ·
     clear cS;obtain⟨m,Q,hm,rfl,az,hL,hX,hO,U',JQ,Sb,c,hM⟩:=hrel;have HL:=aa hL;have HX:=aa hX;have HO:=aa hO;have Zo:=aa U';have aP:=aa az;have HPQ:=aa JQ;have HDQ:=aa Sb;have hszM:=hM.lt;have hszr2:=az.size;by_cases fT:m<k
     ·have lS:m<l.length:=by have:=Zf.o;omega
      obtain⟨ql',cl',e',_,_,ep⟩:=HP2.o.at;injection e' with e1 e2 e3
      subst e1;clear e2 e3;obtain⟨b1,o1,rfl,h1⟩:=ep m lS;rw[Nat.mul_one]at h1;have c1:=ak az h1.1;have oK:key m=l[m]:=(HK.o m).trans (aA 0 lS);clear h1 ep;generalize l[m]=x at c1 oK;clear lS;have Am:=Fh (mt:=245) (kt:=3) (vt:=3) Tryz.underlying245 Tryz.underlying3 (fun w=>by kernel_rfl) hM x;have n8:=aa oK;have HM:=aa hM;cases hs:dJ key f m x with
      | none=>
       rw[hs]at Am;obtain⟨o,L',sO⟩:=wh (mt:=245) (kt:=3) (vt:=3) Tryz.underlying245 Tryz.underlying3 hM x (m:Int);have y':=aa sO
       have CR:am (∀ y,dJ key f (m+1) y=if y=x then some (m:Int) else dJ key f m y):=aa (by
        have:=zj (key:=key) (f:=f) (k:=m) (by rw[oK];exact hs);rw[oK,wL.o m]at this
        exact this)
       have rQ:am (∀ k,k<m->l.getD k 0≠l.getD m 0):=aa (fun k hk=>by
        have:=Df.1 hs k hk;rw[HK.o k]at this
        rw[<-HK.o m,oK];exact this)
       clear sO hM hL hX hO U' JQ Sb hs oK az
       go_wp2_with fail
       go_roundw
       ·exact⟨m+1,Q,by omega,by go_num,eX (by omega) aP.o,(World.putObj_heap_other (by omega)).trans HL.o,(World.putObj_heap_other (by omega)).trans HX.o,(World.putObj_heap_other (by omega)).trans HO.o,Zo.o,HPQ.o,HDQ.o.fresh rQ.o,_,y'.o.congr (fun y=>(CR.o y).symm) rfl⟩
       ·simp[intOf];omega
      | some z=>
       rw[hs]at Am;have Ak:am (∀ y,dJ key f (m+1) y=dJ key f m y):=aa (zk (z:=z) (by rw[oK];exact hs));obtain⟨i,hi,_,e2,e3⟩:=rY hs;rw[wL.o i]at e3;subst e3;have HE:am (l.getD i 0=l.getD m 0):=aa (by rw[<-HK.o i,<-HK.o m,e2,oK]);have kY:i<k:=by omega
       clear hM hL hX hO U' JQ Sb hs oK az e2
       go_wp2_with fail
       refine(zH k (B+1) B Q Zo.o.par m fT wr (by omega) HX.o HO.o).mono ?_;rintro e w2 ⟨rfl,sQ,Q2,n9,DV,MS⟩;have dR:=aa sQ;have mi:=aa n9;have OF:=aa DV;have dU:=aa MS;clear sQ n9 DV MS;obtain⟨p,hp⟩:∃ p,rootN Q m=p:=⟨_,rfl⟩;rw[hp];have pZ:p<k:=by rw[<-hp];exact sy fT
       have HP:=aa hp;clear hp Am
       go_wp2_with fail
       refine(zH k (B+1) B Q2 OF.o i kY w2 (by omega) ((dR.o.same _ (by omega)).trans HX.o) mi.o).mono ?_;rintro e w3 ⟨rfl,ho3,Q3,vm,OH,MK⟩;obtain⟨q,hq⟩:∃ q,rootN Q2 i=q:=⟨_,rfl⟩;rw[hq];have BX:q<k:=by rw[<-hq];exact sy kY
       have ho:=dR.o.trans ho3;have dK:=fun e=>SN (l:=l) (m:=m) (j:=i) Zo.o OH (fun x hx=>(MK x hx).trans (dU.o x hx)) HPQ.o HDQ.o fT hi e (HP4.o m i HE.o.symm) HP.o ((dU.o i kY).symm.trans hq)
       have dT:=aa (dK HE.o);have wY:=aa (And.intro ((ho.same _ (by omega)).trans HL.o) (And.intro ((ho.same _ (by omega)).trans HX.o) (HM.o.kept (ho.same M (by omega)))));have ef:=aa (ho.below aP.o (by omega));have As:=aa vm;have vu:=OH.len;have tx:=ab wY.o.2.1 0;simp at tx;have Y0:=aa vu;clear ho3 vm OH MK hq ho dK vu
       have OV:∀ pU lo:Nat,pU=max p q->lo=min p q->∃ (m':Nat) (Q':List Int),m'<=k/\Value.int .i64 ((m:Int)+1)=.int .i64 m'/\Below w.heap.size w (w3.setCell ⟨B,pU,none⟩ (.int .i64 lo))/\(w3.setCell ⟨B,pU,none⟩ (.int .i64 lo)).heap[L]?=some (.cells #[.slice qa k ca,.slice qb k cb] 38)/\(w3.setCell ⟨B,pU,none⟩ (.int .i64 lo)).heap[B+1]?=some (.cells #[.slice (some ⟨B,0,none⟩) k k] 38)/\(w3.setCell ⟨B,pU,none⟩ (.int .i64 lo)).heap[B]?=some (.cells (bC Q') 3)/\Uni a b k Q'/\jw k P Q'/\fP l k m' Q'/\∃ c,dy (w3.setCell ⟨B,pU,none⟩ (.int .i64 lo)) M (dJ key f m') c:=by
        rintro pU lo rfl rfl;exact⟨m+1,_,by omega,by go_num,ef.o.setCell (by dsimp only;omega) _,aK wY.o.1 (by omega) _ _,aK wY.o.2.1 (by omega) _ _,by rw[aF As.o,kT],dT.o.1,dT.o.2.1,dT.o.2.2,c,(wY.o.2.2.kept (Below.heap_setCell _ _ _ _ (by dsimp only;omega))).congr (fun y=>(Ak.o y).symm) rfl⟩
       have ie:=aa OV;clear OV;rcases Nat.lt_trichotomy p q with Mf|Mf|Mf
       ·have tq:=ab As.o q;rw[eR _ _ (by have:=Y0.o;omega)]at tq;have zq:=aE As.o q;have hpq':¬ (q:Int)<p:=by omega
        have RI:max (p:Int) (q:Int)=(q:Int):=Int.max_eq_right (by omega);have rc:min (p:Int) (q:Int)=(p:Int):=Int.min_eq_left (by omega)
        go_wp2_with fail
        go_roundw
        ·exact ie.o q p (by omega) (by omega)
        ·simp[intOf];omega
       ·subst Mf;have tq:=ab As.o p;rw[eR _ _ (by have:=Y0.o;omega)]at tq;have zq:=aE As.o p
        go_wp2_with fail
        go_roundw
        ·exact ie.o p p (by omega) (by omega)
        ·simp[intOf];omega
       ·have tq:=ab As.o p;rw[eR _ _ (by have:=Y0.o;omega)]at tq;have zq:=aE As.o p;have hpq':¬ (p:Int)<q:=by omega
        have RI:max (p:Int) (q:Int)=(p:Int):=Int.max_eq_left (by omega);have rc:min (p:Int) (q:Int)=(q:Int):=Int.min_eq_right (by omega)
        go_wp2_with fail
        go_roundw
        ·exact ie.o p q (by omega) (by omega)
        ·simp[intOf];omega
     ·obtain rfl:m=k:=by omega
      clear hM
      go_wp2_with fail
      go_roundw
      ·exact⟨j+1,Q,by omega,by go_num,az,hL,hX,hO,U',(HP5.o Q Sb JQ).1,(HP5.o Q Sb JQ).2⟩
      ·simp[intOf];omega
   ·obtain rfl:j=2:=by omega
    have HX:=aa hX;have HO:=aa hO;have HU:=aa hU;have aP:=aa az;have q8:=aa (Vs (by omega));have Yx:=aa (Hj (by omega));have OL:=aC hL;have CV:=az.size;clear hL hX hO hU az Vs Hj;obtain⟨f2,vg⟩:∃ f2:Nat->Int,f2=fun i:Nat=>(rootN P i:Int):=⟨_,rfl⟩
    have yO:am (∀ i,f2 i=(rootN P i:Int)):=aa fun i=>by rw[vg]
    have HJ:am (lG ((List.range k).map f2)=lp a b):=aa (by rw[vg];exact Sj HNA.o HU.o q8.o Yx.o);clear vg;have fT:=iP f2 k Iu
    go_wp2_with fail
    clear fT;refine bu (fun W=>Below w.heap.size w W/\W.heap[B+1]?=some (.cells #[.slice (some ⟨B,0,none⟩) k k] 38)/\W.heap[B]?=some (.cells (bC P) 3)/\W.heap[wr.heap.size]?=some (.cells (fC k f2 0) 3)) ⟨aP.o.alloc CV _,ar _ HX.o,ar _ HO.o,aq _ _⟩ (fun W2 eY=>?_);generalize wr.heap.size=R at eY OL CV;have cS:=aa eY;clear eY HX HO aP wr
    go_loopw [88] (fun i wr=>∃ (m:Nat) (Q:List Int),m<=k/\i=.int .i64 m/\Below w.heap.size w wr/\wr.heap[B+1]?=some (.cells #[.slice (some ⟨B,0,none⟩) k k] 38)/\wr.heap[B]?=some (.cells (bC Q) 3)/\Par k Q/\(∀ i,i<k->rootN Q i=rootN P i)/\wr.heap[R]?=some (.cells (fC k f2 m) 3)) (fun i _=>k - (intOf i).toNat)
    ·exact⟨0,P,by omega,rfl,cS.o.1,cS.o.2.1,cS.o.2.2.1,HU.o.par,fun _ _=>rfl,cS.o.2.2.2⟩
    ·
     clear cS;obtain⟨m,Q,hm,rfl,az,hX,hO,hQ,hr,hR⟩:=hrel;by_cases fT:m<k
     ·have HR:=aa hR;have HX:=aa hX;have HO:=aa hO;have aP:=aa az;have yM:=aa hr;have HRT:am (rootN Q m=rootN P m):=aa (hr m fT);have hc:=zH k (B+1) B Q hQ m fT wr (by omega) hX hO;rw[HRT.o]at hc;have HC:=aa hc;have HV:=aa (yO.o m);clear hR hX hO az hr hQ hc;generalize rootN P m=p at HC HV HRT
      go_wp2_with fail
      refine HC.o.mono ?_;rintro e w2 ⟨rfl,sQ,Q2,n9,DV,MS⟩;have cQ:=aa (sQ.below aP.o (by omega));have fG:=aa ((sQ.same _ (by omega)).trans HX.o);have mJ:=(sQ.same R (by omega)).trans HR.o;have dU:=aa mJ;have tq:=ab mJ m;rw[kS _ _ _ _ fT]at tq;have zq:=aE mJ m;have dR:=aa n9;have OF:=aa DV;have GV:=aa MS;clear sQ n9 DV MS mJ
      go_wp2_with fail
      go_roundw
      ·(repeat apply Exists.intro);refine⟨?_,rfl⟩;exact⟨m+1,Q2,by omega,by go_num,cQ.o.setCell (by dsimp only;omega) _,aK fG.o (by omega) _ _,aK dR.o (by omega) _ _,OF.o,fun i hi=>(GV.o i hi).trans (yM.o i hi),by rw[aF dU.o,<-sB _ _ _ fT,HV.o]⟩
      ·simp[intOf];omega
     ·obtain rfl:m=k:=by omega
      rw[oE]at hR
      have HRI:am (aT wr (.slice (some ⟨R,0,none⟩) m m) ((List.range m).map f2)):=aa (sC (by simp) Iu hR fun i hi=>by
       rw[show ((List.range m).map f2).getD i 0=f2 i by simp at hi;simp[hi],yO.o];have:=IJ P i;simp at hi
       exact⟨by omega,by omega⟩)
      have aP:=aa az;clear hR hX hO hQ hr az
      go_wp2_with fail
      refine(Lj _ _ wr HRI.o (by simpa using Iu)).mono ?_;rintro e w2 ⟨u,rfl,hu,a8⟩;rw[HJ.o]at hu;have pP:=aa hu;obtain⟨_,_,rfl,_⟩:=hu.at;clear hu
      go_wp2_with fail
      go_ret2
      exact⟨_,rfl,pP.o,ae aP.o a8⟩
end Go.Proofs.YtmeaoneaephjeaaGreatDoor
namespace Go.Proofs.YtmeaoneaephjeaaGreatDoor
open Go.RowKit Go Go.Shelf
abbrev By(p:Pb) (vc vs:Value):Array Value:=#[.int .i64 p.t.n,.int .i64 p.t.ins,.int .i64 p.t.outs,vc,.int .i64 p.a.n,vs,.int .i64 p.rounds]
theorem gO{p:Pb} (h:probE p=0):taskE p.t=0/\advE p.a=0/\p.t.n=p.a.n/\0<=p.rounds/\p.rounds<=6:=by
 unfold probE at h;split at h
 ·rename_i h1;exact absurd h h1
 rename_i h1;split at h
 ·rename_i h2;exact absurd h h2
 rename_i h2;split at h
 ·omega
 split at h
 ·omega
 exact⟨by simpa using h1,by simpa using h2,by omega,by omega,by omega⟩
theorem up_words:Up (nh 7 nE):=AL up_round
def Dw(w:World) (b o:Nat) (x:Vw):Prop:=
 gr w b o x.p/\gr w b (o+1) x.k/\gr w b (o+2) x.i/\gr w b (o+3) x.h0/\gr w b (o+4) x.h1/\gr w b (o+5) x.h2/\gr w b (o+6) x.h3/\gr w b (o+7) x.h4
theorem up_view:Up Dw:=fun _ _ _ _ _ hb ⟨h0,h1,h2,h3,h4,h5,h6,h7⟩=>
 ⟨up_int _ _ _ _ _ hb h0,up_int _ _ _ _ _ hb h1,up_int _ _ _ _ _ hb h2,up_int _ _ _ _ _ hb h3,up_int _ _ _ _ _ hb h4,up_int _ _ _ _ _ hb h5,up_int _ _ _ _ _ hb h6,up_int _ _ _ _ _ hb h7⟩
abbrev nN:=fm 8 Dw
abbrev Vw.c(v:Vw):Array Value:=#[.int .i64 v.p,.int .i64 v.k,.int .i64 v.i,.int .i64 v.h0,.int .i64 v.h1,.int .i64 v.h2,.int .i64 v.h3,.int .i64 v.h4]
abbrev Vw.v(v:Vw):Value:=.agg v.c
def fc(xs:List Vw):List Value:=xs.flatMap fun x=>x.c.toList
theorem Gj(a b:List Vw):fc (a++b)=fc a++fc b:=by simp[fc]
theorem Gk(xs:List Vw):∀ u∈fc xs,u.oneCell'=true:=by
 intro u hu;obtain⟨x,_,hx⟩:=List.mem_flatMap.1 hu;simp at hx;rcases hx with h|h|h|h|h|h|h|h<;>subst h<;>rfl
def SO(w:World) (b o:Nat) (x:Ex):Prop:=gr w b o x.c/\nh 7 nE w b (o+1) x.word/\vV w b (o+2) x.views
theorem up_ex:Up SO:=fun _ _ _ _ _ hb h=>⟨up_int _ _ _ _ _ hb h.1,up_words _ _ _ _ _ hb h.2.1,up_vecs _ _ _ _ _ hb h.2.2⟩
abbrev AV:=fm 3 SO
abbrev bL(p:Pb) (vc vs:Value) (n:Int) (vt ve:Value):Array Value:=By p vc vs++#[.int .i64 n,vt,ve]
abbrev zeroPb:Pb:=⟨⟨0,0,0,[]⟩,⟨0,[]⟩,0⟩
abbrev zeroSys:Array Value:=bL zeroPb (.slice none 0 0) (.slice none 0 0) 0 (.slice none 0 0) (.slice none 0 0)
structure IsSys (w:World) (s:Sys) (vc vs vt ve:Value):Prop where
 cases:bS w vc s.prob.t.cases
 states:bF w vs s.prob.a.states
 tab:nN w vt s.tab
 ex:AV w ve s.ex
theorem IsSys.up{w w':World} {s:Sys} {vc vs vt ve:Value} (h:IsSys w s vc vs vt ve) (hb:Below w.heap.size w w'):IsSys w' s vc vs vt ve:=⟨h.cases.up up_case hb,h.states.up up_moves hb,h.tab.up up_view hb,h.ex.up up_ex hb⟩
abbrev wo(w:World) (base:Nat) (v:Value) (l:List (List Rd)):Prop:=cB 87 141 7 dd w base v l
abbrev cU(w:World) (base:Nat) (v:Value) (l:List (List Int)):Prop:=cB 38 3 1 (fun l=>l.map (Value.int .i64)) w base v l
def Qd(w:World) (b o:Nat) (x:Lk):Prop:=gr w b o x.x/\gr w b (o+1) x.p
theorem up_link:Up Qd:=fun _ _ _ _ _ hb h=>⟨up_int _ _ _ _ _ hb h.1,up_int _ _ _ _ _ hb h.2⟩
abbrev bh:=fm 2 Qd
abbrev Lk.c(y:Lk):Array Value:=#[.int .i64 y.x,.int .i64 y.p]
abbrev Lk.v(y:Lk):Value:=.agg y.c
def cF(l:List Lk):List Value:=l.flatMap fun y=>y.c.toList
theorem mf(xs:List Lk):(cF xs).length=xs.length * 2:=by
 induction xs with
 | nil=>rfl
 | cons a r ih=>
  have:cF (a :: r)=a.c.toList++cF r:=rfl;rw[this,List.length_append,ih];simp;omega
theorem jB(a b:List Lk):cF (a++b)=cF a++cF b:=by simp[cF]
theorem Dx(xs:List Lk):∀ u∈cF xs,u.oneCell'=true:=by
 intro u hu;obtain⟨x,_,hx⟩:=List.mem_flatMap.1 hu;simp at hx;rcases hx with h|h<;>subst h<;>rfl
def fF(s:Sys) (e:Nat):List Int:=(List.range (nS s)).map fun p=>if hasB (fltS s e) p then -1 else finS s e p
def sF(s:Sys):List (List Int):=(List.range (eS s)).map (fF s)
def Fl(s:Sys):List Int:=(List.range (eS s)).map fun e=>((il s e:Nat):Int)
structure FinAt (w:World) (B:Nat) (s:Sys):Prop where
 ex:∃ vl,w.heap[B]?=some (.cells #[.int .i64 (nS s),vl] 201)/\eD w vl (sF s)
theorem FinAt.up{w w':World} {B:Nat} {s:Sys} (h:FinAt w B s) (hb:Below w.heap.size w w'):FinAt w' B s:=by
 obtain⟨vl,h1,h2⟩:=h.ex;exact⟨vl,af hb h1,h2.up up_ints hb⟩
structure ScAt (w:World) (B:Nat) (s:Sys):Prop where
 ex:∃ vc vs vt ve vv vl,w.heap[B]?=some (.cells (bL s.prob vc vs s.n vt ve++#[vv,vl]) 98)/\IsSys w s vc vs vt ve/\aT w vv (Fl s)/\aT w vl (partsS s)
theorem ScAt.up{w w':World} {B:Nat} {s:Sys} (h:ScAt w B s) (hb:Below w.heap.size w w'):ScAt w' B s:=by
 obtain⟨vc,vs,vt,ve,vv,vl,h1,h2,h3,h4⟩:=h.ex;exact⟨vc,vs,vt,ve,vv,vl,af hb h1,h2.up hb,h3.up up_int hb,h4.up up_int hb⟩
theorem fI{w:World} {base:Nat} {v:Value} {l:List Int} (h:aH w base 3 1 v l.length (l.map (Value.int .i64))) (hr:∀ x∈l,bN x) (hn:l.length<=17592186044416):aT w v l:=by
 have aU:=fun i (hi:i<l.length)=>h.cell i (.int .i64 l[i]) (by simp[hi])
 rcases h.2 with ⟨rfl,hz⟩|⟨g,cap,cur,fz,rfl,_,hg,_,kZ,jk,_,_⟩
 ·refine⟨none,0,by rw[hz],⟨by omega,by omega,fun _=>rfl⟩,hn,fun i x hi=>?_⟩;have:=(List.getElem?_eq_some_iff.1 hi).1;omega
 ·refine⟨some ⟨g,0,none⟩,cap,rfl,⟨kZ,by simp only[maxLen]at jk;omega,fun e=>by cases e⟩,hn,fun i x hi=>⟨g,0,rfl,?_⟩⟩;obtain⟨gZ,rfl⟩:=List.getElem?_eq_some_iff.1 hi;obtain⟨g',c',e1,e2⟩:=aU i gZ;have:g=g':=by simp at e1;exact e1.1
  subst this;exact⟨by rw[Nat.mul_one,Nat.zero_add];exact e2,hr _ (List.getElem_mem gZ)⟩
theorem aH.keep{w w':World} {base sz:Nat} {e:TypeId} {v:Value} {n:Nat} {xs:List Value} (h:aH w base e sz v n xs) (hk:∀ (g:Nat) (o:Obj),v.ownBlock=some g->w.heap[g]?=some o->w'.heap[g]?=some o):aH w' base e sz v n xs:=by
 obtain⟨hl,h⟩:=h;refine⟨hl,?_⟩;rcases h with h|⟨g,cap,cur,fz,rfl,h2,h3,h4⟩
 ·exact .inl h
 ·exact .inr ⟨g,cap,cur,fz,rfl,h2,hk g _ rfl h3,h4⟩
theorem wu(p:Pb) (vc vs:Value) (w:World) (hc:bS w vc p.t.cases) (hs:bF w vs p.a.states) (hN:movesN p.a.states<2305843009213693952) :
  Calls Tryz.prog 71 #[rE p vc vs] w fun e w'=>e=.returned (.int .i64 (probE p))/\Below w.heap.size w w':=by
 have GC:=aa hc;have GS:=aa hs;obtain⟨pc,cc,rfl,_⟩:=hc.at;obtain⟨ps,cs,rfl,_⟩:=hs.at;clear hc hs;have HV:am (probE p=if taskE p.t≠0 then taskE p.t else if advE p.a≠0 then advE p.a else if p.t.n≠p.a.n then 22 else if p.rounds<0\/6<p.rounds then 2 else 0):=by exact rfl
 go_enter Tryz.func71,Tryz.ntmps71
 go_wp2_with fail
 refine aN (fun W=>Below w.heap.size w W/\W.heap[w.heap.size]?=some (.cells (By p (.slice pc p.t.cases.length cc) (.slice ps p.a.states.length cs)) 29)) ⟨by go_grown,aq _ _⟩ (fun W0 aZ=>?_);obtain⟨aI,bI⟩:=aZ;refine(Fe p.t _ W0 (GC.o.up up_case aI)).mono ?_;rintro e w1 ⟨rfl,aJ⟩;have gB:=ae aI aJ;have eK:=af aJ bI;have t1:=ab eK;generalize taskE p.t=et at HV;have db:=aa eK;clear eK bI;by_cases oZ:et=0
 case neg=>
  have Oi:(et != 0)=true:=by simpa using oZ
  go_wp2_with fail
  go_ret
  exact⟨aG (by rw[HV.o,if_pos oZ]),gB⟩
 subst oZ
 go_wp2_with fail
 refine(H5 p.a _ w1 (GS.o.up up_moves gB) hN).mono ?_;rintro e w2 ⟨rfl,a8⟩;have kP:=ae gB a8;have t2:=ab (af a8 db.o);clear t1;generalize advE p.a=ea at HV;by_cases yN:ea=0
 case neg=>
  have hea':(ea != 0)=true:=by simpa using yN
  go_wp2_with fail
  go_ret
  exact⟨aG (by rw[HV.o,if_neg (by simp),if_pos yN]),kP⟩
 subst yN
 go_wp2_with fail
 all_goals
  go_ret
  refine⟨aG ?_,kP⟩;rw[HV.o]
  go_light
  grind
theorem Ll{p:Pb} (h:probE p=0):∃ n:Nat,p.rounds=n/\n<=6:=⟨p.rounds.toNat,by have:=gO h;omega,by have:=gO h;omega⟩
def numberP(p:Pb):Int:=p.t.cases.length * numberS p.a p.rounds.toNat
theorem Ns(a:Adv) (n:Nat):0<=numberS a n/\numberS a n<=4097:=Ff (I9 a n) 0
theorem uy(p:Pb) (vc vs:Value) (w:World) (hc:bS w vc p.t.cases) (hs:bF w vs p.a.states) (hp:probE p=0) :
  Calls Tryz.prog 72 #[rE p vc vs,.int .i64 4096] w fun e w'=>e=.returned (.int .i64 (numberP p))/\Below w.heap.size w w':=by
 obtain⟨ht,ha,AH,_,_⟩:=gO hp;clear AH;obtain⟨h1,h2,_⟩:=ir ha;have bR:=(fB ht).2.2.2.1;obtain⟨n,hn,hn6⟩:=Ll hp;have HV:am (numberP p=p.t.cases.length * numberS p.a n):=by(have h:numberP p=p.t.cases.length * numberS p.a n:=by(unfold numberP;rw[hn,Int.toNat_natCast]));exact h
 have bW:=aa (fun W (hb:Below w.heap.size w W)=>Fg p.a vs n hn6 W (hs.up up_moves hb) h2 h1);have gL:=Ns p.a n;generalize numberS p.a n=nn at bW HV gL;obtain⟨pc,cc,rfl,_⟩:=hc;obtain⟨ps,cs,rfl,_⟩:=hs
 have HM:am (IntKind.i64.wrap ((p.t.cases.length:Int) * nn)=p.t.cases.length * nn):=by
  have h:IntKind.i64.wrap ((p.t.cases.length:Int) * nn)=p.t.cases.length * nn:=by
   have h1:(0:Int)<=(p.t.cases.length:Int) * nn:=Int.mul_nonneg (by omega) (by omega);have h2:(p.t.cases.length:Int) * nn<=1024 * 4097:=Int.mul_le_mul (by omega) (by omega) (by omega) (by omega);exact IntWalk.i64_in _ (by omega)
  exact h
 rw[<-hn]at bW;clear ht ha h1 h2 hp gL hn
 go_enter Tryz.func72,Tryz.ntmps72
 go_wp2_with fail
 refine bu (fun V=>Below w.heap.size w V/\V.heap[w.heap.size]?=some (.cells (By p (.slice pc p.t.cases.length cc) (.slice ps p.a.states.length cs)) 29)) ⟨by go_grown,aq _ _⟩ (fun V hV=>?_);obtain⟨aI,bI⟩:=hV;have rG:=aa (fun x:ExtW V=>Calls.ext_of (bW.o x.val (ae aI x.ext)));have r1:∀ x:ExtW V,∀ o,x.val.cell? ⟨w.heap.size,o,none⟩=_:=fun x=>ab (af x.ext bI)
 have hM:=HM.o;clear bI;refine aD (by kernel_rfl) (by kernel_rfl) ?_
 repeat (go_big_quiet_step ((go_at_call 116;exact rG.o _)))
 refine wpQuiet_nil ?_;intro _ eJ;obtain⟨xq,dq⟩:=eJ;subst dq;clear r1 bW hM
 go_wp2_with fail
 go_ret
 exact⟨aG (by rw[HV.o]),ae aI xq.ext⟩
def fewPB(p:Pb):Bool:=
 if fewTB p.t=false then false else if ul p.a=false then false else if 3<p.t.n/\p.t.n<=5 then false
 else if probE p≠0 then true else decide (numberP p<=60) || decide (4096<numberP p)
theorem Jg(p:Pb) (vc vs:Value) (w:World) (hc:bS w vc p.t.cases) (hs:bF w vs p.a.states) :
  Calls Tryz.prog 34 #[rE p vc vs] w fun e w'=>e=.returned (.bool (fewPB p))/\Below w.heap.size w w':=by
 have GC:=aa hc;have GS:=aa hs;obtain⟨pc,cc,rfl,_⟩:=hc;obtain⟨ps,cs,rfl,_⟩:=hs;have HV:am (fewPB p=if fewTB p.t=false then false else if ul p.a=false then false else if 3<p.t.n/\p.t.n<=5 then false else if probE p≠0 then true else decide (numberP p<=60) || decide (4096<numberP p)):=by exact rfl
 have HF:am (ul p.a=(decide (p.a.states.length<=8)&&decide (movesN p.a.states<=40))):=by exact rfl
 go_enter Tryz.func34,Tryz.ntmps34
 go_wp2_with fail
 refine aN (fun W=>Below w.heap.size w W/\W.heap[w.heap.size]?=some (.cells (By p (.slice pc p.t.cases.length cc) (.slice ps p.a.states.length cs)) 29)) ⟨by go_grown,aq _ _⟩ (fun W0 aZ=>?_);obtain⟨aI,bI⟩:=aZ;refine(I7 p.t _ W0 (GC.o.up up_case aI)).mono ?_;rintro e w1 ⟨rfl,aJ⟩;have gB:=ae aI aJ;have db:=aa (af aJ bI);have t1:=ab db.o;clear bI;generalize fewTB p.t=ft at HV;cases ft with
 | false=>
  go_wp2_with fail
  go_ret
  exact⟨aR (by rw[HV.o];rfl),gB⟩
 | true=>
 go_wp2_with fail
 refine(Lf p.a _ w1 (GS.o.up up_moves gB)).mono ?_;rintro e w2 ⟨rfl,a8⟩;have kP:=ae gB a8;have mo:=aa (af a8 db.o);have t2:=ab mo.o;clear t1;cases EN:ul p.a with
 | false=>
  have rL:=aa EN;clear EN
  go_wp2_with fail
  go_ret
  exact⟨aR (by rw[HV.o,rL.o];rfl),kP⟩
 | true=>
 have Wi:movesN p.a.states<=40:=by
  have h:=HF.o;rw[EN]at h;simp at h;exact h.2
 rw[EN]at HV;clear HF EN;by_cases h3:3<p.t.n/\p.t.n<=5
 ·obtain⟨h31,G'⟩:=h3;have HR:am (fewPB p=false):=by(have h:fewPB p=false:=by(rw[HV.o];simp[h31,G']));exact h
  go_wp2_with fail
  go_ret
  exact⟨aR HR.o.symm,kP⟩
 have HR:am (fewPB p=if probE p≠0 then true else decide (numberP p<=60) || decide (4096<numberP p)):=by
  have h:fewPB p=if probE p≠0 then true else decide (numberP p<=60) || decide (4096<numberP p):=by
   rw[HV.o,if_neg (by simp),if_neg (by simp),if_neg h3]
  exact h
 clear HV;have UW:¬ 3<p.t.n\/(3<p.t.n/\5<p.t.n):=by omega
 clear h3;have HC:=aa (wu p _ _ w2 (GC.o.up up_case kP) (GS.o.up up_moves kP) (by omega));have HNU:=aa (fun (hp:probE p=0) W (hb:Below w.heap.size w W)=>uy p _ _ W (GC.o.up up_case hb) (GS.o.up up_moves hb) hp);rcases UW with h3|⟨h3,ZF⟩
 all_goals
  go_wp2_with fail
  refine HC.o.mono ?_;rintro e w3 ⟨rfl,bH⟩;have OD:=ae kP bH;have t3:=ab (af bH mo.o);clear t2;by_cases hp:probE p=0
  case neg=>
   generalize probE p=ep at hp HR;have RQ:(ep != 0)=true:=by simpa using hp
   go_wp2_with fail
   go_ret
   exact⟨aR (by rw[HR.o,if_pos hp]),OD⟩
  have tp:=aa (HNU.o hp w3 OD);rw[hp]at HR ⊢;clear hp HNU
  go_wp2_with fail
  refine tp.o.mono ?_;rintro e w4 ⟨rfl,cj⟩;clear t3;generalize numberP p=nn at HR;by_cases h60:nn<=60
  ·go_wp2_with fail
   go_ret
   exact⟨aR (by rw[HR.o,if_neg (by simp),decide_eq_true h60];rfl),ae OD cj⟩
  ·have hd:decide (nn<=60)=false:=decide_eq_false h60;have HD:=aa hd
   go_wp2_with fail
   go_ret
   exact⟨aR (by rw[HR.o,if_neg (by simp),HD.o];rfl),ae OD cj⟩
theorem qJ{p:Pb} (h:fewPB p=true):movesN p.a.states<=40:=by
 unfold fewPB at h;split at h
 ·cases h
 split at h
 ·cases h
 ·rename_i h2;have:ul p.a=true:=by simpa using h2
  unfold ul at this;simp at this;exact this.2
end Go.Proofs.YtmeaoneaephjeaaGreatDoor
