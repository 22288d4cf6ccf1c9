/-
  A part of the proof: lemmas and contracts that the parts behind it use. Each one's conditions are its own premises.
-/
import Derived.WalkSpells
import Derived.Shelf.Spec.TrailingZeros
import Derived.Laws.CopyOwn
import Derived.Test.YtmeaoneaephjeaaGreatDoorE4
set_option maxRecDepth 100000
set_option maxHeartbeats 8000000
set_option linter.unusedVariables false
set_option linter.unusedSimpArgs false
namespace Go.Proofs.YtmeaoneaephjeaaGreatDoor
open Go.RowKit Go Go.Shelf
attribute [local go_sem] Oper.semAt_some
theorem Fz(l:List Int) (i:Nat) (h:i<l.length):(bH l)[i]?=some (.int .i64 (l.getD i 0)):=by
 unfold bH;rw[List.getElem?_toArray,List.getElem?_map,List.getElem?_eq_getElem h,List.getD_eq_getElem?_getD,List.getElem?_eq_getElem h];rfl
theorem Pg(l:List Int) (s:Nat) (z:Int):(bH l).setIfInBounds s (.int .i64 z)=bH (l.set s z):=by
 unfold bH;rw[List.setIfInBounds_toArray,List.map_set]
theorem cI.marks{B B0:Nat} {Ds:List Nat} (h:∀ D∈Ds,D<B):cI B (fun W=>cU B0 Ds W):=fun _ _ c x=>⟨x.1,fun D hD=>⟨(x.2 D hD).1,c.same _ _ (x.2 D hD).2 (.inl (h D hD))⟩⟩
theorem cU.lt{B:Nat} {Ds:List Nat} {W:World} (h:cU B Ds W):∀ D∈Ds,D<W.heap.size:=fun D hD=>aD (h.2 D hD).2
theorem GX(a:Adv) (v:Value) (k:Nat) (L:Int) (w:World) (hv:bu w v a.states) (h1:1<=a.states.length) (h2:a.states.length<=256) (aU:∀ j,j<a.states.length->stateE a (a.states.getD j [])=0) (hk:k<=6) (hL:0<=L) (hL2:L<=1048576) :
  Calls Tryz.prog 212 #[.agg #[.int .i64 a.n,v],.int .i64 k,.int .i64 L] w fun e w'=>e=.returned (.int .i64 (numberL L a k))/\Below w.heap.size w w':=by
 have G:=aa hv;obtain⟨pa,ca,rfl,la1,la2,ea⟩:=hv.at;clear hv ea;have m5:=aa aU;clear aU;refine gi Tryz.func212 rfl ?_;simp only[Tryz.ntmps212,List.size_toArray,List.length_cons,List.length_nil,Nat.reduceAdd,Nat.reduceSub,Array.replicate_succ,Array.replicate_zero,List.push_toArray,List.append_toArray,List.nil_append,List.cons_append]
 go_wp2_with fail
 refine aO (fun W=>Below w.heap.size w W/\W.heap[w.heap.size]?=some (.cells #[.int .i64 a.n,.slice pa a.states.length ca] 27)/\W.heap[w.heap.size+1]?=some (.cells #[.int .i64 L] 3)/\W.heap[w.heap.size+1+1]?=some (.cells #[.int .i64 1] 3)) ⟨by go_grown,ar _ (ar _ (ap _ _)),ar _ (aZ _ _ _),dZ _ _ _ _⟩ (fun W0 aX=>?_);obtain⟨aG,bB,eB,gM⟩:=aX;refine(wP 1 a.states.length h1 (by omega) _ W0 gM).mono ?_;rintro e w1 ⟨rfl,bU,aK⟩
 go_wp2_with fail
 have jt:=ae aG aK;have eW:=af aK bB;have sd:=af aK eB;have cD:=aG.size;have bX:=aK.size;have X1:=aD gM
 refine wp_loop (fun act W=>∃ (q:Nat) (Ds:List Nat) (cb:Nat) (u8 u9 u10 u18 u19 u20 u21 u22 u23 u24 u25 u26 u27 u28 u29 u30 u31 u32 u33 u34 u35 u36 u37 u38 u39 u40 u41 u42 u43 u44 u45 u46:Value),
   act={ tmps:=#[Value.agg #[Value.int IntKind.i64 a.n,Value.slice pa a.states.length ca],Value.int IntKind.i64 k,Value.int IntKind.i64 L,Value.pointer (some ⟨w.heap.size,0,none⟩),undef,Value.pointer (some ⟨w.heap.size+1,0,none⟩),Value.int IntKind.i64 0,Value.pointer (some ⟨w1.heap.size,0,none⟩),u8,u9,u10,
     Value.slice (some ⟨w.heap.size+1+1,0,none⟩) 1 1,Value.pointer (some ⟨w.heap.size,1,none⟩),Value.slice pa a.states.length ca,Value.int IntKind.i64 a.states.length,Value.slice (some ⟨W0.heap.size,0,none⟩) a.states.length a.states.length,Value.int IntKind.i64 k,Value.int IntKind.i64 q,
     u18,u19,u20,u21,u22,u23,u24,u25,u26,u27,u28,u29,u30,u31,u32,u33,u34,u35,u36,u37,u38,u39,u40,u41,u42,u43,u44,u45,u46],defers:=m7 Ds }/\q<=k/\cU w.heap.size Ds W/\Below w.heap.size w W/\w1.heap.size<W.heap.size ∧
    W.heap[w.heap.size]?=some (.cells #[.int .i64 a.n,.slice pa a.states.length ca] 27)/\W.heap[w.heap.size+1]?=some (.cells #[.int .i64 L] 3) ∧
    W.heap[w1.heap.size]?=some (.cells #[.slice (some ⟨cb,0,none⟩) a.states.length a.states.length] 38)/\w.heap.size<=cb/\W.heap[cb]?=some (.cells (bH (ez L a q)) 3))
  (fun act _=>k - (intOf (act.tmps.getD 17 undef)).toNat) ?start ?round
 case start=>
  refine⟨0,[],W0.heap.size,_,_,_,_,_,_,_,_,_,_,_,_,_,_,_,_,_,_,_,_,_,_,_,_,_,_,_,_,_,_,_,_,rfl,by omega,cU.nil _ _,jt.alloc jt.size _,by simp,ar _ eW,ar _ sd,ap _ _,by omega,ar _ ?_⟩;rw[bU]
  have:xC a.states.length 1 a.states.length=bH (ez L a 0):=by
   unfold xC;rw[qz];congr 1;apply List.ext_getElem (by simp[ez]);intro i _ _;simp[ez]
  rw[this]
 case round=>
  rintro act W ⟨q,Ds,cb,u8,u9,u10,u18,u19,u20,u21,u22,u23,u24,u25,u26,u27,u28,u29,u30,u31,u32,u33,u34,u35,u36,u37,u38,u39,u40,u41,u42,u43,u44,u45,u46,rfl,hq,gg,dF,hsW,hA,hR,hC,hcb,hrw⟩;have AR:=aa gg;have GE:=aa hrw;clear gg hrw bU bB eB gM eW sd;by_cases aC:q<k
  ·have hmake:=jD (fun _=>0) a.states.length h2;have oD:(q:Int)<k:=by omega
   have t7:=ab hC 0;have tA:=ab hA;simp at t7;have hlA:=aD hA;have HC:=aa hC;have HA:=aa hA;have HR:=aa hR;clear hC hA hR
   go_wp2_with fail
   refine(yG _ _ _ _ _).mono ?_;rintro e w2 ⟨rfl,rfl⟩;clear t7 tA hmake
   go_wp2_with fail
   have hlt0:=AR.o.lt
   refine bC (fun W1=>Below w.heap.size w W1/\W.heap.size<W1.heap.size/\W1.heap[w.heap.size+1]?=some (.cells #[.int .i64 L] 3)/\W1.heap[w.heap.size]?=some (.cells #[.int .i64 a.n,.slice pa a.states.length ca] 27)/\W1.heap[w1.heap.size]?=some (.cells #[.slice (some ⟨cb,0,none⟩) a.states.length a.states.length] 38)/\W1.heap[cb]?=some (.cells (bH (ez L a q)) 3) ∧
     W1.heap[W.heap.size]?=some (.cells (bH (jz L (ez L a q) a.states 0)) 3)/\W1.heap[W.heap.size+1]?=some (.cells #[.slice (some ⟨W.heap.size,0,none⟩) a.states.length a.states.length] 38)/\W1.heap[W.heap.size+1+1]?=some (.cells #[.int .i64 a.n,.slice pa a.states.length ca] 27)/\cU w.heap.size Ds W1)
    ⟨((dF.alloc dF.size _).alloc (by simp only[World.size_alloc];omega) _).alloc (by simp only[World.size_alloc];omega) _,by simp only[World.size_alloc];omega,ar _ (ar _ (ar _ HR.o)),ar _ (ar _ (ar _ HA.o)),ar _ (ar _ (ar _ HC.o)),ar _ (ar _ (ar _ GE.o)),ar _ (ar _ ?_),ar _ (aZ _ _ _),dZ _ _ _ _,AR.o.up (by go_grown)⟩ (fun W1 cM=>?_)
   ·rw[ap,Mo]
    have:fC a.states.length (fun _=>0) 0=bH (List.replicate a.states.length 0):=by
     apply Array.ext (by simp[fC,bH]);intro i _ _;simp[fC,bH]
    rw[this]
   obtain⟨g1,g2,g3,g4,g5,g6,g7,g8,g9,g10⟩:=cM;have dg:=wO w _ a.states G.o W1 g1 (W.heap.size+1+1) (by simp[ab g9]);have HZ1:=aa g2;have hcbB:=aD g6
   refine mL (gf:=221) (lb:=#[.pointer (some ⟨W.heap.size+1+1,0,none⟩)]) rfl (enters_of Tryz.func221 (by kernel_rfl) rfl) dg (Below.refl _ _) (fun k hk=>Nat.lt_of_lt_of_le hk g1.size) (fun i=>rfl)
    (fun i V=>Below w.heap.size w V/\V.heap[w.heap.size+1]?=some (.cells #[.int .i64 L] 3)/\V.heap[w.heap.size]?=some (.cells #[.int .i64 a.n,.slice pa a.states.length ca] 27)/\V.heap[w1.heap.size]?=some (.cells #[.slice (some ⟨cb,0,none⟩) a.states.length a.states.length] 38)/\V.heap[cb]?=some (.cells (bH (ez L a q)) 3) ∧
     V.heap[W.heap.size]?=some (.cells (bH (jz L (ez L a q) a.states i)) 3)/\V.heap[W.heap.size+1]?=some (.cells #[.slice (some ⟨W.heap.size,0,none⟩) a.states.length a.states.length] 38)/\cU w.heap.size Ds V)
    (fun _ _ _=>False)
    (fun i=>(cI.below g1.size).and (cI.cells.and (cI.cells.and (cI.cells.and (cI.cells.and (cI.cells.and (cI.cells.and (cI.marks g10.lt)))))))) (fun c i=>cI.pure) ⟨g1,g3,g4,g5,g6,g7,g8,g10⟩ ?round2 ?done ?stop
   case stop=>rintro D c i V hD hi h;exact h.elim
   case done=>
    intro D V hD hI hK;obtain⟨f1,f2,f3,f4,f5,f6,f7,f8⟩:=hI;rw[OG]at f6;have t8:=ab f7 0;have t7:=ab f4 0;have z7:=aH f4 0;simp at t8 t7;have HF:=aa (And.intro f1 (And.intro f2 (And.intro f3 (And.intro f4 (And.intro f5 (And.intro f6 (And.intro f7 (And.intro f8 hK))))))));have lW:∀ E∈Ds,E<D:=fun E hE=>Nat.lt_of_lt_of_le (g10.lt E hE) hD
    clear f1 f2 f3 f4 f5 f6 f7 f8 hK dg g3 g4 g5 g6 g7 g8 g9
    go_wp2_with fail
    refine⟨⟨q+1,D :: Ds,W.heap.size,_,_,_,_,_,_,_,_,_,_,_,_,_,_,_,_,_,_,_,_,_,_,_,_,_,_,_,_,_,_,_,_,rfl,by omega,?_,HF.o.1.setCell (by dsimp only;omega) _,?_,?_,?_,?_,by omega,?_⟩,?_⟩
    ·refine cU.cons (HF.o.2.2.2.2.2.2.2.1.keep fun k o hk ho=>?_) (by omega) ?_ lW
     ·exact(KeepsOthers.setCell _ _ _).same k o hk ho
     ·rw[Below.heap_setCell _ _ _ _ (by dsimp only;omega)];exact HF.o.2.2.2.2.2.2.2.2
    ·simp only[World.size_setCell];exact aD HF.o.2.2.2.1
    ·rw[Below.heap_setCell _ _ _ _ (by dsimp only;omega)];exact HF.o.2.2.1
    ·rw[Below.heap_setCell _ _ _ _ (by dsimp only;omega)];exact HF.o.2.1
    ·rw[aI HF.o.2.2.2.1];rfl
    ·rw[Below.heap_setCell _ _ _ _ (by dsimp only;omega)];exact HF.o.2.2.2.2.2.1
    ·simp[intOf];omega
   case round2=>
    intro yl i V hi hl hI;unfold Iv;obtain⟨s,j,hs,hj,rfl⟩:=K7 a.states i hi;have v7:=aa (Mp L (ez L a q) a.states (cnt a.states s+j) hi);rw[zW a.states s j hs hj]at v7 ⊢;have oX:=lw m5.o hs hj;generalize a.states[s][j]=m at oX v7;dsimp only;have HI:=aa hI;clear hI;have hszV:=HI.o.1.size;clear dg g3 g4 g5 g6 g7 g8 g9
    gi_wp2
    refine⟨Bod.of_below (fun k hk=>Nat.lt_of_lt_of_le hk hszV) (by go_grown),(fun X=>(Below w.heap.size w X/\X.heap[w.heap.size+1]?=some (.cells #[.int .i64 L] 3)/\X.heap[w.heap.size]?=some (.cells #[.int .i64 a.n,.slice pa a.states.length ca] 27)/\X.heap[w1.heap.size]?=some (.cells #[.slice (some ⟨cb,0,none⟩) a.states.length a.states.length] 38)/\X.heap[cb]?=some (.cells (bH (ez L a q)) 3) ∧
     X.heap[W.heap.size]?=some (.cells (bH (jz L (ez L a q) a.states (cnt a.states s+j))) 3)/\X.heap[W.heap.size+1]?=some (.cells #[.slice (some ⟨W.heap.size,0,none⟩) a.states.length a.states.length] 38)/\cU w.heap.size Ds X)/\X.heap[V.heap.size]?=some (.cells #[.int .i64 m.r.g.n,.int .i64 m.r.g.h0,.int .i64 m.r.g.h1,.int .i64 m.r.g.h2,.int .i64 m.r.g.h3,.int .i64 m.r.g.h4,.int .i64 m.r.f,.int .i64 m.to] 143)),
     ((cI.below g1.size).and (cI.cells.and (cI.cells.and (cI.cells.and (cI.cells.and (cI.cells.and (cI.cells.and (cI.marks g10.lt)))))))).and cI.cells,⟨⟨HI.o.1.alloc hszV _,ar _ HI.o.2.1,ar _ HI.o.2.2.1,ar _ HI.o.2.2.2.1,ar _ HI.o.2.2.2.2.1,ar _ HI.o.2.2.2.2.2.1,ar _ HI.o.2.2.2.2.2.2.1,HI.o.2.2.2.2.2.2.2.up (by go_grown)⟩,ap _ _⟩,fun V2 hV2 _=>?_⟩
    obtain⟨⟨x1,x2,x3,x4,x5,x6,x7,x8⟩,x9⟩:=hV2;have A2:=Fg L a q;have hfn:=OE L (ez L a q) a.states (cnt a.states s+j);have hok1:=uY hL (BF hL a q) m.to.toNat;have hok2:=uY hL (Rx hL (BF hL a q) a.states (cnt a.states s+j)) s;have t5:=ab x2 0;have t7:=ab x4 0;have t8:=ab x7 0;have tM:=ab x9;have tc:=ab x5 m.to.toNat;have tr:=ab x6 s;have zr:=aH x6 s;simp at t5 t7 t8;rw[Fz _ _ (by omega)]at tc tr;have HX:=aa (And.intro x1 (And.intro x2 (And.intro x3 (And.intro x4 (And.intro x5 (And.intro x6 (And.intro x7 (And.intro x8 x9))))))));clear x1 x2 x3 x4 x5 x6 x7 x8 x9;have rg:jz L (ez L a q) a.states (cnt a.states s+j+1)=(jz L (ez L a q) a.states (cnt a.states s+j)).set s (min ((jz L (ez L a q) a.states (cnt a.states s+j)).getD s 0+(ez L a q).getD m.to.toNat 0) (L+1)):=v7.o;have TC:=aa rg;clear rg v7;generalize (ez L a q).getD m.to.toNat 0=nx at hok1 tc TC;generalize (jz L (ez L a q) a.states (cnt a.states s+j)).getD s 0=ns at hok2 tr TC;have vO:0<=m.to:=oX.2.1;have hm1:m.to<a.states.length:=oX.2.2;have jn:IntKind.i64.wrap (ns+nx)=ns+nx:=IntWalk.i64_in _ (by omega);have zB:IntKind.i64.wrap (L+1)=L+1:=IntWalk.i64_in _ (by omega)
    gi_wp2
    refine lu 15 (fun ⟨_,_,h⟩=>h) (by kernel_rfl) (by kernel_rfl) (by kernel_rfl) (fun ops Lq hops hLq=>?_);simp only[List.take_succ_cons,List.take_zero,List.drop_succ_cons,List.drop_zero]at hLq ⊢;have DH:=aa hLq;clear hLq;have S6:=aa hops;clear hops
    repeat still_step
    refine wpStill_nil ?_;refine DH.o _ ?_
    go_wp2_with fail
    all_goals
     obtain⟨x1,x2,x3,x4,x5,x6,x7,x8,x9⟩:=HX.o;have z1:=HZ1.o;have z2:=aD GE.o;refine⟨⟨by simp,fun k hk=>(Below.heap_setCell V2 _ _ _ (by dsimp only;omega)),fun k o _ hk ho=>(KeepsOthers.setCell V2 _ _).same k o hk ho⟩,(x1.setCell (by dsimp only;omega) _).drew,?_,?_,?_,?_,?_,?_,?_⟩
     ·exact(Below.heap_setCell V2 _ _ _ (by dsimp only;omega)).trans x2
     ·exact(Below.heap_setCell V2 _ _ _ (by dsimp only;omega)).trans x3
     ·exact(Below.heap_setCell V2 _ _ _ (by dsimp only;omega)).trans x4
     ·exact(Below.heap_setCell V2 _ _ _ (by dsimp only;omega)).trans x5
     ·refine(aI x6 s _).trans ?_;rw[TC.o,<-Pg]
      all_goals first
       | rw[Int.min_eq_right (by omega)]
       | rw[Int.min_eq_left (by omega)]
     ·exact(Below.heap_setCell V2 _ _ _ (by dsimp only;omega)).trans x7
     ·exact x8.keep fun k o hk ho=>(KeepsOthers.setCell V2 _ _).same k o hk ho
  ·obtain rfl:q=k:=by omega
   have t7:=ab hC 0;simp at t7;have c0:=ab GE.o 0
   have qW:(bH (ez L a q))[0]?=some (.int .i64 (numberL L a q)):=by
    have hl:=Fg L a q;unfold numberL bH;rw[List.getElem?_toArray,List.getElem?_map,List.getElem?_eq_getElem (by omega)];simp[List.getD_eq_getElem?_getD,List.getElem?_eq_getElem (show 0<(ez L a q).length by omega)]
   rw[qW]at c0;have ux:0<a.states.length:=by omega
   go_wp2_with fail
   refine rp AR.o (v:=.int .i64 (numberL L a q)) ?_ ⟨rfl,mD (fun D hD=>(AR.o.2 D hD).1) (Nat.le_refl _) dF⟩;simp[results,Tryz.results212,go_sem]
end Go.Proofs.YtmeaoneaephjeaaGreatDoor
namespace Go.Proofs.YtmeaoneaephjeaaGreatDoor
open Go.RowKit Go Go.Shelf
theorem pW{α:Type} (c:α->Array Value) (k:Nat) (hc:∀ x,(c x).size=k) (xs:List α) (i j:Nat) (hi:i<xs.length) (hj:j<k):(xs.flatMap fun x=>(c x).toList)[i * k+j]?=(c xs[i])[j]?:=by
 induction xs generalizing i with
 | nil=>simp at hi
 | cons x r ih=>
  rw[List.flatMap_cons];have hx:(c x).toList.length=k:=by rw[Array.length_toList,hc]
  cases i with
  | zero=>
   rw[List.getElem?_append_left (by omega)];simp
  | succ i=>
   rw[List.getElem?_append_right (by rw[hx,Nat.succ_mul];omega)];have:=ih i (by simpa using hi);simp only[List.getElem_cons_succ];rw[<-this,hx];congr 1;rw[Nat.succ_mul];omega
def da(xs:List Rd):List Value:=xs.flatMap fun r=>r.c.toList
theorem yJ(xs:List Rd):(da xs).length=xs.length * 7:=by
 unfold da;induction xs with
 | nil=>rfl
 | cons x r ih=>rw[List.flatMap_cons,List.length_append,ih];simp;omega
theorem sX(xs:List Rd):∀ u∈da xs,u.oneCell'=true:=by
 intro u hu;unfold da at hu;rw[List.mem_flatMap]at hu;obtain⟨r,_,hr⟩:=hu;simp at hr;rcases hr with rfl|rfl|rfl|rfl|rfl|rfl|rfl<;>rfl
theorem Ph{w:World} {v:Value} {l:List Rd} (h:kK w v l) (j:Nat) (u:Value) (hu:(da l)[j]?=some u):∃ b o c,v=.slice (some ⟨b,o,none⟩) l.length c/\w.cell? ⟨b,o+j,none⟩=some u:=by
 have hj:=(List.getElem?_eq_some_iff.1 hu).1;rw[yJ]at hj;obtain⟨i,s,hs,rfl⟩:∃ i s,s<7/\j=i * 7+s:=⟨j / 7,j % 7,by omega,by omega⟩;have hi:i<l.length:=by omega
 unfold da at hu;rw[pW Rd.c 7 (fun _=>rfl) l i s hi hs]at hu;obtain⟨a,cap,rfl,_,_,e⟩:=h.at;obtain⟨b,o,rfl,⟨c0,_⟩,⟨c1,_⟩,⟨c2,_⟩,⟨c3,_⟩,⟨c4,_⟩,⟨c5,_⟩,⟨c6,_⟩⟩:=e i hi;refine⟨b,o,cap,rfl,?_⟩;rw[<-Nat.add_assoc];rcases (show s=0\/s=1\/s=2\/s=3\/s=4\/s=5\/s=6 by omega) with rfl|rfl|rfl|rfl|rfl|rfl|rfl<;>(simp at hu;subst hu;first|exact c0|exact c1|exact c2|exact c3|exact c4|exact c5|exact c6)
theorem rO{w:World} {base:Nat} {v:Value} {l:List Rd} (h:aJ w base 141 7 v l.length (da l)) (hx:∀ i (hi:i<l.length),bR l[i].g.n/\bR l[i].g.h0/\bR l[i].g.h1/\bR l[i].g.h2/\bR l[i].g.h3/\bR l[i].g.h4/\bR l[i].f) (hn:l.length<=17592186044416):kK w v l:=by
 have aU:=fun i (hi:i<l.length) j (u:Value) (hj:j<7) (hu:l[i].c[j]?=some u)=>h.cell (i * 7+j) u (by unfold da;rw[pW Rd.c 7 (fun _=>rfl) l i j hi hj];exact hu)
 rcases h.2 with ⟨rfl,hz⟩|⟨g,cap,cur,fz,rfl,_,hg,_,kR,jl,_,_⟩
 ·refine⟨none,0,by rw[hz],⟨by omega,by omega,fun _=>rfl⟩,hn,fun i x hi=>?_⟩;have:=(List.getElem?_eq_some_iff.1 hi).1;omega
 ·refine⟨some ⟨g,0,none⟩,cap,rfl,⟨kR,by simp only[maxLen]at jl;omega,fun e=>by cases e⟩,hn,fun i x hi=>⟨g,0,rfl,?_⟩⟩;obtain⟨gL,rfl⟩:=List.getElem?_eq_some_iff.1 hi;obtain⟨r0,r1,r2,r3,r4,r5,r6⟩:=hx i gL
  have key:∀ j u,j<7->l[i].c[j]?=some u->w.cell? ⟨g,0+i * 7+j,none⟩=some u:=fun j u hj hu=>by
   obtain⟨g',c',e1,e2⟩:=aU i gL j u hj hu;have:g=g':=by simp at e1;exact e1.1
   rw[this,Nat.zero_add];exact e2
  exact⟨⟨key 0 _ (by omega) rfl,r0⟩,⟨key 1 _ (by omega) rfl,r1⟩,⟨key 2 _ (by omega) rfl,r2⟩,⟨key 3 _ (by omega) rfl,r3⟩,⟨key 4 _ (by omega) rfl,r4⟩,⟨key 5 _ (by omega) rfl,r5⟩,⟨key 6 _ (by omega) rfl,r6⟩⟩
theorem Tryz.infoRound:(Tryz.prog.info? 141).map (fun i=>(i.zero,i.size,i.bytes))=some (some (.agg #[.int .i64 0,.int .i64 0,.int .i64 0,.int .i64 0,.int .i64 0,.int .i64 0,.int .i64 0]),7,56):=by kernel_rfl
theorem kF{k l:IntKind} {a b c d:Int} (h1:a=b) (h2:c=d):Ending.returned (.tuple #[.int k a,.int l c])=.returned (.tuple #[.int k b,.int l d]):=by rw[h1,h2]
abbrev nX(p:Pb) (vc vs:Value):Value:=.agg #[.int .i64 p.t.n,.int .i64 p.t.ins,.int .i64 p.t.outs,vc,.int .i64 p.a.n,vs,.int .i64 p.rounds]
theorem GY(p:Pb) (vc vs:Value) (w:World) (hc:bM w vc p.t.cases) (hs:bu w vs p.a.states) (hN:movesN p.a.states<1099511627776) :
  Calls Tryz.prog 190 #[nX p vc vs] w fun e w'=>e=.returned (.int .i64 (probE p))/\Below w.heap.size w w':=by
 have GC:=aa hc;have GS:=aa hs;obtain⟨pc,cc,rfl,_⟩:=hc.at;obtain⟨ps,cs,rfl,_⟩:=hs.at;clear hc hs;have HV:am (probE p=if taskE p.t≠0 then taskE p.t else if advE p.a≠0 then advE p.a else if p.t.n≠p.a.n then 22 else if p.rounds<0\/6<p.rounds then 2 else 0):=by exact rfl
 go_enter Tryz.func190,Tryz.ntmps190
 go_wp2_with fail
 refine aO (fun W=>Below w.heap.size w W/\W.heap[w.heap.size]?=some (.cells #[.int .i64 p.t.n,.int .i64 p.t.ins,.int .i64 p.t.outs,.slice pc p.t.cases.length cc,.int .i64 p.a.n,.slice ps p.a.states.length cs,.int .i64 p.rounds] 29)) ⟨by go_grown,ap _ _⟩ (fun W0 aX=>?_);obtain⟨aG,bB⟩:=aX;refine(qR p.t _ W0 (GC.o.up up_case aG)).mono ?_;rintro e w1 ⟨rfl,aK⟩;have gw:=ae aG aK;have eW:=af aK bB;have t1:=ab eW;generalize taskE p.t=et at HV;have du:=aa eW;clear eW bB;by_cases oQ:et=0
 case neg=>
  have Od:(et != 0)=true:=by simpa using oQ
  go_wp2_with fail
  go_ret
  exact⟨aE (by rw[HV.o,if_pos oQ]),gw⟩
 subst oQ
 go_wp2_with fail
 refine(yI p.a _ w1 (GS.o.up up_moves gw) hN).mono ?_;rintro e w2 ⟨rfl,aT⟩;have kI:=ae gw aT;have t2:=ab (af aT du.o);clear t1;generalize advE p.a=ea at HV;by_cases xU:ea=0
 case neg=>
  have hea':(ea != 0)=true:=by simpa using xU
  go_wp2_with fail
  go_ret
  exact⟨aE (by rw[HV.o,if_neg (by simp),if_pos xU]),kI⟩
 subst xU
 go_wp2_with fail
 all_goals
  go_ret
  refine⟨aE ?_,kI⟩;rw[HV.o]
  go_light
  grind
theorem He(P:Program) (t:TypeId) (w:World):(Instr.makeMap t none).run P w=.ok (.map (some w.heap.size)) (w.alloc (.map #[] 0)):=rfl
def hC(f:Nat->Int) (q:Nat):Array Value:=((List.range 5).map fun j=>Value.int .i64 (if j<q then f j else 0)).toArray
theorem El(f:Nat->Int) (q:Nat):(hC f q).size=5:=by simp[hC]
theorem Iz(f:Nat->Int) (q j:Nat) (hj:j<5):(hC f q)[j]?=some (.int .i64 (if j<q then f j else 0)):=by simp[hC,hj]
theorem Wp(f:Nat->Int) (q:Nat) (hq:q<5):(hC f q).setIfInBounds q (.int .i64 (f q))=hC f (q+1):=by
 apply Array.ext_getElem?;intro j;rw[Array.getElem?_setIfInBounds];by_cases hj:j<5
 ·rw[Iz _ _ _ hj,Iz _ _ _ hj];by_cases e:q=j
  ·subst e;rw[if_pos rfl,if_pos (by rw[El];exact hj),if_pos (by omega)]
  ·rw[if_neg e];by_cases h:j<q
   ·rw[if_pos h,if_pos (by omega)]
   ·rw[if_neg h,if_neg (by omega)]
 ·have h1:(hC f q)[j]?=none:=by rw[Array.getElem?_eq_none];rw[El];omega
  have h2:(hC f (q+1))[j]?=none:=by rw[Array.getElem?_eq_none];rw[El];omega
  rw[h1,h2,if_neg (by omega)]
theorem Em(f:Nat->Int):hC f 0=#[.int .i64 0,.int .i64 0,.int .i64 0,.int .i64 0,.int .i64 0]:=rfl
theorem Vr(f:Nat->Int):hC f 5=#[.int .i64 (f 0),.int .i64 (f 1),.int .i64 (f 2),.int .i64 (f 3),.int .i64 (f 4)]:=rfl
theorem KF(tmps:Array Value) (f:Func) (s:Nat) (hf:f.results=#[.cell s 137]) (B:Nat) (W:World) (x0 x1 x2 x3 x4:Int) (ty:TypeId) (h1:tmps[s]?.getD undef=.pointer (some ⟨B,0,none⟩)) (hb:W.heap[B]?=some (.cells #[.int .i64 x0,.int .i64 x1,.int .i64 x2,.int .i64 x3,.int .i64 x4] ty)) :
  (results f tmps).run Tryz.prog W=.ok (.agg #[.int .i64 x0,.int .i64 x1,.int .i64 x2,.int .i64 x3,.int .i64 x4]) W:=by
 have t1:=ab hb;simp[results,hf,go_sem,h1,t1]
def countedR(L:Int) (a:Adv) (r:Int):Int × Int:=
 if advE a≠0 then(0,advE a) else if r<0\/6<r then(0,2) else if L<numberL L a r.toNat then(0,17) else(numberL L a r.toNat,0)
theorem AF(a:Adv) (v:Value) (r L:Int) (w:World) (hv:bu w v a.states) (hN:movesN a.states<1099511627776) (hL:0<=L) (hL2:L<=1048576) :
  Calls Tryz.prog 192 #[.agg #[.int .i64 a.n,v],.int .i64 r,.int .i64 L] w fun e w'=>e=.returned (.tuple #[.int .i64 (countedR L a r).1,.int .i64 (countedR L a r).2])/\Below w.heap.size w w':=by
 have G:=aa hv;obtain⟨pa,ca,rfl,_⟩:=hv.at;clear hv
 go_enter Tryz.func192,Tryz.ntmps192
 go_wp2_with fail
 refine aO (fun W=>Below w.heap.size w W/\W.heap[w.heap.size]?=some (.cells #[.int .i64 a.n,.slice pa a.states.length ca] 27)) ⟨by go_grown,ap _ _⟩ (fun W0 aX=>?_);obtain⟨aG,bB⟩:=aX;refine(yI a _ W0 (G.o.up up_moves aG) hN).mono ?_;rintro e w1 ⟨rfl,aK⟩;have jt:=ae aG aK;have eW:=af aK bB;have t1:=ab eW;have HE:=aa (show advE a=0->_ from fun h=>ip h);have HV:am (countedR L a r=if advE a≠0 then(0,advE a) else if r<0\/6<r then(0,2) else if L<numberL L a r.toNat then(0,17) else(numberL L a r.toNat,0)):=by exact rfl
 generalize advE a=ea at HE HV;have du:=aa eW;clear eW bB;by_cases xU:ea=0
 case neg=>
  have hea':(ea != 0)=true:=by simpa using xU
  have dd:am (countedR L a r=(0,ea)):=by(have h:countedR L a r=(0,ea):=by rw[HV.o,if_pos xU]);exact h
  clear HV xU
  go_wp2_with fail
  go_ret2
  refine⟨kF ?_ ?_,jt⟩<;>rw[dd.o]
 subst xU;by_cases hr:r<0\/6<r
 ·have dd:am (countedR L a r=(0,2)):=by(have h:countedR L a r=(0,2):=by rw[HV.o,if_neg (by simp),if_pos hr]);exact h
  clear HV;rcases hr with hr|hr
  ·go_wp2_with fail
   go_ret2
   refine⟨kF ?_ ?_,jt⟩<;>rw[dd.o]
  ·go_wp2_with fail
   go_ret2
   refine⟨kF ?_ ?_,jt⟩<;>rw[dd.o]
 obtain⟨k,rfl⟩:∃ k:Nat,r=(k:Int):=⟨r.toNat,by omega⟩;have hk:k<=6:=by omega
 rw[Int.toNat_natCast,if_neg (by simp),if_neg hr]at HV;have xR:¬ ((k:Int)<0):=by omega
 have LW:¬ (6<(k:Int)):=by omega
 clear hr
 go_wp2_with fail
 refine(GX a _ k L w1 (G.o.up up_moves jt) (HE.o trivial).1.1 (HE.o trivial).1.2 (HE.o trivial).2.1 hk hL hL2).mono ?_;rintro e w2 ⟨rfl,aT⟩;have rU:=ae jt aT;generalize numberL L a k=x at HV;by_cases hx:L<x
 ·have dd:am (countedR L a k=(0,17)):=by(have h:countedR L a k=(0,17):=by rw[HV.o,if_pos hx]);exact h
  clear HV t1
  go_wp2_with fail
  go_ret2
  refine⟨kF ?_ ?_,rU⟩<;>rw[dd.o]
 ·have dd:am (countedR L a k=(x,0)):=by(have h:countedR L a k=(x,0):=by rw[HV.o,if_neg hx]);exact h
  clear HV t1
  go_wp2_with fail
  go_ret2
  refine⟨kF ?_ ?_,rU⟩<;>rw[dd.o]
theorem IA(a:Adv) (v:Value) (r:Int) (w:World) (hv:bu w v a.states) (hN:movesN a.states<1099511627776) :
  Calls Tryz.prog 191 #[.agg #[.int .i64 a.n,v],.int .i64 r] w fun e w'=>e=.returned (.tuple #[.int .i64 (countedR 1048576 a r).1,.int .i64 (countedR 1048576 a r).2])/\Below w.heap.size w w':=by
 have G:=aa hv;obtain⟨pa,ca,rfl,_⟩:=hv.at;clear hv
 go_enter Tryz.func191,Tryz.ntmps191
 go_wp2_with fail
 refine aO (fun W=>Below w.heap.size w W) (by go_grown) (fun W0 aG=>?_);refine(AF a _ r 1048576 W0 (G.o.up up_moves aG) hN (by omega) (by omega)).mono ?_;rintro e w1 ⟨rfl,aK⟩
 go_wp2_with fail
 go_ret2
 exact⟨rfl,ae aG aK⟩
theorem FA(a b:List Rd):da (a++b)=da a++da b:=by simp[da]
theorem vp(v:Value) (l:List Int) (w:World) (hv:aQ w v l) (hn:l.length<=1099511627776) :
  Calls Tryz.prog 195 #[v] w fun e w'=>∃ u,e=.returned u/\aJ w' w.heap.size 3 1 u l.length (l.map (Value.int .i64))/\Below w.heap.size w w':=by
 refine(yD v _ w (AA hv) (by simpa using hn)).mono ?_;rintro e w' ⟨u,rfl,ho,hb⟩;exact⟨u,rfl,aJ.of_owns (by simpa using ho),hb⟩
theorem vu(v:Value) (l:List Rd) (w:World) (hv:kK w v l) (hn:l.length<=1048576) :
  Calls Tryz.prog 165 #[v] w fun e w'=>∃ u,e=.returned u/\aJ w' w.heap.size 141 7 u l.length (da l)/\Below w.heap.size w w':=by
 obtain⟨i0,hi,cD,bX,cF⟩:=info_parts Tryz.infoRound;have HW:=aa (Ph hv);have ka:=fun w=>Lib.run_eql_slice_nil (P:=Tryz.prog) w 87
 obtain⟨a,cap,rfl,⟨_,_,j9⟩,_,_⟩:=hv;cases a with
 | none=>
  have hl:l.length=0:=by have:=j9 rfl;omega
  obtain rfl:l=[]:=List.eq_nil_of_length_eq_zero hl;obtain rfl:=j9 rfl
  go_enter Tryz.func165,Tryz.ntmps165
  go_wp2_with fail
  go_ret
  exact⟨_,rfl,aJ.nil _ _ _ _,Below.refl _ _⟩
 | some ad=>
  have bQ:∀ j u,(da l)[j]?=some u->(w.alloc (.cells #[] 141)).cell? (ad.add j)=some u:=fun j u hj=>by
   obtain⟨b,o,c,e,eP⟩:=HW.o j u hj;have:ad=⟨b,o,none⟩:=by simp at e;exact e.1
   subst this;have:(Addr.add ⟨b,o,none⟩ j)=⟨b,o+j,none⟩:=by unfold Addr.add;split<;>simp_all
   rw[this];exact ak (by go_grown) eP
  have bd:aJ (w.alloc (.cells #[] 141)) w.heap.size 141 7 (.slice (some ⟨w.heap.size,0,none⟩) 0 0) 0 []:=⟨by simp,.inr ⟨w.heap.size,0,#[],(0,0),rfl,Nat.le_refl _,ap _ _,fun i hi=>by simp at hi,by omega,by simp[maxLen],by simp,by simp⟩⟩;have bF:=aa bQ;have bO:=aa bd;clear bQ bd j9
  go_enter Tryz.func165,Tryz.ntmps165
  go_wp2_with (at_builtin;(refine bg _ rfl (.tmp 5) (.tmp 6) 87 rfl w.heap.size 141 i0 _ 7 56 Tryz.underlying87 hi cD bX cF rfl (by decide) _ 0 [] rfl bO.o ad l.length cap (da l) rfl (yJ l) bF.o (sX l) (by unfold maxLen;omega) (by omega) (by simp) ?_;intro v' w1 gY lK _;obtain⟨av',cv',rfl⟩:=gY.slice))
  go_ret
  rw[Nat.zero_add,List.nil_append]at gY;refine⟨_,rfl,by simpa using gY,Below.grown (w:=w.alloc (.cells #[] 141)) (by go_grown) lK (by simp) (fun k hk=>?_)⟩;cases hk;exact Nat.le_refl _
theorem GZ{P:Program} (w:World) (base:Nat) (t ty e:TypeId) (i:TypeInfo) (size:Nat) (ht:P.underlying t=some (.slice e)) (hi:P.info? e=some i)
  (fg:i.size=size) (g cap n:Nat) (xs:List Value) (bd:aJ w base e size (.slice (some ⟨g,0,none⟩) n cap) n xs)
  (a:Addr) (m c:Nat) (news:List Value) (hl:news.length=m * size) (bQ:∀ j u,news[j]?=some u->w.cell? (a.add j)=some u) (h1:∀ u∈news,u.oneCell'=true) (mJ:n+m<=cap) :
  ∃ w',(Builtin.append_ #[t,t] ty #[.slice (some ⟨g,0,none⟩) n cap,.slice (some a) m c]).run P w=.ok (.slice (some ⟨g,0,none⟩) (n+m) cap) w'/\aJ w' base e size (.slice (some ⟨g,0,none⟩) (n+m) cap) (n+m) (xs++news)/\w.grownBy w' (some g)/\w'.heap.size=w.heap.size:=by
 obtain⟨iQ,h⟩:=bd;rcases h with ⟨h,_⟩|⟨g',cap',cur,fz,h,Dj,hg,nq,ig,qO,jQ,NO⟩
 ·cases h
 cases h
 subst fg;have Kf:n * i.size+news.length<=cur.size:=by rw[hl,jQ,<-Nat.add_mul];exact Nat.mul_le_mul_right _ mJ
 have hr:=run_append_room_cells (P:=P) w t ty e i ht hi g 0 n cap a m c news hl bQ h1 mJ (fun j hj=>by rw[Nat.zero_add,ab hg];simp;omega)
  (fun j hj=>by
   simp only[World.frozen?,hg,Nat.zero_add];have:=nq (n * i.size+j) (by omega)
   simpa using this)
 rw[Nat.zero_add]at hr;obtain⟨cur',g1,g2,g3⟩:=mE g e fz news (n * i.size) w cur hg Kf;obtain⟨o1,o2,o3,o4,o5⟩:=lP g news (n * i.size) w;refine⟨_,hr,⟨by rw[List.length_append,iQ,hl,Nat.add_mul],.inr ⟨g,cap,cur',fz,rfl,Dj,g1,fun k hk=>nq k (by omega),mJ,qO,by omega,?_⟩⟩,⟨o2,o3,o4,by omega,fun k _ hk=>o1 k (fun e=>hk (by rw[e]))⟩,o5⟩;rw[Nat.add_mul,<-hl,g3,NO]
theorem BM{P:Program} {ops:Array Oper} {rest:List Oper} {o:Oper} {a:Act} {w:World} {Q:Exit->Act->World->Prop} (lL:o.guard=none) (s x:Operand) (t:TypeId)
  (ho:o.op=.call { callee:=.builtin .append,args:=#[s,x],argTypes:=#[t,t] })
  (base:Nat) (e:TypeId) (i:TypeInfo) (size:Nat) (ht:P.underlying t=some (.slice e)) (hi:P.info? e=some i)
  (fg:i.size=size) (g cap n:Nat) (xs:List Value) (hs:a.eval s=.slice (some ⟨g,0,none⟩) n cap) (bd:aJ w base e size (.slice (some ⟨g,0,none⟩) n cap) n xs)
  (ad:Addr) (m c:Nat) (news:List Value) (hx:a.eval x=.slice (some ad) m c) (hl:news.length=m * size) (bQ:∀ j u,news[j]?=some u->w.cell? (ad.add j)=some u) (h1:∀ u∈news,u.oneCell'=true) (mJ:n+m<=cap)
  (h:∀ w',aJ w' base e size (.slice (some ⟨g,0,none⟩) (n+m) cap) (n+m) (xs++news)->w.grownBy w' (some g)->w'.heap.size=w.heap.size->wpList P ops Q rest (a.put o.dst (.slice (some ⟨g,0,none⟩) (n+m) cap)) w'):wpList P ops Q (o :: rest) a w:=by
 refine wpList_plain lL fun _ hK=>?_
 obtain⟨w',hr,h2,h3,h4⟩:=GZ (P:=P) w base t o.type e i size ht hi fg g cap n xs bd ad m c news hl bQ h1 mJ;unfold Oper.wp execOp;simp only[ho,resolve,invoke,builtin,Sem.run_bind,Sem.run_pure,Result.andThen_ok,List.map_toArray,List.map_cons,List.map_nil,hs,hx,hr];exact hK _ _ (h w' h2 h3 h4)
theorem aJ.shrink{w:World} {base:Nat} {e:TypeId} {k:Nat} {g cap n m:Nat} {xs ys:List Value} (h:aJ w base e k (.slice (some ⟨g,0,none⟩) (n+m) cap) (n+m) (xs++ys)) (hx:xs.length=n * k):aJ w base e k (.slice (some ⟨g,0,none⟩) n cap) n xs:=by
 obtain⟨hl,h⟩:=h;rcases h with ⟨h,_⟩|⟨g',cap',cur,fz,h,Dj,hg,nq,ig,qO,jQ,ht⟩
 ·cases h
 cases h
 refine⟨hx,.inr ⟨g,cap,cur,fz,rfl,Dj,hg,nq,by omega,qO,jQ,?_⟩⟩;have h2:=congrArg (List.take (n * k)) ht;rw[List.take_take,List.take_append_of_le_length (by omega),List.take_of_length_le (by omega:xs.length<=n * k)]at h2;rw[<-h2];congr 1;have:=Nat.mul_le_mul_right k (Nat.le_add_right n m);omega
theorem Pi(a b:Rd) (w:World):(binOp .neq 141 a.v b.v).run Tryz.prog w=.ok (.bool (!decide (a=b))) w:=by
 rw[run_neq_struct,Ee 9996];rfl
theorem fq{α:Type} [DecidableEq α] {a b:List α} (d:α) (hl:a.length=b.length) (h:∀ j,j<a.length->a.getD j d=b.getD j d):a=b:=
 List.ext_getElem hl fun i h1 h2=>by
  have:=h i h1
  rwa [az d h1,az d h2]at this
theorem Cv(va vb:Value) (a b:List Rd) (w:World) (ha:kK w va a) (hb:kK w vb b) :
  Calls Tryz.prog 167 #[va,vb] w fun e w'=>e=.returned (.bool (decide (a=b)))/\Below w.heap.size w w':=by
 obtain⟨pa,ca,rfl,la1,la2,ea⟩:=ha.at;obtain⟨pb,cb,rfl,lb1,lb2,eb⟩:=hb.at;clear ha hb;have EA:=aa ea;clear ea;have EB:=aa eb;clear eb;generalize oB:decide (a=b)=res;have jP:=aa oB;clear oB;by_cases hl:a.length=b.length
 case neg=>
  have iz:((a.length:Int) != (b.length:Int))=true:=by simp;omega
  have HR:am (res=false):=by(have h:res=false:=by(rw[<-jP.o];simp;intro h;exact hl (by rw[h])));exact h
  clear hl
  go_enter Tryz.func167,Tryz.ntmps167
  go_wp2
  go_ret
  exact⟨aR HR.o.symm,Below.refl _ _⟩
 have iz:((a.length:Int) != (b.length:Int))=false:=by simp[hl]
 have HL:=aa hl;clear hl
 go_enter Tryz.func167,Tryz.ntmps167
 go_wp2
 clear iz
 go_loopw [13] (fun i wr=>Below w.heap.size w wr/\∃ k:Nat,k<=a.length/\i=.int .i64 k/\∀ j,j<k->a.getD j default=b.getD j default) (fun i _=>a.length - (intOf i).toNat)
 ·exact⟨Below.refl _ _,0,by omega,rfl,by simp⟩
 ·
  obtain⟨aA,k,hk,rfl,aW⟩:=hrel;have H:=aa aW;clear aW;by_cases aC:k<a.length
  ·have jc:k<b.length:=by have:=HL.o;omega
   obtain⟨b1,o1,rfl,⟨c0,r0⟩,⟨c1,r1⟩,⟨c2,r2⟩,⟨c3,r3⟩,⟨c4,r4⟩,⟨c5,r5⟩,⟨c6,r6⟩⟩:=EA.o k aC;obtain⟨b2,o2,rfl,⟨e0,s0⟩,⟨e1,s1⟩,⟨e2,s2⟩,⟨e3,s3⟩,⟨e4,s4⟩,⟨e5,s5⟩,⟨e6,s6⟩⟩:=EB.o k jc;have c0':∀ y:ExtW wr,y.val.cell? ⟨b1,o1+k * 7,none⟩=_:=fun y=>y.cell (ak aA c0)
   have c1':∀ y:ExtW wr,y.val.cell? ⟨b1,o1+k * 7+1,none⟩=_:=fun y=>y.cell (ak aA c1)
   have c2':∀ y:ExtW wr,y.val.cell? ⟨b1,o1+k * 7+2,none⟩=_:=fun y=>y.cell (ak aA c2)
   have c3':∀ y:ExtW wr,y.val.cell? ⟨b1,o1+k * 7+3,none⟩=_:=fun y=>y.cell (ak aA c3)
   have c4':∀ y:ExtW wr,y.val.cell? ⟨b1,o1+k * 7+4,none⟩=_:=fun y=>y.cell (ak aA c4)
   have c5':∀ y:ExtW wr,y.val.cell? ⟨b1,o1+k * 7+5,none⟩=_:=fun y=>y.cell (ak aA c5)
   have c6':∀ y:ExtW wr,y.val.cell? ⟨b1,o1+k * 7+6,none⟩=_:=fun y=>y.cell (ak aA c6)
   have e0':∀ y:ExtW wr,y.val.cell? ⟨b2,o2+k * 7,none⟩=_:=fun y=>y.cell (ak aA e0)
   have e1':∀ y:ExtW wr,y.val.cell? ⟨b2,o2+k * 7+1,none⟩=_:=fun y=>y.cell (ak aA e1)
   have e2':∀ y:ExtW wr,y.val.cell? ⟨b2,o2+k * 7+2,none⟩=_:=fun y=>y.cell (ak aA e2)
   have e3':∀ y:ExtW wr,y.val.cell? ⟨b2,o2+k * 7+3,none⟩=_:=fun y=>y.cell (ak aA e3)
   have e4':∀ y:ExtW wr,y.val.cell? ⟨b2,o2+k * 7+4,none⟩=_:=fun y=>y.cell (ak aA e4)
   have e5':∀ y:ExtW wr,y.val.cell? ⟨b2,o2+k * 7+5,none⟩=_:=fun y=>y.cell (ak aA e5)
   have e6':∀ y:ExtW wr,y.val.cell? ⟨b2,o2+k * 7+6,none⟩=_:=fun y=>y.cell (ak aA e6)
   have HX:=aa (az default aC);have HY:=aa (az default jc);clear c0 r0 e0 s0 c1 r1 e1 s1 c2 r2 e2 s2 c3 r3 e3 s3 c4 r4 e4 s4 c5 r5 e5 s5 c6 r6 e6 s6;generalize a[k]=x at c0' c1' c2' c3' c4' c5' c6' HX;generalize b[k]=y at e0' e1' e2' e3' e4' e5' e6' HY;have bK:=fun w=>Pi x y w
   go_wp2
   by_cases cg:x=y
   ·have hd:decide (x=y)=true:=by simpa using cg
    have oz:am (a.getD k default=b.getD k default):=by(have h:a.getD k default=b.getD k default:=by(rw[HX.o,HY.o,cg]));exact h
    rw[hd]at bK;clear cg hd;refine aB (by kernel_rfl) (by kernel_rfl) ?_
    repeat (go_big_quiet_step (fail))
    refine wpQuiet_nil ?_;intro _ eJ;obtain⟨xq,dj⟩:=eJ;subst dj;clear c0' c1' c2' c3' c4' c5' c6' e0' e1' e2' e3' e4' e5' e6' bK
    go_wp2
    go_roundw
    ·exact⟨ae aA xq.ext,k+1,by omega,by go_num,aY H.o oz.o⟩
    ·simp[intOf];omega
   ·have hd:decide (x=y)=false:=by simpa using cg
    have HR:am (res=false):=by(have h:res=false:=by(rw[<-jP.o];simp;intro h;subst h;rw[HX.o]at HY;exact cg HY.o));exact h
    rw[hd]at bK;clear cg hd;refine aB (by kernel_rfl) (by kernel_rfl) ?_
    repeat (go_big_quiet_step (fail))
    refine wpQuiet_nil ?_;intro _ eJ;obtain⟨xq,dj⟩:=eJ;subst dj;clear c0' c1' c2' c3' c4' c5' c6' e0' e1' e2' e3' e4' e5' e6' bK
    go_wp2
    go_ret
    exact⟨aR HR.o.symm,ae aA xq.ext⟩
  ·have HR:am (res=true):=by(have h:res=true:=by(rw[<-jP.o];simp;exact fq default HL.o fun j hj=>H.o j (by omega)));exact h
   go_wp2
   go_ret
   exact⟨aR HR.o.symm,aA⟩
end Go.Proofs.YtmeaoneaephjeaaGreatDoor
namespace Go.Proofs.YtmeaoneaephjeaaGreatDoor
open Go.RowKit Go Go.Shelf
attribute [local go_sem] Oper.semAt_some
theorem vy(P:Program) (w:World) (a:Addr) (m:Mode) (g:Fn) (b c:Array Value):(store a (.func g b c) m).run P w=stored P w a (.func g b c) m:=run_store P w a _ m rfl
attribute [local go_sem] vy
abbrev iF(w:World):Prop:=TabAt 1 Lib.deBruijn64tab w
theorem iF.up{w w':World} (h:iF w) (hb:Below w.heap.size w w'):iF w':=fun j hj=>ak hb (h j hj)
theorem iF.keep{w w':World} (h:iF w) (hb:js w.heap.size w w'):iF w':=fun j hj=>hb.cell (h j hj)
theorem Vs(x k idx:Nat) (w:World) (dk:((x:Int) == 0)=false)
  (key:IntKind.u64.wrap (bits BinOp.and IntKind.u64 (x:Int) (IntKind.u64.wrap (-(x:Int))) * 285870213051353865) / 288230376151711744=(idx:Int))
  (hi:idx<64) (hk:k<64) (eP:w.cell? ⟨1,idx,none⟩=some (.int .u8 k)) :
  Calls Tryz.prog 178 #[.int .u64 x] w fun e w'=>e=.returned (.int .i64 k)/\w=w':=by
 go_enter Tryz.func178,Tryz.ntmps178
 go_wp2_with (simp only[key])
 go_ret
 exact⟨rfl,rfl⟩
def wQ(l:List Int):List Value:=l.map (Value.int .i64)
theorem aJ.ints{w:World} {base:Nat} {v:Value} {l:List Int} (h:aJ w base 3 1 v l.length (wQ l)) (hl:l.length<=1048576) (hr:∀ x∈l,bR x):aQ w v l:=by
 rcases h.2 with ⟨rfl,h0⟩|⟨g,cap,cur,fz,rfl,_,hg,_,ig,qO,_,ht⟩
 ·have:l=[]:=List.eq_nil_of_length_eq_zero h0;subst this;exact⟨none,0,rfl,⟨by simp,by omega,fun _=>rfl⟩,by simp,fun i x hx=>by simp at hx⟩
 ·refine⟨some ⟨g,0,none⟩,cap,rfl,⟨ig,by unfold maxLen at qO;omega,fun e=>by cases e⟩,by omega,fun i x hx=>⟨g,0,rfl,?_,hr x (List.mem_of_getElem? hx)⟩⟩;rw[Nat.zero_add,Nat.mul_one,ab hg];have h1:(wQ l)[i]?=some (.int .i64 x):=by unfold wQ;rw[List.getElem?_map,hx];rfl
  rw[<-ht,List.getElem?_take]at h1;split at h1
  ·simpa using h1
  ·cases h1
theorem xB(v:Value) (l:List Int) (x:Int) (w:World) (hv:aQ w v l) :
  Calls Tryz.prog 48 #[v,.int .i64 x] w fun e w'=>e=.returned (.int .i64 (firstIx l.length fun i=>decide (x=l.getD i 0)))/\Below w.heap.size w w':=by
 obtain⟨pa,ca,rfl,la1,la2,ea⟩:=hv.at;have EA:=aa ea;clear hv ea;generalize hr:(firstIx l.length fun i=>decide (x=l.getD i 0))=r;have HR:=aa hr;clear hr
 go_enter Tryz.func48,Tryz.ntmps48
 go_wp2
 go_loop [8] (fun i=>∃ k:Nat,k<=l.length/\i=.int .i64 k/\∀ j,j<k->decide (x=l.getD j 0)=false) (fun i=>l.length - (intOf i).toNat)
 ·exact⟨0,by omega,rfl,by simp⟩
 ·
  obtain⟨k,hk,rfl,aW⟩:=hrel;have H:=aa aW;clear aW;by_cases aC:k<l.length
  ·obtain⟨b1,o1,rfl,h1⟩:=EA.o k aC;rw[Nat.mul_one]at h1;have c1:=h1.1;have HG:=aa (az 0 aC);clear h1;generalize l[k]=y at c1 HG;by_cases cg:x=y
   ·subst cg
    go_wp2
    go_ret
    exact⟨aE (by rw[<-HR.o,dB _ k _ aC H.o (by rw[HG.o];simp)]),Below.refl _ _⟩
   ·have hxy':(x == y)=false:=by simpa using cg
    have HX:am (decide (x=l.getD k 0)=false):=by(have h:decide (x=l.getD k 0)=false:=by(rw[HG.o];simpa using cg));exact h
    clear cg
    go_wp2
    go_round
    ·exact⟨k+1,by omega,by go_num,aY H.o HX.o⟩
    ·simp[intOf];omega
  ·go_wp2
   go_ret
   exact⟨aE (by rw[<-HR.o,dK];intro j hj;exact H.o j (by omega)),Below.refl _ _⟩
theorem En(l:List Int) (x:Int):(anyLt l.length fun i=>decide (x=l.getD i 0))=l.contains x:=by
 rw[Bool.eq_iff_iff,km,List.contains_iff_mem];constructor
 ·rintro⟨k,hk,h⟩;simp only[decide_eq_true_eq]at h;rw[az 0 hk]at h;rw[h];exact List.getElem_mem hk
 ·intro h;obtain⟨k,hk,rfl⟩:=List.getElem_of_mem h;exact⟨k,hk,by rw[az 0 hk];simp⟩
theorem mS(v:Value) (l:List Int) (x:Int) (w:World) (hv:aQ w v l) :
  Calls Tryz.prog 33 #[v,.int .i64 x] w fun e w'=>e=.returned (.bool (l.contains x))/\Below w.heap.size w w':=by
 have HC:=aa (xB v l x w hv);have HA:am (l.contains x=decide (0<=firstIx l.length fun i=>decide (x=l.getD i 0))):=by(have h:l.contains x=decide (0<=firstIx l.length fun i=>decide (x=l.getD i 0)):=by(rw[p9,En]));exact h
 generalize (firstIx l.length fun i=>decide (x=l.getD i 0))=r at HC HA;obtain⟨pa,ca,rfl,_⟩:=hv.at;clear hv
 go_enter Tryz.func33,Tryz.ntmps33
 go_wp2_with fail
 refine HC.o.mono ?_;rintro e w1 ⟨rfl,aK⟩
 go_wp2_with fail
 go_ret
 exact⟨aR HA.o.symm,aK⟩
theorem IB{α:Type} {k:Nat} {R:World->Nat->Nat->α->Prop} {W:World} {B n:Nat} {cs:Array Value} {t:TypeId} {xs:List (List α)} (h:W.heap[B]?=some (.cells cs t)) (hn:n=xs.length) (hs:xs.length<=256) (he:∀ i (hi:i<xs.length),∃ v,cs[i]?=some v/\fj k R W v xs[i]):fj 1 (mK k R) W (.slice (some ⟨B,0,none⟩) n n) xs:=by
 subst hn;refine⟨some ⟨B,0,none⟩,xs.length,rfl,⟨Nat.le_refl _,by omega,fun e=>by cases e⟩,by omega,fun i x hx=>⟨B,0,rfl,?_⟩⟩;obtain⟨hi,rfl⟩:=List.getElem?_eq_some_iff.1 hx;obtain⟨v,h1,h2⟩:=he i hi;exact⟨v,by rw[Nat.zero_add,Nat.mul_one,ab h];exact h1,h2⟩
theorem Cw(l:List Obj) (w:World) {k:Nat} {o:Obj} (h:w.heap[k]?=some o):(l.foldl World.alloc w).heap[k]?=some o:=by
 induction l generalizing w with
 | nil=>exact h
 | cons a r ih=>exact ih _ (ar _ h)
theorem MH(l:List Obj) (w:World) (i:Nat) {o:Obj} (h:l[i]?=some o):(l.foldl World.alloc w).heap[w.heap.size+i]?=some o:=by
 induction l generalizing w i with
 | nil=>simp at h
 | cons a r ih=>
  cases i with
  | zero=>
   simp at h;subst h;exact Cw r _ (ap w a)
  | succ i=>
   have:=ih (w.alloc a) i (by simpa using h);rw[World.size_alloc]at this;rw[show w.heap.size+(i+1)=w.heap.size+1+i by omega];exact this
theorem Pj{l:List Int} (h:∀ x∈l,-2<x/\x<100):∀ i,i<l.length->bR (l.getD i 0):=fun i hi=>by
 have:=h _ (List.getElem_mem hi);rw[az 0 hi];unfold bR;omega
theorem ib{W:World} {B:Nat} (l:List Int) (h:W.heap[B]?=some (.cells (bH l) 3)) (hn:l.length<=256) (hs:∀ x∈l,-2<x/\x<100):aQ W (.slice (some ⟨B,0,none⟩) l.length l.length) l:=rM rfl hn h (Pj hs)
theorem Pk{α:Type} {k:Nat} {R:World->Nat->Nat->α->Prop} {W:World} {B:Nat} {a b:Value} {t:TypeId} {x y:List α} (h:W.heap[B]?=some (.cells #[a,b] t)) (ha:fj k R W a x) (hb:fj k R W b y):fj 1 (mK k R) W (.slice (some ⟨B,0,none⟩) 2 2) [x,y]:=
 IB h rfl (by simp) fun i hi=>by
  rcases (show i=0\/i=1 by simp at hi;omega) with rfl|rfl
  ·exact⟨a,rfl,ha⟩
  ·exact⟨b,rfl,hb⟩
theorem yK{α:Type} {k:Nat} {R:World->Nat->Nat->α->Prop} {W:World} {B:Nat} {a:Value} {t:TypeId} {x:List α} (h:W.heap[B]?=some (.cells #[a] t)) (ha:fj k R W a x):fj 1 (mK k R) W (.slice (some ⟨B,0,none⟩) 1 1) [x]:=
 IB h rfl (by simp) fun i hi=>by
  obtain rfl:i=0:=by simp at hi;omega
  exact⟨a,rfl,ha⟩
abbrev iC(l:List Int):Obj:=.cells (bH l) 3
abbrev sV(B n:Nat):Value:=.slice (some ⟨B,0,none⟩) n n
theorem mT{W:World} {b c:Nat} {x y:Array Value} {t u:TypeId} {f g:Nat × Nat} (h1:W.heap[b]?=some (.cells x t f)) (h2:W.heap[c]?=some (.cells y u g)) (bK:t≠u):b≠c:=by
 rintro rfl;rw[h1]at h2;cases h2;exact bK rfl
theorem gm{W W':World} {row:Option Nat} (hg:W.grownBy W' row) {k:Nat} {o:Obj} (hk:W.heap[k]?=some o) (hn:row≠some k):W'.heap[k]?=some o:=(hg.block k (aD hk) (fun e=>hn e.symm)).trans hk
theorem KG{w:World} {base:Nat} {e:TypeId} {k:Nat} {v:Value} {n:Nat} {xs:List Value} (h:aJ w base e k v n xs):v.oneCell'=true:=by
 obtain⟨a,c,rfl⟩:=h.slice;rfl
abbrev pX(r:Rd):Prop:=bR r.g.n/\bR r.g.h0/\bR r.g.h1/\bR r.g.h2/\bR r.g.h3/\bR r.g.h4/\bR r.f
abbrev Cx(Br Bo Ba Bf:Nat):Value:=.func (.func 193) #[] #[.pointer (some ⟨Br,0,none⟩),.pointer (some ⟨Bo,0,none⟩),.pointer (some ⟨Ba,0,none⟩),.pointer (some ⟨Bf,0,none⟩)]
structure WEnv (a:Adv) (v:Value) (k:Nat) (w:World) (Br Bo Ba Bf wb:Nat) (L:List (List Rd)) (word:List Rd) (W:World):Prop where
 old:Below w.heap.size w W
 lo:w.heap.size<=Bo
 r:W.heap[Br]?=some (.cells #[.int .i64 k] 3)
 a:W.heap[Ba]?=some (.cells #[.int .i64 a.n,v] 27)
 f:W.heap[Bf]?=some (.cells #[Cx Br Bo Ba Bf] 259)
 o:∃ vo xs,W.heap[Bo]?=some (.cells #[vo] 221)/\aJ W w.heap.size 87 1 vo L.length xs/\∀ i (hi:i<L.length),∃ x,xs[i]?=some x/\aJ W (wb+1) 141 7 x L[i].length (da L[i])
 b:aJ W w.heap.size 141 7 (.slice (some ⟨wb,0,none⟩) word.length k) word.length (da word)
section
variable {a : Adv} {v : Value} {k : Nat} {w : World} {Br Bo Ba Bf wb : Nat} {L : List (List Rd)} {word : List Rd} {W W' : World}
theorem WEnv.up(h:WEnv a v k w Br Bo Ba Bf wb L word W) (hb:Below W.heap.size W W'):WEnv a v k w Br Bo Ba Bf wb L word W':=by
 refine⟨ae h.old hb,h.lo,af hb h.r,af hb h.a,af hb h.f,?_,h.b.up hb⟩;obtain⟨vo,xs,h1,h2,h3⟩:=h.o;exact⟨vo,xs,af hb h1,h2.up hb,fun i hi=>by obtain⟨x,q1,q2⟩:=h3 i hi;exact⟨x,q1,q2.up hb⟩⟩
theorem WEnv.wb_at(h:WEnv a v k w Br Bo Ba Bf wb L word W):∃ cur fz,W.heap[wb]?=some (.cells cur 141 fz)/\w.heap.size<=wb:=by
 obtain⟨_,h⟩:=h.b;rcases h with ⟨h,_⟩|⟨g,cap,cur,fz,h,Dj,hg,_⟩
 ·cases h
 ·cases h;exact⟨cur,fz,hg,Dj⟩
theorem WEnv.grow_word(h:WEnv a v k w Br Bo Ba Bf wb L word W) (hg:W.grownBy W' (some wb)) {word':List Rd} (hb:aJ W' w.heap.size 141 7 (.slice (some ⟨wb,0,none⟩) word'.length k) word'.length (da word')):WEnv a v k w Br Bo Ba Bf wb L word' W':=by
 obtain⟨cur,fz,AV,xP⟩:=h.wb_at;have kp:∀ {k:Nat} {x:Array Value} {t:TypeId} {f:Nat × Nat},W.heap[k]?=some (.cells x t f)->t≠141->W'.heap[k]?=some (.cells x t f):=fun hk bK=>gm hg hk (fun e=>mT hk AV bK (dy e).symm)
 refine⟨Below.grown h.old hg h.old.size (fun g e=>by cases e;exact xP),h.lo,kp h.r (by decide),kp h.a (by decide),kp h.f (by decide),?_,hb⟩;obtain⟨vo,xs,h1,h2,h3⟩:=h.o;refine⟨vo,xs,kp h1 (by decide),h2.keepT fun g o e1 e2=>gm hg e2 (fun e=>h2.ne AV (by decide) g e1 (dy e).symm),fun i hi=>?_⟩;obtain⟨x,q1,q2⟩:=h3 i hi;exact⟨x,q1,q2.keepT fun g o e1 e2=>gm hg e2 (fun e=>by have h4:=(q2.lt g e1).1;have h5:=dy e;omega)⟩
theorem WEnv.shrink{r:Rd} (h:WEnv a v k w Br Bo Ba Bf wb L (word++[r]) W):WEnv a v k w Br Bo Ba Bf wb L word W:=by
 refine⟨h.old,h.lo,h.r,h.a,h.f,h.o,?_⟩;have hb:=h.b;rw[List.length_append,List.length_singleton,FA]at hb;exact hb.shrink (yJ word)
theorem WEnv.put{vo x v':Value} {xs:List Value} {w2:World} (h:WEnv a v k w Br Bo Ba Bf wb L word W) (h1:W.heap[Bo]?=some (.cells #[vo] 221)) (h2:aJ W w.heap.size 87 1 vo L.length xs) (h3:∀ i (hi:i<L.length),∃ x,xs[i]?=some x/\aJ W (wb+1) 141 7 x L[i].length (da L[i]))
  {l:List Rd} (hx:aJ W (wb+1) 141 7 x l.length (da l)) (hg:W.grownBy w2 vo.ownBlock) (ho:aJ w2 w.heap.size 87 1 v' (L.length+1) (xs++[x])):WEnv a v k w Br Bo Ba Bf wb (L++[l]) word (w2.setCell ⟨Bo,0,none⟩ v'):=by
 have kp:∀ {k:Nat} {x:Array Value} {t:TypeId} {f:Nat × Nat},W.heap[k]?=some (.cells x t f)->t≠87->w2.heap[k]?=some (.cells x t f):=fun hk bK=>gm hg hk (fun e=>h2.ne hk (fun e=>bK e.symm) _ e rfl)
 have y8:=kp h1 (by decide);have kp2:∀ {k:Nat} {x:Array Value} {t:TypeId} {f:Nat × Nat},W.heap[k]?=some (.cells x t f)->t≠87->t≠221->(w2.setCell ⟨Bo,0,none⟩ v').heap[k]?=some (.cells x t f):=fun hk bK S0=>aM (kp hk bK) (mT hk h1 S0) _ _
 have ko:∀ {x:Value} {l:List Rd} {b:Nat},aJ W b 141 7 x l.length (da l)->aJ (w2.setCell ⟨Bo,0,none⟩ v') b 141 7 x l.length (da l):=fun hq=>(hq.apart h2 (by decide) hg).put (fun g e=>(hq.apart h2 (by decide) hg).ne y8 (by decide) g e) _ _
 have aT:Below w.heap.size w w2:=Below.grown h.old hg h.old.size (fun g e=>(h2.lt g e).1);refine⟨aT.setCell h.lo _,h.lo,kp2 h.r (by decide) (by decide),kp2 h.a (by decide) (by decide),kp2 h.f (by decide) (by decide),⟨v',xs++[x],by rw[aI y8];rfl,?_,fun i hi=>?_⟩,?_⟩
 ·rw[List.length_append,List.length_singleton];exact ho.put (fun g e=>ho.ne y8 (by decide) g e) _ _
 ·have hl:xs.length=L.length:=by have:=h2.1;omega
  rw[List.length_append,List.length_singleton]at hi;by_cases aC:i<L.length
  ·obtain⟨y,q1,q2⟩:=h3 i aC;refine⟨y,by rw[List.getElem?_append_left (by omega)];exact q1,?_⟩;rw[List.getElem_append_left aC];exact ko q2
  ·obtain rfl:i=L.length:=by omega
   refine⟨x,by rw[<-hl,List.getElem?_append_right (Nat.le_refl _)];simp,?_⟩;have e:(L++[l])[L.length]'(by simp)=l:=by simp
   rw[e];exact ko hx
 ·have hq:=h.b;exact ko (l:=word) hq
end
def jU(a:Adv) (d:Nat) (word:List Rd) (l:List Mv):List (List Rd):=l.flatMap fun m=>(bZ a d m.to.toNat).map fun y=>word++(m.r :: y)
theorem FB(a:Adv) (d s:Nat) (word:List Rd):(bZ a (d+1) s).map (word++·)=jU a d word (a.states.getD s []):=by
 simp only[bZ,jU,List.map_flatMap,List.map_map];rfl
theorem MI(a:Adv) (d:Nat) (word:List Rd) (l:List Mv) (j:Nat) (h:j<l.length):jU a d word (l.take (j+1))=jU a d word (l.take j)++(bZ a d l[j].to.toNat).map ((word++[l[j].r])++·):=by
 unfold jU;rw[List.take_succ_eq_append_getElem h,List.flatMap_append];simp
theorem RX(a:Adv) (d:Nat) (word:List Rd) (l:List Mv) (j:Nat):(jU a d word (l.take j)).length<=(jU a d word l).length:=by
 conv=>rhs;rw[<-List.take_append_drop j l]
 unfold jU;rw[List.flatMap_append,List.length_append];omega
structure WCore (a:Adv) (v:Value) (k:Nat) (w:World) (Br Bo Ba Bf wb B9:Nat) (L:List (List Rd)) (word:List Rd) (m:Mv) (D:Nat->Bool) (x:Nat->Value) (W:World):Prop where
 env:WEnv a v k w Br Bo Ba Bf wb L (bif D 7 then word++[m.r] else word) W
 box:W.heap[B9]?=some (.cells #[.int .i64 m.r.g.n,.int .i64 m.r.g.h0,.int .i64 m.r.g.h1,.int .i64 m.r.g.h2,.int .i64 m.r.g.h3,.int .i64 m.r.g.h4,.int .i64 m.r.f,.int .i64 m.to] 143)
 sb:D 6=true->D 7=false->∃ g,x 6=.slice (some ⟨g,0,none⟩) 1 1/\W.heap[g]?=some (.cells #[.int .i64 m.r.g.n,.int .i64 m.r.g.h0,.int .i64 m.r.g.h1,.int .i64 m.r.g.h2,.int .i64 m.r.g.h3,.int .i64 m.r.g.h4,.int .i64 m.r.f] 141)
section
variable {a : Adv} {v : Value} {k : Nat} {w : World} {Br Bo Ba Bf wb B9 : Nat} {L : List (List Rd)} {word : List Rd} {m : Mv} {D : Nat → Bool} {x : Nat → Value} {W : World}
theorem WCore.other(h:WCore a v k w Br Bo Ba Bf wb B9 L word m D x W) {i:Nat} (u:Value) (h6:6≠i) (h7:7≠i):WCore a v k w Br Bo Ba Bf wb B9 L word m (bJ D i) (cG x i u) W:=by
 refine⟨?_,h.box,?_⟩
 ·simpa only[bJ,if_neg h7] using h.env
 ·simpa only[bJ,cG,if_neg h6,if_neg h7] using h.sb
theorem WCore.build(h:WCore a v k w Br Bo Ba Bf wb B9 L word m D x W):WCore a v k w Br Bo Ba Bf wb B9 L word m (bJ D 6) (cG x 6 (.slice (some ⟨W.heap.size,0,none⟩) 1 1)) (W.alloc (.cells #[.int .i64 m.r.g.n,.int .i64 m.r.g.h0,.int .i64 m.r.g.h1,.int .i64 m.r.g.h2,.int .i64 m.r.g.h3,.int .i64 m.r.g.h4,.int .i64 m.r.f] 141)):=by
 refine⟨?_,ar _ h.box,fun _ _=>⟨W.heap.size,by simp[cG],ap _ _⟩⟩;have:=h.env.up (W':=W.alloc (.cells #[.int .i64 m.r.g.n,.int .i64 m.r.g.h0,.int .i64 m.r.g.h1,.int .i64 m.r.g.h2,.int .i64 m.r.g.h3,.int .i64 m.r.g.h4,.int .i64 m.r.f] 141)) (by go_grown);simpa only[bJ,if_neg (show (7:Nat)≠6 by decide)] using this
theorem WCore.app(h:WCore a v k w Br Bo Ba Bf wb B9 L word m D x W) (h7:D 7=false) {w3:World} (u:Value) (ho:aJ w3 w.heap.size 141 7 (.slice (some ⟨wb,0,none⟩) (word.length+1) k) (word.length+1) (da word++da [m.r])) (hg:W.grownBy w3 (some wb)):WCore a v k w Br Bo Ba Bf wb B9 L word m (bJ D 7) (cG x 7 u) w3:=by
 have he:=h.env;rw[h7]at he;obtain⟨cur,fz,AV,_⟩:=he.wb_at;refine⟨?_,gm hg h.box (fun e=>mT h.box AV (by decide) (dy e).symm),fun _ e=>by simp[bJ]at e⟩;simp only[bJ,if_true,cond_true];refine he.grow_word hg ?_;rw[List.length_append,List.length_singleton,FA];exact ho
end
def YO(wb:Nat) (word:List Rd):MP:=⟨fun x W=>aJ W (wb+1) 141 7 x word.length (da word),fun _ _ _ h hb=>h.up hb⟩
def Pm(wb:Nat) (word:List Rd):MP:=⟨fun y W=>∃ x g,aJ W (wb+1) 141 7 x word.length (da word)/\y=.slice (some ⟨g,0,none⟩) 1 1/\W.heap[g]?=some (.cells #[x] 87),fun _ _ _ h hb=>by obtain⟨x,g,h1,h2,h3⟩:=h;exact⟨x,g,h1.up hb,h2,af hb h3⟩⟩
theorem Pn{wb:Nat} {word:List Rd} {W:World} {x:Value} {g:Nat} (h1:aJ W (wb+1) 141 7 x word.length (da word)) (h3:W.heap[g]?=some (.cells #[x] 87)):(Pm wb word).p (.slice (some ⟨g,0,none⟩) 1 1) W:=⟨x,g,h1,rfl,h3⟩
theorem Tryz.infoWordRow:(Tryz.prog.info? 87).map (fun i=>(i.zero,i.size,i.bytes))=some (some (.slice none 0 0),1,24):=by kernel_rfl
theorem MJ(a:Adv) (v:Value) (k:Nat) (hk:k<=6) (w:World) (hv:bu w v a.states) (oX:∀ s,s<a.states.length->∀ m∈a.states.getD s [],0<=m.to/\m.to.toNat<a.states.length) (Br Bo Ba Bf wb:Nat) :
  ∀ (d:Nat) (s:Nat) (L:List (List Rd)) (word:List Rd) (W:World),word.length+d=k->s<a.states.length->(∀ r∈word,pX r)->L.length+(bZ a d s).length<=1048576->WEnv a v k w Br Bo Ba Bf wb L word W →
   Calls Tryz.prog 193 #[.int .i64 s,.slice (some ⟨wb,0,none⟩) word.length k,.pointer (some ⟨Br,0,none⟩),.pointer (some ⟨Bo,0,none⟩),.pointer (some ⟨Ba,0,none⟩),.pointer (some ⟨Bf,0,none⟩)] W fun e W'=>(∃ u,e=.returned u)/\WEnv a v k w Br Bo Ba Bf wb (L++(bZ a d s).map (word++·)) word W':=by
 have HV:=aa hv;clear hv;have QX:=aa oX;clear oX;intro d;induction d with
 | zero=>
  intro s L word W hd hs cZ cC p7;have iv:=aa cZ;have E9:=aa p7;have qV:=aa cC;have tr:=ab p7.r 0;obtain⟨vo,xs,h1,h2,h3⟩:=p7.o;have to:=ab h1 0;simp at tr to;have zL:(word.length:Int)=k:=by omega
  have LK:=aa zL;have zF:=aa hd;clear cZ cC p7 hd
  go_enter Tryz.func193,Tryz.ntmps193
  obtain⟨i0,cX,cD,bX,cF⟩:=info_parts Tryz.infoWordRow;have H2:=aa h2;have H3:=aa h3;clear h2 h3;have aC:=(E9.o.wb_at).elim fun _ h=>h.elim fun _ h=>aD h.1
  go_wp2_with fail
  refine gk 4 [14,15,16,17] [MP.eq vo,
   MP.eq (.slice (some ⟨wb,0,none⟩) word.length k),
   YO wb word,
   Pm wb word] (by kernel_rfl) (by simp) (by decide) rfl (by kernel_rfl) (by kernel_rfl) (by kernel_rfl) ?step ?tail
  case step=>
   intro x W i o s F hi ho hs hB aq hF;have fR:i=0\/i=1\/i=2\/i=3:=by omega
   rcases fR with rfl|rfl|rfl|rfl
   all_goals (obtain rfl:=dy ho.symm;obtain rfl:=dy hs.symm;simp only[bA,cW,List.setIfInBounds_toArray,List.set_cons_succ,List.set_cons_zero,Nat.reduceAdd]at hF)
   ·clear aq hi ho hs;have t1:=ak hB to;subst hF
    go_wp2_with fail
    exact k8 _ (Below.refl _ _) rfl
   ·clear aq hi ho hs;subst hF
    go_wp2_with fail
    exact k8 _ (Below.refl _ _) rfl
   ·have d1:=pK (aq ⟨1,.data⟩ (by simp) rfl);clear aq hi ho hs;simp only[d1]at hF;subst hF
    go_wp2_with fail
    refine(vu _ word W ((rO E9.o.b (fun i hi=>iv.o _ (List.getElem_mem hi)) (by omega)).up up_round hB) (by omega)).mono ?_;rintro e w9 ⟨u9,rfl,jJ,dU⟩;have ny:=aa (jJ.base (base':=wb+1) (by have:=hB.size;omega));clear jJ
    go_wp2_with fail
    exact k8 _ dU ny.o
   ·have d2:=aq ⟨2,.data⟩ (by simp) rfl;clear aq hi ho hs;obtain⟨a9,c9,e9⟩:=aJ.slice d2;rw[e9]at d2;have Qv:=aa (show aJ W (wb+1) 141 7 (.slice a9 word.length c9) word.length (da word) from d2);clear d2;simp only[e9]at hF;subst hF
    go_wp2_with fail
    refine bh.mk (.slice (some ⟨W.heap.size,0,none⟩) 1 1) ?_ ?_ ?_
    ·exact(by go_grown)
    ·exact Pn (Qv.o.up (by go_grown)) (ap _ _)
    ·first
     | rfl
     | simp only[List.setIfInBounds_toArray,List.set_cons_succ,List.set_cons_zero]
  case tail=>
   intro x W2 F hB aU hF;have d0:x 0=vo:=aU 0 (by omega);have d3:=aU 3 (by omega);obtain⟨x9,g9,jJ,e9,Bl⟩:∃ x9 g9,aJ W2 (wb+1) 141 7 x9 word.length (da word)/\x 3=.slice (some ⟨g9,0,none⟩) 1 1/\W2.heap[g9]?=some (.cells #[x9] 87):=d3;clear aU;simp only[bA,cW,List.setIfInBounds_toArray,List.set_cons_succ,List.set_cons_zero,Nat.reduceAdd]at hF;rw[d0,e9]at hF;subst hF;have ny:=aa jJ;have Q5:=aa Bl;have fr:=aa hB;have QW:=fr.o.size;have hL:=qV.o;simp only[bZ,List.length_singleton]at hL;clear jJ Bl hB d0 e9;simp only[List.drop_succ_cons,List.drop_zero];refine bg W2 rfl (.tmp 14) (.tmp 17) 221 rfl w.heap.size 87 i0 _ 1 24 Tryz.underlying221 cX cD bX cF rfl (by decide) _ L.length xs rfl (H2.o.up fr.o) ⟨g9,0,none⟩ 1 1 [x9] rfl rfl (fun j u hj=>?_) (by simpa using KG ny.o) (by unfold maxLen;omega) (by omega) (by have:=E9.o.old.size;omega) ?_
   ·cases j with
    | zero=>simp at hj;subst hj;simp[Addr.add,ab Q5.o]
    | succ j=>simp at hj
   intro v9 w9 gt eC _;have HOW9:=aa gt;have Kp:=aa eC;clear gt eC;have y8:=gm Kp.o (af fr.o h1) (fun e=>H2.o.ne h1 (by decide) _ e rfl);have tBo:=ab y8 0;have zBo:=aH y8 0;simp at tBo;have hBoL:=aD y8;obtain⟨a9,c9,hv9⟩:=HOW9.o.slice;subst hv9;clear y8
   go_wp2_with fail
   go_returns
   refine⟨⟨_,rfl⟩,?_⟩;have e9:L++(bZ a 0 s).map (word++·)=L++[word]:=by simp[bZ]
   rw[e9];exact(E9.o.up fr.o).put (af fr.o h1) (H2.o.up fr.o) (fun i hi=>by obtain⟨y,q1,q2⟩:=H3.o i hi;exact⟨y,q1,q2.up fr.o⟩) ny.o Kp.o HOW9.o
 | succ d ih=>
  intro s L word W hd hs cZ cC p7;have iv:=aa cZ;have E9:=aa p7;have qV:=aa (show L.length+(jU a d word (a.states.getD s [])).length<=1048576 by rw[<-FB];simpa using cC);have tr:=ab p7.r 0;have ta:=ab p7.a 1;simp at tr ta;obtain⟨pa,ca,rfl,la1,la2,ea⟩:=HV.o.at;obtain⟨b1,o1,rfl,xc,cx0,hx⟩:=ea s hs;rw[Nat.mul_one]at cx0;have cx:=ak p7.old cx0;clear cx0;obtain⟨px,qx,rfl,x1,x2,ex⟩:=hx.at;have EX:=aa ex;have UB:=aa (az [] hs);have Tv:=aa (QX.o s hs);rw[UB.o]at qV Tv;rw[FB,UB.o];clear hx ex ea cC p7 cZ;generalize a.states[s]=l at EX x1 x2 cx qV Tv;have zL:((word.length:Int) == (k:Int))=false:=by simp;omega
  have LK:=aa zL;have zF:=aa hd;clear hd
  go_enter Tryz.func193,Tryz.ntmps193
  go_wp2_with fail
  clear cx ta tr;obtain⟨i1,pC,_,jK,_⟩:=info_parts Tryz.infoRound
  go_loopw [25] (fun i wr=>∃ j:Nat,j<=l.length/\i=.int .i64 j/\WEnv a (.slice (some ⟨b1,o1,none⟩) a.states.length ca) k w Br Bo Ba Bf wb (L++jU a d word (l.take j)) word wr) (fun i _=>l.length - (intOf i).toNat)
  ·exact⟨0,by omega,rfl,by simpa[jU] using E9.o⟩
  ·
   obtain⟨j,hj,rfl,oR⟩:=hrel;have XT:=aa oR;by_cases aC:j<l.length
   ·obtain⟨b3,o3,rfl,⟨⟨d0,j0⟩,⟨d1,j1⟩,⟨d2,j2⟩,⟨d3,j3⟩,⟨d4,j4⟩,⟨d5,j5⟩,⟨d6,j6⟩⟩,⟨d7,_⟩⟩:=EX.o j aC
    have HINM:am (∀ r∈word++[l[j].r],pX r):=aa (fun r hr=>by
     rcases List.mem_append.1 hr with h|h
     ·exact iv.o r h
     ·rw[List.mem_singleton]at h;subst h;exact⟨j0,j1,j2,j3,j4,j5,j6⟩)
    have JU:=MI a d word l j aC;have lh:=RX a d word l (j+1);have HM:=aa (Tv.o _ (List.getElem_mem aC))
    have Yy:(L++jU a d word (l.take j)).length+(bZ a d l[j].to.toNat).length<=1048576:=by
     have h9:=qV.o;rw[JU,List.length_append,List.length_map]at lh;rw[List.length_append];omega
    have HLJ:=aa Yy;have iu:=aa JU;clear JU lh Yy j0 j1 j2 j3 j4 j5 j6;generalize l[j]=m at d0 d1 d2 d3 d4 d5 d6 d7 HINM HM HLJ iu;have HTON:am (((m.to.toNat:Nat):Int)=m.to):=aa (by have:=HM.o.1;omega)
    replace d0:=ak oR.old d0
    replace d1:=ak oR.old d1
    replace d2:=ak oR.old d2
    replace d3:=ak oR.old d3
    replace d4:=ak oR.old d4
    replace d5:=ak oR.old d5
    replace d6:=ak oR.old d6
    replace d7:=ak oR.old d7
    clear oR
    go_wp2_with fail
    refine bC (fun W1=>WEnv a (.slice (some ⟨b1,o1,none⟩) a.states.length ca) k w Br Bo Ba Bf wb (L++jU a d word (l.take j)) word W1/\W1.heap[wr.heap.size]?=some (.cells #[.int .i64 m.r.g.n,.int .i64 m.r.g.h0,.int .i64 m.r.g.h1,.int .i64 m.r.g.h2,.int .i64 m.r.g.h3,.int .i64 m.r.g.h4,.int .i64 m.r.f,.int .i64 m.to] 143)) ⟨XT.o.up (by go_grown),ap _ _⟩ (fun W1 cM=>?_);have gN:=aa cM;clear cM d0 d1 d2 d3 d4 d5 d6 d7
    refine mO 8 [29,30,31,32,33,34,35,36] [some (Cx Br Bo Ba Bf),
     some (.pointer (some ⟨wr.heap.size,7,none⟩)),
     some (.int .i64 m.to),
     some (.slice (some ⟨wb,0,none⟩) word.length k),
     some (.pointer (some ⟨wr.heap.size,0,none⟩)),
     some (m.r.v),
     none,
     some ((.slice (some ⟨wb,0,none⟩) (word.length+1) k))] (WCore a (.slice (some ⟨b1,o1,none⟩) a.states.length ca) k w Br Bo Ba Bf wb wr.heap.size (L++jU a d word (l.take j)) word m) (by kernel_rfl) rfl (by decide) rfl (by kernel_rfl) (by kernel_rfl) (by kernel_rfl) (fun _=>⟨gN.o.1.up (by go_grown),af (by go_grown) gN.o.2,nofun⟩) ?step ?tail
    case step=>
     intro x W D i o s F hi ho hs hD cN bW aq hv aP hF;have fR:i=0\/i=1\/i=2\/i=3\/i=4\/i=5\/i=6\/i=7:=by omega
     rcases fR with rfl|rfl|rfl|rfl|rfl|rfl|rfl|rfl
     all_goals (have dR:=cN _ _ hs hD;obtain rfl:=dy ho.symm;obtain rfl:=dy hs.symm)
     ·clear aq hi hv;have e5:F.getD 5 undef=.pointer (some ⟨Bf,0,none⟩):=lT hF (by decide) rfl;clear cN bW;clear hF dR;have t1:=ab aP.env.f 0;simp at t1;have e5':=dH e5;have HD:=aa hD;have bz:=aa aP;clear hD aP
      go_wp2_with fail
      refine bY.mk _ fV ?_ rfl;exact bz.o.other _ (by decide) (by decide)
     ·clear aq hi hv;have e9:F.getD 9 undef=.pointer (some ⟨wr.heap.size,0,none⟩):=lT hF (by decide) rfl;clear cN bW;clear hF dR;have e9':=dH e9;have HD:=aa hD;have bz:=aa aP;clear hD aP
      go_wp2_with fail
      refine bY.mk _ fV ?_ rfl;exact bz.o.other _ (by decide) (by decide)
     ·have g1:=aq ⟨1,.data⟩ (by simp) rfl;have d1:=hv 1 _ (by omega) g1 rfl;clear aq hi hv;have e30:=fG hF 1 30 (by decide) rfl (by kernel_rfl) d1;clear cN bW;clear hF dR d1;have t1:=ab aP.box 7;simp at t1;have e30':=dH e30;have HD:=aa hD;have bz:=aa aP;clear hD aP;clear g1
      go_wp2_with fail
      refine bY.mk _ fV ?_ rfl;exact bz.o.other _ (by decide) (by decide)
     ·clear aq hi hv;have e1:F.getD 1 undef=.slice (some ⟨wb,0,none⟩) word.length k:=lT hF (by decide) rfl;clear cN bW;clear hF dR;have e1':=dH e1;have HD:=aa hD;have bz:=aa aP;clear hD aP
      go_wp2_with fail
      refine bY.mk _ fV ?_ rfl;exact bz.o.other _ (by decide) (by decide)
     ·clear aq hi hv;have e9:F.getD 9 undef=.pointer (some ⟨wr.heap.size,0,none⟩):=lT hF (by decide) rfl;clear cN bW;clear hF dR;have e9':=dH e9;have HD:=aa hD;have bz:=aa aP;clear hD aP
      go_wp2_with fail
      refine bY.mk _ fV ?_ rfl;exact bz.o.other _ (by decide) (by decide)
     ·have g4:=aq ⟨4,.data⟩ (by simp) rfl;have d4:=hv 4 _ (by omega) g4 rfl;clear aq hi hv;have e33:=fG hF 4 33 (by decide) rfl (by kernel_rfl) d4;clear cN bW;clear hF dR d4;have t1:=ab aP.box;have e33':=dH e33;have HD:=aa hD;have bz:=aa aP;clear hD aP;clear g4
      go_wp2_with fail
      refine bY.mk _ fV ?_ rfl;exact bz.o.other _ (by decide) (by decide)
     ·have g5:=aq ⟨5,.data⟩ (by simp) rfl;have d5:=hv 5 _ (by omega) g5 rfl;clear aq hi hv;have e34:=fG hF 5 34 (by decide) rfl (by kernel_rfl) d5;clear cN bW;clear hF dR d5;have e34':=dH e34;have HD:=aa hD;have bz:=aa aP;clear hD aP;clear g5
      go_wp2_with fail
      refine bY.mk _ (fun c hc=>by cases hc) ?_ rfl;exact bz.o.build
     ·have g3:=aq ⟨3,.data⟩ (by simp) rfl;have d3:=hv 3 _ (by omega) g3 rfl;have g6:=aq ⟨6,.data⟩ (by simp) rfl;clear aq hi hv;have e32:=fG hF 3 32 (by decide) rfl (by kernel_rfl) d3;have e35:=fG hF 6 35 (by decide) rfl (by kernel_rfl) rfl;clear cN bW;clear hF dR d3;obtain⟨gb,qx,nJ⟩:=aP.sb g6 hD;rw[qx]at e35;have bU:=aP.env.b;rw[hD]at bU;have Dg:=aa (show aJ W w.heap.size 141 7 (.slice (some ⟨wb,0,none⟩) word.length k) word.length (da word) from bU)
      have bQ:∀ j u',(da [m.r])[j]?=some u'->W.cell? (Addr.add ⟨gb,0,none⟩ j)=some u':=fun j u' hj=>by
       have e1:(Addr.add ⟨gb,0,none⟩ j)=⟨gb,j,none⟩:=by unfold Addr.add;split<;>simp_all
       rw[e1,ab nJ];simpa[da] using hj
      have bF:=aa bQ;clear bQ bU nJ qx;have e32':=dH e32;have e35':=dH e35;have HD:=aa hD;have bz:=aa aP;clear hD aP;clear g3;clear g6;refine BM rfl (.tmp 32) (.tmp 35) 87 rfl w.heap.size 141 i1 7 Tryz.underlying87 pC jK wb k word.length (da word) e32 Dg.o ⟨gb,0,none⟩ 1 1 (da [m.r]) e35 rfl bF.o (sX _) (by have:=zF.o;omega) ?_;intro w3 oP kj _;refine bY.mk _ fV ?_ rfl;exact bz.o.app HD.o _ oP kj
    case tail=>
     intro x W' D F aU hv aP hF;have x0:=hv 0 _ (by omega) rfl;have x1:=hv 1 _ (by omega) rfl;have x2:=hv 2 _ (by omega) rfl;have x3:=hv 3 _ (by omega) rfl;have x4:=hv 4 _ (by omega) rfl;have x5:=hv 5 _ (by omega) rfl;have x7:=hv 7 _ (by omega) rfl;have ol:=aP.env;rw[aU 7 (by omega)]at ol;have HE9:=aa (show WEnv a (.slice (some ⟨b1,o1,none⟩) a.states.length ca) k w Br Bo Ba Bf wb (L++jU a d word (l.take j)) (word++[m.r]) W' from ol);simp only[bA,cW,List.setIfInBounds_toArray,List.set_cons_succ,List.set_cons_zero,Nat.reduceAdd,x0,x1,x2,x3,x4,x5,x7]at hF;generalize x 6=y6 at hF;subst hF;clear hv aU aP ol x0 x1 x2 x3 x4 x5 x7;simp only[List.drop_succ_cons,List.drop_zero];have fo:=ih m.to.toNat (L++jU a d word (l.take j)) (word++[m.r]) W' (by have:=zF.o;simp;omega) HM.o.2 HINM.o (HLJ.o) HE9.o;rw[List.length_append,List.length_singleton,HTON.o]at fo;have bV:=aa fo;clear fo ih
     go_wp2_with fail
     refine bV.o.mono ?_;rintro e w9 ⟨⟨u9,rfl⟩,ol⟩;have HE10:=aa ol;clear ol
     go_wp2_with fail
     go_roundw
     ·
      refine⟨j+1,by omega,by go_num,?_⟩;rw[iu.o,<-List.append_assoc];exact HE10.o.shrink
     ·simp[intOf];omega
   ·obtain rfl:j=l.length:=by omega
    rw[List.take_length]at XT;clear oR
    go_wp2_with fail
    go_returns
    exact⟨⟨_,rfl⟩,XT.o⟩
theorem yL(P:Program) (w:World) (a:Addr) (m:Mode) (g:Fn) (b c:Array Value):(store a (.func g b c) m).run P w=stored P w a (.func g b c) m:=run_store P w a _ m rfl
attribute [local go_sem] yL
theorem Po(cs:Array Value) (m:Nat):(madeCells cs m).size=m:=by simp[madeCells]
theorem MK(n:Nat) (hn:n<=4096) (w:World):(Instr.makeSlice 221 (.int .i64 0) (.int .i64 (n:Int))).run Tryz.prog w=.ok (.slice (some ⟨w.heap.size,0,none⟩) 0 n) (w.alloc (.cells (madeCells (Value.slice none 0 0).cells n) 87)):=by
 obtain⟨i,hi,cD,bX,cF⟩:=info_parts Tryz.infoWordRow;have:=run_make (P:=Tryz.prog) w 221 87 i (.slice none 0 0) Tryz.underlying221 hi cD .i64 .i64 0 (n:Int) (by omega) (by omega) (by rw[cF];omega) (by omega);rw[this,bX,Nat.mul_one];rfl
theorem KH(k:Nat) (hk:k<=6) (w:World):(Instr.makeSlice 87 (.int .i64 0) (.int .i64 (k:Int))).run Tryz.prog w=.ok (.slice (some ⟨w.heap.size,0,none⟩) 0 k) (w.alloc (.cells (madeCells (Value.agg #[.int .i64 0,.int .i64 0,.int .i64 0,.int .i64 0,.int .i64 0,.int .i64 0,.int .i64 0]).cells (k * 7)) 141)):=by
 obtain⟨i,hi,cD,bX,cF⟩:=info_parts Tryz.infoRound;have:=run_make (P:=Tryz.prog) w 87 141 i _ Tryz.underlying87 hi cD .i64 .i64 0 (k:Int) (by omega) (by omega) (by rw[cF];omega) (by omega);rw[this,bX];rfl
theorem IC{W:World} {base g n k:Nat} {e:TypeId} {cs:Array Value} (h:W.heap[g]?=some (.cells (madeCells cs (n * k)) e)) (hb:base<=g) (hn:n<=1048576):aJ W base e k (.slice (some ⟨g,0,none⟩) 0 n) 0 []:=
 ⟨by simp,.inr ⟨g,n,_,(0,0),rfl,hb,h,fun i _ h=>by have:=h.2;simp at this,by omega,by unfold maxLen;omega,Po _ _,by simp⟩⟩
def Ws(base k:Nat):MP:=⟨fun v W=>∃ g,base<=g/\v=.slice (some ⟨g,0,none⟩) 0 k/\aJ W base 141 7 (.slice (some ⟨g,0,none⟩) 0 k) 0 [],fun _ _ _ h hb=>by obtain⟨g,h1,h2,h3⟩:=h;exact⟨g,h1,h2,h3.up hb⟩⟩
theorem Vt{base k g:Nat} {W:World} (h1:base<=g) (h3:aJ W base 141 7 (.slice (some ⟨g,0,none⟩) 0 k) 0 []):(Ws base k).p (.slice (some ⟨g,0,none⟩) 0 k) W:=⟨g,h1,rfl,h3⟩
theorem sY{w:World} {v:Value} {l:List (List Mv)} (h:bu w v l):∀ s,∀ m∈l.getD s [],pX m.r:=fun s m hm=>by
 by_cases hs:s<l.length
 ·rw[az [] hs]at hm;obtain⟨pa,ca,rfl,_,_,ea⟩:=h.at;obtain⟨_,_,_,x,_,hx⟩:=ea s hs;obtain⟨px,qx,rfl,_,_,ex⟩:=hx.at;obtain⟨j,hj,rfl⟩:=List.getElem_of_mem hm;obtain⟨_,_,_,⟨⟨_,j0⟩,⟨_,j1⟩,⟨_,j2⟩,⟨_,j3⟩,⟨_,j4⟩,⟨_,j5⟩,⟨_,j6⟩⟩,_⟩:=ex j hj;exact⟨j0,j1,j2,j3,j4,j5,j6⟩
 ·rw[List.getD_eq_getElem?_getD,List.getElem?_eq_none (by omega)]at hm;simp at hm
theorem wR(a:Adv) (h:∀ s,∀ m∈a.states.getD s [],pX m.r) (k:Nat):∀ s,∀ x∈bZ a k s,∀ r∈x,pX r:=by
 induction k with
 | zero=>intro s x hx r hr;simp[bZ]at hx;subst hx;simp at hr
 | succ k ih=>
  intro s x hx r hr;simp only[bZ,List.mem_flatMap,List.mem_map]at hx;obtain⟨m,hm,y,hy,rfl⟩:=hx;rcases List.mem_cons.1 hr with rfl|hr
  ·exact h s m hm
  ·exact ih _ y hy r hr
theorem vz{a:Adv} (h:advE a=0):∀ s,s<a.states.length->∀ m∈a.states.getD s [],0<=m.to/\m.to.toNat<a.states.length:=fun s hs m hm=>by
 rw[az [] hs]at hm;obtain⟨j,hj,rfl⟩:=List.getElem_of_mem hm;have:=(lw (ip h).2.1 hs hj).2;omega
def qA(a:Adv) (r:Int):List (List Rd) × Int:=if (countedR 4096 a r).2≠0 then([],(countedR 4096 a r).2) else(bZ a r.toNat 0,0)
theorem ML{a:Adv} {r:Int} (h:(countedR 4096 a r).2=0):advE a=0/\0<=r/\r<=6/\(bZ a r.toNat 0).length<=4096/\(countedR 4096 a r).1=(bZ a r.toNat 0).length:=by
 unfold countedR at h ⊢;by_cases h1:advE a=0
 ·rw[if_neg (by simpa using h1)]at h ⊢;by_cases h2:r<0\/6<r
  ·rw[if_pos h2]at h;cases h
  ·rw[if_neg h2]at h ⊢;have hn:=rq (L:=4096) (by omega) a (fun s hs m hm=>(vz h1 s hs m hm).2) (by have:=(ip h1).1;omega) r.toNat;by_cases h3:4096<numberL 4096 a r.toNat
   ·rw[if_pos h3]at h;cases h
   ·rw[if_neg h3];refine⟨h1,by omega,by omega,?_,?_⟩
    ·omega
    ·show numberL 4096 a r.toNat=_
     omega
 ·rw[if_pos h1]at h;exact absurd h h1
theorem Pp(a:Adv) (v:Value) (r:Int) (w:World) (hv:bu w v a.states) (hN:movesN a.states<1099511627776) :
  Calls Tryz.prog 162 #[.agg #[.int .i64 a.n,v],.int .i64 r] w fun e w'=>∃ u,e=.returned (.tuple #[u,.int .i64 (qA a r).2])/\fj 1 (mK 7 pH) w' u (qA a r).1/\(∀ ad n c,u=.slice (some ad) n c->w.heap.size<=ad.block)/\Below w.heap.size w w':=by
 have HV:=aa hv;obtain⟨pa,ca,rfl,_⟩:=hv.at;clear hv
 go_enter Tryz.func162,Tryz.ntmps162
 go_wp2_with fail
 refine aO (fun W=>Below w.heap.size w W/\W.heap[w.heap.size]?=some (.cells #[.int .i64 a.n,.slice pa a.states.length ca] 27)/\W.heap[w.heap.size+1]?=some (.cells #[.int .i64 r] 3)) ⟨by go_grown,ar _ (ap _ _),aZ _ _ _⟩ (fun W0 aX=>?_);obtain⟨aG,bB,eB⟩:=aX;refine(AF a _ r 4096 W0 (HV.o.up up_moves aG) hN (by omega) (by omega)).mono ?_;rintro e w1 ⟨rfl,aK⟩;have jt:=ae aG aK;have eW:=af aK bB;have sd:=af aK eB;by_cases he:(countedR 4096 a r).2=0
 case neg=>
  have Dm:am (qA a r=([],(countedR 4096 a r).2)):=aa (by unfold qA;rw[if_pos he]);generalize (countedR 4096 a r).2=x at he Dm;have L8:(x != 0)=true:=by simpa using he
  clear bB eB eW sd he
  go_wp2_with fail
  go_ret2
  rw[Dm.o];exact⟨_,rfl,⟨none,0,rfl,⟨by simp,by omega,fun _=>rfl⟩,by simp,fun i x hx=>by simp at hx⟩,(fun ad n c e=>by cases e),jt⟩
 obtain⟨ha,sr,pg,cC,lE⟩:=ML he;obtain⟨k,rfl⟩:∃ k:Nat,r=(k:Int):=⟨r.toNat,by omega⟩;rw[Int.toNat_natCast]at cC lE;have Dm:am (qA a k=(bZ a k 0,0)):=aa (by unfold qA;rw[if_neg (by simpa using he),Int.toNat_natCast]);have QX:=aa (vz ha);have HAOK:=aa (ip ha);rw[he,lE];have hk:k<=6:=by omega
 have qV:=aa cC;generalize hn:(bZ a k 0).length=n at cC;have HN:=aa hn;have gg:=MK n cC;clear hn he lE ha sr pg;have bX:=jt.size;have du:=aa eW;have cO:=aa sd;clear bB eB eW sd
 go_wp2_with fail
 refine bC (fun W=>Below w.heap.size w W/\W.heap[w.heap.size]?=some (.cells #[.int .i64 a.n,.slice pa a.states.length ca] 27)/\W.heap[w.heap.size+1]?=some (.cells #[.int .i64 k] 3)/\W.heap[w1.heap.size]?=some (.cells (madeCells (Value.slice none 0 0).cells n) 87)/\W.heap[w1.heap.size+1]?=some (.cells #[.slice (some ⟨w1.heap.size,0,none⟩) 0 n] 221)/\W.heap[w1.heap.size+1+1]?=some (.cells #[Cx (w.heap.size+1) (w1.heap.size+1) w.heap.size (w1.heap.size+1+1)] 259)) ?_ (fun W2 eI=>?_)
 ·exact⟨((jt.alloc bX _).alloc (by simp only[World.size_alloc];omega) _).alloc (by simp only[World.size_alloc];omega) _,ar _ (ar _ (ar _ du.o)),ar _ (ar _ (ar _ cO.o)),ar _ (ar _ (ap _ _)),ar _ (aZ _ _ _),dZ _ _ _ _⟩
 obtain⟨g1,g2,g3,g4,g5,g6⟩:=eI;have G1:=aa g1;have G2:=aa g2;have G3:=aa g3;have G4:=aa g4;have G5:=aa g5;have G6:=aa g6;have cF:=g1.size;clear g1 g2 g3 g4 g5 g6 gg
 refine gk 3 [22,23,24] [MP.eq (Cx (w.heap.size+1) (w1.heap.size+1) w.heap.size (w1.heap.size+1+1)),
  MP.eq (.int .i64 k),
  Ws w.heap.size k] (by kernel_rfl) (by simp) (by decide) rfl (by kernel_rfl) (by kernel_rfl) (by kernel_rfl) ?step ?tail
 case step=>
  intro x W i o s F hi ho hs hB aq hF;have fR:i=0\/i=1\/i=2:=by omega
  rcases fR with rfl|rfl|rfl
  all_goals (obtain rfl:=dy ho.symm;obtain rfl:=dy hs.symm;simp only[bA,cW,List.setIfInBounds_toArray,List.set_cons_succ,List.set_cons_zero,Nat.reduceAdd]at hF)
  ·clear aq hi ho hs;have t1:=ab (af hB G6.o) 0;simp at t1;subst hF
   go_wp2_with fail
   exact k8 _ (Below.refl _ _) rfl
  ·clear aq hi ho hs;have t1:=ab (af hB G3.o) 0;simp at t1;subst hF
   go_wp2_with fail
   exact k8 _ (Below.refl _ _) rfl
  ·have d1:=pK (aq ⟨1,.data⟩ (by simp) rfl);clear aq hi ho hs;have gg:=KH k hk;simp only[d1]at hF;subst hF
   go_wp2_with fail
   refine bh.mk (.slice (some ⟨W.heap.size,0,none⟩) 0 k) ?_ ?_ ?_
   ·exact(by go_grown)
   ·exact Vt (by have:=hB.size;omega) (IC (ap _ _) (by have:=hB.size;omega) (by omega))
   ·first
    | rfl
    | simp only[List.setIfInBounds_toArray,List.set_cons_succ,List.set_cons_zero]
 case tail=>
  intro x W3 F hB aU hF;have d0:x 0=(Cx (w.heap.size+1) (w1.heap.size+1) w.heap.size (w1.heap.size+1+1)):=aU 0 (by omega);have d1:x 1=.int .i64 k:=aU 1 (by omega);have d2:=aU 2 (by omega);obtain⟨wb,AV,e2,qH⟩:∃ g,w.heap.size<=g/\x 2=.slice (some ⟨g,0,none⟩) 0 k/\aJ W3 w.heap.size 141 7 (.slice (some ⟨g,0,none⟩) 0 k) 0 []:=d2;clear aU;simp only[bA,cW,List.setIfInBounds_toArray,List.set_cons_succ,List.set_cons_zero,Nat.reduceAdd]at hF;rw[d0,d1,e2]at hF;subst hF;have fr:=aa hB;have sh:=aa qH;clear hB qH d0 d1 e2;simp only[List.drop_succ_cons,List.drop_zero]
  have p7:WEnv a (.slice pa a.states.length ca) k w (w.heap.size+1) (w1.heap.size+1) w.heap.size (w1.heap.size+1+1) wb [] [] W3:=
   ⟨ae G1.o fr.o,by omega,af fr.o G3.o,af fr.o G2.o,af fr.o G6.o,⟨_,[],af fr.o G5.o,IC (n:=n) (cs:=(Value.slice none 0 0).cells) (by rw[Nat.mul_one];exact af fr.o G4.o) (by omega) (by omega),fun i hi=>by simp at hi⟩,sh.o⟩
  have fo:=MJ a _ k hk w HV.o QX.o _ _ _ _ wb k 0 [] [] W3 (by simp) (by have:=HAOK.o.1;omega) (fun r hr=>by simp at hr) (by have:=HN.o;simp;omega) p7;simp only[List.length_nil,List.nil_append,List.map_id']at fo;have bV:=aa fo;clear fo p7
  go_wp2_with fail
  refine bV.o.mono ?_;rintro e w9 ⟨⟨u9,rfl⟩,ol⟩;have hbw9:=ol.old;obtain⟨vo,xs,q1,q2,q3⟩:=ol.o;obtain⟨wcur,wfz,hw9,hwlo⟩:=ol.wb_at;have t1:=ab q1 0;simp at t1;have jP:am (fj 1 (mK 7 pH) w9 vo (bZ a k 0)):=aa (cj.sl (base:=w.heap.size) ⟨xs,q2,fun i hi=>by obtain⟨y,p1,p2⟩:=q3 i hi;exact⟨y,p1,p2.base (by omega)⟩⟩ (fun y l hl hy=>rO hy (fun i hi=>wR a (sY HV.o) k 0 l hl _ (List.getElem_mem hi)) (by have:=kA a k 0 l hl;omega)) (by have:=HN.o;omega))
  have HLO9:am (∀ ad n c,vo=.slice (some ad) n c->w.heap.size<=ad.block):=aa (fun ad n c e=>by
   rcases q2.2 with ⟨e2,_⟩|⟨g,cap,cur,fz,e2,h1,_⟩
   ·rw[e2]at e;cases e
   ·rw[e2]at e;cases e;exact h1)
  obtain⟨av,cv,rfl⟩:=q2.slice;clear q1 q2 q3 ol hw9
  go_wp2_with fail
  go_ret2
  rw[Dm.o];exact⟨_,rfl,jP.o,HLO9.o,hbw9⟩
theorem Cy(v:Value) (l:List Int) (w:World) (hv:aQ w v l) (hp:l7 l) (hl:l.length<=65536) :
  Calls Tryz.prog 206 #[v] w fun e w'=>e=.returned (.int .i64 0)/\Below w.heap.size w w':=by
 obtain⟨pa,ca,rfl,la1,la2,ea⟩:=hv.at;have EA:=aa ea;obtain⟨N,hN,hs⟩:=hp;have HS:=aa hs;have HN:=aa hN;clear hv ea hs hN
 go_enter Tryz.func206,Tryz.ntmps206
 go_wp2
 go_loop [3,11] (fun nx i=>∃ k:Nat,k<=l.length/\i=.int .i64 k/\nx=.int .i64 (N k)/\0<=N k/\N k<=k) (fun _ i=>l.length - (intOf i).toNat)
 ·exact⟨0,by omega,rfl,by rw[HN.o],by rw[HN.o];omega,by rw[HN.o];omega⟩
 ·
  obtain⟨k,hk,rfl,rfl,pA,kq⟩:=hrel;by_cases aC:k<l.length
  ·obtain⟨b1,o1,rfl,h1⟩:=EA.o k aC;rw[Nat.mul_one]at h1;have c1:=h1.1;obtain⟨dk,dm,dM⟩:=HS.o k aC;rw[az 0 aC]at dk dm dM;clear h1;generalize l[k]=x at c1 dk dm dM;have HX:=aa dM;clear dM;generalize N k=nk at pA kq dm HX;by_cases XZ:x=nk
   ·subst XZ;have fN:am (N (k+1)=x+1):=aa (by rw[HX.o,if_pos rfl])
    go_wp2
    go_round
    ·exact⟨k+1,by omega,by go_num,by rw[fN.o],by rw[fN.o];omega,by rw[fN.o];omega⟩
    ·simp[intOf];omega
   ·have hxn':(x == nk)=false:=by simpa using XZ
    have dM:¬ nk<x:=by omega
    have xN:¬ x<0:=by omega
    have fN:am (N (k+1)=nk):=aa (by rw[HX.o,if_neg XZ])
    go_wp2
    go_round
    ·exact⟨k+1,by omega,by go_num,by rw[fN.o],by rw[fN.o];omega,by rw[fN.o];omega⟩
    ·simp[intOf];omega
  ·go_wp2
   go_ret
   exact⟨rfl,by go_grown⟩
theorem Pq(va vb:Value) (a b:List Int) (w:World) (ha:aQ w va a) (hb:aQ w vb b) (pa:l7 a) (pb:l7 b) (hl:b.length=a.length) (nA:a.length<=65536) :
  Calls Tryz.prog 174 #[va,vb] w fun e w'=>e=.returned (.int .i64 0)/\Below w.heap.size w w':=by
 have HA:=aa ha;have HB:=aa hb;have HL:=aa hl;have PA:=aa pa;have PB:=aa pb;obtain⟨qa,ca,rfl,_⟩:=ha.at;obtain⟨qb,cb,rfl,_⟩:=hb.at;clear ha hb hl pa pb;have J4:((a.length:Int) != (b.length:Int))=false:=by rw[HL.o];simp
 go_enter Tryz.func174,Tryz.ntmps174
 go_wp2_with fail
 refine bC (fun W=>Below w.heap.size w W/\W.heap[w.heap.size]?=some (.cells #[.slice qa a.length ca,.slice qb b.length cb] 38)) ⟨by go_grown,ap _ _⟩ (fun W0 aX=>?_);obtain⟨aG,bB⟩:=aX;have j8:=aa bB;clear bB
 go_loopw [12] (fun i wr=>∃ k:Nat,k<=2/\i=.int .i64 k/\Below w.heap.size w wr/\Below W0.heap.size W0 wr) (fun i _=>2 - (intOf i).toNat)
 ·exact⟨0,by omega,rfl,aG,Below.refl _ _⟩
 ·
  clear aG;obtain⟨k,hk,rfl,df,aA⟩:=hrel;have tB:=ab (af aA j8.o);by_cases h0:k=0
  ·subst h0
   go_wp2_with fail
   refine(Cy _ _ wr (HA.o.up up_int df) PA.o nA).mono ?_;rintro e w1 ⟨rfl,aK⟩;clear tB
   go_wp2_with fail
   go_roundw
   ·exact⟨1,by omega,by go_num,ae df aK,ae aA aK⟩
   ·simp[intOf]
  by_cases h1:k=1
  ·subst h1
   go_wp2_with fail
   refine(Cy _ _ wr (HB.o.up up_int df) PB.o (by rw[HL.o];exact nA)).mono ?_;rintro e w1 ⟨rfl,aK⟩;clear tB
   go_wp2_with fail
   go_roundw
   ·exact⟨2,by omega,by go_num,ae df aK,ae aA aK⟩
   ·simp[intOf]
  obtain rfl:k=2:=by omega
  clear tB
  go_wp2_with fail
  go_ret
  exact⟨rfl,df⟩
theorem KI(v:Value) (keys:List Int) (w:World) (hv:aQ w v keys) (hl:keys.length<=256) :
  Calls Tryz.prog 176 #[v] w fun e w'=>∃ u,e=.returned u/\aQ w' u (ly keys)/\Below w.heap.size w w':=by
 obtain⟨pa,ca,rfl,la1,la2,ea⟩:=hv.at;have EA:=aa ea;clear hv ea;obtain⟨f,hf⟩:∃ f,f=fun i=>(ly keys).getD i 0:=⟨_,rfl⟩
 obtain⟨key,m3⟩:∃ key:Nat->Int,key=fun i=>keys.getD i 0:=⟨_,rfl⟩
 obtain⟨q,hq⟩:∃ q:Nat->Nat->Bool,q=fun k i=>decide (keys.getD k 0=keys.getD i 0):=⟨_,rfl⟩
 have HF:am ((∀ i,f i=(iD q keys.length).getD i 0)/\(List.range keys.length).map f=ly keys):=aa (by
  subst hf hq;refine⟨fun _=>rfl,?_⟩;refine List.ext_getElem (by simp[ly,pP]) fun i h1 h2=>?_
  simp[h2])
 have HQ:am (∀ k,firstIx k (fun j=>q j k)=firstIx k (fun j=>decide (key j=key k))):=aa (fun k=>by subst hq m3;rfl);have HK:am (∀ k (h:k<keys.length),key k=keys[k]):=aa (fun k h=>by subst m3;exact az 0 h);have HC:=aa (jZ q);clear hf hq m3;have gg:=jD f keys.length hl;have vL:=@He Tryz.prog
 go_enter Tryz.func176,Tryz.ntmps176
 go_wp2_with fail
 clear gg vL;refine bC (fun W=>Below w.heap.size w W/\dq W w.heap.size (dI key f 0) 0/\W.heap[w.heap.size+1]?=some (.cells (fC keys.length f 0) 3)) ⟨by go_grown,((dq.new w).up (Below.refl _ _ |>.alloc (Nat.le_refl _) _)).congr (fun _=>rfl) rfl,aZ _ _ _⟩ (fun W0 aX=>?_);obtain⟨aG,hM0,gM⟩:=aX
 go_loopw [15] (fun i wr=>∃ k:Nat,k<=keys.length/\i=.int .i64 k/\Below w.heap.size w wr/\dq wr w.heap.size (dI key f k) (br q k).2.toNat/\wr.heap[w.heap.size+1]?=some (.cells (fC keys.length f k) 3)) (fun i _=>keys.length - (intOf i).toNat)
 ·exact⟨0,by omega,rfl,aG,hM0,gM⟩
 ·
  clear aG hM0 gM;obtain⟨k,hk,rfl,aA,hM,hO⟩:=hrel;by_cases aC:k<keys.length
  ·obtain⟨b1,o1,rfl,h1⟩:=EA.o k aC;rw[Nat.mul_one]at h1;have c1:=ak aA h1.1;have oF:=HK.o k aC;clear h1;generalize keys[k]=x at c1 oF;have HX:=aa oF;have y9:=Ek (mt:=245) (kt:=3) (vt:=3) Tryz.underlying245 Tryz.underlying3 (fun w=>by kernel_rfl) hM x;have HM:=aa hM;have HO:=aa hO;have aV:=aa aA;have eT:=hM.lt;have J8:=aD hO;have hc:=(HC.o k).1;have jl:=(HC.o k).2.1;cases hs:dI key f k x with
   | none=>
    rw[hs]at y9;have A2:=Vq (mt:=245) (kt:=3) (vt:=3) Tryz.underlying245 3 hM;obtain⟨nn,fE⟩:∃ nn:Nat,(br q k).2.toNat=nn:=⟨_,rfl⟩;rw[fE]at A2
    have B1:am (∀ y,dI key f (k+1) y=if y=x then some (f k) else dI key f k y):=aa (by
     have:=yo (key:=key) (f:=f) (k:=k) (by rw[oF];exact hs)
     rwa [oF]at this)
    have hfi:firstIx k (fun j=>q j k)<0:=by
     rw[HQ.o,oF];unfold dI at hs;split at hs
     ·assumption
     ·cases hs
    obtain⟨n1,n2⟩:=H' (q:=q) aC hfi;have ss:am (f k=nn):=aa ((HF.o.1 k).trans (by omega));have si:am ((br q (k+1)).2.toNat=if (dI key f k x).isSome then(br q k).2.toNat else(br q k).2.toNat+1):=aa (by rw[hs,n2];simp;omega);obtain⟨o,ku,su⟩:=vm (mt:=245) (kt:=3) (vt:=3) Tryz.underlying245 Tryz.underlying3 HM.o x (nn:Int);have xL:=aa su;have eO:am ((wr.putObj w.heap.size o).heap[w.heap.size+1]?=some (.cells (fC keys.length f k) 3)):=aa ((World.putObj_heap_other (by omega)).trans HO.o);have tq:=ab eO.o k;rw[mg _ _ _ _ aC]at tq;have zq:=aH eO.o k;clear su hM hO aA hs hfi n1 n2 fE oF
    go_wp2_with fail
    go_roundw
    ·
     refine⟨k+1,by omega,by go_num,Below.setCell (eY (Nat.le_refl _) aV.o) (by dsimp only;omega) _,?_,?_⟩
     ·refine dq.congr (dq.kept xL.o (Below.heap_setCell _ _ _ _ (by dsimp only;omega))) (fun y=>?_) si.o.symm;rw[B1.o,ss.o]
     ·rw[aI eO.o,<-vh _ _ _ aC,ss.o]
    ·simp[intOf];omega
   | some z=>
    rw[hs]at y9;have zM:am (∀ y,dI key f (k+1) y=dI key f k y):=aa (yq (z:=z) (by rw[oF];exact hs));obtain⟨j,hj,e1,e2,e3⟩:=ru hs;obtain⟨n1,n2⟩:=Ia (q:=q) (j:=j) aC (by rw[HQ.o,oF];exact e1);have ss:am (f k=z):=aa (by rw[HF.o.1 k,n1,<-HF.o.1 j,e3]);have si:am ((br q (k+1)).2.toNat=(br q k).2.toNat):=aa (by rw[n2]);have tq:=ab HO.o k;rw[mg _ _ _ _ aC]at tq;have zq:=aH HO.o k;clear hM hO aA hs n1 n2 e1 e2 e3 oF
    go_wp2_with fail
    go_roundw
    ·
     refine⟨k+1,by omega,by go_num,aV.o.setCell (by dsimp only;omega) _,?_,?_⟩
     ·exact dq.congr (dq.kept HM.o (Below.heap_setCell _ _ _ _ (by dsimp only;omega))) (fun y=>(zM.o y).symm) si.o.symm
     ·rw[aI HO.o,<-vh _ _ _ aC,ss.o]
    ·simp[intOf];omega
  ·obtain rfl:k=keys.length:=by omega
   have HO:=aa hO;have aV:=aa aA;clear hM hO aA
   go_wp2_with fail
   go_ret
   refine⟨_,rfl,?_,aV.o⟩;have h1:=HO.o;rw[qz,HF.o.2]at h1;refine rM (by simp[ly,pP]) hl h1 fun i hi=>?_
   have:=l8 (pQ (fun k i=>decide (keys.getD k 0=keys.getD i 0)) keys.length) i hi;have nC:i<keys.length:=by simpa[ly,pP] using hi
   unfold bR ly;omega
theorem go(l:List Int) (j:Nat) (h:j<l.length):(bH l)[j]?=some (.int .i64 (l.getD j 0)):=by simp[bH,h]
theorem mh(l:List Int) (j:Nat) (x:Int):(bH l).setIfInBounds j (.int .i64 x)=bH (l.set j x):=by
 unfold bH;rw[List.map_set,List.setIfInBounds_toArray]
structure Only (B:Nat) (w w':World):Prop where
 os:w'.os=w.os
 tape:w'.tape=w.tape
 output:w'.output=w.output
 size:w'.heap.size=w.heap.size
 same:∀ k,k≠B->w'.heap[k]?=w.heap[k]?
theorem Only.refl(B:Nat) (w:World):Only B w w:=⟨rfl,rfl,rfl,rfl,fun _ _=>rfl⟩
theorem Only.trans{B:Nat} {a b c:World} (h:Only B a b) (k:Only B b c):Only B a c:=⟨k.os.trans h.os,k.tape.trans h.tape,k.output.trans h.output,k.size.trans h.size,fun i hi=>(k.same i hi).trans (h.same i hi)⟩
theorem Only.drew{B:Nat} {a b:World} (h:Only B a b):Only B a b.drew:=⟨h.os,h.tape,h.output,h.size,h.same⟩
theorem Only.setCell{B:Nat} {a b:World} (h:Only B a b) (o:Nat) (v:Value):Only B a (b.setCell ⟨B,o,none⟩ v):=
 ⟨h.os,h.tape,h.output,by simpa using h.size,fun k hk=>(Below.heap_setCell _ _ _ _ hk).trans (h.same k hk)⟩
theorem Only.below{B n:Nat} {w a b:World} (h:Only B a b) (hb:Below n w a) (hn:n<=B):Below n w b:=
 ⟨h.os.trans hb.os,h.tape.trans hb.tape,h.output.trans hb.output,by rw[h.size];exact hb.size,fun k hk=>(h.same k (by omega)).trans (hb.block k hk)⟩
theorem yM(n bx B:Nat) (P:List Int) (hP:Par n P) (i:Nat) (hi:i<n) (w:World) (bK:bx≠B) (h1:w.heap[bx]?=some (.cells #[.slice (some ⟨B,0,none⟩) n n] 38)) (h2:w.heap[B]?=some (.cells (bH P) 3)) :
  Calls Tryz.prog 175 #[.int .i64 i,.pointer (some ⟨bx,0,none⟩)] w fun e w'=>e=.returned (.int .i64 (rootN P i))/\Only B w w'/\∃ P',w'.heap[B]?=some (.cells (bH P') 3)/\Par n P'/\∀ j,j<n->rootN P' j=rootN P j:=by
 have H1:=aa h1;have H2:=aa h2;have HP:=aa hP;clear h1 h2 hP
 go_enter Tryz.func175,Tryz.ntmps175
 go_wp2_with fail
 go_loopw [0] (fun x wr=>∃ (j:Nat) (Q:List Int),x=.int .i64 j/\j<n/\Only B w wr/\wr.heap[B]?=some (.cells (bH Q) 3)/\Par n Q/\(∀ j,j<n->rootN Q j=rootN P j)/\rootN P j=rootN P i) (fun x _=>(intOf x).toNat)
 ·exact⟨i,P,rfl,hi,Only.refl _ _,H2.o,HP.o,fun _ _=>rfl,rfl⟩
 ·
  obtain⟨j,Q,rfl,hj,ho,hB,hQ,hr,pD⟩:=hrel;have lm:wr.heap[bx]?=_:=(ho.same bx bK).trans H1.o;have tx:=ab lm 0;simp at tx;obtain⟨a0,a1⟩:=hQ.le j hj;obtain⟨A,hA⟩:∃ A:Nat,Q.getD j 0=A:=⟨(Q.getD j 0).toNat,by omega⟩;have hl:=hQ.len;have t1:=ab hB j;rw[go _ _ (by omega),hA]at t1;have HO:=aa ho;have HB:=aa hB;have HQ:=aa hQ;have HR:=aa hr;have HJ:=aa pD;have HA:=aa hA;clear ho hQ hr pD lm;by_cases hd:A=j
  ·subst hd;clear hB;have jO:am (rootN P i=A):=aa (by rw[<-HJ.o,<-HR.o A hj];exact nQ HA.o)
   go_wp2_with fail
   go_ret
   exact⟨by rw[jO.o];rfl,HO.o,Q,HB.o,HQ.o,HR.o⟩
  ·have hd':((A:Int) != (j:Int))=true:=by simp;omega
   have hAn:A<n:=by omega
   obtain⟨b0,b1⟩:=HQ.o.le A hAn;obtain⟨C,hC⟩:∃ C:Nat,Q.getD A 0=C:=⟨(Q.getD A 0).toNat,by omega⟩;have hCA:C<=A:=by omega
   have hAj:A<j:=by have:=HA.o;omega
   have t2:=ab hB A;rw[go _ _ (by omega),hC]at t2;have zq:=aH hB j;have HC:=aa hC
   have lG:(wr.drew.setCell ⟨B,j,none⟩ (.int .i64 C)).heap[B]?=some (.cells (bH (Q.set j C)) 3):=by
    rw[aI (W:=wr.drew) hB,mh]
   have t3:=ab lG j;rw[go _ _ (by simp;omega),fI _ _ _ _ _ (by omega),if_pos rfl]at t3;have hbx2:(wr.drew.setCell ⟨B,j,none⟩ (.int .i64 C)).heap[bx]?=_:=((HO.o.drew.setCell j (.int .i64 C)).same bx bK).trans H1.o;have tx2:=ab hbx2 0;simp at tx2;have HS:=aa lG;clear lG hbx2 hC hA hB
   go_wp2_with fail
   go_still_tail 10,(by kernel_rfl)
   change wpList _ _ _ _ _ wr.drew
   go_wp2_with fail
   go_roundw
   ·
    have hh:=OA HQ.o j hj;rw[HA.o,Int.toNat_natCast,HC.o]at hh;refine⟨C,Q.set j C,rfl,by omega,HO.o.drew.setCell j _,HS.o,hh.1,fun x hx=>(hh.2 x hx).trans (HR.o x hx),?_⟩;have e1:=m8 HQ.o j hj;have e2:=m8 HQ.o A hAn;rw[HA.o,Int.toNat_natCast]at e1;rw[HC.o,Int.toNat_natCast]at e2;rw[<-HR.o C (by omega),e2,e1,HR.o j hj];exact HJ.o
   ·simp[intOf];omega
theorem Uni.same{a b:List Int} {n:Nat} {P Q:List Int} (h:Uni a b n P) (hq:Par n Q) (hr:∀ j,j<n->rootN Q j=rootN P j):Uni a b n Q:=⟨hq,fun i hi=>by rw[hr i hi];exact h.wr i hi⟩
theorem RY{a b l:List Int} {n m j p q:Nat} {P Q Q3:List Int} (hU:Uni a b n Q) (h3:Par n Q3) (hr:∀ i,i<n->rootN Q3 i=rootN Q i) (JV:jy n P Q) (hD:fJ l n m Q) (hm:m<n) (hj:j<m) (e:l.getD j 0=l.getD m 0) (hjq:dO a b m j=true) (hp:rootN Q m=p) (hq:rootN Q j=q) :
  Uni a b n (Q3.set (max p q) (min p q:Nat))/\jy n P (Q3.set (max p q) (min p q:Nat))/\fJ l n (m+1) (Q3.set (max p q) (min p q:Nat)):=by
 have hU3:=hU.same h3 hr;have hu:=hU3.union m j hm (by omega) hjq;have e1:rootN Q3 m=p:=(hr m hm).trans hp;have e2:rootN Q3 j=q:=(hr j (by omega)).trans hq;rw[e1,e2]at hu;have k1:jy n Q (Q3.set (max p q) (min p q:Nat)):=(Kx hr).trans (Ky hu.2);refine⟨hu.1,JV.trans k1,hD.join hm hj e k1 ?_⟩;rw[hu.2 m hm,hu.2 j (by omega),e1,e2];rcases Nat.le_total p q with h|h
 ·rw[Nat.max_eq_right h,Nat.min_eq_left h];split<;>simp
 ·rw[Nat.max_eq_left h,Nat.min_eq_right h];simp
theorem Pr{a b:List Int} {qa qb:Option Addr} {n ca cb j:Nat} {w:World} {P:List Int} (hj:j<2) (ha:aQ w (.slice qa n ca) a) (hb:aQ w (.slice qb n cb) b) (zs:a.length=n) (iP:b.length=n) (h1:1<=j->fJ a n n P) :
  ∃ (l:List Int) (ql:Option Addr) (cl:Nat),(#[Value.slice qa n ca,Value.slice qb n cb])[j]?=some (.slice ql n cl)/\aQ w (.slice ql n cl) l/\l.length=n/\(∀ i k,l.getD i 0=l.getD k 0->dO a b i k=true)/\∀ Q,fJ l n n Q->jy n P Q->(1<=j+1->fJ a n n Q)/\(2<=j+1->fJ b n n Q):=by
 by_cases e:j=0
 ·subst e;exact⟨a,qa,ca,rfl,ha,zs,fun i k h=>by unfold dO;rw[decide_eq_true h];rfl,fun Q h _=>⟨fun _=>h,fun h'=>by omega⟩⟩
 ·obtain rfl:j=1:=by omega
  exact⟨b,qb,cb,rfl,hb,iP,fun i k h=>by unfold dO;rw[decide_eq_true h,Bool.or_true],fun Q h k=>⟨fun _=>(h1 (by omega)).keep k,fun _=>h⟩⟩
theorem Ps(va vb:Value) (a b:List Int) (w:World) (ha:aQ w va a) (hb:aQ w vb b) (pa:l7 a) (pb:l7 b) (hl:b.length=a.length) (hn:a.length<=256) :
  Calls Tryz.prog 130 #[va,vb] w fun e w'=>∃ u,e=.returned (.tuple #[u,.int .i64 0])/\aQ w' u (k9 a b)/\Below w.heap.size w w':=by
 have HA:=aa ha;have HB:=aa hb;have PA:=aa pa;have PB:=aa pb;obtain⟨n,zs⟩:∃ n,a.length=n:=⟨_,rfl⟩;have iP:b.length=n:=hl.trans zs;obtain⟨qa,ca,rfl,_⟩:=ha.at;obtain⟨qb,cb,rfl,_⟩:=hb.at;have HC:=aa (Pq _ _ a b w HA.o HB.o PA.o PB.o hl (by omega));have Hg:n<=256:=by omega
 rw[zs]at HA HC ⊢;rw[iP]at HB HC ⊢;clear ha hb hl pa pb hn;have HNA:=aa zs;have A6:=aa iP;clear zs iP;obtain⟨f,hf⟩:∃ f:Nat->Int,f=fun i:Nat=>(i:Int):=⟨_,rfl⟩
 have Jm:am (∀ i,f i=(i:Int)):=aa fun i=>by rw[hf]
 clear hf;have gg:=jD f n Hg;have eg:=enters_of Tryz.func175 (by kernel_rfl) rfl
 go_enter Tryz.func130,Tryz.ntmps130
 go_wp2_with fail
 refine HC.o.mono ?_;rintro e w1 ⟨rfl,aK⟩
 go_wp2_with fail
 clear gg
 refine bC (fun W=>Below w.heap.size w W/\W.heap[w1.heap.size]?=some (.cells (fC n f 0) 3)/\W.heap[w1.heap.size+1]?=some (.cells #[.slice (some ⟨w1.heap.size,0,none⟩) n n] 38))
  ⟨ae aK (by go_grown),ar _ (ap _ _),aZ _ _ _⟩ (fun W0 aX=>?_)
 obtain⟨aG,gM,wl⟩:=aX;have hBw:=aK.size;generalize w1.heap.size=B at gM wl hBw;clear aK w1;have iR:=aa (And.intro aG (And.intro gM wl));have tx0:=ab wl 0;simp at tx0;clear aG gM wl
 go_wp2_with fail
 clear tx0
 go_loopw [32] (fun i wr=>∃ k:Nat,k<=n/\i=.int .i64 k/\Below w.heap.size w wr/\wr.heap[B]?=some (.cells (fC n f k) 3)/\wr.heap[B+1]?=some (.cells #[.slice (some ⟨B,0,none⟩) n n] 38)) (fun i _=>n - (intOf i).toNat)
 ·exact⟨0,by omega,rfl,iR.o.1,iR.o.2.1,iR.o.2.2⟩
 ·
  clear iR;obtain⟨k,hk,rfl,aA,hO,hX⟩:=hrel;have tx:=ab hX 0;simp at tx;have eT:=aD hX;by_cases aC:k<n
  ·have tq:=ab hO k;rw[mg _ _ _ _ aC]at tq;have zq:=aH hO k;have HO:=aa hO;have HX:=aa hX;have aV:=aa aA;clear hO hX aA
   go_wp2_with fail
   go_roundw
   ·exact⟨k+1,by omega,by go_num,aV.o.setCell (by dsimp only;omega) _,by rw[aI HO.o,<-Jm.o k,vh _ _ _ aC],aM HX.o (by omega) _ _⟩
   ·simp[intOf];omega
  obtain rfl:k=n:=by omega
  clear tx;have q8:=hO;rw[qz]at q8;have hU:=Uni.start a b k
  have HU:am (Uni a b k ((List.range k).map f)):=aa (by
   have e:(List.range k).map f=(List.range k).map fun i:Nat=>(i:Int):=List.map_congr_left fun i _=>Jm.o i
   rw[e];exact hU)
  have HO:=aa q8;have HX:=aa hX;have aV:=aa aA;clear hO q8 hX aA hU;have mY:=aV.o.size
  go_wp2_with fail
  refine bC (fun W=>Below w.heap.size w W/\W.heap[wr.heap.size]?=some (.cells #[.slice qa k ca,.slice qb k cb] 38)/\W.heap[B+1]?=some (.cells #[.slice (some ⟨B,0,none⟩) k k] 38)/\W.heap[B]?=some (.cells (bH ((List.range k).map f)) 3)) ⟨aV.o.alloc mY _,ap _ _,ar _ HX.o,ar _ HO.o⟩ (fun W1 cM=>?_);have hLB:=eT;generalize wr.heap.size=L at cM mY hLB;have gN:=aa cM;clear cM HO HX aV eT wr W0
  go_loopw [45] (fun i wr=>∃ (j:Nat) (P:List Int),j<=2/\i=.int .i64 j/\Below w.heap.size w wr/\wr.heap[L]?=some (.cells #[.slice qa k ca,.slice qb k cb] 38)/\wr.heap[B+1]?=some (.cells #[.slice (some ⟨B,0,none⟩) k k] 38)/\wr.heap[B]?=some (.cells (bH P) 3)/\Uni a b k P/\(1<=j->fJ a k k P)/\(2<=j->fJ b k k P)) (fun i _=>2 - (intOf i).toNat)
  ·exact⟨0,_,by omega,rfl,gN.o.1,gN.o.2.1,gN.o.2.2.1,gN.o.2.2.2,HU.o,fun h=>by omega,fun h=>by omega⟩
  ·
   clear gN HU;obtain⟨j,P,hj,rfl,aA,hL,hX,hO,hU,Ux,Gs⟩:=hrel;by_cases aC:j<2
   ·obtain⟨l,ql,cl,ux,y',GB,hp4,zu⟩:=Pr aC HA.o HB.o HNA.o A6.o Ux;have tL:=ab hL j;rw[ux]at tL;have vL:=@He Tryz.prog;have HP2:=aa y';have WY:=aa GB;have HP4:=aa hp4;have HP5:=aa zu;have HL:=aa hL;have HX:=aa hX;have HO:=aa hO;have HU:=aa hU;have aV:=aa aA;have NS:=aD hL;have E0:=aA.size;clear ux y' GB hp4 zu hL hX hO hU aA Ux Gs
    go_wp2_with fail
    clear vL tL;obtain⟨key,m3⟩:∃ key:Nat->Int,key=fun i=>l.getD i 0:=⟨_,rfl⟩
    have HK:am (∀ i,key i=l.getD i 0):=aa fun i=>by rw[m3]
    clear m3;refine bC (fun W=>Below w.heap.size w W/\W.heap[L]?=some (.cells #[.slice qa k ca,.slice qb k cb] 38)/\W.heap[B+1]?=some (.cells #[.slice (some ⟨B,0,none⟩) k k] 38)/\W.heap[B]?=some (.cells (bH P) 3)/\dq W wr.heap.size (dI key f 0) 0) ⟨aV.o.alloc E0 _,ar _ HL.o,ar _ HX.o,ar _ HO.o,dq.new wr⟩ (fun W2 eI=>?_);have hML:=NS;generalize wr.heap.size=M at eI hML E0;have cP:=aa eI;clear eI HL HX HO aV NS wr;have hd:decide ((j:Int)<2)=true:=decide_eq_true (by omega);simp only[hd];clear hd
    go_loopw [52] (fun i wr=>∃ (m:Nat) (Q:List Int),m<=k/\i=.int .i64 m/\Below w.heap.size w wr/\wr.heap[L]?=some (.cells #[.slice qa k ca,.slice qb k cb] 38)/\wr.heap[B+1]?=some (.cells #[.slice (some ⟨B,0,none⟩) k k] 38)/\wr.heap[B]?=some (.cells (bH Q) 3)/\Uni a b k Q/\jy k P Q/\fJ l k m Q/\∃ c,dq wr M (dI key f m) c) (fun i _=>k - (intOf i).toNat)
    ·exact⟨0,P,by omega,rfl,cP.o.1,cP.o.2.1,cP.o.2.2.1,cP.o.2.2.2.1,HU.o,jy.refl _ _,fun i _ _ _ h=>by omega,0,cP.o.2.2.2.2⟩
    ·
     clear cP;obtain⟨m,Q,hm,rfl,aA,hL,hX,hO,Us,JV,QD,c,hM⟩:=hrel;have HL:=aa hL;have HX:=aa hX;have HO:=aa hO;have XH:=aa Us;have aV:=aa aA;have QN:=aa JV;have HDQ:=aa QD;have hszM:=hM.lt;have hszr2:=aA.size;by_cases gg:m<k
     ·have ml:m<l.length:=by have:=WY.o;omega
      obtain⟨ql',cl',e',_,_,ep⟩:=HP2.o.at;injection e' with e1 e2 e3
      subst e1;clear e2 e3;obtain⟨b1,o1,rfl,h1⟩:=ep m ml;rw[Nat.mul_one]at h1;have c1:=ak aA h1.1;have oF:key m=l[m]:=(HK.o m).trans (az 0 ml);clear h1 ep;generalize l[m]=x at c1 oF;clear ml;have y9:=Ek (mt:=245) (kt:=3) (vt:=3) Tryz.underlying245 Tryz.underlying3 (fun w=>by kernel_rfl) hM x;have nF:=aa oF;have HM:=aa hM;cases hs:dI key f m x with
      | none=>
       rw[hs]at y9;obtain⟨o,ku,su⟩:=vm (mt:=245) (kt:=3) (vt:=3) Tryz.underlying245 Tryz.underlying3 hM x (m:Int);have xL:=aa su
       have B1:am (∀ y,dI key f (m+1) y=if y=x then some (m:Int) else dI key f m y):=aa (by
        have:=yo (key:=key) (f:=f) (k:=m) (by rw[oF];exact hs);rw[oF,Jm.o m]at this
        exact this)
       have wc:am (∀ k,k<m->l.getD k 0≠l.getD m 0):=aa (fun k hk=>by
        have:=Cf.1 hs k hk;rw[HK.o k]at this
        rw[<-HK.o m,oF];exact this)
       clear su hM hL hX hO Us JV QD hs oF aA
       go_wp2_with fail
       go_roundw
       ·exact⟨m+1,Q,by omega,by go_num,eY (by omega) aV.o,(World.putObj_heap_other (by omega)).trans HL.o,(World.putObj_heap_other (by omega)).trans HX.o,(World.putObj_heap_other (by omega)).trans HO.o,XH.o,QN.o,HDQ.o.fresh wc.o,_,xL.o.congr (fun y=>(B1.o y).symm) rfl⟩
       ·simp[intOf];omega
      | some z=>
       rw[hs]at y9;have zM:am (∀ y,dI key f (m+1) y=dI key f m y):=aa (yq (z:=z) (by rw[oF];exact hs));obtain⟨i,hi,_,e2,e3⟩:=ru hs;rw[Jm.o i]at e3;subst e3;have HE:am (l.getD i 0=l.getD m 0):=aa (by rw[<-HK.o i,<-HK.o m,e2,oF]);have kQ:i<k:=by omega
       clear hM hL hX hO Us JV QD hs oF aA e2
       go_wp2_with fail
       refine(yM k (B+1) B Q XH.o.par m gg wr (by omega) HX.o HO.o).mono ?_;rintro e w2 ⟨rfl,sk,Q2,q8,Dh,LW⟩;have eO:=aa sk;have jL:=aa q8;have NA:=aa Dh;have eh:=aa LW;clear sk q8 Dh LW;obtain⟨p,hp⟩:∃ p,rootN Q m=p:=⟨_,rfl⟩;rw[hp];have tE:p<k:=by rw[<-hp];exact rK gg
       have HP:=aa hp;clear hp y9
       go_wp2_with fail
       refine(yM k (B+1) B Q2 NA.o i kQ w2 (by omega) ((eO.o.same _ (by omega)).trans HX.o) jL.o).mono ?_;rintro e w3 ⟨rfl,ho3,Q3,tU,NM,LD⟩;obtain⟨q,hq⟩:∃ q,rootN Q2 i=q:=⟨_,rfl⟩;rw[hq];have Bc:q<k:=by rw[<-hq];exact rK kQ
       have ho:=eO.o.trans ho3;have dJ:=fun e=>RY (l:=l) (m:=m) (j:=i) XH.o NM (fun x hx=>(LD x hx).trans (eh.o x hx)) QN.o HDQ.o gg hi e (HP4.o m i HE.o.symm) HP.o ((eh.o i kQ).symm.trans hq)
       have dr:=aa (dJ HE.o);have vT:=aa (And.intro ((ho.same _ (by omega)).trans HL.o) (And.intro ((ho.same _ (by omega)).trans HX.o) (HM.o.kept (ho.same M (by omega)))));have dE:=aa (ho.below aV.o (by omega));have zj:=aa tU;have tJ:=NM.len;have tx:=ab vT.o.2.1 0;simp at tx;have WV:=aa tJ;clear ho3 tU NM LD hq ho dJ tJ
       have NE:∀ nC lo:Nat,nC=max p q->lo=min p q->∃ (m':Nat) (Q':List Int),m'<=k/\Value.int .i64 ((m:Int)+1)=.int .i64 m'/\Below w.heap.size w (w3.setCell ⟨B,nC,none⟩ (.int .i64 lo))/\(w3.setCell ⟨B,nC,none⟩ (.int .i64 lo)).heap[L]?=some (.cells #[.slice qa k ca,.slice qb k cb] 38)/\(w3.setCell ⟨B,nC,none⟩ (.int .i64 lo)).heap[B+1]?=some (.cells #[.slice (some ⟨B,0,none⟩) k k] 38)/\(w3.setCell ⟨B,nC,none⟩ (.int .i64 lo)).heap[B]?=some (.cells (bH Q') 3)/\Uni a b k Q'/\jy k P Q'/\fJ l k m' Q'/\∃ c,dq (w3.setCell ⟨B,nC,none⟩ (.int .i64 lo)) M (dI key f m') c:=by
        rintro nC lo rfl rfl;exact⟨m+1,_,by omega,by go_num,dE.o.setCell (by dsimp only;omega) _,aM vT.o.1 (by omega) _ _,aM vT.o.2.1 (by omega) _ _,by rw[aI zj.o,mh],dr.o.1,dr.o.2.1,dr.o.2.2,c,(vT.o.2.2.kept (Below.heap_setCell _ _ _ _ (by dsimp only;omega))).congr (fun y=>(zM.o y).symm) rfl⟩
       have jO:=aa NE;clear NE;rcases Nat.lt_trichotomy p q with LY|LY|LY
       ·have tq:=ab zj.o q;rw[go _ _ (by have:=WV.o;omega)]at tq;have zq:=aH zj.o q;have hpq':¬ (q:Int)<p:=by omega
        have Rc:max (p:Int) (q:Int)=(q:Int):=Int.max_eq_right (by omega);have v8:min (p:Int) (q:Int)=(p:Int):=Int.min_eq_left (by omega)
        go_wp2_with fail
        go_roundw
        ·exact jO.o q p (by omega) (by omega)
        ·simp[intOf];omega
       ·subst LY;have tq:=ab zj.o p;rw[go _ _ (by have:=WV.o;omega)]at tq;have zq:=aH zj.o p
        go_wp2_with fail
        go_roundw
        ·exact jO.o p p (by omega) (by omega)
        ·simp[intOf];omega
       ·have tq:=ab zj.o p;rw[go _ _ (by have:=WV.o;omega)]at tq;have zq:=aH zj.o p;have hpq':¬ (p:Int)<q:=by omega
        have Rc:max (p:Int) (q:Int)=(p:Int):=Int.max_eq_left (by omega);have v8:min (p:Int) (q:Int)=(q:Int):=Int.min_eq_right (by omega)
        go_wp2_with fail
        go_roundw
        ·exact jO.o p q (by omega) (by omega)
        ·simp[intOf];omega
     ·obtain rfl:m=k:=by omega
      clear hM
      go_wp2_with fail
      go_roundw
      ·exact⟨j+1,Q,by omega,by go_num,aA,hL,hX,hO,Us,(HP5.o Q QD JV).1,(HP5.o Q QD JV).2⟩
      ·simp[intOf];omega
   ·obtain rfl:j=2:=by omega
    have HX:=aa hX;have HO:=aa hO;have HU:=aa hU;have aV:=aa aA;have zn:=aa (Ux (by omega));have XD:=aa (Gs (by omega));have NS:=aD hL;have E0:=aA.size;clear hL hX hO hU aA Ux Gs;obtain⟨f2,Gi⟩:∃ f2:Nat->Int,f2=fun i:Nat=>(rootN P i:Int):=⟨_,rfl⟩
    have sg:am (∀ i,f2 i=(rootN P i:Int)):=aa fun i=>by rw[Gi]
    have HJ:am (ly ((List.range k).map f2)=k9 a b):=aa (by rw[Gi];exact Ru HNA.o HU.o zn.o XD.o);clear Gi;have gg:=jD f2 k Hg
    go_wp2_with fail
    clear gg;refine bC (fun W=>Below w.heap.size w W/\W.heap[B+1]?=some (.cells #[.slice (some ⟨B,0,none⟩) k k] 38)/\W.heap[B]?=some (.cells (bH P) 3)/\W.heap[wr.heap.size]?=some (.cells (fC k f2 0) 3)) ⟨aV.o.alloc E0 _,ar _ HX.o,ar _ HO.o,ap _ _⟩ (fun W2 eI=>?_);generalize wr.heap.size=R at eI NS E0;have cP:=aa eI;clear eI HX HO aV wr
    go_loopw [88] (fun i wr=>∃ (m:Nat) (Q:List Int),m<=k/\i=.int .i64 m/\Below w.heap.size w wr/\wr.heap[B+1]?=some (.cells #[.slice (some ⟨B,0,none⟩) k k] 38)/\wr.heap[B]?=some (.cells (bH Q) 3)/\Par k Q/\(∀ i,i<k->rootN Q i=rootN P i)/\wr.heap[R]?=some (.cells (fC k f2 m) 3)) (fun i _=>k - (intOf i).toNat)
    ·exact⟨0,P,by omega,rfl,cP.o.1,cP.o.2.1,cP.o.2.2.1,HU.o.par,fun _ _=>rfl,cP.o.2.2.2⟩
    ·
     clear cP;obtain⟨m,Q,hm,rfl,aA,hX,hO,hQ,hr,hR⟩:=hrel;by_cases gg:m<k
     ·have HR:=aa hR;have HX:=aa hX;have HO:=aa hO;have aV:=aa aA;have xQ:=aa hr;have HRT:am (rootN Q m=rootN P m):=aa (hr m gg);have hc:=yM k (B+1) B Q hQ m gg wr (by omega) hX hO;rw[HRT.o]at hc;have HC:=aa hc;have HV:=aa (sg.o m);clear hR hX hO aA hr hQ hc;generalize rootN P m=p at HC HV HRT
      go_wp2_with fail
      refine HC.o.mono ?_;rintro e w2 ⟨rfl,sk,Q2,q8,Dh,LW⟩;have cf:=aa (sk.below aV.o (by omega));have fN:=aa ((sk.same _ (by omega)).trans HX.o);have mn:=(sk.same R (by omega)).trans HR.o;have eh:=aa mn;have tq:=ab mn m;rw[mg _ _ _ _ gg]at tq;have zq:=aH mn m;have eO:=aa q8;have NA:=aa Dh;have ph:=aa LW;clear sk q8 Dh LW mn
      go_wp2_with fail
      go_roundw
      ·(repeat apply Exists.intro);refine⟨?_,rfl⟩;exact⟨m+1,Q2,by omega,by go_num,cf.o.setCell (by dsimp only;omega) _,aM fN.o (by omega) _ _,aM eO.o (by omega) _ _,NA.o,fun i hi=>(ph.o i hi).trans (xQ.o i hi),by rw[aI eh.o,<-vh _ _ _ gg,HV.o]⟩
      ·simp[intOf];omega
     ·obtain rfl:m=k:=by omega
      rw[qz]at hR
      have HRI:am (aQ wr (.slice (some ⟨R,0,none⟩) m m) ((List.range m).map f2)):=aa (rM (by simp) Hg hR fun i hi=>by
       rw[show ((List.range m).map f2).getD i 0=f2 i by simp at hi;simp[hi],sg.o];have:=Hz P i;simp at hi
       exact⟨by omega,by omega⟩)
      have aV:=aa aA;clear hR hX hO hQ hr aA
      go_wp2_with fail
      refine(KI _ _ wr HRI.o (by simpa using Hg)).mono ?_;rintro e w2 ⟨u,rfl,hu,aT⟩;rw[HJ.o]at hu;have LM:=aa hu;obtain⟨_,_,rfl,_⟩:=hu.at;clear hu
      go_wp2_with fail
      go_ret2
      exact⟨_,rfl,LM.o,ae aV.o aT⟩
end Go.Proofs.YtmeaoneaephjeaaGreatDoor
namespace Go.Proofs.YtmeaoneaephjeaaGreatDoor
open Go.RowKit Go Go.Shelf
abbrev AG(p:Pb) (vc vs:Value):Array Value:=#[.int .i64 p.t.n,.int .i64 p.t.ins,.int .i64 p.t.outs,vc,.int .i64 p.a.n,vs,.int .i64 p.rounds]
theorem gP{p:Pb} (h:probE p=0):taskE p.t=0/\advE p.a=0/\p.t.n=p.a.n/\0<=p.rounds/\p.rounds<=6:=by
 unfold probE at h;split at h
 ·rename_i h1;exact absurd h h1
 rename_i h1;split at h
 ·rename_i h2;exact absurd h h2
 rename_i h2;split at h
 ·omega
 split at h
 ·omega
 exact⟨by simpa using h1,by simpa using h2,by omega,by omega,by omega⟩
theorem up_words:Up (mK 7 pH):=zU up_round
def ID(w:World) (b o:Nat) (x:Vw):Prop:=
 gj w b o x.p/\gj w b (o+1) x.k/\gj w b (o+2) x.i/\gj w b (o+3) x.h0/\gj w b (o+4) x.h1/\gj w b (o+5) x.h2/\gj w b (o+6) x.h3/\gj w b (o+7) x.h4
theorem up_view:Up ID:=fun _ _ _ _ _ hb ⟨h0,h1,h2,h3,h4,h5,h6,h7⟩=>
 ⟨up_int _ _ _ _ _ hb h0,up_int _ _ _ _ _ hb h1,up_int _ _ _ _ _ hb h2,up_int _ _ _ _ _ hb h3,up_int _ _ _ _ _ hb h4,up_int _ _ _ _ _ hb h5,up_int _ _ _ _ _ hb h6,up_int _ _ _ _ _ hb h7⟩
abbrev kW:=fj 8 ID
abbrev Vw.c(v:Vw):Array Value:=#[.int .i64 v.p,.int .i64 v.k,.int .i64 v.i,.int .i64 v.h0,.int .i64 v.h1,.int .i64 v.h2,.int .i64 v.h3,.int .i64 v.h4]
abbrev Vw.v(v:Vw):Value:=.agg v.c
def fe(xs:List Vw):List Value:=xs.flatMap fun x=>x.c.toList
theorem FC(a b:List Vw):fe (a++b)=fe a++fe b:=by simp[fe]
theorem FD(xs:List Vw):∀ u∈fe xs,u.oneCell'=true:=by
 intro u hu;obtain⟨x,_,hx⟩:=List.mem_flatMap.1 hu;simp at hx;rcases hx with h|h|h|h|h|h|h|h<;>subst h<;>rfl
def Wt(w:World) (b o:Nat) (x:Ex):Prop:=gj w b o x.c/\mK 7 pH w b (o+1) x.word/\uT w b (o+2) x.views
theorem up_ex:Up Wt:=fun _ _ _ _ _ hb h=>⟨up_int _ _ _ _ _ hb h.1,up_words _ _ _ _ _ hb h.2.1,up_vecs _ _ _ _ _ hb h.2.2⟩
abbrev Aa:=fj 3 Wt
abbrev bL(p:Pb) (vc vs:Value) (n:Int) (vt ve:Value):Array Value:=AG p vc vs++#[.int .i64 n,vt,ve]
abbrev zeroPb:Pb:=⟨⟨0,0,0,[]⟩,⟨0,[]⟩,0⟩
abbrev zeroSys:Array Value:=bL zeroPb (.slice none 0 0) (.slice none 0 0) 0 (.slice none 0 0) (.slice none 0 0)
structure IsSys (w:World) (s:Sys) (vc vs vt ve:Value):Prop where
 cases:bM w vc s.prob.t.cases
 states:bu w vs s.prob.a.states
 tab:kW w vt s.tab
 ex:Aa w ve s.ex
theorem IsSys.up{w w':World} {s:Sys} {vc vs vt ve:Value} (h:IsSys w s vc vs vt ve) (hb:Below w.heap.size w w'):IsSys w' s vc vs vt ve:=⟨h.cases.up up_case hb,h.states.up up_moves hb,h.tab.up up_view hb,h.ex.up up_ex hb⟩
abbrev vA(w:World) (base:Nat) (v:Value) (l:List (List Rd)):Prop:=cj 87 141 7 da w base v l
abbrev cQ(w:World) (base:Nat) (v:Value) (l:List (List Int)):Prop:=cj 38 3 1 (fun l=>l.map (Value.int .i64)) w base v l
def Pt(w:World) (b o:Nat) (x:Lk):Prop:=gj w b o x.x/\gj w b (o+1) x.p
theorem up_link:Up Pt:=fun _ _ _ _ _ hb h=>⟨up_int _ _ _ _ _ hb h.1,up_int _ _ _ _ _ hb h.2⟩
abbrev bN:=fj 2 Pt
abbrev Lk.c(y:Lk):Array Value:=#[.int .i64 y.x,.int .i64 y.p]
abbrev Lk.v(y:Lk):Value:=.agg y.c
def cT(l:List Lk):List Value:=l.flatMap fun y=>y.c.toList
theorem lQ(xs:List Lk):(cT xs).length=xs.length * 2:=by
 induction xs with
 | nil=>rfl
 | cons a r ih=>
  have:cT (a :: r)=a.c.toList++cT r:=rfl;rw[this,List.length_append,ih];simp;omega
theorem nY(a b:List Lk):cT (a++b)=cT a++cT b:=by simp[cT]
theorem Cz(xs:List Lk):∀ u∈cT xs,u.oneCell'=true:=by
 intro u hu;obtain⟨x,_,hx⟩:=List.mem_flatMap.1 hu;simp at hx;rcases hx with h|h<;>subst h<;>rfl
def fD(s:Sys) (e:Nat):List Int:=(List.range (nS s)).map fun p=>if hasB (fltS s e) p then -1 else finS s e p
def rP(s:Sys):List (List Int):=(List.range (eS s)).map (fD s)
def Eo(s:Sys):List Int:=(List.range (eS s)).map fun e=>((il s e:Nat):Int)
structure FinAt (w:World) (B:Nat) (s:Sys):Prop where
 ex:∃ vl,w.heap[B]?=some (.cells #[.int .i64 (nS s),vl] 201)/\dL w vl (rP s)
theorem FinAt.up{w w':World} {B:Nat} {s:Sys} (h:FinAt w B s) (hb:Below w.heap.size w w'):FinAt w' B s:=by
 obtain⟨vl,h1,h2⟩:=h.ex;exact⟨vl,af hb h1,h2.up up_ints hb⟩
structure ScAt (w:World) (B:Nat) (s:Sys):Prop where
 ex:∃ vc vs vt ve vv vl,w.heap[B]?=some (.cells (bL s.prob vc vs s.n vt ve++#[vv,vl]) 98)/\IsSys w s vc vs vt ve/\aQ w vv (Eo s)/\aQ w vl (partsS s)
theorem ScAt.up{w w':World} {B:Nat} {s:Sys} (h:ScAt w B s) (hb:Below w.heap.size w w'):ScAt w' B s:=by
 obtain⟨vc,vs,vt,ve,vv,vl,h1,h2,h3,h4⟩:=h.ex;exact⟨vc,vs,vt,ve,vv,vl,af hb h1,h2.up hb,h3.up up_int hb,h4.up up_int hb⟩
theorem gp{w:World} {base:Nat} {v:Value} {l:List Int} (h:aJ w base 3 1 v l.length (l.map (Value.int .i64))) (hr:∀ x∈l,bR x) (hn:l.length<=17592186044416):aQ w v l:=by
 have aU:=fun i (hi:i<l.length)=>h.cell i (.int .i64 l[i]) (by simp[hi])
 rcases h.2 with ⟨rfl,hz⟩|⟨g,cap,cur,fz,rfl,_,hg,_,kR,jl,_,_⟩
 ·refine⟨none,0,by rw[hz],⟨by omega,by omega,fun _=>rfl⟩,hn,fun i x hi=>?_⟩;have:=(List.getElem?_eq_some_iff.1 hi).1;omega
 ·refine⟨some ⟨g,0,none⟩,cap,rfl,⟨kR,by simp only[maxLen]at jl;omega,fun e=>by cases e⟩,hn,fun i x hi=>⟨g,0,rfl,?_⟩⟩;obtain⟨gL,rfl⟩:=List.getElem?_eq_some_iff.1 hi;obtain⟨g',c',e1,e2⟩:=aU i gL;have:g=g':=by simp at e1;exact e1.1
  subst this;exact⟨by rw[Nat.mul_one,Nat.zero_add];exact e2,hr _ (List.getElem_mem gL)⟩
theorem aJ.keep{w w':World} {base sz:Nat} {e:TypeId} {v:Value} {n:Nat} {xs:List Value} (h:aJ w base e sz v n xs) (hk:∀ (g:Nat) (o:Obj),v.ownBlock=some g->w.heap[g]?=some o->w'.heap[g]?=some o):aJ w' base e sz v n xs:=by
 obtain⟨hl,h⟩:=h;refine⟨hl,?_⟩;rcases h with h|⟨g,cap,cur,fz,rfl,h2,h3,h4⟩
 ·exact .inl h
 ·exact .inr ⟨g,cap,cur,fz,rfl,h2,hk g _ rfl h3,h4⟩
theorem vB(p:Pb) (vc vs:Value) (w:World) (hc:bM w vc p.t.cases) (hs:bu w vs p.a.states) (hN:movesN p.a.states<2305843009213693952) :
  Calls Tryz.prog 71 #[nX p vc vs] w fun e w'=>e=.returned (.int .i64 (probE p))/\Below w.heap.size w w':=by
 have GC:=aa hc;have GS:=aa hs;obtain⟨pc,cc,rfl,_⟩:=hc.at;obtain⟨ps,cs,rfl,_⟩:=hs.at;clear hc hs;have HV:am (probE p=if taskE p.t≠0 then taskE p.t else if advE p.a≠0 then advE p.a else if p.t.n≠p.a.n then 22 else if p.rounds<0\/6<p.rounds then 2 else 0):=by exact rfl
 go_enter Tryz.func71,Tryz.ntmps71
 go_wp2_with fail
 refine aO (fun W=>Below w.heap.size w W/\W.heap[w.heap.size]?=some (.cells (AG p (.slice pc p.t.cases.length cc) (.slice ps p.a.states.length cs)) 29)) ⟨by go_grown,ap _ _⟩ (fun W0 aX=>?_);obtain⟨aG,bB⟩:=aX;refine(Eh p.t _ W0 (GC.o.up up_case aG)).mono ?_;rintro e w1 ⟨rfl,aK⟩;have gw:=ae aG aK;have eW:=af aK bB;have t1:=ab eW;generalize taskE p.t=et at HV;have du:=aa eW;clear eW bB;by_cases oQ:et=0
 case neg=>
  have Od:(et != 0)=true:=by simpa using oQ
  go_wp2_with fail
  go_ret
  exact⟨aE (by rw[HV.o,if_pos oQ]),gw⟩
 subst oQ
 go_wp2_with fail
 refine(GU p.a _ w1 (GS.o.up up_moves gw) hN).mono ?_;rintro e w2 ⟨rfl,aT⟩;have kI:=ae gw aT;have t2:=ab (af aT du.o);clear t1;generalize advE p.a=ea at HV;by_cases xU:ea=0
 case neg=>
  have hea':(ea != 0)=true:=by simpa using xU
  go_wp2_with fail
  go_ret
  exact⟨aE (by rw[HV.o,if_neg (by simp),if_pos xU]),kI⟩
 subst xU
 go_wp2_with fail
 all_goals
  go_ret
  refine⟨aE ?_,kI⟩;rw[HV.o]
  go_light
  grind
theorem KJ{p:Pb} (h:probE p=0):∃ n:Nat,p.rounds=n/\n<=6:=⟨p.rounds.toNat,by have:=gP h;omega,by have:=gP h;omega⟩
def numberP(p:Pb):Int:=p.t.cases.length * numberS p.a p.rounds.toNat
theorem MM(a:Adv) (n:Nat):0<=numberS a n/\numberS a n<=4097:=Ei (Iu a n) 0
theorem sZ(p:Pb) (vc vs:Value) (w:World) (hc:bM w vc p.t.cases) (hs:bu w vs p.a.states) (hp:probE p=0) :
  Calls Tryz.prog 72 #[nX p vc vs,.int .i64 4096] w fun e w'=>e=.returned (.int .i64 (numberP p))/\Below w.heap.size w w':=by
 obtain⟨ht,ha,zs,_,_⟩:=gP hp;clear zs;obtain⟨h1,h2,_⟩:=ip ha;have bW:=(fy ht).2.2.2.1;obtain⟨n,hn,hn6⟩:=KJ hp;have HV:am (numberP p=p.t.cases.length * numberS p.a n):=by(have h:numberP p=p.t.cases.length * numberS p.a n:=by(unfold numberP;rw[hn,Int.toNat_natCast]));exact h
 have bV:=aa (fun W (hb:Below w.heap.size w W)=>Ej p.a vs n hn6 W (hs.up up_moves hb) h2 h1);have fY:=MM p.a n;generalize numberS p.a n=nn at bV HV fY;obtain⟨pc,cc,rfl,_⟩:=hc;obtain⟨ps,cs,rfl,_⟩:=hs
 have HM:am (IntKind.i64.wrap ((p.t.cases.length:Int) * nn)=p.t.cases.length * nn):=by
  have h:IntKind.i64.wrap ((p.t.cases.length:Int) * nn)=p.t.cases.length * nn:=by
   have h1:(0:Int)<=(p.t.cases.length:Int) * nn:=Int.mul_nonneg (by omega) (by omega);have h2:(p.t.cases.length:Int) * nn<=1024 * 4097:=Int.mul_le_mul (by omega) (by omega) (by omega) (by omega);exact IntWalk.i64_in _ (by omega)
  exact h
 rw[<-hn]at bV;clear ht ha h1 h2 hp fY hn
 go_enter Tryz.func72,Tryz.ntmps72
 go_wp2_with fail
 refine bC (fun V=>Below w.heap.size w V/\V.heap[w.heap.size]?=some (.cells (AG p (.slice pc p.t.cases.length cc) (.slice ps p.a.states.length cs)) 29)) ⟨by go_grown,ap _ _⟩ (fun V hV=>?_);obtain⟨aG,bB⟩:=hV;have oC:=aa (fun x:ExtW V=>Calls.ext_of (bV.o x.val (ae aG x.ext)));have r1:∀ x:ExtW V,∀ o,x.val.cell? ⟨w.heap.size,o,none⟩=_:=fun x=>ab (af x.ext bB)
 have hM:=HM.o;clear bB;refine aB (by kernel_rfl) (by kernel_rfl) ?_
 repeat (go_big_quiet_step ((go_at_call 116;exact oC.o _)))
 refine wpQuiet_nil ?_;intro _ eJ;obtain⟨xq,dj⟩:=eJ;subst dj;clear r1 bV hM
 go_wp2_with fail
 go_ret
 exact⟨aE (by rw[HV.o]),ae aG xq.ext⟩
def fewPB(p:Pb):Bool:=
 if fewTB p.t=false then false else if sS p.a=false then false else if 3<p.t.n/\p.t.n<=5 then false
 else if probE p≠0 then true else decide (numberP p<=60) || decide (4096<numberP p)
theorem IE(p:Pb) (vc vs:Value) (w:World) (hc:bM w vc p.t.cases) (hs:bu w vs p.a.states) :
  Calls Tryz.prog 34 #[nX p vc vs] w fun e w'=>e=.returned (.bool (fewPB p))/\Below w.heap.size w w':=by
 have GC:=aa hc;have GS:=aa hs;obtain⟨pc,cc,rfl,_⟩:=hc;obtain⟨ps,cs,rfl,_⟩:=hs;have HV:am (fewPB p=if fewTB p.t=false then false else if sS p.a=false then false else if 3<p.t.n/\p.t.n<=5 then false else if probE p≠0 then true else decide (numberP p<=60) || decide (4096<numberP p)):=by exact rfl
 have HF:am (sS p.a=(decide (p.a.states.length<=8)&&decide (movesN p.a.states<=40))):=by exact rfl
 go_enter Tryz.func34,Tryz.ntmps34
 go_wp2_with fail
 refine aO (fun W=>Below w.heap.size w W/\W.heap[w.heap.size]?=some (.cells (AG p (.slice pc p.t.cases.length cc) (.slice ps p.a.states.length cs)) 29)) ⟨by go_grown,ap _ _⟩ (fun W0 aX=>?_);obtain⟨aG,bB⟩:=aX;refine(Is p.t _ W0 (GC.o.up up_case aG)).mono ?_;rintro e w1 ⟨rfl,aK⟩;have gw:=ae aG aK;have du:=aa (af aK bB);have t1:=ab du.o;clear bB;generalize fewTB p.t=ft at HV;cases ft with
 | false=>
  go_wp2_with fail
  go_ret
  exact⟨aR (by rw[HV.o];rfl),gw⟩
 | true=>
 go_wp2_with fail
 refine(KE p.a _ w1 (GS.o.up up_moves gw)).mono ?_;rintro e w2 ⟨rfl,aT⟩;have kI:=ae gw aT;have oT:=aa (af aT du.o);have t2:=ab oT.o;clear t1;cases DB:sS p.a with
 | false=>
  have zC:=aa DB;clear DB
  go_wp2_with fail
  go_ret
  exact⟨aR (by rw[HV.o,zC.o];rfl),kI⟩
 | true=>
 have Bh:movesN p.a.states<=40:=by
  have h:=HF.o;rw[DB]at h;simp at h;exact h.2
 rw[DB]at HV;clear HF DB;by_cases h3:3<p.t.n/\p.t.n<=5
 ·obtain⟨h31,BA⟩:=h3;have HR:am (fewPB p=false):=by(have h:fewPB p=false:=by(rw[HV.o];simp[h31,BA]));exact h
  go_wp2_with fail
  go_ret
  exact⟨aR HR.o.symm,kI⟩
 have HR:am (fewPB p=if probE p≠0 then true else decide (numberP p<=60) || decide (4096<numberP p)):=by
  have h:fewPB p=if probE p≠0 then true else decide (numberP p<=60) || decide (4096<numberP p):=by
   rw[HV.o,if_neg (by simp),if_neg (by simp),if_neg h3]
  exact h
 clear HV;have UP:¬ 3<p.t.n\/(3<p.t.n/\5<p.t.n):=by omega
 clear h3;have HC:=aa (vB p _ _ w2 (GC.o.up up_case kI) (GS.o.up up_moves kI) (by omega));have HNU:=aa (fun (hp:probE p=0) W (hb:Below w.heap.size w W)=>sZ p _ _ W (GC.o.up up_case hb) (GS.o.up up_moves hb) hp);rcases UP with h3|⟨h3,Xb⟩
 all_goals
  go_wp2_with fail
  refine HC.o.mono ?_;rintro e w3 ⟨rfl,bG⟩;have NH:=ae kI bG;have t3:=ab (af bG oT.o);clear t2;by_cases hp:probE p=0
  case neg=>
   generalize probE p=ep at hp HR;have Q8:(ep != 0)=true:=by simpa using hp
   go_wp2_with fail
   go_ret
   exact⟨aR (by rw[HR.o,if_pos hp]),NH⟩
  have si:=aa (HNU.o hp w3 NH);rw[hp]at HR ⊢;clear hp HNU
  go_wp2_with fail
  refine si.o.mono ?_;rintro e w4 ⟨rfl,bS⟩;clear t3;generalize numberP p=nn at HR;by_cases h60:nn<=60
  ·go_wp2_with fail
   go_ret
   exact⟨aR (by rw[HR.o,if_neg (by simp),decide_eq_true h60];rfl),ae NH bS⟩
  ·have hd:decide (nn<=60)=false:=decide_eq_false h60;have HD:=aa hd
   go_wp2_with fail
   go_ret
   exact⟨aR (by rw[HR.o,if_neg (by simp),HD.o];rfl),ae NH bS⟩
theorem qg{p:Pb} (h:fewPB p=true):movesN p.a.states<=40:=by
 unfold fewPB at h;split at h
 ·cases h
 split at h
 ·cases h
 ·rename_i h2;have:sS p.a=true:=by simpa using h2
  unfold sS at this;simp at this;exact this.2
end Go.Proofs.YtmeaoneaephjeaaGreatDoor
