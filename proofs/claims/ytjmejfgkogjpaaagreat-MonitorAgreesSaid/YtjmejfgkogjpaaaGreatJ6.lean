/-
  Parts of the proof, in order. The contract of the program's adversary.Check. Conditions: the argument reads as an adversary; all its moves together are fewer than 2^40. Regions that draw their order, inside a round of a loop over an iterator: the walks of the plain calculus serve there too. It proves nothing of the program. The contract of the program's adversary.index: a table of maps. Conditions: the argument reads as an adversary with 1 to 256 states, in each of which the rounds differ. Contracts of the program's adversary.State and adversary.Allows. Conditions: the arguments read as an adversary and a word; the adversary's moves together are fewer than 2^40. Contracts of the program's execution.Check and monitor.find, newScene. Conditions: the arguments read as a problem, inputs, a word and decisions. Contracts of the program's monitor: newScene, obliged (an iterator), undecided. Conditions: the arguments read as a problem, a word and decisions; the set of faulty processes is not negative. Contracts of the program's monitor.schedule and monitor.undecided. Conditions: the argument reads as a scene of a problem without errors. Plain facts on the vectors that agree with decisions. It proves nothing of the program. Contract of the library's slices.DeleteFunc at [][]int on a row that the caller owns. Conditions: the predicate answers at each element, whatever the row holds meanwhile. Contract of the library's slices.DeleteFunc at [][]int on a row that the caller owns. Conditions: the predicate answers at each element, whatever the row holds meanwhile.
-/
import Derived.StillTailTactics
import Derived.OrdersIn
import Derived.Lib.SliceRun
import Derived.Test.YtjmejfgkogjpaaaGreatJ5
namespace Go.Proofs.YtjmejfgkogjpaaaGreat
open Go.RowKit Go Go.Shelf
attribute [local go_sem] Oper.semAt_some

theorem alloc2_new (w : World) (a b : Obj) : ((w.alloc a).alloc b).heap[w.heap.size + 1]? = some b := by simpa using alloc_new (w.alloc a) b
theorem alloc3_new (w : World) (a b c : Obj) : (((w.alloc a).alloc b).alloc c).heap[w.heap.size + 1 + 1]? = some c := by simpa using alloc_new ((w.alloc a).alloc b) c

theorem check_results (tmps : Array Value) (B : Nat) (W : World) (x : Int) (ty : TypeId) (ht : tmps[2]?.getD undef = .pointer (some ⟨B, 0, none⟩)) (hb : W.heap[B]? = some (.cells #[.int .i64 x] ty)) :
    (results Tryz.f34 tmps).run Tryz.prog W = .ok (.int .i64 x) W := by
  have c := cell_block hb 0
  simp at c
  simp [results, Tryz.results34, go_sem, ht, c]

set_option maxHeartbeats 4000000 in
theorem advCheck_any (a : Adv) (v : Value) (w : World) (hv : IsStates w v a.states) (hN : movesN a.states < 1099511627776) :
    Calls Tryz.prog 34 #[.agg #[.int .i64 a.n, v]] w fun e w' => e = .returned (.int .i64 (advE a)) ∧ Below w.heap.size w w' := by
  have G := Lib.hid hv
  obtain ⟨pa, ca, rfl, la1, la2, ea⟩ := hv.at
  clear hv
  have E := Lib.hid ea; clear ea
  refine calls_marks Tryz.func34 rfl ?_
  simp only [Tryz.ntmps34, List.size_toArray, List.length_cons, List.length_nil, Nat.reduceAdd, Nat.reduceSub, Array.replicate_succ, Array.replicate_zero, List.push_toArray, List.append_toArray, List.nil_append, List.cons_append]
  by_cases hn : a.n < 1 ∨ 5 < a.n
  · have HV : Hid (advE a = 2) := by (have h : advE a = 2 := by (unfold advE; rw [if_pos hn])); exact h
    rcases hn with hn | hn
    · go_wp2_with fail
      refine marks_ret0 (check_results _ _ _ 2 _ rfl (alloc2_new _ _ _)) ?_
      exact ⟨ret_int HV.out.symm, by go_grown⟩
    · go_wp2_with fail
      refine marks_ret0 (check_results _ _ _ 2 _ rfl (alloc2_new _ _ _)) ?_
      exact ⟨ret_int HV.out.symm, by go_grown⟩
  have hn1 : 1 ≤ a.n := by omega
  have hn2 : a.n ≤ 5 := by omega
  have HV : Hid (advE a = if sizedE a ≠ 0 then sizedE a else if firstNZ a.states.length (fun s => stateE a (a.states.getD s [])) ≠ 0 then firstNZ a.states.length (fun s => stateE a (a.states.getD s [])) else if growsB a then 0 else 21) := by
    have h : advE a = if sizedE a ≠ 0 then sizedE a else if firstNZ a.states.length (fun s => stateE a (a.states.getD s [])) ≠ 0 then firstNZ a.states.length (fun s => stateE a (a.states.getD s [])) else if growsB a then 0 else 21 := by
      unfold advE sizedE; rw [if_neg hn]; grind
    exact h
  clear hn
  go_wp2_with fail
  refine calls_gen (fun W => Below w.heap.size w W ∧ W.heap[w.heap.size]? = some (.cells #[.int .i64 a.n, .slice pa a.states.length ca] 27) ∧ W.heap[w.heap.size + 1]? = some (.cells #[.int .i64 0] 45)) ⟨by go_grown, alloc_old _ (alloc_new _ _), alloc2_new _ _ _⟩ (fun W0 hW0 => ?_)
  obtain ⟨hb0, hA0, hR0⟩ := hW0
  refine (sized_any a _ W0 (G.out.up up_moves hb0) hN).mono ?_
  rintro e w1 ⟨rfl, hb1⟩
  have hA1 := block_up hb1 hA0
  have hR1 := block_up hb1 hR0
  have hbw1 := ext_trans hb0 hb1
  have c1 := cell_block hR1 0
  have f1 := frozen_block hR1 0
  simp at c1
  have t1 := cell_block hA1
  generalize sizedE a = es at HV
  have HA1 := Lib.hid hA1; have HR1 := Lib.hid hR1
  clear hA0 hR0 hb0 hb1 W0 hA1 hR1
  by_cases hes : es = 0
  case neg =>
    have hes' : (es != 0) = true := by simpa using hes
    go_wp2_with fail
    refine marks_ret0 (check_results _ _ _ es _ rfl (by rw [setCell_same HR1.out]; rfl)) ?_
    exact ⟨ret_int (by rw [HV.out, if_pos hes]), hbw1.setCell (by simp) _⟩
  subst hes
  go_wp2_with fail
  clear t1 c1 f1
  go_loopw [27] (fun i wr => Below w1.heap.size w1 wr ∧ ∃ k : Nat, k ≤ a.states.length ∧ i = .int .i64 k ∧ ∀ j, j < k → stateE a (a.states.getD j []) = 0) (fun i _ => a.states.length - (intOf i).toNat)
  case atStart => exact ⟨Below.refl _ _, 0, by omega, rfl, by simp⟩
  case round =>
    obtain ⟨hbr, k, hk, rfl, hinv⟩ := hrel
    have H := Lib.hid hinv; clear hinv
    have hbW := ext_trans hbw1 hbr
    have hAr := block_up hbr HA1.out
    have hRr := block_up hbr HR1.out
    have t1 := cell_block hAr
    by_cases hlt : k < a.states.length
    · obtain ⟨b1, o1, rfl, x, cx, hx⟩ := E.out k hlt
      rw [Nat.mul_one] at cx
      have d1 := cell_up hbW cx
      have HX := Lib.hid (hx.up up_move hbW)
      obtain ⟨px, qx, rfl, _⟩ := hx
      clear cx
      have HRr := Lib.hid hRr; clear hAr hRr
      go_wp2_with fail
      refine (state_any a _ _ _ _ _ HX.out).mono ?_
      rintro e w2 ⟨rfl, hb2⟩
      have hR2 := block_up hb2 HRr.out
      have c1 := cell_block hR2 0
      have f1 := frozen_block hR2 0
      simp at c1
      have HR2 := Lib.hid hR2; clear hR2
      have HS : Hid (stateE a (a.states.getD k []) = stateE a a.states[k]) := by (have h : stateE a (a.states.getD k []) = stateE a a.states[k] := by (rw [getD_of_lt [] hlt])); exact h
      generalize stateE a a.states[k] = ek at HS
      clear t1 d1
      by_cases hek : ek = 0
      · subst hek
        go_wp2_with fail
        go_roundw
        case rel => exact ⟨ext_trans hbr hb2, k + 1, by omega, by go_num, below_succ H.out HS.out⟩
        case measure => simp [intOf]; omega
      · have hek' : (ek != 0) = true := by simpa using hek
        go_wp2_with fail
        refine marks_ret0 (check_results _ _ _ ek _ rfl (by rw [setCell_same HR2.out]; rfl)) ?_
        exact ⟨ret_int (by rw [HV.out, if_neg (by simp), ← firstNZ_hit (f := fun s => stateE a (a.states.getD s [])) k ek hlt H.out HS.out hek, if_pos hek]), (ext_trans hbW hb2).setCell (by simp) _⟩
    · have hall : ∀ j, j < a.states.length → stateE a (a.states.getD j []) = 0 := fun j hj => H.out j (by omega)
      have HV2 : Hid (advE a = if growsB a then 0 else 21) := by
        have h : advE a = if growsB a then 0 else 21 := by rw [HV.out, if_neg (by simp), firstNZ_zero _ _ hall]; simp
        exact h
      have HALL := Lib.hid hall; clear hall H HV
      have HAr := Lib.hid hAr; have HRr := Lib.hid hRr; clear hAr hRr
      go_wp2_with fail
      refine (moves_any _ _ _ _ _).mono ?_
      rintro e w2 ⟨rfl, rfl⟩
      clear t1
      go_wp2_with fail
      refine wp_gen (fun W => Below w.heap.size w W ∧ W.heap[w.heap.size]? = some (.cells #[.int .i64 a.n, .slice pa a.states.length ca] 27) ∧ W.heap[w.heap.size + 1]? = some (.cells #[.int .i64 0] 45) ∧ W.heap[wr.heap.size]? = some (.cells #[.int .i64 a.n, .slice pa a.states.length ca] 27))
        ⟨hbW.alloc hbW.size _, alloc_old _ HAr.out, alloc_old _ HRr.out, alloc_new _ _⟩ (fun W0 hW0 => ?_)
      obtain ⟨hb0, hA, hR, hX⟩ := hW0
      have hseq := moves1_seq w _ a.states G.out W0 hb0 wr.heap.size (by simp [cell_block hX])
      have hsz := block_lt hX
      have hsw := hbW.size
      have hsR := block_lt HRr.out
      refine wp_range (gf := 104) (lb := #[.pointer (some ⟨wr.heap.size, 0, none⟩)]) rfl (enters_of Tryz.func104 (by kernel_rfl) rfl) hseq (Below.refl _ _) (fun k hk => Nat.lt_of_lt_of_le hk hb0.size) (fun i => rfl)
        (fun i W => Below w.heap.size w W ∧ W.heap[w.heap.size]? = some (.cells #[.int .i64 a.n, .slice pa a.states.length ca] 27) ∧ W.heap[w.heap.size + 1]? = some (.cells #[.int .i64 0] 45) ∧ ∀ j, j < i → badAt a j = false)
        (fun c _ W => c = .ret ∧ Below w.heap.size w W ∧ W.heap[w.heap.size + 1]? = some (.cells #[.int .i64 21] 45) ∧ growsB a = false)
        (fun i => (Sta.below (by omega)).and (Sta.cells.and (Sta.cells.and Sta.pure))) (fun c i => Sta.pure.and ((Sta.below (by omega)).and (Sta.cells.and Sta.pure))) ⟨hb0, hA, hR, by simp⟩ ?round ?done ?stop
      case round =>
        intro yl i W hi hl hI
        unfold encM
        have hok := mvAt_ok HALL.out hi
        have HB : Hid (badAt a i = anyLt (nextL a i).length fun k => !insideB (mvAt a.states i).2.r.f ((nextL a i).getD k default).r.f) := by (have h : badAt a i = anyLt (nextL a i).length fun k => !insideB (mvAt a.states i).2.r.f ((nextL a i).getD k default).r.f := rfl); exact h
        have HNL : Hid (nextL a i = a.states.getD (mvAt a.states i).2.to.toNat []) := by (have h : nextL a i = a.states.getD (mvAt a.states i).2.to.toNat [] := rfl); exact h
        generalize mvAt a.states i = sm at hok HB HNL
        obtain ⟨sx, m⟩ := sm
        dsimp only at hok HB HNL
        obtain ⟨⟨hf0, hf1⟩, ht0, ht1⟩ := hok
        have HI := Lib.hid hI; clear hI
        have hszW := HI.out.1.size
        gi_wp2
        refine ⟨Bod.of_below (fun k hk => Nat.lt_of_lt_of_le hk hszW) (by go_grown), (fun W' => Below w.heap.size w W' ∧ W'.heap[w.heap.size]? = some (.cells #[.int .i64 a.n, .slice pa a.states.length ca] 27) ∧ W'.heap[w.heap.size + 1]? = some (.cells #[.int .i64 0] 45) ∧ W'.heap[W.heap.size]? = some (.cells #[.int .i64 m.r.g.n, .int .i64 m.r.g.h0, .int .i64 m.r.g.h1, .int .i64 m.r.g.h2, .int .i64 m.r.g.h3, .int .i64 m.r.g.h4, .int .i64 m.r.f, .int .i64 m.to] 89)),
          (Sta.below (by omega)).and (Sta.cells.and (Sta.cells.and Sta.cells)), ⟨HI.out.1.alloc hszW _, alloc_old _ HI.out.2.1, alloc_old _ HI.out.2.2.1, alloc_new _ _⟩, fun W2 h2 _ => ?_⟩
        obtain ⟨g1, g2, g3, g4⟩ := h2
        have HINV := Lib.hid HI.out.2.2.2
        have hsz2 := g1.size
        have hszR := block_lt g3
        have hszM := block_lt g4
        have tA := cell_block g2
        have tM := cell_block g4
        have HG1 := Lib.hid g1; have HG3 := Lib.hid g3; have HG2 := Lib.hid g2
        have HG4 := Lib.hid g4
        clear g1 g2 g3 g4 HI hseq hA hR hX
        obtain ⟨b1, o1, rfl, x, cx, hx⟩ := E.out m.to.toNat (by omega)
        have HL : Hid (nextL a i = a.states[m.to.toNat]) := by (have h : nextL a i = a.states[m.to.toNat] := by (rw [HNL.out, getD_of_lt [] (by omega)])); exact h
        rw [Nat.mul_one] at cx
        have d1 := cell_up HG1.out cx
        obtain ⟨p2, c2, rfl, m1, m2, e2⟩ := hx.at
        clear hx cx
        have E2 := Lib.hid e2; clear e2
        generalize hLL : a.states[m.to.toNat] = L at HL E2 d1 m1 m2
        have HLL := Lib.hid hLL; clear hLL
        gi_wp2
        clear tA tM d1
        gi_loopw [49] (fun i wr => Below W2.heap.size W2 wr ∧ ∃ q : Nat, q ≤ L.length ∧ i = .int .i64 q ∧ ∀ j, j < q → insideB m.r.f (L.getD j default).r.f = true) (fun i _ => L.length - (intOf i).toNat)
        case atStart => exact ⟨Below.refl _ _, 0, by omega, rfl, by simp⟩
        case round =>
          obtain ⟨hbr2, q, hq, rfl, hinv2⟩ := hrel
          have H2 := Lib.hid hinv2; clear hinv2
          have tM := cell_block (block_up hbr2 HG4.out)
          have hR3 := block_up hbr2 HG3.out
          have c1' := cell_block hR3 0
          have f1' := frozen_block hR3 0
          simp at c1'
          have HR3 := Lib.hid hR3; clear hR3
          have hwr := ext_trans HG1.out hbr2
          have hs2 := hbr2.size
          have hM3 : W.heap.size < wr.heap.size := by omega
          have hR3' : w.heap.size + 1 < wr.heap.size := by omega
          by_cases hqt : q < L.length
          · have hyok : 0 ≤ L[q].r.f ∧ L[q].r.f < 32 := by
              have := (states_ok HALL.out (s := m.to.toNat) (j := q) (by omega) (by rw [HLL.out]; exact hqt)).1
              simpa [HLL.out] using this
            have HYQ : Hid (L.getD q default = L[q]) := getD_of_lt default hqt
            obtain ⟨b2, o2, rfl, ⟨⟨c0, _⟩, ⟨c1, _⟩, ⟨c2, _⟩, ⟨c3, _⟩, ⟨c4, _⟩, ⟨c5, _⟩, ⟨c6, _⟩⟩, c7, _⟩ := E2.out q hqt
            have d0 := cell_up hwr c0
            have d1 := cell_up hwr c1
            have d2 := cell_up hwr c2
            have d3 := cell_up hwr c3
            have d4 := cell_up hwr c4
            have d5 := cell_up hwr c5
            have d6 := cell_up hwr c6
            have d7 := cell_up hwr c7
            clear c0 c1 c2 c3 c4 c5 c6 c7
            generalize L[q] = y at hyok HYQ d0 d1 d2 d3 d4 d5 d6 d7
            have hbit := andNot_inside m.r.f y.r.f hf0 hf1 hyok.1 hyok.2
            clear hyok
            cases hin : insideB m.r.f y.r.f with
            | true =>
              rw [hin] at hbit
              have HIN := Lib.hid hin; clear hin
              gi_wp2
              go_roundw
              case rel => exact ⟨hbr2.alloc hbr2.size _, q + 1, by omega, by go_num, below_succ H2.out (by rw [HYQ.out]; exact HIN.out)⟩
              case measure => simp [intOf]; omega
            | false =>
              rw [hin] at hbit
              have HIN := Lib.hid hin; clear hin
              gi_wp2
              refine ⟨((Bod.of_below (fun k hk => Nat.lt_of_lt_of_le hk hsz2) hbr2).trans (Bod.setCell _ ⟨w.heap.size + 1, 0, none⟩ _ (fun h => by dsimp only at h; omega))).trans (Bod.of_below (fun k hk => by simp only [World.size_setCell]; omega) (by go_grown)), rfl, (hwr.setCell (p := ⟨w.heap.size + 1, 0, none⟩) (by dsimp only; omega) _).alloc (by simp only [World.size_setCell]; omega) _, ?_, ?_⟩
              · exact alloc_old _ (by rw [setCell_same HR3.out]; rfl)
              · unfold growsB
                rw [anyLt_true _ i _ hi (by rw [HB.out, HL.out]; exact anyLt_true _ q _ hqt (by rw [HYQ.out, HIN.out]; rfl))]; rfl
          · gi_wp2
            refine ⟨Bod.of_below (fun k hk => Nat.lt_of_lt_of_le hk hsz2) hbr2, hwr, block_up hbr2 HG2.out, HR3.out, below_succ HINV.out ?_⟩
            rw [HB.out, HL.out]
            exact anyLt_false _ _ (fun j hj => by rw [H2.out j (by omega)]; rfl)
      case done =>
        intro D W hD hI hK
        obtain ⟨g1, g2, g3, g4⟩ := hI
        have HG := Lib.hid (And.intro g1 (And.intro g2 (And.intro g3 g4)))
        have c1 := cell_block g3 0
        have f1 := frozen_block g3 0
        simp at c1
        clear g1 g2 g3 g4 hseq hA hR hX
        go_wp2_with fail
        refine marks_ret (by rw [← hK]; exact Below.heap_setCell _ _ _ _ (by dsimp only; omega)) (check_results _ _ _ 0 _ rfl ((World.putObj_heap_other (by omega)).trans (by rw [setCell_same HG.out.2.2.1]; rfl))) ?_
        refine ⟨ret_int ?_, below_put (by omega) (HG.out.1.setCell (by simp) _)⟩
        rw [HV2.out]
        unfold growsB
        rw [anyLt_false _ _ HG.out.2.2.2]; rfl
      case stop =>
        rintro D c i W hD hi ⟨rfl, g1, g2, g3⟩ hK
        have HG := Lib.hid (And.intro g1 (And.intro g2 g3))
        clear g1 g2 g3 hseq hA hR hX
        go_wp2_with fail
        refine marks_ret hK (check_results _ _ _ 21 _ rfl ((World.putObj_heap_other (by omega)).trans HG.out.2.1)) ?_
        exact ⟨ret_int (by rw [HV2.out, HG.out.2.2]; rfl), below_put (by omega) HG.out.1⟩
end Go.Proofs.YtjmejfgkogjpaaaGreat

namespace Go.Proofs.YtjmejfgkogjpaaaGreat
open Go.RowKit Go Go.Shelf

def noDefer (ops : Array Oper) : Bool := ops.all fun o => match o.op with | .defer _ => false | _ => true
theorem noDefer_spec {ops : Array Oper} (h : noDefer ops = true) {i : Nat} {o : Oper} (ho : ops[i]? = some o) : ∀ c, o.op ≠ .defer c := by
  intro c hc
  have h1 := Array.all_eq_true'.1 h o (Array.mem_of_getElem? ho)
  rw [hc] at h1
  cases h1

theorem operIn_of {P : Program} {yl n : Nat} {o : Oper} {a : Act} {w : World} {K K' : Act → World → Prop} {Q : Exit → Act → World → Prop} (hd : ∀ c, o.op ≠ .defer c) (_hQ : ¬ LetsOut Q) (hK : ∀ a w, K a w → K' a w)
    (h : o.wp P a w K Q) : o.wpIn (Fence.wide.inRound yl) n P a w K' Q := by
  refine ⟨fun _ _ => trivial, ?_⟩
  rw [Oper.semAt_eq _ _ _ hd]
  unfold Oper.wp at h
  generalize (execOp a.eval o).run P w = r at h
  cases r with
  | ok x w' =>
    cases x with
    | value v => exact hK _ _ h
    | skip => exact hK _ _ h
    | defer d => exact hK _ _ h
    | enter f args =>
      refine ⟨fun h' => (by simp [Fence.wide, Fence.inRound] at h'), CallsIn.inRound yl ((callsIn_wide (n := n - 1)).2 ?_)⟩
      refine Calls.mono h ?_
      rintro e w'' he
      cases e with
      | returned v => exact hK _ _ he
      | panicked ch => exact he
      | outgrown => exact he
    | row r args =>
      refine ⟨fun h' => (by simp [Fence.wide, Fence.inRound] at h'), fun c cs _ => ?_⟩
      obtain ⟨v, w'', hv, hs⟩ := h c cs
      exact ⟨v, w'', hK _ _ hv, stepsIn_wide.2 hs⟩
    | _ => exact h.elim
  | halt x w' =>
    cases x with
    | panic v => exact h
    | _ => exact h.elim

theorem anyIn_of {P : Program} {yl n : Nat} {ops : Array Oper} {md : Region.Mode} {Q : Exit → Act → World → Prop} (hd : noDefer ops = true) (hQ : ¬ LetsOut Q) :
    ∀ (fuel : Nat) (listed : Array Bool) (a : Act) (w : World), wpAny P md ops Q fuel listed a w → wpAnyIn (Fence.wide.inRound yl) n P md ops Q fuel listed a w
  | 0, _, _, _, h => h
  | fuel + 1, listed, a, w, h => ⟨h.1, fun i hi => by
    have h2 := h.2 i hi
    unfold wpOp at h2
    unfold wpOpIn
    cases ho : ops[i]? with
    | none => rw [ho] at h2; exact anyIn_of hd hQ fuel _ _ _ h2
    | some o =>
      rw [ho] at h2
      dsimp only at h2 ⊢
      split
      · rename_i hw
        rw [if_pos hw] at h2
        rcases h2 with h2 | h2
        · exact operIn_of (noDefer_spec hd ho) hQ (fun a w h => anyIn_of hd hQ fuel _ a w h) h2
        · exact absurd h2.2 hQ
      · rename_i hw
        rw [if_neg hw] at h2
        exact ⟨fun _ _ => trivial, anyIn_of hd hQ fuel _ _ _ h2⟩⟩

theorem round_region_quiet {P : Program} {yl n : Nat} {id : Nat} {Q : Exit → Act → World → Prop} {a : Act} {w : World} {l : List Oper} (hQ : ¬ LetsOut Q) (hm : P.follows .mixedOrders = true) (hB : Region.lexB .any l.toArray = true) (hd : noDefer l.toArray = true)
    (h : wpQuiet P l.toArray (fun w' => ∃ x : ExtW w, w' = x.val) (fun a' => ∀ w', (∃ x : ExtW w, w' = x.val) → Q .normal a' w') l a) : (Code.region id l.toArray true).wpIn (Fence.wide.inRound yl) n P Q a w := by
  simp only [Region.lexB, Bool.and_eq_true] at hB
  refine wpIn_region_any hm (anyIn_of hd hQ _ _ _ _ (wpAny_of_quiet (C := fun w' => ∃ x : ExtW w, w' = x.val) (Q := fun a' => ∀ w', (∃ x : ExtW w, w' = x.val) → Q .normal a' w') (fun _ w' hw' h => h w' hw') _ _ _ _ ⟨⟨w.drew, (Below.refl _ _).drew⟩, rfl⟩ ?_))
  have := wpAnyQ_lex (C := fun w' => ∃ x : ExtW w, w' = x.val) (md := .any) hB.1 l 0 (Array.replicate l.toArray.size false) a (by simp) (by simpa using hB.2) h
  simpa using this

theorem round_region_tail {P : Program} {yl m : Nat} {id : Nat} {Q : Exit → Act → World → Prop} {a : Act} {w : World} {l : List Oper} (n : Nat) (hQ : ¬ LetsOut Q) (hm : P.follows .mixedOrders = true) (hB : Region.lexTailB .any l.toArray n = true) (hd : noDefer l.toArray = true)
    (h : wpStill P l.toArray w.drew (fun a' => wpList P l.toArray Q (l.drop n) a' w.drew) (l.take n) a) : (Code.region id l.toArray true).wpIn (Fence.wide.inRound yl) m P Q a w := by
  simp only [Region.lexTailB, Bool.and_eq_true, decide_eq_true_eq] at hB
  obtain ⟨⟨⟨⟨hsel, hn⟩, hs⟩, hc⟩, hlex⟩ := hB
  have hn' : n < l.length := by simpa using hn
  have htl : (l.take n).length = n := by simp; omega
  have hdl : (l.drop n).length = l.toArray.size - n := by simp
  have inv0 : HeadInv .any l.toArray n (Array.replicate l.toArray.size false) :=
    ⟨by simp, fun j oj _ hl => (by rw [getD_replicate_false] at hl; cases hl), fun t _ ht => getD_in (by simpa using ht) (getD_replicate_false _ _)⟩
  have H := wpAnyL_lex (md := .any) (g := l.toArray.size - n) hsel hs hc hn (l.take n) 0 _ a (fun j hj => by
    have hj' : j < n := by rw [htl] at hj; exact hj
    simp [hj']) (by simpa using htl) inv0 (by rw [htl]; exact hlex) h
  refine wpIn_region_any hm (anyIn_of hd hQ _ _ _ _ ?_)
  have := wpAny_of_head (Q' := Q) (g := l.toArray.size - n) (fun listed a' hL => by
    have := wpAny_of_seq (md := .any) (Q' := Q) (l.drop n) n listed a' w.drew (fun j => by simp [List.getElem?_drop]) (by rw [hdl]; exact hL.1) hL.2
    rwa [hdl] at this) _ _ _ H
  rw [htl, show n + (l.toArray.size - n) = l.toArray.size by omega] at this
  exact this

/-- .. with what follows behind a name -/
theorem round_region_tail' {P : Program} {yl m : Nat} {id : Nat} {Q : Exit → Act → World → Prop} {a : Act} {w : World} {l : List Oper} (n : Nat) (hQ : ¬ LetsOut Q) (hm : P.follows .mixedOrders = true) (hB : Region.lexTailB .any l.toArray n = true) (hd : noDefer l.toArray = true)
    (h : ∀ (ops : Array Oper) (Lq : Act → Prop), ops = l.toArray → (∀ a', wpList P l.toArray Q (l.drop n) a' w.drew → Lq a') → wpStill P ops w.drew Lq (l.take n) a) : (Code.region id l.toArray true).wpIn (Fence.wide.inRound yl) m P Q a w :=
  round_region_tail n hQ hm hB hd (h _ _ rfl (fun _ h => h))
end Go.Proofs.YtjmejfgkogjpaaaGreat

namespace Go.Proofs.YtjmejfgkogjpaaaGreat
open Go.RowKit Go Go.Shelf
attribute [local go_sem] Oper.semAt_some

def tabCells (M n s : Nat) : Array Value := ((List.range n).map fun j => if j < s then Value.map (some (M + j)) else Value.map none).toArray
theorem tabCells_size (M n s : Nat) : (tabCells M n s).size = n := by simp [tabCells]
theorem tabCells_get (M n s j : Nat) (hj : j < n) : (tabCells M n s)[j]? = some (if j < s then Value.map (some (M + j)) else Value.map none) := by simp [tabCells, hj]
theorem tabCells_set (M n s : Nat) (hs : s < n) : (tabCells M n s).setIfInBounds s (.map (some (M + s))) = tabCells M n (s + 1) := by
  apply Array.ext_getElem?
  intro j
  rw [Array.getElem?_setIfInBounds]
  by_cases hj : j < n
  · rw [tabCells_get _ _ _ _ hj, tabCells_get _ _ _ _ hj]
    by_cases e : s = j
    · subst e; simp [tabCells_size, hj]
    · rw [if_neg e]
      by_cases h : j < s
      · rw [if_pos h, if_pos (by omega)]
      · rw [if_neg h, if_neg (by omega)]
  · have h1 : (tabCells M n s)[j]? = none := by rw [Array.getElem?_eq_none]; rw [tabCells_size]; omega
    have h2 : (tabCells M n (s + 1))[j]? = none := by rw [Array.getElem?_eq_none]; rw [tabCells_size]; omega
    rw [h1, h2, if_neg (by omega)]

theorem tabCells_zero (M N n : Nat) : tabCells M n 0 = tabCells N n 0 := by simp [tabCells]
theorem made_replicate (n : Nat) : madeCells (Value.map none).cells n = tabCells 0 n 0 := by
  apply Array.ext
  · simp [madeCells, tabCells]
  · intro i h1 h2
    simp [madeCells, tabCells, Value.cells, Nat.mod_one]
theorem make_table (n : Nat) (hn : n ≤ 256) (w : World) : (Instr.makeSlice 194 (.int .i64 (n : Int)) (.int .i64 (n : Int))).run Tryz.prog w = .ok (.slice (some ⟨w.heap.size, 0, none⟩) n n) (w.alloc (.cells (tabCells 0 n 0) 196)) := by
  have hinfo : (Tryz.prog.info? 196).map (fun i => (i.zero, i.size, i.bytes)) = some (some (.map none), 1, 8) := by kernel_rfl
  obtain ⟨i, hi, hz0, hz1, hz2⟩ := info_parts hinfo
  have := run_make (P := Tryz.prog) w 194 196 i (.map none) Tryz.underlying194 hi hz0 .i64 .i64 (n : Int) (n : Int) (by omega) (by omega) (by rw [hz2]; omega) (by omega)
  rw [this, hz1, Nat.mul_one]
  simp only [Int.toNat_natCast, made_replicate]

/-- what the map of state s holds behind i moves -/
def doneL (l : List (List Mv)) (i s : Nat) : List (Rd × Int) := ((l.getD s []).take (i - cnt l s)).map fun m => (m.r, m.to)
theorem cnt_mono (l : List (List Mv)) {s t : Nat} (h : s ≤ t) : cnt l s ≤ cnt l t := by
  induction t with
  | zero => obtain rfl : s = 0 := by omega
            exact Nat.le_refl _
  | succ t ih =>
    by_cases e : s = t + 1
    · subst e; exact Nat.le_refl _
    · have h1 := ih (by omega)
      by_cases ht : t < l.length
      · rw [cnt_succ l t ht]; omega
      · rw [cnt_all l t (by omega)] at h1; rw [cnt_all l (t + 1) (by omega)]; exact h1
theorem doneL_zero (l : List (List Mv)) (s : Nat) : doneL l 0 s = [] := by simp [doneL]
theorem doneL_at (l : List (List Mv)) (s j : Nat) (hs : s < l.length) : doneL l (cnt l s + j) s = (l[s].take j).map fun m => (m.r, m.to) := by
  simp [doneL, hs]
theorem doneL_same (l : List (List Mv)) (s j : Nat) (hs : s < l.length) (hj : j < l[s].length) : doneL l (cnt l s + j + 1) s = doneL l (cnt l s + j) s ++ [(l[s][j].r, l[s][j].to)] := by
  rw [Nat.add_assoc, doneL_at l s (j + 1) hs, doneL_at l s j hs, List.take_succ_eq_append_getElem hj]
  simp only [List.map_append, List.map_cons, List.map_nil]
theorem doneL_other (l : List (List Mv)) (s j t : Nat) (hs : s < l.length) (hj : j < l[s].length) (ht : t < l.length) (hne : t ≠ s) : doneL l (cnt l s + j + 1) t = doneL l (cnt l s + j) t := by
  unfold doneL
  rw [getD_of_lt [] ht]
  rcases Nat.lt_or_gt_of_ne hne with h | h
  · have h1 := cnt_mono l (show t + 1 ≤ s by omega)
    rw [cnt_succ l t ht] at h1
    rw [List.take_of_length_le (by omega), List.take_of_length_le (by omega)]
  · have h1 := cnt_mono l (show s + 1 ≤ t by omega)
    rw [cnt_succ l s hs] at h1
    have e1 : cnt l s + j + 1 - cnt l t = 0 := by omega
    have e2 : cnt l s + j - cnt l t = 0 := by omega
    rw [e1, e2]
theorem doneL_all (l : List (List Mv)) (s : Nat) (hs : s < l.length) : doneL l (movesN l) s = l[s].map fun m => (m.r, m.to) := by
  unfold doneL
  rw [getD_of_lt [] hs, List.take_of_length_le]
  have := cnt_le l s hs
  omega
theorem rdGet_none {f : List (Rd × Int)} {r : Rd} (h : ∀ p ∈ f, p.1 ≠ r) : rdGet f r = none := by
  simp only [rdGet, Option.map_eq_none_iff, List.find?_eq_none]
  intro p hp
  simpa using fun e => h p hp e.symm
theorem nodup_take {l : List Mv} {j : Nat} (hj : j < l.length) (h : ∀ i (hi : i < j), l[i].r ≠ l[j].r) : ∀ p ∈ (l.take j).map (fun m => (m.r, m.to)), p.1 ≠ l[j].r := by
  intro p hp e
  obtain ⟨m, hm, rfl⟩ := List.mem_map.1 hp
  obtain ⟨q, hq, hqm⟩ := List.mem_take_iff_getElem.1 hm
  dsimp only at e
  exact h q (by omega) (by rw [hqm]; exact e)
theorem MapIs.lt {w : World} {b : Nat} {f : List (Rd × Int)} (h : MapIs w b f) : b < w.heap.size := by
  obtain ⟨_, _, he, _⟩ := h
  exact block_lt he
theorem MapIs.chg {B : Nat} {A A' : World} {b : Nat} {f : List (Rd × Int)} (c : Chg B A A') (hb : b < B) (h : MapIs A b f) : MapIs A' b f := by
  obtain ⟨es, clock, he, hf⟩ := h
  exact ⟨es, clock, c.same _ _ he (.inl hb), hf⟩
theorem MapIs.kept {A A' : World} {b : Nat} {f : List (Rd × Int)} (h : MapIs A b f) (he : A'.heap[b]? = A.heap[b]?) : MapIs A' b f := by
  obtain ⟨es, clock, h1, hf⟩ := h
  exact ⟨es, clock, he.trans h1, hf⟩
def TableIs (w : World) (v : Value) (l : List (List Mv)) : Prop :=
  ∃ B, v = .slice (some ⟨B, 0, none⟩) l.length l.length ∧ ∀ s (hs : s < l.length), ∃ b, w.cell? ⟨B, s, none⟩ = some (.map (some b)) ∧ MapIs w b (l[s].map fun m => (m.r, m.to))

set_option maxRecDepth 100000 in
set_option maxHeartbeats 4000000 in
theorem index_any (a : Adv) (v : Value) (w : World) (hv : IsStates w v a.states) (h1 : 1 ≤ a.states.length) (h2 : a.states.length ≤ 256) (hd : ∀ s (hs : s < a.states.length) j (hj : j < a.states[s].length) i (hi : i < j), a.states[s][i].r ≠ a.states[s][j].r) :
    Calls Tryz.prog 134 #[.agg #[.int .i64 a.n, v]] w fun e w' => ∃ u, e = .returned u ∧ TableIs w' u a.states ∧ Below w.heap.size w w' := by
  have G := Lib.hid hv
  obtain ⟨pa, ca, rfl, la1, la2, _⟩ := hv.at
  clear hv
  have HD := Lib.hid hd; clear hd
  have hmk := make_table a.states.length h2
  refine calls_marks Tryz.func134 rfl ?_
  simp only [Tryz.ntmps134, List.size_toArray, List.length_cons, List.length_nil, Nat.reduceAdd, Nat.reduceSub, Array.replicate_succ, Array.replicate_zero, List.push_toArray, List.append_toArray, List.nil_append, List.cons_append]
  go_wp2_with fail
  clear hmk
  refine wp_gen (fun W => W.heap.size = w.heap.size + 3 ∧ Below w.heap.size w W ∧ W.heap[w.heap.size]? = some (.cells #[.int .i64 a.n, .slice pa a.states.length ca] 27) ∧ W.heap[w.heap.size + 1]? = some (.cells (tabCells (w.heap.size + 3) a.states.length 0) 196) ∧ W.heap[w.heap.size + 1 + 1]? = some (.cells #[.slice (some ⟨w.heap.size + 1, 0, none⟩) a.states.length a.states.length] 194))
    ⟨by simp, by go_grown, alloc_old _ (alloc_old _ (alloc_new _ _)), by rw [tabCells_zero _ 0]; exact alloc_old _ (alloc2_new _ _ _), alloc3_new _ _ _ _⟩ (fun W0 hW0 => ?_)
  obtain ⟨hz0, hb0, hA0, hC0, hT0⟩ := hW0
  have HW0 := Lib.hid (And.intro hz0 (And.intro hb0 (And.intro hA0 (And.intro hC0 hT0))))
  clear hz0 hb0 hA0 hC0 hT0
  go_loopw [13] (fun i wr => ∃ s : Nat, s ≤ a.states.length ∧ i = .int .i64 s ∧ wr.heap.size = w.heap.size + 3 + s ∧ Below w.heap.size w wr ∧ wr.heap[w.heap.size]? = some (.cells #[.int .i64 a.n, .slice pa a.states.length ca] 27) ∧ wr.heap[w.heap.size + 1]? = some (.cells (tabCells (w.heap.size + 3) a.states.length s) 196) ∧ wr.heap[w.heap.size + 1 + 1]? = some (.cells #[.slice (some ⟨w.heap.size + 1, 0, none⟩) a.states.length a.states.length] 194) ∧ ∀ j, j < s → MapIs wr (w.heap.size + 3 + j) []) (fun i _ => a.states.length - (intOf i).toNat)
  case atStart => exact ⟨0, by omega, rfl, by simpa using HW0.out.1, HW0.out.2.1, HW0.out.2.2.1, HW0.out.2.2.2.1, HW0.out.2.2.2.2, by simp⟩
  case round =>
    obtain ⟨s, hs, rfl, hz, hb, hA, hC, hT, hM⟩ := hrel
    have tT := cell_block hT
    by_cases hlt : s < a.states.length
    · have cC := cell_block hC s
      rw [tabCells_get _ _ _ _ hlt, if_neg (by omega)] at cC
      have fC := frozen_block hC s
      have hl1 := block_lt hC
      have hl2 := block_lt hT
      have HH := Lib.hid (And.intro hz (And.intro hb (And.intro hA (And.intro hC (And.intro hT hM)))))
      clear hz hb hA hC hT hM
      have hmm := @run_makeMap Tryz.prog
      go_wp2_with fail
      obtain ⟨hz, hb, hA, hC, hT, hM⟩ := HH.out
      go_roundw
      case rel =>
        go_light
        refine ⟨s + 1, by omega, by go_num, by simp [hz]; omega, (hb.setCell (p := ⟨w.heap.size + 1, s, none⟩) (by dsimp only; omega) _).alloc (by simp only [World.size_setCell]; omega) _, alloc_old _ (setCell_other hA (by omega) _ _), ?_, alloc_old _ (setCell_other hT (by omega) _ _), ?_⟩
        · refine alloc_old _ ?_
          rw [setCell_same hC, hz, tabCells_set _ _ _ hlt]
        · intro j hj
          by_cases e : j < s
          · obtain ⟨es, clock, he, hf⟩ := hM j e
            exact ⟨es, clock, alloc_old _ (setCell_other he (by omega) _ _), hf⟩
          · obtain rfl : j = s := by omega
            refine ⟨#[], 0, ?_, rfl⟩
            have := alloc_new (wr.setCell ⟨w.heap.size + 1, j, none⟩ (.map (some wr.heap.size))) (.map #[] 0)
            rw [World.size_setCell, hz] at this
            rw [hz]; exact this
      case measure => simp [intOf]; omega
    · obtain rfl : s = a.states.length := by omega
      have tA := cell_block hA
      have hl1 := block_lt hC
      have hl2 := block_lt hT
      have HH := Lib.hid (And.intro hz (And.intro hb (And.intro hA (And.intro hC (And.intro hT hM)))))
      clear hz hb hA hC hT hM
      go_wp2_with fail
      refine (moves_any _ _ _ _ _).mono ?_
      rintro e w2 ⟨rfl, rfl⟩
      clear tA tT
      go_wp2_with fail
      refine wp_gen (fun W => W.heap.size = w.heap.size + 3 + a.states.length + 1 ∧ Below w.heap.size w W ∧ W.heap[w.heap.size + 1]? = some (.cells (tabCells (w.heap.size + 3) a.states.length a.states.length) 196) ∧ W.heap[w.heap.size + 1 + 1]? = some (.cells #[.slice (some ⟨w.heap.size + 1, 0, none⟩) a.states.length a.states.length] 194) ∧ W.heap[wr.heap.size]? = some (.cells #[.int .i64 a.n, .slice pa a.states.length ca] 27) ∧ ∀ j, j < a.states.length → MapIs W (w.heap.size + 3 + j) [])
        ⟨by simp [HH.out.1], HH.out.2.1.alloc HH.out.2.1.size _, alloc_old _ HH.out.2.2.2.1, alloc_old _ HH.out.2.2.2.2.1, alloc_new _ _, fun j hj => (HH.out.2.2.2.2.2 j hj).kept (Below.heap_alloc _ _ _ (by rw [HH.out.1]; omega))⟩ (fun W0 hW0 => ?_)
      obtain ⟨hz0, hb0, hC0, hT0, hX0, hM0⟩ := hW0
      have hseq := moves1_seq w _ a.states G.out W0 hb0 wr.heap.size (by simp [cell_block hX0])
      have HZ0 := Lib.hid hz0; clear hz0
      refine wp_range (gf := 104) (lb := #[.pointer (some ⟨wr.heap.size, 0, none⟩)]) rfl (enters_of Tryz.func104 (by kernel_rfl) rfl) hseq (Below.refl _ _) (fun k hk => Nat.lt_of_lt_of_le hk hb0.size) (fun i => rfl)
        (fun i W => Below w.heap.size w W ∧ W.heap[w.heap.size + 1]? = some (.cells (tabCells (w.heap.size + 3) a.states.length a.states.length) 196) ∧ W.heap[w.heap.size + 1 + 1]? = some (.cells #[.slice (some ⟨w.heap.size + 1, 0, none⟩) a.states.length a.states.length] 194) ∧ ∀ s, s < a.states.length → MapIs W (w.heap.size + 3 + s) (doneL a.states i s))
        (fun _ _ _ => False)
        (fun i => (Sta.below hb0.size).and (Sta.cells.and (Sta.cells.and (fun A A' c x s hs => (x s hs).chg c (by rw [HZ0.out]; omega))))) (fun c i => Sta.pure) ⟨hb0, hC0, hT0, fun s hs => by rw [doneL_zero]; exact hM0 s hs⟩ ?round ?done ?stop
      case round =>
        intro yl i W hi hl hI
        unfold encM
        obtain ⟨s, j, hs, hj, rfl⟩ := cnt_inv a.states i hi
        rw [mvAt_eq a.states s j hs hj]
        have HNONE : Hid (rdGet (doneL a.states (cnt a.states s + j) s) a.states[s][j].r = none) := by
          have h : rdGet (doneL a.states (cnt a.states s + j) s) a.states[s][j].r = none := by rw [doneL_at _ _ _ hs]; exact rdGet_none (nodup_take hj (HD.out s hs j hj))
          exact h
        have HSAME := Lib.hid (doneL_same a.states s j hs hj)
        generalize a.states[s][j] = m at HNONE HSAME
        dsimp only
        have HI := Lib.hid hI; clear hI
        have hszW := HI.out.1.size
        gi_wp2
        refine ⟨Bod.of_below (fun k hk => Nat.lt_of_lt_of_le hk hszW) (by go_grown), (fun W' => Below w.heap.size w W' ∧ W'.heap[w.heap.size + 1]? = some (.cells (tabCells (w.heap.size + 3) a.states.length a.states.length) 196) ∧ W'.heap[w.heap.size + 1 + 1]? = some (.cells #[.slice (some ⟨w.heap.size + 1, 0, none⟩) a.states.length a.states.length] 194) ∧ W'.heap[W.heap.size]? = some (.cells #[.int .i64 m.r.g.n, .int .i64 m.r.g.h0, .int .i64 m.r.g.h1, .int .i64 m.r.g.h2, .int .i64 m.r.g.h3, .int .i64 m.r.g.h4, .int .i64 m.r.f, .int .i64 m.to] 89) ∧ ∀ t, t < a.states.length → MapIs W' (w.heap.size + 3 + t) (doneL a.states (cnt a.states s + j) t)),
          (Sta.below hb0.size).and (Sta.cells.and (Sta.cells.and (Sta.cells.and (fun A A' c x s hs => (x s hs).chg c (by rw [HZ0.out]; omega))))), ⟨HI.out.1.alloc hszW _, alloc_old _ HI.out.2.1, alloc_old _ HI.out.2.2.1, alloc_new _ _, fun t ht => (HI.out.2.2.2 t ht).kept (Below.heap_alloc _ _ _ (HI.out.2.2.2 t ht).lt)⟩, fun W2 h2 _ => ?_⟩
        obtain ⟨g1, g2, g3, g4, g5⟩ := h2
        have t3 := cell_block g3
        have tM := cell_block g4
        have tC := cell_block g2 s
        rw [tabCells_get _ _ _ _ hs, if_pos hs] at tC
        have hup := update_rd (w := W2.drew) (b := w.heap.size + 3 + s) (f := doneL a.states (cnt a.states s + j) s) (g5 s hs) m.r m.to HNONE.out
        obtain ⟨o, hup1, hup2⟩ := hup
        have HG := Lib.hid (And.intro g1 (And.intro g2 (And.intro g3 (And.intro g4 g5))))
        have HUP2 := Lib.hid hup2
        clear g1 g2 g3 g4 g5 hup2 hseq hC0 hT0 hX0 hM0
        gi_wp2
        refine round_region_tail' 8 (fun ⟨_, _, h⟩ => h) (by kernel_rfl) (by kernel_rfl) (by kernel_rfl) (fun ops Lq hops hLq => ?_)
        simp only [List.take_succ_cons, List.take_zero, List.drop_succ_cons, List.drop_zero] at hLq ⊢
        have HLQ := Lib.hid hLq; clear hLq
        have HOPS := Lib.hid hops; clear hops
        repeat still_step
        refine wpStill_nil ?_
        refine HLQ.out _ ?_
        go_wp2_with fail
        obtain ⟨g1, g2, g3, g4, g5⟩ := HG.out
        have hz := HZ0.out
        refine ⟨⟨by simp, fun k hk => World.putObj_heap_other (by omega), fun k x hk hx _ => (World.putObj_heap_other (by omega)).trans hx⟩, below_put (by omega) g1.drew, (World.putObj_heap_other (by omega)).trans g2, (World.putObj_heap_other (by omega)).trans g3, fun t ht => ?_⟩
        by_cases e : t = s
        · subst e
          rw [HSAME.out]; exact HUP2.out
        · rw [doneL_other a.states s j t hs hj ht e]
          exact (g5 t ht).kept (World.putObj_heap_other (by omega))
      case done =>
        intro D W hD hI hK
        obtain ⟨g1, g2, g3, g4⟩ := hI
        have HG := Lib.hid (And.intro g1 (And.intro g2 (And.intro g3 g4)))
        have t3 := cell_block g3
        clear g1 g2 g3 g4 hseq hC0 hT0 hX0 hM0
        go_wp2_with fail
        refine marks_ret hK (results_tmp rfl _ _ _) ?_
        obtain ⟨g1, g2, g3, g4⟩ := HG.out
        have hz := HZ0.out
        refine ⟨_, rfl, ⟨w.heap.size + 1, rfl, fun s hs => ⟨w.heap.size + 3 + s, ?_, ?_⟩⟩, below_put (by omega) g1⟩
        · rw [cell_block ((World.putObj_heap_other (by omega)).trans g2), tabCells_get _ _ _ _ hs, if_pos hs]
        · have h4 := g4 s hs
          rw [doneL_all _ _ hs] at h4
          exact h4.kept (World.putObj_heap_other (by omega))
      case stop =>
        intro D c i W _ _ h
        exact h.elim
end Go.Proofs.YtjmejfgkogjpaaaGreat

namespace Go.Proofs.YtjmejfgkogjpaaaGreat
open Go.RowKit Go Go.Shelf

theorem MapIs.up {w w' : World} {b : Nat} {f : List (Rd × Int)} (h : MapIs w b f) (hb : Below w.heap.size w w') : MapIs w' b f := h.kept (hb.block _ h.lt)
theorem TableIs.up {w w' : World} {v : Value} {l : List (List Mv)} (h : TableIs w v l) (hb : Below w.heap.size w w') : TableIs w' v l := by
  obtain ⟨B, rfl, h⟩ := h
  refine ⟨B, rfl, fun s hs => ?_⟩
  obtain ⟨b, h1, h2⟩ := h s hs
  exact ⟨b, cell_up hb h1, h2.up hb⟩
theorem rdGet_map (l : List Mv) (r : Rd) : rdGet (l.map fun m => (m.r, m.to)) r = (l.find? fun m => decide (r = m.r)).map (·.to) := by
  unfold rdGet
  rw [List.find?_map]
  simp only [Option.map_map]
  rfl
theorem toS_get (a : Adv) (s : Nat) (hs : s < a.states.length) (r : Rd) : toS a s r = (rdGet (a.states[s].map fun m => (m.r, m.to)) r).getD (-1) := by
  unfold toS
  rw [rdGet_map, Int.toNat_natCast, getD_of_lt [] hs]

theorem get_ok {a : Adv} (h : ∀ s, s < a.states.length → stateE a (a.states.getD s []) = 0) {s : Nat} (hs : s < a.states.length) {r : Rd} {x : Int} (hg : rdGet (a.states[s].map fun m => (m.r, m.to)) r = some x) : 0 ≤ x ∧ x < a.states.length := by
  rw [rdGet_map] at hg
  cases hf : a.states[s].find? (fun m => decide (r = m.r)) with
  | none => rw [hf] at hg; simp at hg
  | some m =>
    rw [hf] at hg
    have hm := List.mem_of_find?_eq_some hf
    obtain ⟨j, hj, rfl⟩ := List.getElem_of_mem hm
    simp only [Option.map_some, Option.some.injEq] at hg
    rw [← hg]
    exact (states_ok h hs hj).2
theorem ret_pair {k l : IntKind} {a b c d : Int} (h1 : a = b) (h2 : c = d) : Ending.returned (.tuple #[.int k a, .int l c]) = .returned (.tuple #[.int k b, .int l d]) := by rw [h1, h2]

def stateR (a : Adv) (word : List Rd) : Int × Int := if advE a ≠ 0 then (0, advE a) else if afterS a 0 word < 0 then (0, 25) else (afterS a 0 word, 0)

theorem afterS_drop (a : Adv) (s : Int) (word : List Rd) (k : Nat) (hk : k < word.length) : afterS a s (word.drop k) = if toS a s word[k] < 0 then -1 else afterS a (toS a s word[k]) (word.drop (k + 1)) := by
  rw [drop_cons hk, afterS]

set_option maxRecDepth 100000 in
set_option maxHeartbeats 4000000 in
theorem state2_any (a : Adv) (v u : Value) (word : List Rd) (w : World) (hv : IsStates w v a.states) (hu : IsWord w u word) (hN : movesN a.states < 1099511627776) :
    Calls Tryz.prog 112 #[.agg #[.int .i64 a.n, v], u] w fun e w' => e = .returned (.tuple #[.int .i64 (stateR a word).1, .int .i64 (stateR a word).2]) ∧ Below w.heap.size w w' := by
  have G := Lib.hid hv
  obtain ⟨pa, ca, rfl, la1, la2, _⟩ := hv.at
  obtain ⟨pu, cu, rfl, lu1, lu2, eu⟩ := hu.at
  clear hv hu
  have EU := Lib.hid eu; clear eu
  go_enter Tryz.func112, Tryz.ntmps112
  go_wp2_with fail
  refine calls_gen (fun W => Below w.heap.size w W ∧ W.heap[w.heap.size]? = some (.cells #[.int .i64 a.n, .slice pa a.states.length ca] 27)) ⟨by go_grown, alloc_new _ _⟩ (fun W0 hW0 => ?_)
  obtain ⟨hb0, hA0⟩ := hW0
  refine (advCheck_any a _ W0 (G.out.up up_moves hb0) hN).mono ?_
  rintro e w1 ⟨rfl, hb1⟩
  have hb1' := ext_trans hb0 hb1
  have hA1 := block_up hb1 hA0
  have t1 := cell_block hA1
  by_cases he : advE a = 0
  case neg =>
    have HV : Hid (stateR a word = (0, advE a)) := by (have h : stateR a word = (0, advE a) := by (unfold stateR; rw [if_pos he])); exact h
    generalize advE a = ea at he HV
    have he' : (ea != 0) = true := by simpa using he
    clear hA1 hA0
    go_wp2_with fail
    go_ret2
    refine ⟨ret_pair ?_ ?_, hb1'⟩ <;> rw [HV.out]
  have HV : Hid (stateR a word = if afterS a 0 word < 0 then (0, 25) else (afterS a 0 word, 0)) := by (have h : stateR a word = if afterS a 0 word < 0 then (0, 25) else (afterS a 0 word, 0) := by (unfold stateR; rw [if_neg (by simpa using he)])); exact h
  obtain ⟨⟨hs1, hs2⟩, hst, _⟩ := adv_ok he
  rw [he]
  have HST := Lib.hid hst; clear hst he
  have HA1 := Lib.hid hA1; clear hA1 hA0
  go_wp2_with fail
  refine (index_any a _ w1 (G.out.up up_moves hb1') hs1 hs2 (rounds_differ HST.out)).mono ?_
  rintro e w2 ⟨ut, rfl, htab, hb2⟩
  have hb2' := ext_trans hb1' hb2
  have HTAB := Lib.hid htab
  obtain ⟨B, rfl, _⟩ := htab
  clear t1 hb2 hb1 hb0 W0
  go_wp2_with fail
  go_loopw [8, 22] (fun st i wr => Below w2.heap.size w2 wr ∧ ∃ (k s : Nat), k ≤ word.length ∧ i = .int .i64 k ∧ s < a.states.length ∧ st = .int .i64 s ∧ afterS a 0 word = afterS a s (word.drop k)) (fun _ i _ => word.length - (intOf i).toNat)
  case atStart => exact ⟨Below.refl _ _, 0, 0, by omega, rfl, by omega, rfl, by simp⟩
  case round =>
    obtain ⟨hbr, k, s, hk, rfl, hs, rfl, hinv⟩ := hrel
    have H := Lib.hid hinv; clear hinv
    have hbW := ext_trans hb2' hbr
    by_cases hlt : k < word.length
    · obtain ⟨b1, o1, rfl, ⟨c0, _⟩, ⟨c1, _⟩, ⟨c2, _⟩, ⟨c3, _⟩, ⟨c4, _⟩, ⟨c5, _⟩, ⟨c6, _⟩⟩ := EU.out k hlt
      have d0 := cell_up hbW c0
      have d1 := cell_up hbW c1
      have d2 := cell_up hbW c2
      have d3 := cell_up hbW c3
      have d4 := cell_up hbW c4
      have d5 := cell_up hbW c5
      have d6 := cell_up hbW c6
      clear c0 c1 c2 c3 c4 c5 c6
      have HSTEP := Lib.hid (afterS_drop a s word k hlt)
      generalize word[k] = r at d0 d1 d2 d3 d4 d5 d6 HSTEP
      have HRNG := Lib.hid (toS_range HST.out s hs r)
      obtain ⟨b, hcb, hmb⟩ := (by obtain ⟨B', e, h⟩ := HTAB.out; cases e; exact h s hs : ∃ b, w2.cell? ⟨B, s, none⟩ = some (.map (some b)) ∧ MapIs w2 b (a.states[s].map fun m => (m.r, m.to)))
      have HGET := Lib.hid (toS_get a s hs r)
      go_wp2_with fail
      clear d0 d1 d2 d3 d4 d5 d6
      refine wp_gen (fun W => Below wr.heap.size wr W ∧ W.heap[wr.heap.size]? = some (.cells #[.int .i64 r.g.n, .int .i64 r.g.h0, .int .i64 r.g.h1, .int .i64 r.g.h2, .int .i64 r.g.h3, .int .i64 r.g.h4, .int .i64 r.f] 64)) ⟨by go_grown, alloc_new _ _⟩ (fun V hV => ?_)
      obtain ⟨hbV, hR⟩ := hV
      have k1 : ∀ x : ExtW V, ∀ o, x.val.cell? ⟨wr.heap.size, o, none⟩ = _ := fun x => cell_block (block_up x.ext hR)
      have k2 : ∀ x : ExtW V, x.val.cell? ⟨B, s, none⟩ = some (.map (some b)) := fun x => x.cell (cell_up (ext_trans hbr hbV) hcb)
      have hmx : ∀ x : ExtW V, MapIs x.val b (a.states[s].map fun m => (m.r, m.to)) := fun x => hmb.up (ext_trans (ext_trans hbr hbV) x.ext)
      have HMX := Lib.hid hmx
      clear hR hcb hmb hmx
      have hsI : (s : Int) < (a.states.length : Int) := by omega
      have hs0 : (0 : Int) ≤ (s : Int) := by omega
      cases hg : rdGet (a.states[s].map fun m => (m.r, m.to)) r with
      | none =>
        have k3 : ∀ x : ExtW V, (Instr.lookup 196 (.map (some b)) r.v true).run Tryz.prog x.val = .ok (.tuple #[.int .i64 0, .bool false]) x.val := fun x => (lookup_rd (HMX.out x) r).1 hg
        have HT : Hid (toS a s r = -1) := by (have h : toS a s r = -1 := by (rw [HGET.out, hg]; rfl)); exact h
        clear hg
        refine wp_region_quiet_ext (by kernel_rfl) (by kernel_rfl) ?_
        repeat (go_big_quiet_step (fail))
        refine wpQuiet_nil ?_
        intro _ hw'
        obtain ⟨xq, hw''⟩ := hw'
        subst hw''
        clear k1 k2 k3
        go_wp2_with fail
        go_ret2
        refine ⟨ret_pair ?_ ?_, ext_trans (ext_trans hbW hbV) xq.ext⟩ <;> (rw [HV.out, H.out, HSTEP.out, HT.out]; rfl)
      | some x0 =>
        have k3 : ∀ x : ExtW V, (Instr.lookup 196 (.map (some b)) r.v true).run Tryz.prog x.val = .ok (.tuple #[.int .i64 x0, .bool true]) x.val := fun x => (lookup_rd (HMX.out x) r).2 x0 hg
        have HT : Hid (toS a s r = x0) := by (have h : toS a s r = x0 := by (rw [HGET.out, hg]; rfl)); exact h
        obtain ⟨hx0, hx1⟩ := get_ok HST.out hs hg
        clear hg
        refine wp_region_quiet_ext (by kernel_rfl) (by kernel_rfl) ?_
        repeat (go_big_quiet_step (fail))
        refine wpQuiet_nil ?_
        intro _ hw'
        obtain ⟨xq, hw''⟩ := hw'
        subst hw''
        clear k1 k2 k3
        go_wp2_with fail
        go_roundw
        case rel =>
          refine ⟨ext_trans (ext_trans hbr hbV) xq.ext, k + 1, x0.toNat, by omega, by go_num, by omega, by rw [Int.toNat_of_nonneg hx0], ?_⟩
          rw [H.out, HSTEP.out, HT.out, if_neg (by omega), Int.toNat_of_nonneg hx0]
        case measure => simp [intOf]; omega
    · go_wp2_with fail
      go_ret2
      refine ⟨ret_pair ?_ ?_, hbW⟩ <;>
      · rw [HV.out, H.out, List.drop_of_length_le (by omega), afterS, if_neg (by omega)]

def allowsR (a : Adv) (word : List Rd) : Bool × Int := if advE a ≠ 0 then (false, advE a) else (decide (0 ≤ afterS a 0 word), 0)
theorem ret_bpair {l : IntKind} {a b : Bool} {c d : Int} (h1 : a = b) (h2 : c = d) : Ending.returned (.tuple #[.bool a, .int l c]) = .returned (.tuple #[.bool b, .int l d]) := by rw [h1, h2]

set_option maxHeartbeats 1000000 in
theorem allows_any (a : Adv) (v u : Value) (word : List Rd) (w : World) (hv : IsStates w v a.states) (hu : IsWord w u word) (hN : movesN a.states < 1099511627776) (hne : advE a ≠ 25) :
    Calls Tryz.prog 85 #[.agg #[.int .i64 a.n, v], u] w fun e w' => e = .returned (.tuple #[.bool (allowsR a word).1, .int .i64 (allowsR a word).2]) ∧ Below w.heap.size w w' := by
  have hb0 : Below w.heap.size w (w.alloc (.cells #[.int .i64 a.n, v] 27)) := by go_grown
  have HC := Lib.hid (state2_any a v u word _ (hv.up up_moves hb0) (hu.up up_round hb0) hN)
  obtain ⟨pa, ca, rfl, _⟩ := hv.at
  obtain ⟨pu, cu, rfl, _⟩ := hu.at
  clear hv hu
  go_enter Tryz.func85, Tryz.ntmps85
  go_wp2_with fail
  refine HC.out.mono ?_
  rintro e w1 ⟨rfl, hb1⟩
  have hb1' := ext_trans hb0 hb1
  by_cases he : advE a = 0
  · by_cases hs : afterS a 0 word < 0
    · have h1 : stateR a word = (0, 25) := by unfold stateR; rw [if_neg (by simpa using he), if_pos hs]
      have HV : Hid (allowsR a word = (false, 0)) := by (have h : allowsR a word = (false, 0) := by (unfold allowsR; rw [if_neg (by simpa using he)]; simp; omega)); exact h
      rw [h1]
      clear h1 he hs hne
      go_wp2_with fail
      go_ret2
      refine ⟨ret_bpair ?_ ?_, hb1'⟩ <;> rw [HV.out]
    · have h1 : stateR a word = (afterS a 0 word, 0) := by unfold stateR; rw [if_neg (by simpa using he), if_neg hs]
      have HV : Hid (allowsR a word = (true, 0)) := by (have h : allowsR a word = (true, 0) := by (unfold allowsR; rw [if_neg (by simpa using he)]; simp; omega)); exact h
      rw [h1]
      clear h1 he hs hne
      go_wp2_with fail
      go_ret2
      refine ⟨ret_bpair ?_ ?_, hb1'⟩ <;> rw [HV.out]
  · have h1 : stateR a word = (0, advE a) := by unfold stateR; rw [if_pos he]
    have HV : Hid (allowsR a word = (false, advE a)) := by (have h : allowsR a word = (false, advE a) := by (unfold allowsR; rw [if_pos he])); exact h
    rw [h1]
    generalize advE a = ea at he hne HV
    have he1 : (ea == 0) = false := by simpa using he
    have he2 : (ea == 25) = false := by simpa using hne
    clear h1 he hne
    go_wp2_with fail
    go_ret2
    refine ⟨ret_bpair ?_ ?_, hb1'⟩ <;> rw [HV.out]

end Go.Proofs.YtjmejfgkogjpaaaGreat

namespace Go.Proofs.YtjmejfgkogjpaaaGreat
open Go.RowKit Go Go.Shelf

abbrev pbV (p : Pb) (vc vs : Value) : Value := .agg #[.int .i64 p.t.n, .int .i64 p.t.ins, .int .i64 p.t.outs, vc, .int .i64 p.a.n, vs, .int .i64 p.rounds]

set_option maxHeartbeats 1000000 in
theorem execCheck_any (p : Pb) (vc vs : Value) (w : World) (hc : IsCases w vc p.t.cases) (hs : IsStates w vs p.a.states) (hN : movesN p.a.states < 1099511627776) :
    Calls Tryz.prog 18 #[pbV p vc vs] w fun e w' => e = .returned (.int .i64 (probE p)) ∧ Below w.heap.size w w' := by
  have GC := Lib.hid hc
  have GS := Lib.hid hs
  obtain ⟨pc, cc, rfl, _⟩ := hc.at
  obtain ⟨ps, cs, rfl, _⟩ := hs.at
  clear hc hs
  have HV : Hid (probE p = if taskE p.t ≠ 0 then taskE p.t else if advE p.a ≠ 0 then advE p.a else if p.t.n ≠ p.a.n then 22 else if p.rounds < 0 ∨ 6 < p.rounds then 2 else 0) := by exact rfl
  go_enter Tryz.func18, Tryz.ntmps18
  go_wp2_with fail
  refine calls_gen (fun W => Below w.heap.size w W ∧ W.heap[w.heap.size]? = some (.cells #[.int .i64 p.t.n, .int .i64 p.t.ins, .int .i64 p.t.outs, .slice pc p.t.cases.length cc, .int .i64 p.a.n, .slice ps p.a.states.length cs, .int .i64 p.rounds] 29)) ⟨by go_grown, alloc_new _ _⟩ (fun W0 hW0 => ?_)
  obtain ⟨hb0, hA0⟩ := hW0
  refine (taskCheck_any p.t _ W0 (GC.out.up up_case hb0)).mono ?_
  rintro e w1 ⟨rfl, hb1⟩
  have hb1' := ext_trans hb0 hb1
  have hA1 := block_up hb1 hA0
  have t1 := cell_block hA1
  generalize taskE p.t = et at HV
  have HA1 := Lib.hid hA1; clear hA1 hA0
  by_cases het : et = 0
  case neg =>
    have het' : (et != 0) = true := by simpa using het
    go_wp2_with fail
    go_ret
    exact ⟨ret_int (by rw [HV.out, if_pos het]), hb1'⟩
  subst het
  go_wp2_with fail
  refine (advCheck_any p.a _ w1 (GS.out.up up_moves hb1') hN).mono ?_
  rintro e w2 ⟨rfl, hb2⟩
  have hb2' := ext_trans hb1' hb2
  have t2 := cell_block (block_up hb2 HA1.out)
  clear t1
  generalize advE p.a = ea at HV
  by_cases hea : ea = 0
  case neg =>
    have hea' : (ea != 0) = true := by simpa using hea
    go_wp2_with fail
    go_ret
    exact ⟨ret_int (by rw [HV.out, if_neg (by simp), if_pos hea]), hb2'⟩
  subst hea
  go_wp2_with fail
  all_goals
    go_ret
    refine ⟨ret_int ?_, hb2'⟩
    rw [HV.out]
    go_light
    grind

def findE (t : Tk) (inp : List Int) : Int := firstIx t.cases.length fun i => eqV (t.cases.getD i default).inp inp

def findR (t : Tk) (inp : List Int) : Int × Int := if findE t inp < 0 then (0, 6) else (findE t inp, 0)

set_option maxHeartbeats 400000 in
theorem find1_any (x0 x1 x2 v : Value) (y z : List Int) (y1 y2 : List (List Int)) (B : Nat) (W : World) (hc : W.cell? ⟨B, 0, none⟩ = some v) (hx : IsInts W x0 y) (hx1 : IsVecs W x1 y1) (hx2 : IsVecs W x2 y2) (hv : IsInts W v z) :
    Calls Tryz.prog 47 #[.agg #[x0, x1, x2], .pointer (some ⟨B, 0, none⟩)] W fun e W' => e = .returned (.bool (eqV y z)) ∧ Below W.heap.size W W' := by
  have hb0 : Below W.heap.size W (W.alloc (.cells #[x0, x1, x2] 83)) := by go_grown
  have HC := Lib.hid (slicesEqual_any x0 v y z _ (hx.up up_int hb0) (hv.up up_int hb0))
  have hB := cell_lt hc
  dsimp only at hB
  obtain ⟨_, _, rfl, _⟩ := hv
  obtain ⟨_, _, rfl, _⟩ := hx
  obtain ⟨_, _, rfl, _⟩ := hx1
  obtain ⟨_, _, rfl, _⟩ := hx2
  go_enter Tryz.func47, Tryz.ntmps47
  go_wp2_with fail
  refine HC.out.mono ?_
  rintro e w1 ⟨rfl, hb1⟩
  go_wp2_with fail
  go_ret
  exact ⟨rfl, ext_trans hb0 hb1⟩

set_option maxHeartbeats 1000000 in
theorem find_any (t : Tk) (vc vi : Value) (inp : List Int) (w : World) (hc : IsCases w vc t.cases) (hi : IsInts w vi inp) :
    Calls Tryz.prog 21 #[.agg #[.int .i64 t.n, .int .i64 t.ins, .int .i64 t.outs, vc], vi] w fun e w' => e = .returned (.tuple #[.int .i64 (findR t inp).1, .int .i64 (findR t inp).2]) ∧ Below w.heap.size w w' := by
  have hb0 : Below w.heap.size w ((w.alloc (.cells #[.int .i64 t.n, .int .i64 t.ins, .int .i64 t.outs, vc] 24)).alloc (.cells #[vi] 36)) := by go_grown
  have hcon := indexFuncCases_any 47 #[.pointer (some ⟨w.heap.size + 1, 0, none⟩)] (enters_of Tryz.func47 (by kernel_rfl) rfl) vc t.cases (fun i => eqV (t.cases.getD i default).inp inp)
    ((w.alloc (.cells #[.int .i64 t.n, .int .i64 t.ins, .int .i64 t.outs, vc] 24)).alloc (.cells #[vi] 36)) (hc.up up_case hb0) (fun i hlt x0 x1 x2 h0 h1 h2 W hW => by
      rw [getD_of_lt default hlt]
      exact find1_any _ _ _ _ _ _ _ _ _ _ (cell_up hW (by simp [cell_block (alloc2_new w _ _)])) (h0.up up_int hW) (h1.up up_ints hW) (h2.up up_ints hW) ((hi.up up_int hb0).up up_int hW))
  have HF : Hid (findE t inp = firstIx t.cases.length (fun i => eqV (t.cases.getD i default).inp inp)) := by exact rfl
  have hlo := firstIx_cases t.cases.length (fun i => eqV (t.cases.getD i default).inp inp)
  have hlo' : -1 ≤ firstIx t.cases.length (fun i => eqV (t.cases.getD i default).inp inp) := by rcases hlo with h | ⟨k, _, h, _⟩ <;> omega
  clear hlo
  generalize firstIx t.cases.length (fun i => eqV (t.cases.getD i default).inp inp) = r at hcon HF hlo'
  have HC := Lib.hid hcon; clear hcon
  obtain ⟨_, _, rfl, _⟩ := hc
  obtain ⟨_, _, rfl, _⟩ := hi
  go_enter Tryz.func21, Tryz.ntmps21
  go_wp2_with fail
  refine HC.out.mono ?_
  rintro e w1 ⟨rfl, hb1⟩
  by_cases hr : r < 0
  · have HR : Hid (findR t inp = (0, 6)) := by (have h : findR t inp = (0, 6) := by (unfold findR; rw [HF.out, if_pos hr])); exact h
    go_wp2_with fail
    go_ret2
    refine ⟨ret_pair ?_ ?_, ext_trans hb0 hb1⟩ <;> rw [HR.out]
  · have HR : Hid (findR t inp = (r, 0)) := by (have h : findR t inp = (r, 0) := by (unfold findR; rw [HF.out, if_neg hr])); exact h
    go_wp2_with fail
    go_ret2
    refine ⟨ret_pair ?_ ?_, ext_trans hb0 hb1⟩ <;> rw [HR.out]

end Go.Proofs.YtjmejfgkogjpaaaGreat

namespace Go.Proofs.YtjmejfgkogjpaaaGreat
open Go.RowKit Go Go.Shelf
attribute [local go_sem] Oper.semAt_some

abbrev scC (p : Pb) (vc vs : Value) (i : Int) (u d : Value) (f : Int) : Array Value := #[.int .i64 p.t.n, .int .i64 p.t.ins, .int .i64 p.t.outs, vc, .int .i64 p.a.n, vs, .int .i64 p.rounds, .int .i64 i, u, d, .int .i64 f]

set_option maxHeartbeats 1000000 in
theorem newScene_any (p : Pb) (pc : Option Addr) (nc cc : Nat) (ps : Option Addr) (ns cs : Nat) (i : Int) (u : Value) (word : List Rd) (pd : Option Addr) (nd cd : Nat) (w : World) (hu : IsWord w u word) :
    Calls Tryz.prog 23 #[pbV p (.slice pc nc cc) (.slice ps ns cs), .int .i64 i, u, .slice pd nd cd] w fun e w' => e = .returned (.agg (scC p (.slice pc nc cc) (.slice ps ns cs) i u (.slice pd nd cd) (faultyS word))) ∧ Below w.heap.size w w' := by
  obtain ⟨pu, cu, rfl, lu1, lu2, eu⟩ := hu.at
  clear hu
  by_cases h0 : word.length = 0
  · have HF : Hid (faultyS word = 0) := by (have h : faultyS word = 0 := by (unfold faultyS; rw [if_pos h0])); exact h
    have hd2 : decide (0 < word.length) = false := by simp [h0]
    have hd1 : decide ((0 : Int) < (word.length : Int)) = false := by simp [h0]
    have H0 := Lib.hid h0; clear h0 eu
    go_enter Tryz.func23, Tryz.ntmps23
    go_wp2_with fail
    refine bodyPost_ret (v := .agg (scC p (.slice pc nc cc) (.slice ps ns cs) i (.slice pu word.length cu) (.slice pd nd cd) 0)) (by simp [results, Tryz.results23, go_sem]) rfl ?_
    exact ⟨by rw [HF.out], by go_grown⟩
  · have h1 : 1 ≤ word.length := by omega
    obtain ⟨b1, o1, rfl, _, _, _, _, _, _, ⟨c6, _⟩⟩ := eu (word.length - 1) (by omega)
    have HF : Hid (faultyS word = word[word.length - 1].f) := by
      have h : faultyS word = word[word.length - 1].f := by
        unfold faultyS; rw [if_neg h0, getD_of_lt default (by omega)]
      exact h
    generalize word[word.length - 1] = r at c6 HF
    have hb1 := cell_lt c6
    dsimp only at hb1
    have hb2 : b1 < w.heap.size + 1 := by omega
    have hb3 : b1 < w.heap.size + 1 + 1 := by omega
    clear eu h0
    go_enter Tryz.func23, Tryz.ntmps23
    go_wp2_with fail
    refine bodyPost_ret (v := .agg (scC p (.slice pc nc cc) (.slice ps ns cs) i (.slice (some ⟨b1, o1, none⟩) word.length cu) (.slice pd nd cd) r.f)) (by simp [results, Tryz.results23, go_sem]) rfl ?_
    exact ⟨by rw [HF.out], by go_grown⟩

set_option maxHeartbeats 400000 in
theorem obliged_any (p : Pb) (pc : Option Addr) (nc cc : Nat) (ps : Option Addr) (ns cs : Nat) (i : Int) (pu : Option Addr) (nu cu : Nat) (pd : Option Addr) (nd cd : Nat) (f : Int) (w : World) :
    Calls Tryz.prog 86 #[.agg (scC p (.slice pc nc cc) (.slice ps ns cs) i (.slice pu nu cu) (.slice pd nd cd) f)] w fun e w' => e = .returned (.func (.func 113) #[] #[.pointer (some ⟨w.heap.size, 0, none⟩)]) ∧ w' = w.alloc (.cells (scC p (.slice pc nc cc) (.slice ps ns cs) i (.slice pu nu cu) (.slice pd nd cd) f) 75) := by
  go_enter Tryz.func86, Tryz.ntmps86
  go_wp2
  go_ret
  exact ⟨rfl, rfl⟩

def encO (n : Nat) (f : Int) (i : Nat) : Array Value := #[.int .i64 ((oblL n f).getD i 0)]

set_option maxHeartbeats 2000000 in
theorem obliged1_seq (p : Pb) (vc vs : Value) (ix : Int) (u d : Value) (f : Int) (n : Nat) (hn : p.t.n = n) (hn5 : n ≤ 5) (w : World) (Bx : Nat) (hx : w.heap[Bx]? = some (.cells (scC p vc vs ix u d f) 75)) :
    SeqIx Tryz.prog 113 #[.pointer (some ⟨Bx, 0, none⟩)] (encO n f) (oblL n f).length (fun k => k = Bx) w := by
  intro yl J Jx W hW hJ hJx hY h0
  have hx1 := block_up hW hx
  clear hx hW
  have HN := Lib.hid hn; 
  have HJ := Lib.hid hJ; clear hJ
  have HJX := Lib.hid hJx; clear hJx
  have HY := Lib.hid hY; clear hY
  have t1 := cell_block hx1
  refine (callsIn_wide (n := 0)).1 ?_
  refine callsIn_of_wp Tryz.func113 rfl trivial ?_ rfl
  simp only [Tryz.ntmps113, List.size_toArray, List.length_cons, List.length_nil, Nat.reduceAdd, Nat.reduceSub, Array.replicate_succ, Array.replicate_zero, List.push_toArray, List.append_toArray, List.nil_append, List.cons_append]
  gi_wp2
  clear t1 hn
  gi_loopw [8] (fun i wr => ∃ q : Nat, q ≤ n ∧ i = .int .i64 q ∧ wr.heap[Bx]? = some (.cells (scC p vc vs ix u d f) 75) ∧ J (oblL q f).length wr) (fun i _ => n - (intOf i).toNat)
  case atStart => exact ⟨0, by omega, rfl, hx1, h0⟩
  case round =>
    obtain ⟨q, hq, rfl, hxr, hj⟩ := hrel
    have HJR := Lib.hid hj; clear hj
    have HXR := Lib.hid hxr
    have t1 := cell_block hxr
    clear hxr
    have hbit := hasB_and1 f q
    by_cases hlt : q < n
    · cases hb : hasB f q with
      | true =>
        have HB := Lib.hid hb
        rw [hb] at hbit
        clear hb
        gi_wp2
        refine ⟨fun _ h => (by cases h), ?_⟩
        gi_wp2
        go_roundw
        case rel => exact ⟨q + 1, by omega, by go_num, HXR.out, by rw [oblL_succ, HB.out]; exact HJR.out⟩
        case measure => simp [intOf]; omega
      | false =>
        have HB := Lib.hid hb
        rw [hb] at hbit
        clear hb
        have hat := oblL_at f hlt HB.out
        obtain ⟨fn, tmps, assign, body, hy, hR⟩ := HY.out (oblL q f).length wr (by have := (List.getElem?_eq_some_iff.1 hat).1; exact this) HJR.out
        have hen : encO n f (oblL q f).length = #[.int .i64 q] := by unfold encO; rw [List.getD_eq_getElem?_getD, hat]; rfl
        rw [hen] at hy
        have HR := Lib.hid hR; clear hR hen
        have hle := (List.getElem?_eq_some_iff.1 hat).1
        clear hat
        gi_wp2
        refine ⟨rfl, HR.out.mono ?_⟩
        rintro e W3 (⟨rfl, hJ3, hz3, hk3⟩ | ⟨rfl, hJx3⟩)
        · gi_wp2
          go_roundw
          case rel => exact ⟨q + 1, by omega, by go_num, (hk3 Bx rfl).trans HXR.out, by rw [oblL_succ, HB.out]; simpa using hJ3⟩
          case measure => simp [intOf]; omega
        · gi_wp2
          refine bodyPost_ret (results_none rfl _ _ _) rfl ?_
          exact ⟨⟨_, rfl⟩, .inr ⟨_, by omega, hJx3⟩⟩
    · gi_wp2
      go_end0
      obtain rfl : q = n := by omega
      exact ⟨⟨_, rfl⟩, .inl HJR.out⟩
end Go.Proofs.YtjmejfgkogjpaaaGreat

namespace Go.Proofs.YtjmejfgkogjpaaaGreat
open Go.RowKit Go Go.Shelf
attribute [local go_sem] Oper.semAt_some

theorem two_results (tmps : Array Value) (f : Func) (hf : f.results = #[.cell 2 3, .cell 3 4]) (B C : Nat) (W : World) (x : Int) (b : Bool) (ty ty' : TypeId) (h1 : tmps[2]?.getD undef = .pointer (some ⟨B, 0, none⟩)) (h2 : tmps[3]?.getD undef = .pointer (some ⟨C, 0, none⟩))
    (hb : W.heap[B]? = some (.cells #[.int .i64 x] ty)) (hc : W.heap[C]? = some (.cells #[.bool b] ty')) :
    (results f tmps).run Tryz.prog W = .ok (.tuple #[.int .i64 x, .bool b]) W := by
  have c := cell_block hb 0
  have d := cell_block hc 0
  simp at c d
  simp [results, hf, go_sem, h1, h2, c, d]
theorem ret_ib {k : IntKind} {a b : Int} {c d : Bool} (h1 : a = b) (h2 : c = d) : Ending.returned (.tuple #[.int k a, .bool c]) = .returned (.tuple #[.int k b, .bool d]) := by rw [h1, h2]

/-- the first obliged process without a decision, or -1 -/
def undecE (n : Nat) (f : Int) (d : List Int) : Int := firstObl n f fun p => decide (d.getD p 0 < 0)

def decidedTo (n : Nat) (f : Int) (dec : List Int) (q : Nat) : Prop := ∀ j, j < q → decide (dec.getD ((oblL n f).getD j 0) 0 < 0) = false

set_option maxRecDepth 100000 in
set_option maxHeartbeats 4000000 in
theorem undecided_any (p : Pb) (pc : Option Addr) (nc cc : Nat) (ps : Option Addr) (ns cs : Nat) (i : Int) (pu : Option Addr) (nu cu : Nat) (vd : Value) (dec : List Int) (f : Int) (n : Nat) (hn : p.t.n = n) (hn5 : n ≤ 5) (hl : dec.length = n) (w : World) (hd : IsInts w vd dec) :
    Calls Tryz.prog 50 #[.agg (scC p (.slice pc nc cc) (.slice ps ns cs) i (.slice pu nu cu) vd f)] w fun e w' => e = .returned (.tuple #[.int .i64 (undecE n f dec), .bool (decide (0 ≤ undecE n f dec))]) ∧ Below w.heap.size w w' := by
  obtain ⟨pd, cd, rfl, ld1, ld2, ed⟩ := hd.at
  clear hd
  have ED := Lib.hid ed; clear ed
  have HL := Lib.hid hl; clear hl
  refine calls_marks Tryz.func50 rfl ?_
  simp only [Tryz.ntmps50, List.size_toArray, List.length_cons, List.length_nil, Nat.reduceAdd, Nat.reduceSub, Array.replicate_succ, Array.replicate_zero, List.push_toArray, List.append_toArray, List.nil_append, List.cons_append]
  have HN := Lib.hid hn; clear hn
  go_wp2_with fail
  refine (obliged_any p _ _ _ _ _ _ _ _ _ _ _ _ _ _ _).mono ?_
  rintro e w1 ⟨rfl, rfl⟩
  go_wp2_with fail
  refine wp_gen (fun W => Below w.heap.size w W ∧ W.heap[w.heap.size]? = some (.cells (scC p (.slice pc nc cc) (.slice ps ns cs) i (.slice pu nu cu) (.slice pd dec.length cd) f) 75) ∧ W.heap[w.heap.size + 1]? = some (.cells #[.int .i64 0] 3) ∧ W.heap[w.heap.size + 1 + 1]? = some (.cells #[.bool false] 4) ∧ W.heap[w.heap.size + 1 + 1 + 1]? = some (.cells (scC p (.slice pc nc cc) (.slice ps ns cs) i (.slice pu nu cu) (.slice pd dec.length cd) f) 75))
    ⟨by go_grown, alloc_old _ (alloc_old _ (alloc_old _ (alloc_new _ _))), alloc_old _ (alloc_old _ (alloc2_new _ _ _)), alloc_old _ (alloc3_new _ _ _ _), by simpa using alloc_new (((w.alloc _).alloc _).alloc _) _⟩ (fun W0 hW0 => ?_)
  obtain ⟨hb0, hA, hR1, hR2, hX⟩ := hW0
  have hseq := obliged1_seq p _ _ i _ _ f n HN.out hn5 W0 (w.heap.size + 1 + 1 + 1) hX
  have hsz := block_lt hX
  refine wp_range (gf := 113) (lb := #[.pointer (some ⟨w.heap.size + 1 + 1 + 1, 0, none⟩)]) rfl (enters_of Tryz.func113 (by kernel_rfl) rfl) hseq (Below.refl _ _) (fun k hk => by subst hk; exact hsz) (fun i => rfl)
    (fun q W => Below w.heap.size w W ∧ W.heap[w.heap.size]? = some (.cells (scC p (.slice pc nc cc) (.slice ps ns cs) i (.slice pu nu cu) (.slice pd dec.length cd) f) 75) ∧ W.heap[w.heap.size + 1]? = some (.cells #[.int .i64 0] 3) ∧ W.heap[w.heap.size + 1 + 1]? = some (.cells #[.bool false] 4) ∧ decidedTo n f dec q)
    (fun c _ W => c = .ret ∧ Below w.heap.size w W ∧ 0 ≤ undecE n f dec ∧ W.heap[w.heap.size + 1]? = some (.cells #[.int .i64 (undecE n f dec)] 3) ∧ W.heap[w.heap.size + 1 + 1]? = some (.cells #[.bool true] 4))
    (fun i => (Sta.below (by omega)).and (Sta.cells.and (Sta.cells.and (Sta.cells.and Sta.pure)))) (fun c i => Sta.pure.and ((Sta.below (by omega)).and (Sta.pure.and (Sta.cells.and Sta.cells)))) ⟨hb0, hA, hR1, hR2, fun j hj => by omega⟩ ?round ?done ?stop
  case round =>
    intro yl q W hq hl hI
    unfold encO
    have hob := oblL_lt hq
    have HOB : Hid ((oblL n f).getD q 0 = (oblL n f)[q]) := getD_of_lt 0 hq
    rw [getD_of_lt 0 hq]
    generalize (oblL n f)[q] = pr at hob HOB
    have HI := Lib.hid hI; clear hI
    gi_wp2
    refine ⟨Bod.refl _ _ _, _, (Sta.below (w := w) (by omega)).and (Sta.cells.and (Sta.cells.and (Sta.cells.and Sta.pure))), HI.out, fun W2 h2 _ => ?_⟩
    obtain ⟨g1, g2, g3, g4, g5⟩ := h2
    have hdl := HL.out
    have hpr : pr < dec.length := by omega
    obtain ⟨b1, o1, rfl, cx, _⟩ := ED.out pr hpr
    rw [Nat.mul_one] at cx
    have d1 := cell_up g1 cx
    have HDV : Hid (dec.getD pr 0 = dec[pr]) := getD_of_lt 0 hpr
    generalize dec[pr] = x at cx d1 HDV
    have t1 := cell_block g2
    have HG := Lib.hid (And.intro g1 (And.intro g2 (And.intro g3 (And.intro g4 g5))))
    have c3 := cell_block g3 0
    have f3 := frozen_block g3 0
    have c4 := cell_block g4 0
    have f4 := frozen_block g4 0
    simp at c3 c4
    have hs4 := block_lt g4
    clear g1 g2 g3 g4 g5 cx hseq hA hR1 hR2 hX hdl
    by_cases hx : x < 0
    · gi_wp2
      obtain ⟨g1, g2, g3, g4, g5⟩ := HG.out
      have hE : undecE n f dec = pr := by
        unfold undecE
        rw [firstObl_at (q := fun p => decide (dec.getD p 0 < 0)) hq g5 (by rw [HOB.out, HDV.out]; simpa using hx), HOB.out]
      refine ⟨(Bod.setCell _ ⟨w.heap.size + 1, 0, none⟩ _ (fun h => by dsimp only at h; omega)).trans (Bod.setCell _ ⟨w.heap.size + 1 + 1, 0, none⟩ _ (fun h => by dsimp only at h; omega)), rfl, (g1.setCell (p := ⟨w.heap.size + 1, 0, none⟩) (by dsimp only; omega) _).setCell (p := ⟨w.heap.size + 1 + 1, 0, none⟩) (by dsimp only; omega) _, by omega, ?_, ?_⟩
      · refine setCell_other (B := w.heap.size + 1 + 1) ?_ (by omega) _ _
        rw [setCell_same g3, hE]; rfl
      · rw [setCell_same (setCell_other (B := w.heap.size + 1) g4 (by omega) _ _)]; rfl
    · gi_wp2
      obtain ⟨g1, g2, g3, g4, g5⟩ := HG.out
      exact ⟨Bod.refl _ _ _, g1, g2, g3, g4, below_succ g5 (by rw [HOB.out, HDV.out]; simpa using hx)⟩
  case done =>
    intro D W hD hI hK
    obtain ⟨g1, g2, g3, g4, g5⟩ := hI
    have HG := Lib.hid (And.intro g1 (And.intro g2 (And.intro g3 (And.intro g4 g5))))
    have c3 := cell_block g3 0
    have f3 := frozen_block g3 0
    have c4 := cell_block g4 0
    have f4 := frozen_block g4 0
    simp at c3 c4
    clear g1 g2 g3 g4 g5 hseq hA hR1 hR2 hX
    go_wp2_with fail
    obtain ⟨g1, g2, g3, g4, g5⟩ := HG.out
    have hE : undecE n f dec = -1 := firstObl_none (q := fun p => decide (dec.getD p 0 < 0)) g5
    refine marks_ret (setCell_other (B := w.heap.size + 1 + 1) (setCell_other (B := w.heap.size + 1) hK (by omega) _ _) (by omega) _ _) (two_results _ _ Tryz.results50 (w.heap.size + 1) (w.heap.size + 1 + 1) _ (-1) false _ _ rfl rfl ((World.putObj_heap_other (by omega)).trans (setCell_other (B := w.heap.size + 1 + 1) (by rw [setCell_same g3]; rfl) (by omega) _ _)) ((World.putObj_heap_other (by omega)).trans (by rw [setCell_same (setCell_other (B := w.heap.size + 1) g4 (by omega) _ _)]; rfl))) ?_
    exact ⟨ret_ib hE.symm (by rw [hE]; rfl), below_put (by omega) ((g1.setCell (p := ⟨w.heap.size + 1, 0, none⟩) (by dsimp only; omega) _).setCell (p := ⟨w.heap.size + 1 + 1, 0, none⟩) (by dsimp only; omega) _)⟩
  case stop =>
    rintro D c i W hD hi ⟨rfl, g1, g2, g3, g4⟩ hK
    have HG := Lib.hid (And.intro g1 (And.intro g2 (And.intro g3 g4)))
    clear g1 g2 g3 g4 hseq hA hR1 hR2 hX
    go_wp2_with fail
    refine marks_ret hK (two_results _ _ Tryz.results50 (w.heap.size + 1) (w.heap.size + 1 + 1) _ (undecE n f dec) true _ _ rfl rfl ((World.putObj_heap_other (by omega)).trans HG.out.2.2.1) ((World.putObj_heap_other (by omega)).trans HG.out.2.2.2)) ?_
    exact ⟨ret_ib rfl (by have := HG.out.2.1; simp; omega), below_put (by omega) HG.out.1⟩
end Go.Proofs.YtjmejfgkogjpaaaGreat

namespace Go.Proofs.YtjmejfgkogjpaaaGreat

def agreesB (ps : List Nat) (dec v : List Int) : Bool := ps.all fun p => v.getD p 0 == dec.getD p 0
/-- the vectors that agree with the decisions of the first i obliged processes -/
def fS (n : Nat) (f : Int) (dec : List Int) (ls : List (List Int)) (i : Nat) : List (List Int) := ls.filter (agreesB ((oblL n f).take i) dec)
theorem fS_zero (n : Nat) (f : Int) (dec : List Int) (ls : List (List Int)) : fS n f dec ls 0 = ls := by
  unfold fS
  exact List.filter_eq_self.2 fun v _ => by simp [agreesB]
theorem fS_succ (n : Nat) (f : Int) (dec : List Int) (ls : List (List Int)) (i : Nat) (hi : i < (oblL n f).length) :
    fS n f dec ls (i + 1) = (fS n f dec ls i).filter fun v => !(v.getD (oblL n f)[i] 0 != dec.getD (oblL n f)[i] 0) := by
  unfold fS
  rw [List.filter_filter]
  refine List.filter_congr fun v _ => ?_
  unfold agreesB
  rw [List.take_succ_eq_append_getElem hi, List.all_append]
  simp [bne]
  rw [Bool.and_comm]
theorem fS_mem {n : Nat} {f : Int} {dec : List Int} {ls : List (List Int)} {i : Nat} {v : List Int} (h : v ∈ fS n f dec ls i) : v ∈ ls := (List.mem_filter.1 h).1
/-- no vector agrees with the decisions of the obliged processes up to q -/
def noneB (f : Int) (dec : List Int) (ls : List (List Int)) (q : Nat) : Bool := !(ls.any (agreesB (oblL (q + 1) f) dec))
theorem oblL_take (n : Nat) (f : Int) (i : Nat) (hi : i < (oblL n f).length) : oblL ((oblL n f)[i] + 1) f = (oblL n f).take (i + 1) := by
  have h1 := oblL_lt hi
  have h2 := oblL_prefix f (show (oblL n f)[i] + 1 ≤ n by omega)
  have h3 : (oblL ((oblL n f)[i] + 1) f).length = i + 1 := by
    have hs : oblL ((oblL n f)[i] + 1) f = oblL (oblL n f)[i] f ++ [(oblL n f)[i]] := by rw [oblL_succ, h1.2]; rfl
    have h4 := oblL_at f h1.1 h1.2
    rw [hs, List.length_append]
    have h5 : (oblL (oblL n f)[i] f).length = i := by
      obtain ⟨h6, h7⟩ := List.getElem?_eq_some_iff.1 h4
      rcases Nat.lt_trichotomy (oblL (oblL n f)[i] f).length i with h | h | h
      · have := oblL_mono n f hi h; omega
      · exact h
      · have := oblL_mono n f h6 h; omega
    simp [h5]
  have h4 := List.prefix_iff_eq_take.1 h2
  rw [h3] at h4
  exact h4
theorem noneB_obl (n : Nat) (f : Int) (dec : List Int) (ls : List (List Int)) (i : Nat) (hi : i < (oblL n f).length) : noneB f dec ls ((oblL n f).getD i 0) = decide ((fS n f dec ls (i + 1)).length = 0) := by
  rw [show (oblL n f).getD i 0 = (oblL n f)[i] by simp [hi]]
  unfold noneB fS
  rw [oblL_take n f i hi, Bool.eq_iff_iff]
  simp [List.length_eq_zero_iff, List.filter_eq_nil_iff]
/-- the first obliged process with which no allowed vector agrees, or -1 -/
def outpE (n : Nat) (f : Int) (dec : List Int) (ls : List (List Int)) : Int := firstObl n f (noneB f dec ls)

/-- the places below n that are kept -/
def keptIx (p : Nat → Bool) (n : Nat) : List Nat := (List.range n).filter fun i => !p i
theorem range_getD {α : Type} (xs : List α) (d : α) : (List.range xs.length).map (fun i => xs.getD i d) = xs := by
  apply List.ext_getElem
  · simp
  · intro i h1 h2
    simp at h1
    simp [h1]
def keptV {α : Type} (p : Nat → Bool) (xs : List α) (d : α) : List α := (keptIx p xs.length).map fun i => xs.getD i d
theorem keptV_filter {α : Type} (q : α → Bool) (xs : List α) (d : α) : keptV (fun i => q (xs.getD i d)) xs d = xs.filter fun x => !q x := by
  unfold keptV keptIx
  conv => rhs; rw [← range_getD xs d]
  rw [List.filter_map]
  rfl
end Go.Proofs.YtjmejfgkogjpaaaGreat

namespace Go.Proofs.YtjmejfgkogjpaaaGreat
open Go.RowKit Go Go.Shelf

theorem keptIx_succ (p : Nat → Bool) (n : Nat) : keptIx p (n + 1) = if p n then keptIx p n else keptIx p n ++ [n] := by
  unfold keptIx
  rw [List.range_succ, List.filter_append]
  cases h : p n <;> simp [h]
theorem keptIx_all (p : Nat → Bool) (n : Nat) (h : ∀ j, j < n → p j = false) : keptIx p n = List.range n := by
  unfold keptIx
  exact List.filter_eq_self.2 fun a ha => by simp [h a (List.mem_range.1 ha)]
theorem keptIx_lt {p : Nat → Bool} {n i : Nat} (h : i ∈ keptIx p n) : i < n ∧ p i = false := by
  simpa [keptIx] using h
theorem keptIx_le (p : Nat → Bool) (n : Nat) : (keptIx p n).length ≤ n := by
  have := List.length_filter_le (fun i => !p i) (List.range n)
  simpa [keptIx] using this
theorem setCells_row (g : Nat) (t : TypeId) : ∀ (vs : List Value) (o : Nat) (w : World) (d : Array Value), w.heap[g]? = some (.cells d t (0, 0)) →
    ∃ d' : Array Value, (w.setCells g o vs).heap[g]? = some (.cells d' t (0, 0)) ∧ d'.size = d.size ∧ (∀ j, j < o → d'[j]? = d[j]?) ∧ w.grownBy (w.setCells g o vs) (some g)
  | [], o, w, d, h => ⟨d, h, rfl, fun _ _ => rfl, ⟨rfl, rfl, rfl, Nat.le_refl _, fun _ _ _ => rfl⟩⟩
  | v :: r, o, w, d, h => by
    have h1 : (w.setCell ⟨g, o, none⟩ v).heap[g]? = some (.cells (d.setIfInBounds o v) t (0, 0)) := setCell_same h _ _
    obtain ⟨d', h2, h3, h4, h5⟩ := setCells_row g t r (o + 1) _ _ h1
    refine ⟨d', h2, by simpa using h3, fun j hj => ?_, ⟨h5.os, h5.tape, h5.output, by have h6 := h5.size; simp at h6; exact h6, fun k hk hne => ?_⟩⟩
    · rw [h4 j (by omega), Array.getElem?_setIfInBounds_ne (by omega)]
    · rw [show w.setCells g o (v :: r) = (w.setCell ⟨g, o, none⟩ v).setCells g (o + 1) r from rfl, h5.block k (by simpa using hk) hne]
      exact Below.heap_setCell _ _ _ _ (fun e => hne (by rw [e]))

set_option maxHeartbeats 1000000 in
theorem indexFuncRaw_any (g : Nat) (lb : Array Value) (eg : ∀ args w, (callFunc g args).run Tryz.prog w = .ok (.enter g args) w) (v : Value) (xs : List Value) (p : Nat → Bool) (w : World) (hv : RawSl w v xs) (hn : xs.length ≤ 17592186044416)
    (hp : ∀ i (hi : i < xs.length) W, Below w.heap.size w W → Calls Tryz.prog g (#[xs[i]] ++ lb) W fun e W' => e = .returned (.bool (p i)) ∧ Below W.heap.size W W') :
    Calls Tryz.prog 106 #[v, .func (.func g) #[] lb] w fun e w' => e = .returned (.int .i64 (firstIx xs.length p)) ∧ Below w.heap.size w w' := by
  obtain ⟨pa, ca, rfl, la1, ea, la3⟩ := hv
  have EA := Lib.hid ea; clear ea la1
  have HP := Lib.hid hp; clear hp
  have H3 := Lib.hid la3; clear la3
  go_enter Tryz.func106, Tryz.ntmps106
  go_wp2
  go_loopw [8] (fun i wr => Below w.heap.size w wr ∧ ∃ k : Nat, k ≤ xs.length ∧ i = .int .i64 k ∧ ∀ j, j < k → p j = false) (fun i _ => xs.length - (intOf i).toNat)
  case atStart => exact ⟨Below.refl _ _, 0, by omega, rfl, by simp⟩
  case round =>
    obtain ⟨hbr, k, hk, rfl, hinv⟩ := hrel
    have H := Lib.hid hinv; clear hinv
    by_cases hlt : k < xs.length
    · obtain ⟨b1, o1, rfl, h1⟩ := EA.out k _ (List.getElem?_eq_getElem hlt)
      have c1 := cell_up hbr h1
      have hcall := HP.out k hlt wr hbr
      clear h1
      generalize xs[k] = x at c1 hcall
      cases hpk : p k with
      | true =>
        rw [hpk] at hcall
        have HCALL := Lib.hid hcall; clear hcall
        have HPK := Lib.hid hpk; clear hpk
        go_wp2_with fail
        refine HCALL.out.mono ?_
        rintro e w1 ⟨rfl, hb1⟩
        go_wp2_with fail
        go_ret
        exact ⟨ret_int (firstIx_at _ _ _ hlt H.out HPK.out).symm, ext_trans hbr hb1⟩
      | false =>
        rw [hpk] at hcall
        have HCALL := Lib.hid hcall; clear hcall
        have HPK := Lib.hid hpk; clear hpk
        go_wp2_with fail
        refine HCALL.out.mono ?_
        rintro e w1 ⟨rfl, hb1⟩
        go_wp2_with fail
        go_roundw
        case rel => exact ⟨ext_trans hbr hb1, k + 1, by omega, by go_num, below_succ H.out HPK.out⟩
        case measure => simp [intOf]; omega
    · go_wp2
      go_ret
      exact ⟨ret_int (by rw [firstIx_none]; intro j hj; exact H.out j (by omega)), hbr⟩

end Go.Proofs.YtjmejfgkogjpaaaGreat

namespace Go.Proofs.YtjmejfgkogjpaaaGreat
open Go.RowKit Go Go.Shelf

theorem grown_below {w a b : World} {g : Nat} (h : w.grownBy a (some g)) (_hg : g < w.heap.size) (k : Below a.heap.size a b) : w.grownBy b (some g) :=
  ⟨k.os.trans h.os, k.tape.trans h.tape, k.output.trans h.output, Nat.le_trans h.size k.size, fun i hi hne => (k.block i (Nat.lt_of_lt_of_le hi h.size)).trans (h.block i hi hne)⟩
theorem grown_trans {w a b : World} {r : Option Nat} (h : w.grownBy a r) (k : a.grownBy b r) : w.grownBy b r :=
  ⟨k.os.trans h.os, k.tape.trans h.tape, k.output.trans h.output, Nat.le_trans h.size k.size, fun i hi hne => (k.block i (Nat.lt_of_lt_of_le hi h.size) hne).trans (h.block i hi hne)⟩
theorem grown_set (w : World) (g o : Nat) (v : Value) : w.grownBy (w.setCell ⟨g, o, none⟩ v) (some g) :=
  ⟨rfl, rfl, rfl, by simp, fun _ _ hne => Below.heap_setCell _ _ _ _ (fun e => hne (by rw [e]))⟩

/-- between two rounds of the second loop -/
structure KeptTo (p : Nat → Bool) (xs : List Value) (cur dk : Array Value) (i j : Nat) : Prop where
  lt : i < j
  len : (keptIx p j).length = i
  size : dk.size = cur.size
  low : ∀ t (_ : t < i), dk[t]? = some (xs.getD ((keptIx p j).getD t 0) undef)
  high : ∀ t, i ≤ t → dk[t]? = cur[t]?
theorem KeptTo.skip {p : Nat → Bool} {xs : List Value} {cur dk : Array Value} {i j : Nat} (h : KeptTo p xs cur dk i j) (hp : p j = true) : KeptTo p xs cur dk i (j + 1) := by
  have e : keptIx p (j + 1) = keptIx p j := by rw [keptIx_succ, hp]; rfl
  exact ⟨by have := h.lt; omega, by rw [e]; exact h.len, h.size, fun t ht => by rw [e]; exact h.low t ht, h.high⟩
theorem KeptTo.keep {p : Nat → Bool} {xs : List Value} {cur dk : Array Value} {i j : Nat} (h : KeptTo p xs cur dk i j) (hp : p j = false) (hj : j < xs.length) (hc : xs.length ≤ cur.size) : KeptTo p xs cur (dk.setIfInBounds i (xs[j])) (i + 1) (j + 1) := by
  have e : keptIx p (j + 1) = keptIx p j ++ [j] := by rw [keptIx_succ, hp]; rfl
  have hl := h.len
  have hlt := h.lt
  refine ⟨by omega, by rw [e]; simp [hl], by simp [h.size], fun t ht => ?_, fun t ht => ?_⟩
  · by_cases ht' : t = i
    · subst ht'
      rw [Array.getElem?_setIfInBounds_self_of_lt (by rw [h.size]; omega), e]
      have : (keptIx p j ++ [j]).getD t 0 = j := by simp [← hl]
      rw [this]
      simp [hj]
    · rw [Array.getElem?_setIfInBounds_ne (by omega), h.low t (by omega), e]
      have : (keptIx p j ++ [j]).getD t 0 = (keptIx p j).getD t 0 := by
        rw [List.getD_eq_getElem?_getD, List.getElem?_append_left (by omega), List.getD_eq_getElem?_getD]
      rw [this]
  · rw [Array.getElem?_setIfInBounds_ne (by omega), h.high t (by omega)]
theorem KeptTo.row {p : Nat → Bool} {xs : List Value} {cur dk d' : Array Value} {i : Nat} (h : KeptTo p xs cur dk i xs.length) (hc : xs.length ≤ cur.size) (hs : d'.size = dk.size) (hd : ∀ t, t < i → d'[t]? = dk[t]?) : d'.toList.take i = keptV p xs undef := by
  have hl := h.len
  have hlt := h.lt
  have hsz := h.size
  apply List.ext_getElem?
  intro t
  by_cases ht : t < i
  · rw [List.getElem?_take_of_lt ht, Array.getElem?_toList, hd t ht, h.low t ht]
    unfold keptV
    rw [List.getElem?_map, List.getD_eq_getElem?_getD (l := keptIx p xs.length)]
    rw [List.getElem?_eq_getElem (by omega)]
    rfl
  · rw [List.getElem?_eq_none (by simp; omega), List.getElem?_eq_none (by simp [keptV]; omega)]

set_option maxRecDepth 100000 in
set_option maxHeartbeats 2000000 in
theorem deleteFunc_any (f : Nat) (lb : Array Value) (eg : ∀ args w, (callFunc f args).run Tryz.prog w = .ok (.enter f args) w) (base : Nat) (v : Value) (xs : List Value) (p : Nat → Bool) (w : World)
    (hown : w.ownsRow base 36 1 v xs.length xs) (hn : xs.length ≤ 17592186044416) (hsl : ∀ x ∈ xs, ∃ a n c, x = .slice a n c)
    (hcall : ∀ i (hi : i < xs.length) W, w.grownBy W v.ownBlock → Calls Tryz.prog f (#[xs[i]] ++ lb) W fun e W' => e = .returned (.bool (p i)) ∧ Below W.heap.size W W') :
    Calls Tryz.prog 117 #[v, .func (.func f) #[] lb] w fun e w' => ∃ u, e = .returned u ∧ u.ownBlock = v.ownBlock ∧ w'.ownsRow base 36 1 u (keptV p xs undef).length (keptV p xs undef) ∧ w.grownBy w' v.ownBlock := by
  have hraw : RawSl w v xs := by
    obtain ⟨a, cap, rfl, h1, h2, h3, h4, h5⟩ := owns_cell hown
    refine ⟨a, cap, rfl, fun e => ⟨?_, h3 e⟩, fun i x hx => ?_, fun x hx => ?_⟩
    · have := h3 e; omega
    · obtain ⟨b, hb, hc⟩ := h5 i x hx; exact ⟨b, 0, hb, by simpa using hc⟩
    · obtain ⟨_, _, _, rfl⟩ := hsl x hx; rfl
  have hix := indexFuncRaw_any f lb eg v xs p w hraw hn (fun i hi W hW => hcall i hi W ⟨hW.os, hW.tape, hW.output, hW.size, fun k hk _ => hW.block k hk⟩)
  have HIX := Lib.hid hix
  clear hix hraw
  have HSL := Lib.hid hsl; clear hsl
  by_cases hnone : ∀ j, j < xs.length → p j = false
  · have hk : keptV p xs undef = xs := by unfold keptV; rw [keptIx_all _ _ hnone]; exact range_getD _ _
    have hf : firstIx xs.length p = -1 := firstIx_none _ _ hnone
    have HK := Lib.hid hk
    have HF := Lib.hid hf
    have HOWN := Lib.hid hown
    obtain ⟨a, cap, rfl, _⟩ := owns_cell hown
    clear hk hf hown hcall hnone
    go_enter Tryz.func117, Tryz.ntmps117
    go_wp2_with fail
    refine HIX.out.mono ?_
    rintro e w1 ⟨rfl, hb1⟩
    rw [HF.out]
    go_wp2_with fail
    go_ret
    refine ⟨_, rfl, rfl, ?_, ⟨hb1.os, hb1.tape, hb1.output, hb1.size, fun k hk _ => hb1.block k hk⟩⟩
    rw [HK.out]
    exact owns_up HOWN.out hb1
  · obtain ⟨k0, hk0, hk1, hk2⟩ : ∃ k0, k0 < xs.length ∧ p k0 = true ∧ ∀ j, j < k0 → p j = false := by
      rcases firstIx_cases xs.length p with h | ⟨k, h1, h2, h3, h4⟩
      · exact absurd h.2 hnone
      · exact ⟨k, h1, h3, h4⟩
    have hf : firstIx xs.length p = k0 := firstIx_at _ _ _ hk0 hk2 hk1
    have HF := Lib.hid hf; clear hf hnone
    obtain ⟨hl, hown⟩ := hown
    rcases hown with ⟨rfl, h0⟩ | ⟨g, cap, cur, rfl, hg, hb, hnc, hm, hs, ht⟩
    · omega
    rw [Nat.mul_one] at hs ht
    have HC := Lib.hid hcall; clear hcall
    have hstart : KeptTo p xs cur cur k0 (k0 + 1) := ⟨by omega, by rw [keptIx_succ, hk1, keptIx_all _ _ hk2]; simp, rfl, fun t ht' => by
      rw [keptIx_succ, hk1, keptIx_all _ _ hk2]
      have h2 : xs[t]? = some xs[t] := List.getElem?_eq_getElem (by omega)
      have h1 : cur[t]? = xs[t]? := by rw [← Array.getElem?_toList, ← ht, List.getElem?_take_of_lt (by omega)]
      rw [h1, h2]
      simp [ht', show t < xs.length by omega], fun _ _ => rfl⟩
    have HST := Lib.hid hstart
    have HB := Lib.hid hb
    have HT := Lib.hid ht
    have hgl := block_lt hb
    clear hstart hb ht hk1 hk2 hl
    have hne1 : ((k0 : Int) == -1) = false := beq_eq_false_iff_ne.2 (by omega)
    have hv7 := Tryz.zeroValue36
    go_enter Tryz.func117, Tryz.ntmps117
    go_wp2_with fail
    refine HIX.out.mono ?_
    rintro e w1 ⟨rfl, hb1⟩
    rw [HF.out]
    have hgr1 : w.grownBy w1 (some g) := ⟨hb1.os, hb1.tape, hb1.output, hb1.size, fun k hk _ => hb1.block k hk⟩
    go_wp2_with fail
    go_loopw [5, 6, 7] (fun s5 s6 _ wr => w.grownBy wr (some g) ∧ ∃ (i j : Nat) (dk : Array Value), s5 = .int .i64 i ∧ s6 = .int .i64 j ∧ j ≤ xs.length ∧ wr.heap[g]? = some (.cells dk 36) ∧ KeptTo p xs cur dk i j) (fun _ s6 _ _ => xs.length - (intOf s6).toNat)
    case atStart => exact ⟨hgr1, k0, k0 + 1, cur, rfl, by go_num, by omega, block_up hb1 HB.out, HST.out⟩
    case round =>
      obtain ⟨hgr, i, j, dk, rfl, rfl, hjx, hblk, hkt⟩ := hrel
      have hij := hkt.lt
      have hdz := hkt.size
      have hsr := hgr.size
      by_cases hlt : j < xs.length
      · have c1 := cell_block hblk j
        have e1 : dk[j]? = some xs[j] := by
          rw [hkt.high j (by omega), ← Array.getElem?_toList]
          have := HT.out
          rw [show cur.toList[j]? = (cur.toList.take xs.length)[j]? by rw [List.getElem?_take_of_lt hlt], this]
          exact List.getElem?_eq_getElem hlt
        rw [e1] at c1
        have hcall := HC.out j hlt wr hgr
        obtain ⟨ax, nx, cx, ex⟩ := HSL.out xs[j] (List.getElem_mem hlt)
        have HX := Lib.hid ex
        rw [ex] at c1 hcall
        have HKT := Lib.hid hkt
        have HBLK := Lib.hid hblk
        clear ex hkt hblk e1
        cases hpj : p j with
        | false =>
          rw [hpj] at hcall
          have HCALL := Lib.hid hcall; clear hcall
          have HPJ := Lib.hid hpj; clear hpj
          go_wp2_with fail
          refine HCALL.out.mono ?_
          rintro e w2 ⟨rfl, hb2⟩
          have c2 : ∃ old, w2.cell? ⟨g, i, none⟩ = some old := ⟨dk[i]'(by omega), by rw [cell_block (block_up hb2 HBLK.out)]; exact Array.getElem?_eq_getElem _⟩
          obtain ⟨old, c2⟩ := c2
          have f2 := frozen_block (block_up hb2 HBLK.out) i
          have hs2 := hb2.size
          clear c1
          go_wp2_with fail
          go_roundw
          case rel =>
            refine ⟨grown_trans (grown_below hgr (by omega) hb2) (grown_set _ _ _ _), i + 1, j + 1, dk.setIfInBounds i xs[j], by go_num, by go_num, by omega, ?_, HKT.out.keep HPJ.out hlt (by omega)⟩
            rw [HX.out]
            exact setCell_same (block_up hb2 HBLK.out) _ _
          case measure => simp [intOf]; omega
        | true =>
          rw [hpj] at hcall
          have HCALL := Lib.hid hcall; clear hcall
          have HPJ := Lib.hid hpj; clear hpj
          go_wp2_with fail
          refine HCALL.out.mono ?_
          rintro e w2 ⟨rfl, hb2⟩
          clear c1
          go_wp2_with fail
          go_roundw
          case rel => exact ⟨grown_below hgr (by omega) hb2, i, j + 1, dk, rfl, by go_num, by omega, block_up hb2 HBLK.out, HKT.out.skip HPJ.out⟩
          case measure => simp [intOf]; omega
      · obtain rfl : j = xs.length := by omega
        have hcl : ∀ ty, (Builtin.clear_ #[30] ty #[.slice (some ⟨g, i, none⟩) (xs.length - i) (cap - i)]).run Tryz.prog wr = .ok (.tuple #[]) (wr.setCells g i (List.replicate (xs.length - i) (.slice none 0 0))) :=
          fun ty => by
            have := Lib.run_clear_slice (P := Tryz.prog) wr 30 36 ty (.slice none 0 0) Tryz.underlying30 Tryz.zeroValue36 rfl rfl g i (xs.length - i) (cap - i) (by omega)
              (fun t ht => by rw [cell_block hblk, Array.getElem?_eq_getElem (by omega)]; rfl) (fun t ht => frozen_block hblk _)
            simpa using this
        obtain ⟨d', r1, r2, r3, r4⟩ := setCells_row g 36 (List.replicate (xs.length - i) (.slice none 0 0)) i wr dk hblk
        have R1 := Lib.hid r1
        have R4 := Lib.hid r4
        have HROW := Lib.hid (hkt.row (d' := d') (by omega) r2 r3)
        have HLEN := Lib.hid hkt.len
        clear hkt hblk r1 r3 r4
        generalize hWW : wr.setCells g i (List.replicate (xs.length - i) (.slice none 0 0)) = WW at hcl R1 R4
        clear hWW
        go_wp2_with fail
        go_ret
        have hll : (keptV p xs undef).length = i := by simp [keptV, HLEN.out]
        refine ⟨_, rfl, rfl, ⟨by simp, .inr ⟨g, cap, d', ?_, hg, R1.out, by omega, hm, by omega, ?_⟩⟩, grown_trans hgr R4.out⟩
        · rw [hll]; rfl
        · rw [hll, Nat.mul_one]; exact HROW.out
end Go.Proofs.YtjmejfgkogjpaaaGreat
