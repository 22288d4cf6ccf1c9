/-
  Parts of the proof, in order. Contracts of the program's monitor.schedule, monitor.judge, monitor.Blame. Conditions: the arguments read as a problem, inputs, a word and decisions. Contract of the program's monitor.Blame. Conditions: the arguments read as a problem, inputs, a word and decisions; there are fewer than 2^40 moves.
-/
import Derived.Test.YtlfnfphkhokdiaaJ4
namespace Go.Proofs.Ytlfnfphkhokdiaa
open Go.RowKit Go Go.Shelf
attribute [local go_sem] Oper.semAt_some

def schedB (p : Pb) (word : List Rd) : Bool := decide (afterS p.a 0 word < 0) || decide ((word.length : Int) ≠ p.rounds)

set_option maxRecDepth 100000 in
set_option maxHeartbeats 2000000 in
theorem schedule_any (p : Pb) (pc : Option Addr) (nc cc : Nat) (vs : Value) (i : Int) (u : Value) (word : List Rd) (pd : Option Addr) (nd cd : Nat) (f : Int) (w : World) (hv : IsStates w vs p.a.states) (hu : IsWord w u word) (hN : movesN p.a.states < 1099511627776) (ha : advE p.a = 0) :
    Calls Try.prog 41 #[.agg (scC p (.slice pc nc cc) vs i u (.slice pd nd cd) f)] w fun e w' => e = .returned (.tuple #[.int .i64 (-1), .bool (schedB p word)]) ∧ Below w.heap.size w w' := by
  have hb0 : Below w.heap.size w (w.alloc (.cells (scC p (.slice pc nc cc) vs i u (.slice pd nd cd) f) 74)) := by go_grown
  have hal := allows_any p.a vs u word _ (hv.up up_moves hb0) (hu.up up_round hb0) hN (by omega)
  have hr : allowsR p.a word = (decide (0 ≤ afterS p.a 0 word), 0) := by unfold allowsR; rw [if_neg (by simpa using ha)]
  rw [hr] at hal
  have HS : Hid (schedB p word = (decide (afterS p.a 0 word < 0) || decide ((word.length : Int) ≠ p.rounds))) := by exact rfl
  generalize afterS p.a 0 word = af at hal HS
  have HA := Lib.hid hal; clear hal hr ha
  obtain ⟨ps, cs, rfl, _⟩ := hv.at
  obtain ⟨pu, cu, rfl, l1, l2, _⟩ := hu.at
  clear hv hu
  have hblk := alloc_new w (.cells (scC p (.slice pc nc cc) (.slice ps p.a.states.length cs) i (.slice pu word.length cu) (.slice pd nd cd) f) 74)
  by_cases h : af < 0
  · have hd : decide (0 ≤ af) = false := by simpa using h
    rw [hd] at HA
    have HS' : Hid (schedB p word = true) := by (have h : schedB p word = true := by (rw [HS.out]; simp [h])); exact h
    clear hd hblk
    go_enter Try.func41, Try.ntmps41
    go_wp2_with fail
    refine HA.out.mono ?_
    rintro e w1 ⟨rfl, hb1⟩
    go_wp2_with fail
    go_quiet (fail)
    go_wp2_with fail
    go_ret2
    exact ⟨ret_ib rfl HS'.out.symm, below_drewN (ext_trans hb0 hb1) _⟩
  · have hd : decide (0 ≤ af) = true := by simp; omega
    rw [hd] at HA
    have HS' : Hid (schedB p word = ((word.length : Int) != p.rounds)) := by (have h : schedB p word = ((word.length : Int) != p.rounds) := by (rw [HS.out, Bool.eq_iff_iff]; simp [h])); exact h
    have HB := Lib.hid hblk
    clear hd hblk
    go_enter Try.func41, Try.ntmps41
    go_wp2_with fail
    refine HA.out.mono ?_
    rintro e w1 ⟨rfl, hb1⟩
    have t0 := cell_block (block_up hb1 HB.out)
    have t1 : ∀ n o, (w1.drewN n).cell? ⟨w.heap.size, o, none⟩ = _ := fun n o => t0 o
    clear t0
    go_wp2_with fail
    go_quiet (fail)
    go_wp2_with fail
    go_ret2
    exact ⟨ret_ib rfl HS'.out.symm, below_drewN (ext_trans hb0 hb1) _⟩

def judgeR (p : Pb) (ix : Int) (word : List Rd) (dec : List Int) : Int × Int :=
  if schedB p word then (1, -1)
  else if 0 ≤ undecE p.t.n.toNat (faultyS word) dec then (2, undecE p.t.n.toNat (faultyS word) dec)
  else if 0 ≤ outpE p.t.n.toNat (faultyS word) dec (allowedS p.t ix (faultyS word)) then (3, outpE p.t.n.toNat (faultyS word) dec (allowedS p.t ix (faultyS word))) else (0, -1)

theorem run_store_func (P : Program) (w : World) (a : Addr) (m : Mode) (g : Fn) (b c : Array Value) : (store a (.func g b c) m).run P w = stored P w a (.func g b c) m := run_store P w a _ m rfl
attribute [local go_sem] run_store_func

def passedJ (sb : Bool) (ud od : Int) (k : Nat) : Prop := (1 ≤ k → sb = false) ∧ (2 ≤ k → ud < 0) ∧ (3 ≤ k → od < 0)

set_option maxRecDepth 100000 in
set_option maxHeartbeats 4000000 in
theorem judge_any (p : Pb) (vc vs : Value) (ix : Int) (u : Value) (word : List Rd) (vd : Value) (dec : List Int) (w : World) (hc : IsCases w vc p.t.cases) (hv : IsStates w vs p.a.states) (hu : IsWord w u word) (hd : IsInts w vd dec)
    (hN : movesN p.a.states < 1099511627776) (ha : advE p.a = 0) (ht : 0 ≤ p.t.n ∧ p.t.n ≤ 5) (hl : (dec.length : Int) = p.t.n)
    (hL : (allowedS p.t ix (faultyS word)).length ≤ 1024 ∧ ∀ v ∈ allowedS p.t ix (faultyS word), (v.length : Int) = p.t.n) :
    Calls Try.prog 25 #[.agg (scC p vc vs ix u vd (faultyS word))] w fun e w' => e = .returned (.tuple #[.int .i64 (judgeR p ix word dec).1, .int .i64 (judgeR p ix word dec).2]) ∧ Below w.heap.size w w' := by
  obtain ⟨n, hn⟩ : ∃ n : Nat, p.t.n = n := ⟨p.t.n.toNat, by omega⟩
  have HJ : Hid (judgeR p ix word dec = if schedB p word then (1, -1) else if 0 ≤ undecE n (faultyS word) dec then (2, undecE n (faultyS word) dec) else if 0 ≤ outpE n (faultyS word) dec (allowedS p.t ix (faultyS word)) then (3, outpE n (faultyS word) dec (allowedS p.t ix (faultyS word))) else (0, -1)) := by
    have h : judgeR p ix word dec = if schedB p word then (1, -1) else if 0 ≤ undecE n (faultyS word) dec then (2, undecE n (faultyS word) dec) else if 0 ≤ outpE n (faultyS word) dec (allowedS p.t ix (faultyS word)) then (3, outpE n (faultyS word) dec (allowedS p.t ix (faultyS word))) else (0, -1) := by
      unfold judgeR; rw [hn, Int.toNat_natCast]
    exact h
  obtain ⟨pc, cc, rfl, _⟩ := id hc
  obtain ⟨ps, cs, rfl, _⟩ := id hv
  obtain ⟨pu, cu, rfl, _⟩ := id hu
  obtain ⟨pd, cd, rfl, _⟩ := id hd
  have H1 := Lib.hid (fun W (hb : Below w.heap.size w W) => schedule_any p pc p.t.cases.length cc _ ix _ word pd dec.length cd (faultyS word) W (hv.up up_moves hb) (hu.up up_round hb) hN ha)
  have H2 := Lib.hid (fun W (hb : Below w.heap.size w W) => undecided_any p pc p.t.cases.length cc ps p.a.states.length cs ix pu word.length cu _ dec (faultyS word) n hn (by omega) (by omega) W (hd.up up_int hb))
  have H3 := Lib.hid (fun W (hb : Below w.heap.size w W) => output_any p _ ps p.a.states.length cs ix pu word.length cu _ dec (faultyS word) n hn (by omega) (by omega) W (hc.up up_case hb) (hd.up up_int hb) ⟨hL.1, fun v hv => by have := hL.2 v hv; omega⟩)
  clear hc hv hu hd hN ha ht hl hL hn
  generalize undecE n (faultyS word) dec = ud at HJ H2
  generalize outpE n (faultyS word) dec (allowedS p.t ix (faultyS word)) = od at HJ H3
  generalize faultyS word = f at HJ H1 H2 H3
  go_enter Try.func25, Try.ntmps25
  go_wp2_with fail
  refine wp_gen (fun W => Below w.heap.size w W ∧ W.heap[w.heap.size]? = some (.cells (scC p (.slice pc p.t.cases.length cc) (.slice ps p.a.states.length cs) ix (.slice pu word.length cu) (.slice pd dec.length cd) f) 74) ∧ W.heap[w.heap.size + 1]? = some (.cells #[.int .i64 1, .func (.func 41) #[] #[], .int .i64 2, .func (.func 42) #[] #[], .int .i64 3, .func (.func 43) #[] #[]] 94))
    ⟨by go_grown, alloc_old _ (alloc_new _ _), alloc2_new _ _ _⟩ (fun W0 hW0 => ?_)
  obtain ⟨hb0, hA0, hS0⟩ := hW0
  generalize schedB p word = sb at HJ H1
  go_loopw [13] (fun i wr => Below W0.heap.size W0 wr ∧ ∃ k : Nat, k ≤ 3 ∧ i = .int .i64 k ∧ passedJ sb ud od k) (fun i _ => 3 - (intOf i).toNat)
  case atStart => exact ⟨Below.refl _ _, 0, by omega, rfl, by unfold passedJ; omega⟩
  case round =>
    obtain ⟨hbr, k, hk, rfl, hinv⟩ := hrel
    have hzr := block_lt (block_up hbr hS0)
    have hzr' : w.heap.size < wr.heap.size := by omega
    have HA := Lib.hid (block_up hbr hA0)
    have HS := Lib.hid (block_up hbr hS0)
    have hbw := ext_trans hb0 hbr
    have t1 := cell_block HA.out
    have t2 := cell_block HS.out
    have hk' : k = 0 ∨ k = 1 ∨ k = 2 ∨ k = 3 := by omega
    have HI := Lib.hid hinv; clear hinv
    have g1 := enters_of Try.func41 (by kernel_rfl) rfl
    have g2 := enters_of Try.func42 (by kernel_rfl) rfl
    have g3 := enters_of Try.func43 (by kernel_rfl) rfl
    clear hA0 hS0
    rcases hk' with rfl | rfl | rfl | rfl
    · go_wp2_with fail
      refine calls_gen (fun W => Below wr.heap.size wr W ∧ W.heap[wr.heap.size]? = some (.cells #[.int .i64 1, .func (.func 41) #[] #[]] 94)) ⟨by go_grown, by first | exact alloc_new _ _ | (rw [setCell_same (setCell_same (alloc_new _ _) _ _)]; rfl) | (rw [setCell_same (alloc_new _ _)]; rfl)⟩ (fun W2 hW2 => ?_)
      obtain ⟨hb2, hC2⟩ := hW2
      refine (H1.out W2 (ext_trans hbw hb2)).mono ?_
      rintro e w3 ⟨rfl, hb3⟩
      have t3 := cell_block (block_up hb3 hC2)
      have hbw3 := ext_trans hbw (ext_trans hb2 hb3)
      have hbr3 := ext_trans hbr (ext_trans hb2 hb3)
      clear t1 t2 hC2
      cases hsb : sb with
      | true =>
        have HSB := Lib.hid hsb; clear hsb
        go_wp2_with fail
        go_ret2
        exact ⟨ret_pair (by rw [HJ.out, HSB.out]; rfl) (by rw [HJ.out, HSB.out]; rfl), hbw3⟩
      | false =>
        have HSB := Lib.hid hsb; clear hsb
        go_wp2_with fail
        go_roundw
        case rel => exact ⟨hbr3, 1, by omega, by go_num, fun _ => HSB.out, fun h => by omega, fun h => by omega⟩
        case measure => simp [intOf]
    · go_wp2_with fail
      refine calls_gen (fun W => Below wr.heap.size wr W ∧ W.heap[wr.heap.size]? = some (.cells #[.int .i64 2, .func (.func 42) #[] #[]] 94)) ⟨by go_grown, by first | exact alloc_new _ _ | (rw [setCell_same (setCell_same (alloc_new _ _) _ _)]; rfl) | (rw [setCell_same (alloc_new _ _)]; rfl)⟩ (fun W2 hW2 => ?_)
      obtain ⟨hb2, hC2⟩ := hW2
      refine (H2.out W2 (ext_trans hbw hb2)).mono ?_
      rintro e w3 ⟨rfl, hb3⟩
      have t3 := cell_block (block_up hb3 hC2)
      have hbw3 := ext_trans hbw (ext_trans hb2 hb3)
      have hbr3 := ext_trans hbr (ext_trans hb2 hb3)
      clear t1 t2 hC2
      by_cases hsb : 0 ≤ ud
      · have hdd : decide (0 ≤ ud) = true := decide_eq_true hsb
        have HSB := Lib.hid hsb; clear hsb
        go_wp2_with fail
        go_ret2
        refine ⟨ret_pair ?_ ?_, hbw3⟩ <;> (have hi := HI.out; have hs := HSB.out; rw [HJ.out]; unfold passedJ at hi; go_light; grind)
      · have hdd : decide (0 ≤ ud) = false := decide_eq_false hsb
        have HSB := Lib.hid hsb; clear hsb
        go_wp2_with fail
        go_roundw
        case rel => exact ⟨hbr3, 2, by omega, by go_num, fun _ => HI.out.1 (by omega), fun _ => by have := HSB.out; omega, fun h => by omega⟩
        case measure => simp [intOf]
    · go_wp2_with fail
      refine calls_gen (fun W => Below wr.heap.size wr W ∧ W.heap[wr.heap.size]? = some (.cells #[.int .i64 3, .func (.func 43) #[] #[]] 94)) ⟨by go_grown, by first | exact alloc_new _ _ | (rw [setCell_same (setCell_same (alloc_new _ _) _ _)]; rfl) | (rw [setCell_same (alloc_new _ _)]; rfl)⟩ (fun W2 hW2 => ?_)
      obtain ⟨hb2, hC2⟩ := hW2
      refine (H3.out W2 (ext_trans hbw hb2)).mono ?_
      rintro e w3 ⟨rfl, hb3⟩
      have t3 := cell_block (block_up hb3 hC2)
      have hbw3 := ext_trans hbw (ext_trans hb2 hb3)
      have hbr3 := ext_trans hbr (ext_trans hb2 hb3)
      clear t1 t2 hC2
      by_cases hsb : 0 ≤ od
      · have hdd : decide (0 ≤ od) = true := decide_eq_true hsb
        have HSB := Lib.hid hsb; clear hsb
        go_wp2_with fail
        go_ret2
        refine ⟨ret_pair ?_ ?_, hbw3⟩ <;> (have hi := HI.out; have hs := HSB.out; rw [HJ.out]; unfold passedJ at hi; go_light; grind)
      · have hdd : decide (0 ≤ od) = false := decide_eq_false hsb
        have HSB := Lib.hid hsb; clear hsb
        go_wp2_with fail
        go_roundw
        case rel => exact ⟨hbr3, 3, by omega, by go_num, fun _ => HI.out.1 (by omega), fun _ => HI.out.2.1 (by omega), fun _ => by have := HSB.out; omega⟩
        case measure => simp [intOf]
    · go_wp2_with fail
      go_ret2
      refine ⟨ret_pair ?_ ?_, hbw⟩ <;> (have hi := HI.out; rw [HJ.out]; unfold passedJ at hi; go_light; grind)
end Go.Proofs.Ytlfnfphkhokdiaa

namespace Go.Proofs.Ytlfnfphkhokdiaa
open Go.RowKit Go Go.Shelf

abbrev pbC (p : Pb) (vc vs : Value) : Array Value := #[.int .i64 p.t.n, .int .i64 p.t.ins, .int .i64 p.t.outs, vc, .int .i64 p.a.n, vs, .int .i64 p.rounds]
theorem ret_three {k l m : IntKind} {a b c d e f : Int} (h1 : a = b) (h2 : c = d) (h3 : e = f) : Ending.returned (.tuple #[.int k a, .int l c, .int m e]) = .returned (.tuple #[.int k b, .int l d, .int m f]) := by rw [h1, h2, h3]

def decB (outs : Int) (dec : List Int) : Bool := anyLt dec.length fun i => decide (dec.getD i 0 < -1) || decide (outs ≤ dec.getD i 0)
def blameR (p : Pb) (inp : List Int) (word : List Rd) (dec : List Int) : Int × Int × Int :=
  if probE p ≠ 0 then (0, 0, probE p) else if findE p.t inp < 0 then (0, 0, 6) else if (dec.length : Int) ≠ p.t.n then (0, 0, 15)
  else if decB p.t.outs dec then (0, 0, 2) else ((judgeR p (findE p.t inp) word dec).1, (judgeR p (findE p.t inp) word dec).2, 0)

set_option maxHeartbeats 400000 in
theorem blame1_any (x : Int) (p : Pb) (vc vs : Value) (B : Nat) (W : World) (hc : W.heap[B]? = some (.cells #[.int .i64 p.t.n, .int .i64 p.t.ins, .int .i64 p.t.outs, vc, .int .i64 p.a.n, vs, .int .i64 p.rounds] 29)) :
    Calls Try.prog 24 #[.int .i64 x, .pointer (some ⟨B, 0, none⟩)] W fun e W' => e = .returned (.bool (decide (x < -1) || decide (p.t.outs ≤ x))) ∧ Below W.heap.size W W' := by
  have t1 := cell_block hc 2
  simp at t1
  clear hc
  by_cases hx : x < -1
  · go_enter Try.func24, Try.ntmps24
    go_wp2
    go_ret
    exact ⟨ret_bool (by simp [hx]), Below.refl _ _⟩
  · go_enter Try.func24, Try.ntmps24
    go_wp2
    go_ret
    exact ⟨ret_bool (by simp; omega), Below.refl _ _⟩

theorem prob_ok {p : Pb} (h : probE p = 0) : taskE p.t = 0 ∧ advE p.a = 0 ∧ p.t.n = p.a.n ∧ 0 ≤ p.rounds ∧ p.rounds ≤ 6 := by
  unfold probE at h
  split at h
  · rename_i h1; exact absurd h h1
  rename_i h1
  split at h
  · rename_i h2; exact absurd h h2
  rename_i h2
  split at h
  · omega
  split at h
  · omega
  exact ⟨by simpa using h1, by simpa using h2, by omega, by omega, by omega⟩
theorem allowedS_ok {t : Tk} (h : taskE t = 0) (i f : Int) : (allowedS t i f).length ≤ 1024 ∧ ∀ v ∈ allowedS t i f, (v.length : Int) = t.n := by
  unfold allowedS
  split
  · simp
  · rename_i hp
    have hp' : placeE t i f = 0 := by simpa using hp
    obtain ⟨_, _, h3⟩ := placeE_ok hp'
    rw [getD_of_lt default h3]
    exact vecs_ok ((task_ok h).2.2.2.2 _ (List.getElem_mem h3)) f

set_option maxRecDepth 100000 in
set_option maxHeartbeats 4000000 in
theorem blame_any (p : Pb) (vc vs : Value) (vi : Value) (inp : List Int) (u : Value) (word : List Rd) (vd : Value) (dec : List Int) (w : World) (hc : IsCases w vc p.t.cases) (hs : IsStates w vs p.a.states) (hi : IsInts w vi inp) (hu : IsWord w u word) (hd : IsInts w vd dec)
    (hN : movesN p.a.states < 1099511627776) :
    Calls Try.prog 8 #[pbV p vc vs, vi, u, vd] w fun e w' => e = .returned (.tuple #[.int .i64 (blameR p inp word dec).1, .int .i64 (blameR p inp word dec).2.1, .int .i64 (blameR p inp word dec).2.2]) ∧ Below w.heap.size w w' := by
  have HC := Lib.hid hc
  have HS := Lib.hid hs
  have HI := Lib.hid hi
  have HU := Lib.hid hu
  have HD := Lib.hid hd
  obtain ⟨pc, cc, rfl, _⟩ := hc
  obtain ⟨ps, cs, rfl, _⟩ := hs
  obtain ⟨pi, ci, rfl, _⟩ := hi
  obtain ⟨pu, cu, rfl, _⟩ := hu
  obtain ⟨pd, cd, rfl, _⟩ := hd
  have HB : Hid (blameR p inp word dec = if probE p ≠ 0 then (0, 0, probE p) else if findE p.t inp < 0 then (0, 0, 6) else if (dec.length : Int) ≠ p.t.n then (0, 0, 15) else if decB p.t.outs dec then (0, 0, 2) else ((judgeR p (findE p.t inp) word dec).1, (judgeR p (findE p.t inp) word dec).2, 0)) := by exact rfl
  go_enter Try.func8, Try.ntmps8
  go_wp2_with fail
  refine calls_gen (fun W => Below w.heap.size w W ∧ W.heap[w.heap.size]? = some (.cells #[.int .i64 p.t.n, .int .i64 p.t.ins, .int .i64 p.t.outs, .slice pc p.t.cases.length cc, .int .i64 p.a.n, .slice ps p.a.states.length cs, .int .i64 p.rounds] 29)) ⟨by go_grown, alloc_new _ _⟩ (fun W0 hW0 => ?_)
  obtain ⟨hb0, hA0⟩ := hW0
  refine (execCheck_any p _ _ W0 (HC.out.up up_case hb0) (HS.out.up up_moves hb0) hN).mono ?_
  rintro e w1 ⟨rfl, hb1⟩
  have hb1' := ext_trans hb0 hb1
  have HA1 := Lib.hid (block_up hb1 hA0)
  have t1 := cell_block HA1.out
  clear hA0
  by_cases hp : probE p = 0
  case neg =>
    generalize probE p = ep at hp HB
    have hp' : (ep != 0) = true := by simpa using hp
    go_wp2_with fail
    go_ret3
    refine ⟨ret_three ?_ ?_ ?_, hb1'⟩ <;> rw [HB.out, if_pos hp]
  have HP := Lib.hid hp
  rw [hp] at HB ⊢
  clear hp
  go_wp2_with fail
  refine (find_any p.t _ _ inp w1 (HC.out.up up_case hb1') (HI.out.up up_int hb1')).mono ?_
  rintro e w2 ⟨rfl, hb2⟩
  have hb2' := ext_trans hb1' hb2
  have HA2 := Lib.hid (block_up hb2 HA1.out)
  have t2 := cell_block HA2.out
  clear t1
  have HFR : Hid (findR p.t inp = if findE p.t inp < 0 then (0, 6) else (findE p.t inp, 0)) := by exact rfl
  by_cases hf : findE p.t inp < 0
  · have hfr : findR p.t inp = (0, 6) := by rw [HFR.out, if_pos hf]
    rw [hfr]
    have HF := Lib.hid hf
    clear hfr hf
    go_wp2_with fail
    go_ret3
    refine ⟨ret_three ?_ ?_ ?_, hb2'⟩ <;> rw [HB.out, if_neg (by simp), if_pos HF.out]
  have hfr : findR p.t inp = (findE p.t inp, 0) := by rw [HFR.out, if_neg hf]
  rw [hfr]
  have HF := Lib.hid hf
  clear hfr hf HFR
  by_cases hl : (dec.length : Int) = p.t.n
  case neg =>
    have hl' : ((dec.length : Int) != p.t.n) = true := by simpa using hl
    go_wp2_with fail
    go_ret3
    refine ⟨ret_three ?_ ?_ ?_, hb2'⟩ <;> rw [HB.out, if_neg (by simp), if_neg (by have := HF.out; omega), if_pos hl]
  have hl' : ((dec.length : Int) != p.t.n) = false := by simp [hl]
  have HLN := Lib.hid hl; clear hl
  have HCO := Lib.hid (containsFuncInts_any 24 #[.pointer (some ⟨w.heap.size, 0, none⟩)] (enters_of Try.func24 (by kernel_rfl) rfl) _ dec (fun i => decide (dec.getD i 0 < -1) || decide (p.t.outs ≤ dec.getD i 0)) w2 (HD.out.up up_int hb2') (fun i hi W hW => by
      rw [getD_of_lt 0 hi]
      exact blame1_any _ p _ _ _ _ (block_up hW HA2.out)))
  have HDB : Hid (decB p.t.outs dec = anyLt dec.length fun i => decide (dec.getD i 0 < -1) || decide (p.t.outs ≤ dec.getD i 0)) := by exact rfl
  generalize (anyLt dec.length fun i => decide (dec.getD i 0 < -1) || decide (p.t.outs ≤ dec.getD i 0)) = rb at HCO HDB
  go_wp2_with fail
  refine HCO.out.mono ?_
  rintro e w3 ⟨rfl, hb3⟩
  have hb3' := ext_trans hb2' hb3
  have t3 := cell_block (block_up hb3 HA2.out)
  clear t2
  cases rb with
  | true =>
    go_wp2_with fail
    go_ret3
    refine ⟨ret_three ?_ ?_ ?_, hb3'⟩ <;> rw [HB.out, if_neg (by simp), if_neg (by have := HF.out; omega), if_neg (by simpa using HLN.out), if_pos HDB.out]
  | false =>
    go_wp2_with fail
    refine (newScene_any p _ _ _ _ _ _ _ _ word _ _ _ w3 (HU.out.up up_round hb3')).mono ?_
    rintro e w4 ⟨rfl, hb4⟩
    have hb4' := ext_trans hb3' hb4
    clear t3
    go_wp2_with fail
    obtain ⟨ht, ha, _⟩ := prob_ok HP.out
    refine (judge_any p _ _ (findE p.t inp) _ word _ dec w4 (HC.out.up up_case hb4') (HS.out.up up_moves hb4') (HU.out.up up_round hb4') (HD.out.up up_int hb4') hN ha (by have := (task_ok ht).1; omega) HLN.out (allowedS_ok ht _ _)).mono ?_
    rintro e w5 ⟨rfl, hb5⟩
    clear ht ha
    go_wp2_with fail
    go_ret3
    refine ⟨ret_three ?_ ?_ ?_, ext_trans hb4' hb5⟩ <;> rw [HB.out, if_neg (by simp), if_neg (by have := HF.out; omega), if_neg (by simpa using HLN.out), if_neg (by rw [HDB.out]; simp)]
end Go.Proofs.Ytlfnfphkhokdiaa
