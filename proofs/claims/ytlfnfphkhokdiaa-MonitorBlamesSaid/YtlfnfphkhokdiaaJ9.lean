/-
  Parts of the proof, in order. Contract of the reference's Blame. Conditions: the arguments read as a problem, inputs, a word and decisions. The walk of MonitorBlames: it returns true. Conditions: the arguments read as a problem and a play.
-/
import Derived.Test.YtlfnfphkhokdiaaJ8
namespace Go.Proofs.Ytlfnfphkhokdiaa
open Go.RowKit Go Go.Shelf

theorem findE_lt {t : Tk} {inp : List Int} (h : ¬ findE t inp < 0) : ∃ k : Nat, findE t inp = k ∧ k < t.cases.length := by
  unfold findE at h ⊢
  rcases firstIx_cases t.cases.length (fun i => eqV (t.cases.getD i default).inp inp) with h1 | ⟨k, hk, h1, _⟩
  · rw [h1.1] at h; omega
  · exact ⟨k, h1, hk⟩

set_option maxRecDepth 100000 in
set_option maxHeartbeats 4000000 in
theorem rblame_any (p : Pb) (vc vs : Value) (vi : Value) (inp : List Int) (u : Value) (word : List Rd) (vd : Value) (dec : List Int) (w : World) (hc : IsCases w vc p.t.cases) (hs : IsStates w vs p.a.states) (hi : IsInts w vi inp) (hu : IsWord w u word) (hd : IsInts w vd dec)
    (hN : movesN p.a.states < 2305843009213693952) :
    Calls Try.prog 9 #[pbV p vc vs, vi, u, vd] w fun e w' => e = .returned (.tuple #[.int .i64 (blameR p inp word dec).1, .int .i64 (blameR p inp word dec).2.1, .int .i64 (blameR p inp word dec).2.2]) ∧ Below w.heap.size w w' := by
  have HC := Lib.hid hc
  have HS := Lib.hid hs
  have HI := Lib.hid hi
  have HU := Lib.hid hu
  have HD := Lib.hid hd
  obtain ⟨pc, cc, rfl, _⟩ := hc
  obtain ⟨ps, cs, rfl, _⟩ := hs
  obtain ⟨pi, ci, rfl, _⟩ := hi
  obtain ⟨pu, cu, rfl, _⟩ := hu
  obtain ⟨pd, cd, rfl, _, hdl, _⟩ := id hd
  obtain ⟨pd', cd', epd, _, _, ed⟩ := hd.at
  obtain ⟨rfl, rfl⟩ : pd = pd' ∧ cd = cd' := by simpa using epd
  have ED := Lib.hid ed
  clear hd epd ed
  have HB : Hid (blameR p inp word dec = if probE p ≠ 0 then (0, 0, probE p) else if findE p.t inp < 0 then (0, 0, 6) else if (dec.length : Int) ≠ p.t.n then (0, 0, 15) else if decB p.t.outs dec then (0, 0, 2) else ((judgeR p (findE p.t inp) word dec).1, (judgeR p (findE p.t inp) word dec).2, 0)) := by exact rfl
  go_enter Try.func9, Try.ntmps9
  go_wp2_with fail
  refine calls_gen (fun W => Below w.heap.size w W ∧ W.heap[w.heap.size]? = some (.cells (pbC p (.slice pc p.t.cases.length cc) (.slice ps p.a.states.length cs)) 29)) ⟨by go_grown, alloc_new _ _⟩ (fun W0 hW0 => ?_)
  obtain ⟨hb0, hA0⟩ := hW0
  refine (rprobCheck_any p _ _ W0 (HC.out.up up_case hb0) (HS.out.up up_moves hb0) hN).mono ?_
  rintro e w1 ⟨rfl, hb1⟩
  have hb1' := ext_trans hb0 hb1
  have HA1 := Lib.hid (block_up hb1 hA0)
  have t1 := cell_block HA1.out
  clear hA0
  by_cases hp : probE p = 0
  case neg =>
    generalize probE p = ep at hp HB
    have hp' : (ep != 0) = true := by simpa using hp
    go_wp2_with fail
    go_ret3
    refine ⟨ret_three ?_ ?_ ?_, hb1'⟩ <;> rw [HB.out, if_pos hp]
  have HP := Lib.hid hp
  rw [hp] at HB ⊢
  clear hp
  have HFI := Lib.hid (rindex_any p.t _ _ inp w1 (HC.out.up up_case hb1') (HI.out.up up_int hb1'))
  have hfe : findI p.t inp = findE p.t inp := rfl
  rw [hfe] at HFI
  clear hfe
  go_wp2_with fail
  refine HFI.out.mono ?_
  rintro e w2 ⟨rfl, hb2⟩
  have hb2' := ext_trans hb1' hb2
  have HA2 := Lib.hid (block_up hb2 HA1.out)
  have t2 := cell_block HA2.out
  clear t1
  by_cases hf : findE p.t inp < 0
  · have HF := Lib.hid hf
    go_wp2_with fail
    go_ret3
    refine ⟨ret_three ?_ ?_ ?_, hb2'⟩ <;> rw [HB.out, if_neg (by simp), if_pos HF.out]
  obtain ⟨fk, hfk, hfl⟩ := findE_lt hf
  rw [hfk] at HB ⊢
  clear hf hfk HFI
  have HB1 : Hid (blameR p inp word dec = if (dec.length : Int) ≠ p.t.n then (0, 0, 15) else if decB p.t.outs dec then (0, 0, 2) else ((judgeR p fk word dec).1, (judgeR p fk word dec).2, 0)) := by
    have h : blameR p inp word dec = if (dec.length : Int) ≠ p.t.n then (0, 0, 15) else if decB p.t.outs dec then (0, 0, 2) else ((judgeR p fk word dec).1, (judgeR p fk word dec).2, 0) := by
      rw [HB.out, if_neg (by simp), if_neg (by omega)]
    exact h
  clear HB
  by_cases hl : (dec.length : Int) = p.t.n
  case neg =>
    have hl' : ((dec.length : Int) != p.t.n) = true := by simpa using hl
    go_wp2_with fail
    go_ret3
    refine ⟨ret_three ?_ ?_ ?_, hb2'⟩ <;> rw [HB1.out, if_pos hl]
  have hl' : ((dec.length : Int) != p.t.n) = false := by simp [hl]
  have HLN := Lib.hid hl; clear hl
  have HB2 : Hid (blameR p inp word dec = if decB p.t.outs dec then (0, 0, 2) else ((judgeR p fk word dec).1, (judgeR p fk word dec).2, 0)) := by
    have h : blameR p inp word dec = if decB p.t.outs dec then (0, 0, 2) else ((judgeR p fk word dec).1, (judgeR p fk word dec).2, 0) := by rw [HB1.out, if_neg (by simpa using HLN.out)]
    exact h
  have HDB : Hid (decB p.t.outs dec = anyLt dec.length fun i => decide (dec.getD i 0 < -1) || decide (p.t.outs ≤ dec.getD i 0)) := by exact rfl
  clear HB1
  go_wp2_with fail
  clear t2 hl'
  go_loopw [13] (fun i wr => Below w2.heap.size w2 wr ∧ ∃ q : Nat, q ≤ dec.length ∧ i = .int .i64 q ∧ ∀ j, j < q → (decide (dec.getD j 0 < -1) || decide (p.t.outs ≤ dec.getD j 0)) = false) (fun i _ => dec.length - (intOf i).toNat)
  case atStart => exact ⟨Below.refl _ _, 0, by omega, rfl, by simp⟩
  case round =>
    obtain ⟨hbr, q, hq, rfl, hinv⟩ := hrel
    have H := Lib.hid hinv; clear hinv
    have hbrw := ext_trans hb2' hbr
    by_cases hlt : q < dec.length
    · obtain ⟨b4, o4, rfl, c4, _⟩ := ED.out q hlt
      rw [Nat.mul_one] at c4
      have HDG := Lib.hid (getD_of_lt 0 hlt)
      generalize dec[q] = y at c4 HDG
      have r1 : ∀ n, (wr.drewN n).cell? _ = _ := fun n => cell_up hbrw c4
      have r2 : ∀ n o, (wr.drewN n).cell? ⟨w.heap.size, o, none⟩ = _ := fun n => cell_block (block_up hbr HA2.out)
      clear c4
      by_cases hy : y < -1
      · have HR : Hid (decB p.t.outs dec = true) := by (have h : decB p.t.outs dec = true := by (rw [HDB.out]; exact anyLt_true _ q _ hlt (by rw [HDG.out, decide_eq_true hy]; rfl))); exact h
        go_wp2_with fail
        go_quiet (fail)
        go_wp2_with fail
        go_ret3
        refine ⟨ret_three ?_ ?_ ?_, below_drewN hbrw _⟩ <;> rw [HB2.out, if_pos HR.out]
      · have hyd : decide (y < -1) = false := decide_eq_false hy
        have HYD := Lib.hid hyd
        by_cases hy2 : p.t.outs ≤ y
        · have HR : Hid (decB p.t.outs dec = true) := by (have h : decB p.t.outs dec = true := by (rw [HDB.out]; exact anyLt_true _ q _ hlt (by rw [HDG.out, HYD.out, decide_eq_true hy2]; rfl))); exact h
          go_wp2_with fail
          go_quiet (fail)
          go_wp2_with fail
          go_ret3
          refine ⟨ret_three ?_ ?_ ?_, below_drewN hbrw _⟩ <;> rw [HB2.out, if_pos HR.out]
        · go_wp2_with fail
          go_quiet (fail)
          go_wp2_with fail
          go_roundw
          case rel => exact ⟨below_drewN hbr _, q + 1, by omega, by go_num, below_succ H.out (by rw [HDG.out, HYD.out, decide_eq_false (by omega)]; rfl)⟩
          case measure => simp [intOf]; omega
    · have HR : Hid (decB p.t.outs dec = false) := by (have h : decB p.t.outs dec = false := by (rw [HDB.out]; exact anyLt_false _ _ fun j hj => H.out j (by omega))); exact h
      have HJU := Lib.hid (rjudge_any p _ _ fk hfl _ word _ dec wr (HC.out.up up_case hbrw) (HS.out.up up_moves hbrw) (HU.out.up up_round hbrw) (HD.out.up up_int hbrw) HP.out HLN.out)
      have t3 := cell_block (block_up hbr HA2.out)
      go_wp2_with fail
      refine HJU.out.mono ?_
      rintro e w5 ⟨rfl, hb5⟩
      clear t3
      go_wp2_with fail
      go_ret3
      refine ⟨ret_three ?_ ?_ ?_, ext_trans hbrw hb5⟩ <;> rw [HB2.out, if_neg (by rw [HR.out]; simp)]
end Go.Proofs.Ytlfnfphkhokdiaa

namespace Go.Proofs.Ytlfnfphkhokdiaa
open Go.RowKit Go Go.Shelf

def fewXB (inp : List Int) (word : List Rd) (dec : List Int) : Bool := decide (inp.length ≤ 10) && decide (word.length ≤ 10) && decide (dec.length ≤ 10)

set_option maxHeartbeats 1000000 in
theorem lfew_any (vi u vd : Value) (inp : List Int) (word : List Rd) (dec : List Int) (w : World) (hi : IsInts w vi inp) (hu : IsWord w u word) (hd : IsInts w vd dec) :
    Calls Try.prog 6 #[.agg #[vi, u, vd]] w fun e w' => e = .returned (.bool (fewXB inp word dec)) ∧ Below w.heap.size w w' := by
  obtain ⟨pi, ci, rfl, _⟩ := hi
  obtain ⟨pu, cu, rfl, _⟩ := hu
  obtain ⟨pd, cd, rfl, _⟩ := hd
  have HV : Hid (fewXB inp word dec = (decide (inp.length ≤ 10) && decide (word.length ≤ 10) && decide (dec.length ≤ 10))) := by exact rfl
  by_cases h1 : inp.length ≤ 10
  · by_cases h2 : word.length ≤ 10
    · have HR : Hid (fewXB inp word dec = decide (dec.length ≤ 10)) := by (have h : fewXB inp word dec = decide (dec.length ≤ 10) := by (rw [HV.out, decide_eq_true h1, decide_eq_true h2]; rfl)); exact h
      go_enter Try.func6, Try.ntmps6
      go_wp2
      go_ret
      refine ⟨ret_bool ?_, by go_grown⟩
      rw [HR.out]
      try simp
      try omega
    · have HR : Hid (fewXB inp word dec = false) := by (have h : fewXB inp word dec = false := by (rw [HV.out, decide_eq_true h1, decide_eq_false h2]; rfl)); exact h
      go_enter Try.func6, Try.ntmps6
      go_wp2
      go_ret
      exact ⟨ret_bool HR.out.symm, by go_grown⟩
  · have HR : Hid (fewXB inp word dec = false) := by (have h : fewXB inp word dec = false := by (rw [HV.out, decide_eq_false h1]; rfl)); exact h
    go_enter Try.func6, Try.ntmps6
    go_wp2
    go_ret
    exact ⟨ret_bool HR.out.symm, by go_grown⟩

theorem fewPB_moves {p : Pb} (h : fewPB p = true) : movesN p.a.states ≤ 40 := by
  unfold fewPB at h
  split at h
  · cases h
  split at h
  · cases h
  · rename_i h2
    have : fewAB p.a = true := by simpa using h2
    unfold fewAB at this
    simp at this
    exact this.2

set_option maxRecDepth 100000 in
set_option maxHeartbeats 4000000 in
theorem lblames_any (p : Pb) (vc vs vi u vd : Value) (inp : List Int) (word : List Rd) (dec : List Int) (w : World) (hc : IsCases w vc p.t.cases) (hs : IsStates w vs p.a.states) (hi : IsInts w vi inp) (hu : IsWord w u word) (hd : IsInts w vd dec) :
    Calls Try.prog 3 #[pbV p vc vs, .agg #[vi, u, vd]] w fun e w' => e = .returned (.bool true) ∧ Below w.heap.size w w' := by
  have HC := Lib.hid hc
  have HS := Lib.hid hs
  have HI := Lib.hid hi
  have HU := Lib.hid hu
  have HD := Lib.hid hd
  obtain ⟨pc, cc, rfl, _⟩ := hc
  obtain ⟨ps, cs, rfl, _⟩ := hs
  obtain ⟨pi, ci, rfl, _⟩ := hi
  obtain ⟨pu, cu, rfl, _⟩ := hu
  obtain ⟨pd, cd, rfl, _⟩ := hd
  go_enter Try.func3, Try.ntmps3
  go_wp2_with fail
  refine calls_gen (fun W => Below w.heap.size w W ∧ W.heap[w.heap.size]? = some (.cells (pbC p (.slice pc p.t.cases.length cc) (.slice ps p.a.states.length cs)) 29) ∧ W.heap[w.heap.size + 1]? = some (.cells #[.slice pi inp.length ci, .slice pu word.length cu, .slice pd dec.length cd] 33)) ⟨by go_grown, alloc_old _ (alloc_new _ _), alloc2_new _ _ _⟩ (fun W0 hW0 => ?_)
  obtain ⟨hb0, hA0, hX0⟩ := hW0
  refine (rfewProb_any p _ _ W0 (HC.out.up up_case hb0) (HS.out.up up_moves hb0)).mono ?_
  rintro e w1 ⟨rfl, hb1⟩
  have hb1' := ext_trans hb0 hb1
  have HA1 := Lib.hid (block_up hb1 hA0)
  have HX1 := Lib.hid (block_up hb1 hX0)
  have t1 := cell_block HA1.out
  have s1 := cell_block HX1.out
  clear hA0 hX0
  cases hfp : fewPB p with
  | false =>
    clear hfp
    go_wp2_with fail
    refine (lawake_any _).mono ?_
    rintro e w2 ⟨rfl, hb2⟩
    go_wp2_with fail
    go_ret
    exact ⟨rfl, ext_trans hb1' hb2⟩
  | true =>
  have hmv := fewPB_moves hfp
  clear hfp
  have HF := Lib.hid (lfew_any _ _ _ inp word dec w1 (HI.out.up up_int hb1') (HU.out.up up_round hb1') (HD.out.up up_int hb1'))
  generalize fewXB inp word dec = fx at HF
  cases fx with
  | false =>
    go_wp2_with fail
    refine HF.out.mono ?_
    rintro e w2 ⟨rfl, hb2⟩
    clear t1 s1
    go_wp2_with fail
    refine (lawake_any _).mono ?_
    rintro e w3 ⟨rfl, hb3⟩
    go_wp2_with fail
    go_ret
    exact ⟨rfl, ext_trans (ext_trans hb1' hb2) hb3⟩
  | true =>
  go_wp2_with fail
  refine HF.out.mono ?_
  rintro e w2 ⟨rfl, hb2⟩
  have hb2' := ext_trans hb1' hb2
  have HA2 := Lib.hid (block_up hb2 HA1.out)
  have HX2 := Lib.hid (block_up hb2 HX1.out)
  have t2 := cell_block HA2.out
  have s2 := cell_block HX2.out
  clear t1 s1
  go_wp2_with fail
  refine (blame_any p _ _ _ inp _ word _ dec w2 (HC.out.up up_case hb2') (HS.out.up up_moves hb2') (HI.out.up up_int hb2') (HU.out.up up_round hb2') (HD.out.up up_int hb2') (by omega)).mono ?_
  rintro e w3 ⟨rfl, hb3⟩
  have hb3' := ext_trans hb2' hb3
  have t3 := cell_block (block_up hb3 HA2.out)
  have s3 := cell_block (block_up hb3 HX2.out)
  clear t2 s2
  go_wp2_with fail
  refine (rblame_any p _ _ _ inp _ word _ dec w3 (HC.out.up up_case hb3') (HS.out.up up_moves hb3') (HI.out.up up_int hb3') (HU.out.up up_round hb3') (HD.out.up up_int hb3') (by omega)).mono ?_
  rintro e w4 ⟨rfl, hb4⟩
  clear t3 s3
  generalize (blameR p inp word dec).1 = r1
  generalize (blameR p inp word dec).2.1 = r2
  generalize (blameR p inp word dec).2.2 = r3
  go_wp2_with fail
  refine (lawake_any _).mono ?_
  rintro e w5 ⟨rfl, hb5⟩
  go_wp2_with fail
  go_ret
  exact ⟨rfl, ext_trans (ext_trans hb3' hb4) hb5⟩
end Go.Proofs.Ytlfnfphkhokdiaa
