/-
  Parts of the proof, in order. Contract of the reference's Blame. Conditions: the arguments read as a problem, inputs, a word and decisions. Plain facts: decisions of processes that are not obliged do not matter; what is said of the process that is responsible. It proves nothing of the program. The walk of MonitorBlames: it returns true. Conditions: the arguments read as a problem and a play. The walk of MonitorExcuses: it returns true. Conditions: the arguments read as a problem, a play and numbers. What came in, as it is read: rounds, moves, cases, and slices of these, opened to lists. It proves nothing of the program's functions. A play that came in, opened to lists. It proves nothing of the program's functions.
-/
import Derived.StillTailTactics
import Derived.WalkKit
import Derived.ProofKit
import Derived.OpenShut
import Derived.ShutString
import Derived.ChangeOld
import Derived.Below
import Derived.SizedLaws
import Derived.Deep.Slices
import Derived.Test.YtlfnfphkhokdiaaRows
import Derived.Test.YtlfnfphkhokdiaaJ7
namespace Go.Proofs.Ytlfnfphkhokdiaa
open Go.RowKit Go Go.Shelf

theorem findE_lt {t : Tk} {inp : List Int} (h : ¬ findE t inp < 0) : ∃ k : Nat, findE t inp = k ∧ k < t.cases.length := by
  unfold findE at h ⊢
  rcases firstIx_cases t.cases.length (fun i => eqV (t.cases.getD i default).inp inp) with h1 | ⟨k, hk, h1, _⟩
  · rw [h1.1] at h; omega
  · exact ⟨k, h1, hk⟩

set_option maxRecDepth 100000 in
set_option maxHeartbeats 4000000 in
theorem rblame_any (p : Pb) (vc vs : Value) (vi : Value) (inp : List Int) (u : Value) (word : List Rd) (vd : Value) (dec : List Int) (w : World) (hc : IsCases w vc p.t.cases) (hs : IsStates w vs p.a.states) (hi : IsInts w vi inp) (hu : IsWord w u word) (hd : IsInts w vd dec)
    (hN : movesN p.a.states < 2305843009213693952) :
    Calls Try.prog 9 #[pbV p vc vs, vi, u, vd] w fun e w' => e = .returned (.tuple #[.int .i64 (blameR p inp word dec).1, .int .i64 (blameR p inp word dec).2.1, .int .i64 (blameR p inp word dec).2.2]) ∧ Below w.heap.size w w' := by
  have HC := Lib.hid hc
  have HS := Lib.hid hs
  have HI := Lib.hid hi
  have HU := Lib.hid hu
  have HD := Lib.hid hd
  obtain ⟨pc, cc, rfl, _⟩ := hc
  obtain ⟨ps, cs, rfl, _⟩ := hs
  obtain ⟨pi, ci, rfl, _⟩ := hi
  obtain ⟨pu, cu, rfl, _⟩ := hu
  obtain ⟨pd, cd, rfl, _, hdl, _⟩ := id hd
  obtain ⟨pd', cd', epd, _, _, ed⟩ := hd.at
  obtain ⟨rfl, rfl⟩ : pd = pd' ∧ cd = cd' := by simpa using epd
  have ED := Lib.hid ed
  clear hd epd ed
  have HB : Hid (blameR p inp word dec = if probE p ≠ 0 then (0, 0, probE p) else if findE p.t inp < 0 then (0, 0, 6) else if (dec.length : Int) ≠ p.t.n then (0, 0, 15) else if decB p.t.outs dec then (0, 0, 2) else ((judgeR p (findE p.t inp) word dec).1, (judgeR p (findE p.t inp) word dec).2, 0)) := by exact rfl
  go_enter Try.func9, Try.ntmps9
  go_wp2_with fail
  refine calls_gen (fun W => Below w.heap.size w W ∧ W.heap[w.heap.size]? = some (.cells (pbC p (.slice pc p.t.cases.length cc) (.slice ps p.a.states.length cs)) 29)) ⟨by go_grown, alloc_new _ _⟩ (fun W0 hW0 => ?_)
  obtain ⟨hb0, hA0⟩ := hW0
  refine (rprobCheck_any p _ _ W0 (HC.out.up up_case hb0) (HS.out.up up_moves hb0) hN).mono ?_
  rintro e w1 ⟨rfl, hb1⟩
  have hb1' := ext_trans hb0 hb1
  have HA1 := Lib.hid (block_up hb1 hA0)
  have t1 := cell_block HA1.out
  clear hA0
  by_cases hp : probE p = 0
  case neg =>
    generalize probE p = ep at hp HB
    have hp' : (ep != 0) = true := by simpa using hp
    go_wp2_with fail
    go_ret3
    refine ⟨ret_three ?_ ?_ ?_, hb1'⟩ <;> rw [HB.out, if_pos hp]
  have HP := Lib.hid hp
  rw [hp] at HB ⊢
  clear hp
  have HFI := Lib.hid (rindex_any p.t _ _ inp w1 (HC.out.up up_case hb1') (HI.out.up up_int hb1'))
  have hfe : findI p.t inp = findE p.t inp := rfl
  rw [hfe] at HFI
  clear hfe
  go_wp2_with fail
  refine HFI.out.mono ?_
  rintro e w2 ⟨rfl, hb2⟩
  have hb2' := ext_trans hb1' hb2
  have HA2 := Lib.hid (block_up hb2 HA1.out)
  have t2 := cell_block HA2.out
  clear t1
  by_cases hf : findE p.t inp < 0
  · have HF := Lib.hid hf
    go_wp2_with fail
    go_ret3
    refine ⟨ret_three ?_ ?_ ?_, hb2'⟩ <;> rw [HB.out, if_neg (by simp), if_pos HF.out]
  obtain ⟨fk, hfk, hfl⟩ := findE_lt hf
  rw [hfk] at HB ⊢
  clear hf hfk HFI
  have HB1 : Hid (blameR p inp word dec = if (dec.length : Int) ≠ p.t.n then (0, 0, 15) else if decB p.t.outs dec then (0, 0, 2) else ((judgeR p fk word dec).1, (judgeR p fk word dec).2, 0)) := by
    have h : blameR p inp word dec = if (dec.length : Int) ≠ p.t.n then (0, 0, 15) else if decB p.t.outs dec then (0, 0, 2) else ((judgeR p fk word dec).1, (judgeR p fk word dec).2, 0) := by
      rw [HB.out, if_neg (by simp), if_neg (by omega)]
    exact h
  clear HB
  by_cases hl : (dec.length : Int) = p.t.n
  case neg =>
    have hl' : ((dec.length : Int) != p.t.n) = true := by simpa using hl
    go_wp2_with fail
    go_ret3
    refine ⟨ret_three ?_ ?_ ?_, hb2'⟩ <;> rw [HB1.out, if_pos hl]
  have hl' : ((dec.length : Int) != p.t.n) = false := by simp [hl]
  have HLN := Lib.hid hl; clear hl
  have HB2 : Hid (blameR p inp word dec = if decB p.t.outs dec then (0, 0, 2) else ((judgeR p fk word dec).1, (judgeR p fk word dec).2, 0)) := by
    have h : blameR p inp word dec = if decB p.t.outs dec then (0, 0, 2) else ((judgeR p fk word dec).1, (judgeR p fk word dec).2, 0) := by rw [HB1.out, if_neg (by simpa using HLN.out)]
    exact h
  have HDB : Hid (decB p.t.outs dec = anyLt dec.length fun i => decide (dec.getD i 0 < -1) || decide (p.t.outs ≤ dec.getD i 0)) := by exact rfl
  clear HB1
  go_wp2_with fail
  clear t2 hl'
  go_loopw [13] (fun i wr => Below w2.heap.size w2 wr ∧ ∃ q : Nat, q ≤ dec.length ∧ i = .int .i64 q ∧ ∀ j, j < q → (decide (dec.getD j 0 < -1) || decide (p.t.outs ≤ dec.getD j 0)) = false) (fun i _ => dec.length - (intOf i).toNat)
  case atStart => exact ⟨Below.refl _ _, 0, by omega, rfl, by simp⟩
  case round =>
    obtain ⟨hbr, q, hq, rfl, hinv⟩ := hrel
    have H := Lib.hid hinv; clear hinv
    have hbrw := ext_trans hb2' hbr
    by_cases hlt : q < dec.length
    · obtain ⟨b4, o4, rfl, c4, _⟩ := ED.out q hlt
      rw [Nat.mul_one] at c4
      have HDG := Lib.hid (getD_of_lt 0 hlt)
      generalize dec[q] = y at c4 HDG
      have r1 : ∀ n, (wr.drewN n).cell? _ = _ := fun n => cell_up hbrw c4
      have r2 : ∀ n o, (wr.drewN n).cell? ⟨w.heap.size, o, none⟩ = _ := fun n => cell_block (block_up hbr HA2.out)
      clear c4
      by_cases hy : y < -1
      · have HR : Hid (decB p.t.outs dec = true) := by (have h : decB p.t.outs dec = true := by (rw [HDB.out]; exact anyLt_true _ q _ hlt (by rw [HDG.out, decide_eq_true hy]; rfl))); exact h
        go_wp2_with fail
        go_quiet (fail)
        go_wp2_with fail
        go_ret3
        refine ⟨ret_three ?_ ?_ ?_, below_drewN hbrw _⟩ <;> rw [HB2.out, if_pos HR.out]
      · have hyd : decide (y < -1) = false := decide_eq_false hy
        have HYD := Lib.hid hyd
        by_cases hy2 : p.t.outs ≤ y
        · have HR : Hid (decB p.t.outs dec = true) := by (have h : decB p.t.outs dec = true := by (rw [HDB.out]; exact anyLt_true _ q _ hlt (by rw [HDG.out, HYD.out, decide_eq_true hy2]; rfl))); exact h
          go_wp2_with fail
          go_quiet (fail)
          go_wp2_with fail
          go_ret3
          refine ⟨ret_three ?_ ?_ ?_, below_drewN hbrw _⟩ <;> rw [HB2.out, if_pos HR.out]
        · go_wp2_with fail
          go_quiet (fail)
          go_wp2_with fail
          go_roundw
          case rel => exact ⟨below_drewN hbr _, q + 1, by omega, by go_num, below_succ H.out (by rw [HDG.out, HYD.out, decide_eq_false (by omega)]; rfl)⟩
          case measure => simp [intOf]; omega
    · have HR : Hid (decB p.t.outs dec = false) := by (have h : decB p.t.outs dec = false := by (rw [HDB.out]; exact anyLt_false _ _ fun j hj => H.out j (by omega))); exact h
      have HJU := Lib.hid (rjudge_any p _ _ fk hfl _ word _ dec wr (HC.out.up up_case hbrw) (HS.out.up up_moves hbrw) (HU.out.up up_round hbrw) (HD.out.up up_int hbrw) HP.out HLN.out)
      have t3 := cell_block (block_up hbr HA2.out)
      go_wp2_with fail
      refine HJU.out.mono ?_
      rintro e w5 ⟨rfl, hb5⟩
      clear t3
      go_wp2_with fail
      go_ret3
      refine ⟨ret_three ?_ ?_ ?_, ext_trans hbrw hb5⟩ <;> rw [HB2.out, if_neg (by rw [HR.out]; simp)]
end Go.Proofs.Ytlfnfphkhokdiaa

namespace Go.Proofs.Ytlfnfphkhokdiaa

def chgAt (f outs : Int) (oth : Nat → Int) (dec : List Int) (i : Nat) : Int := if hasB f i then oth i % (outs + 1) - 1 else dec.getD i 0
/-- the decisions, changed for the first k processes where they are faulty -/
def chgTo (f outs : Int) (oth : Nat → Int) (dec : List Int) (k : Nat) : List Int := (List.range dec.length).map fun i => if i < k then chgAt f outs oth dec i else dec.getD i 0
def chgS (f outs : Int) (oth : Nat → Int) (dec : List Int) : List Int := (List.range dec.length).map (chgAt f outs oth dec)
theorem chgTo_zero (f outs : Int) (oth : Nat → Int) (dec : List Int) : chgTo f outs oth dec 0 = dec := by
  unfold chgTo
  have : (fun i => if i < 0 then chgAt f outs oth dec i else dec.getD i 0) = fun i => dec.getD i 0 := by funext i; simp
  rw [this]
  exact range_getD dec 0
theorem chgTo_all (f outs : Int) (oth : Nat → Int) (dec : List Int) : chgTo f outs oth dec dec.length = chgS f outs oth dec := by
  unfold chgTo chgS
  refine List.map_congr_left fun i hi => ?_
  rw [if_pos (List.mem_range.1 hi)]
theorem chgTo_len (f outs : Int) (oth : Nat → Int) (dec : List Int) (k : Nat) : (chgTo f outs oth dec k).length = dec.length := by simp [chgTo]
theorem chgS_len (f outs : Int) (oth : Nat → Int) (dec : List Int) : (chgS f outs oth dec).length = dec.length := by simp [chgS]
theorem chgTo_skip (f outs : Int) (oth : Nat → Int) (dec : List Int) (k : Nat) (h : hasB f k = false) : chgTo f outs oth dec (k + 1) = chgTo f outs oth dec k := by
  unfold chgTo
  refine List.map_congr_left fun i _ => ?_
  by_cases hik : i < k
  · rw [if_pos hik, if_pos (by omega)]
  · rw [if_neg hik]
    by_cases hk : i = k
    · subst hk
      rw [if_pos (by omega)]
      unfold chgAt
      rw [h]
      rfl
    · rw [if_neg (by omega)]
theorem chgTo_set (f outs : Int) (oth : Nat → Int) (dec : List Int) (k : Nat) (h : hasB f k = true) : chgTo f outs oth dec (k + 1) = (chgTo f outs oth dec k).set k (oth k % (outs + 1) - 1) := by
  apply List.ext_getElem
  · simp [chgTo]
  · intro i h1 h2
    rw [List.getElem_set]
    simp only [chgTo, List.getElem_map, List.getElem_range]
    by_cases hik : k = i
    · subst hik
      rw [if_pos (by omega), if_pos rfl]
      unfold chgAt
      rw [h]
      rfl
    · rw [if_neg hik]
      by_cases hlt : i < k
      · rw [if_pos hlt, if_pos (by omega)]
      · rw [if_neg hlt, if_neg (by omega)]
theorem chgS_get (f outs : Int) (oth : Nat → Int) (dec : List Int) (p : Nat) (h : hasB f p = false) : (chgS f outs oth dec).getD p 0 = dec.getD p 0 := by
  by_cases hp : p < dec.length
  · rw [show (chgS f outs oth dec).getD p 0 = chgAt f outs oth dec p by simp [chgS, hp]]
    unfold chgAt
    rw [h]
    rfl
  · rw [List.getD_eq_getElem?_getD, List.getElem?_eq_none (by rw [chgS_len]; omega), List.getD_eq_getElem?_getD, List.getElem?_eq_none (by omega)]
theorem undecE_chg (n : Nat) (f outs : Int) (oth : Nat → Int) (dec : List Int) : undecE n f (chgS f outs oth dec) = undecE n f dec := by
  unfold undecE firstObl
  refine firstIx_congr _ _ _ fun p _ => ?_
  cases hb : hasB f p with
  | true => rfl
  | false => dsimp only; rw [chgS_get _ _ _ _ _ hb]
theorem noneB_chg (f outs : Int) (oth : Nat → Int) (dec : List Int) (L : List (List Int)) (q : Nat) : noneB f (chgS f outs oth dec) L q = noneB f dec L q := by
  unfold noneB
  have : agreesB (oblL (q + 1) f) (chgS f outs oth dec) = agreesB (oblL (q + 1) f) dec := by
    funext v
    unfold agreesB
    rw [Bool.eq_iff_iff, List.all_eq_true, List.all_eq_true]
    constructor <;>
    · intro h p hp
      have := h p hp
      rw [chgS_get _ _ _ _ _ (oblL_mem.1 hp).2] at *
      exact this
  rw [this]
theorem outpE_chg (n : Nat) (f outs : Int) (oth : Nat → Int) (dec : List Int) (L : List (List Int)) : outpE n f (chgS f outs oth dec) L = outpE n f dec L := by
  unfold outpE firstObl
  refine firstIx_congr _ _ _ fun p _ => ?_
  rw [noneB_chg]
theorem judgeR_chg (p : Pb) (ix outs : Int) (oth : Nat → Int) (word : List Rd) (dec : List Int) : judgeR p ix word (chgS (faultyS word) outs oth dec) = judgeR p ix word dec := by
  unfold judgeR
  rw [undecE_chg, outpE_chg]
theorem decB_chg (f outs : Int) (oth : Nat → Int) (dec : List Int) (ho : 1 ≤ outs) (h : decB outs dec = false) : decB outs (chgS f outs oth dec) = false := by
  unfold decB at h ⊢
  rw [anyLt_eq_false] at h ⊢
  intro k hk
  rw [chgS_len] at hk
  have h1 := h k hk
  rw [show (chgS f outs oth dec).getD k 0 = chgAt f outs oth dec k by simp [chgS, hk]]
  unfold chgAt
  cases hb : hasB f k with
  | false => exact h1
  | true =>
    have h2 := Int.emod_nonneg (oth k) (show outs + 1 ≠ 0 by omega)
    have h3 := Int.emod_lt_of_pos (oth k) (show 0 < outs + 1 by omega)
    simp
    omega

/-- a play without errors -/
structure BlameOk (p : Pb) (inp : List Int) (word : List Rd) (dec : List Int) (a q : Int) : Prop where
  prob : probE p = 0
  find : ¬ findE p.t inp < 0
  len : (dec.length : Int) = p.t.n
  rng : decB p.t.outs dec = false
  judge : judgeR p (findE p.t inp) word dec = (a, q)
theorem blame_ok {p : Pb} {inp : List Int} {word : List Rd} {dec : List Int} (h : (blameR p inp word dec).2.2 = 0) : BlameOk p inp word dec (blameR p inp word dec).1 (blameR p inp word dec).2.1 := by
  unfold blameR at h ⊢
  split at h
  · rename_i h1; exact absurd h h1
  rename_i h1
  rw [if_neg h1]
  split at h
  · simp at h
  rename_i h2
  rw [if_neg h2]
  split at h
  · simp at h
  rename_i h3
  rw [if_neg h3]
  split at h
  · simp at h
  rename_i h4
  rw [if_neg h4]
  exact ⟨by simpa using h1, h2, by simpa using h3, by simpa using h4, rfl⟩
theorem blame_of_ok {p : Pb} {inp : List Int} {word : List Rd} {dec : List Int} {a q : Int} (h : BlameOk p inp word dec a q) : blameR p inp word dec = (a, q, 0) := by
  unfold blameR
  rw [if_neg (by simpa using h.prob), if_neg h.find, if_neg (by simpa using h.len), if_neg (by rw [h.rng]; simp), h.judge]
theorem blame_chg {p : Pb} {inp : List Int} {word : List Rd} {dec : List Int} {a q : Int} (h : BlameOk p inp word dec a q) (oth : Nat → Int) : blameR p inp word (chgS (faultyS word) p.t.outs oth dec) = (a, q, 0) :=
  blame_of_ok ⟨h.prob, h.find, by rw [chgS_len]; exact h.len, decB_chg _ _ _ _ (task_ok (prob_ok h.prob).1).2.2.1.1 h.rng, by rw [judgeR_chg]; exact h.judge⟩

def sameB (f : Int) (v dec : List Int) (q : Nat) : Bool := !anyLt q (disB f v dec)
def beforeB (f : Int) (L : List (List Int)) (dec : List Int) (q k : Nat) : Bool := anyLt k fun j => sameB f (L.getD j []) dec q
def withB (f : Int) (L : List (List Int)) (dec : List Int) (q k : Nat) : Bool := anyLt k fun j => sameB f (L.getD j []) dec q && ((L.getD j []).getD q 0 == dec.getD q 0)

theorem firstIx_ge (n : Nat) (p : Nat → Bool) (h : 0 ≤ firstIx n p) : ∃ k, k < n ∧ firstIx n p = k ∧ p k = true ∧ ∀ j, j < k → p j = false := by
  rcases firstIx_cases n p with h1 | h1
  · rw [h1.1] at h; omega
  · exact h1
/-- what the verdict of a play without errors says of the process -/
theorem exc_cases {p : Pb} {inp : List Int} {word : List Rd} {dec : List Int} {a q : Int} (h : BlameOk p inp word dec a q) (ha : a ≠ 1) :
    (0 ≤ faultyS word ∧ faultyS word < 32) ∧ ((a = 0 ∧ q = -1) ∨ ∃ k : Nat, q = k ∧ (k : Int) < p.t.n ∧ hasB (faultyS word) k = false ∧
      ((a = 2 ∧ dec.getD k 0 < 0) ∨ (a = 3 ∧ ∃ i : Nat, findE p.t inp = i ∧ ∃ hi : i < p.t.cases.length, beforeB (faultyS word) (vecsS p.t.cases[i] (faultyS word)) dec k (vecsS p.t.cases[i] (faultyS word)).length = true ∧ withB (faultyS word) (vecsS p.t.cases[i] (faultyS word)) dec k (vecsS p.t.cases[i] (faultyS word)).length = false))) := by
  obtain ⟨ht, hadv, hna, _, _⟩ := prob_ok h.prob
  have htn := (task_ok ht).1
  obtain ⟨n, hn⟩ : ∃ n : Nat, p.t.n = n := ⟨p.t.n.toNat, by omega⟩
  have hj := h.judge
  unfold judgeR at hj
  rw [hn, Int.toNat_natCast] at hj
  split at hj
  · simp at hj; exact absurd hj.1.symm ha
  rename_i hsb
  have haf : 0 ≤ afterS p.a 0 word := by
    unfold schedB at hsb
    simp at hsb
    omega
  have hfo := faulty_ok hadv word haf
  refine ⟨⟨hfo.1, hfo.2.2⟩, ?_⟩
  split at hj
  · rename_i hu
    obtain ⟨k, hk, e, hp, _⟩ := firstIx_ge _ _ hu
    simp at hj
    obtain ⟨rfl, rfl⟩ := hj
    have hp' : hasB (faultyS word) k = false ∧ dec.getD k 0 < 0 := by simpa using hp
    exact .inr ⟨k, e, by omega, hp'.1, .inl ⟨rfl, hp'.2⟩⟩
  · split at hj
    · rename_i ho
      simp at hj
      obtain ⟨rfl, rfl⟩ := hj
      obtain ⟨i, hfi, hil⟩ := findE_lt h.find
      rw [hfi] at ho ⊢
      rw [← hna, hn, Int.toNat_natCast] at hfo
      have hal : allowedS p.t i (faultyS word) = vecsS p.t.cases[i] (faultyS word) := by
        have h0 : placeE p.t i (faultyS word) = 0 := by
          unfold placeE
          rw [ht, hn, Int.toNat_natCast, if_neg (by simp), if_neg (by omega), if_neg (by omega)]
        unfold allowedS
        rw [if_neg (by simpa using h0), Int.toNat_natCast, show p.t.cases.getD i default = p.t.cases[i] by simp [hil]]
      rw [hal] at ho ⊢
      have hne := vecs_ne ((task_ok ht).2.2.2.2 _ (List.getElem_mem hil)).out1 (faultyS word)
      obtain ⟨k, hk, e, hp, _⟩ := firstIx_ge _ _ ho
      have hp' : hasB (faultyS word) k = false := by
        have := hp
        simp at this
        exact this.1
      have hof := outp_first n (faultyS word) dec _ hne
      have e2 : firstIx n (fun q => !agrB (faultyS word) (vecsS p.t.cases[i] (faultyS word)) dec q) = k := by rw [hof]; exact e
      obtain ⟨k2, _, e3, hq, hl⟩ := firstIx_ge n (fun q => !agrB (faultyS word) (vecsS p.t.cases[i] (faultyS word)) dec q) (by rw [e2]; omega)
      obtain rfl : k2 = k := by rw [e2] at e3; omega
      refine .inr ⟨k2, e, by omega, hp', .inr ⟨rfl, i, rfl, hil, ?_, ?_⟩⟩
      · unfold beforeB
        cases hk2 : k2 with
        | zero =>
          have h0 : 0 < (vecsS p.t.cases[i] (faultyS word)).length := List.length_pos_iff.2 hne
          exact anyLt_true _ 0 _ h0 rfl
        | succ k3 =>
          have := hl k3 (by omega)
          simp at this
          unfold agrB agB at this
          exact this
      · unfold withB
        have hq' : agrB (faultyS word) (vecsS p.t.cases[i] (faultyS word)) dec k2 = false := by simpa using hq
        unfold agrB at hq'
        rw [anyLt_eq_false] at hq' ⊢
        intro j hj2
        have h5 := hq' j hj2
        unfold agB at h5
        rw [show anyLt (k2 + 1) (disB (faultyS word) ((vecsS p.t.cases[i] (faultyS word)).getD j []) dec) = (anyLt k2 (disB (faultyS word) ((vecsS p.t.cases[i] (faultyS word)).getD j []) dec) || disB (faultyS word) ((vecsS p.t.cases[i] (faultyS word)).getD j []) dec k2) from rfl] at h5
        unfold sameB
        generalize anyLt k2 (disB (faultyS word) ((vecsS p.t.cases[i] (faultyS word)).getD j []) dec) = b1 at h5 ⊢
        unfold disB at h5
        rw [hp'] at h5
        cases b1 with
        | true => rfl
        | false =>
          simp at h5 ⊢
          exact h5
    · simp at hj
      exact .inl ⟨hj.1.symm, hj.2.symm⟩
end Go.Proofs.Ytlfnfphkhokdiaa

namespace Go.Proofs.Ytlfnfphkhokdiaa
open Go.RowKit Go Go.Shelf

def fewXB (inp : List Int) (word : List Rd) (dec : List Int) : Bool := decide (inp.length ≤ 10) && decide (word.length ≤ 10) && decide (dec.length ≤ 10)

set_option maxHeartbeats 1000000 in
theorem lfew_any (vi u vd : Value) (inp : List Int) (word : List Rd) (dec : List Int) (w : World) (hi : IsInts w vi inp) (hu : IsWord w u word) (hd : IsInts w vd dec) :
    Calls Try.prog 6 #[.agg #[vi, u, vd]] w fun e w' => e = .returned (.bool (fewXB inp word dec)) ∧ Below w.heap.size w w' := by
  obtain ⟨pi, ci, rfl, _⟩ := hi
  obtain ⟨pu, cu, rfl, _⟩ := hu
  obtain ⟨pd, cd, rfl, _⟩ := hd
  have HV : Hid (fewXB inp word dec = (decide (inp.length ≤ 10) && decide (word.length ≤ 10) && decide (dec.length ≤ 10))) := by exact rfl
  by_cases h1 : inp.length ≤ 10
  · by_cases h2 : word.length ≤ 10
    · have HR : Hid (fewXB inp word dec = decide (dec.length ≤ 10)) := by (have h : fewXB inp word dec = decide (dec.length ≤ 10) := by (rw [HV.out, decide_eq_true h1, decide_eq_true h2]; rfl)); exact h
      go_enter Try.func6, Try.ntmps6
      go_wp2
      go_ret
      refine ⟨ret_bool ?_, by go_grown⟩
      rw [HR.out]
      try simp
      try omega
    · have HR : Hid (fewXB inp word dec = false) := by (have h : fewXB inp word dec = false := by (rw [HV.out, decide_eq_true h1, decide_eq_false h2]; rfl)); exact h
      go_enter Try.func6, Try.ntmps6
      go_wp2
      go_ret
      exact ⟨ret_bool HR.out.symm, by go_grown⟩
  · have HR : Hid (fewXB inp word dec = false) := by (have h : fewXB inp word dec = false := by (rw [HV.out, decide_eq_false h1]; rfl)); exact h
    go_enter Try.func6, Try.ntmps6
    go_wp2
    go_ret
    exact ⟨ret_bool HR.out.symm, by go_grown⟩

theorem fewPB_moves {p : Pb} (h : fewPB p = true) : movesN p.a.states ≤ 40 := by
  unfold fewPB at h
  split at h
  · cases h
  split at h
  · cases h
  · rename_i h2
    have : fewAB p.a = true := by simpa using h2
    unfold fewAB at this
    simp at this
    exact this.2

set_option maxRecDepth 100000 in
set_option maxHeartbeats 4000000 in
theorem lblames_any (p : Pb) (vc vs vi u vd : Value) (inp : List Int) (word : List Rd) (dec : List Int) (w : World) (hc : IsCases w vc p.t.cases) (hs : IsStates w vs p.a.states) (hi : IsInts w vi inp) (hu : IsWord w u word) (hd : IsInts w vd dec) :
    Calls Try.prog 3 #[pbV p vc vs, .agg #[vi, u, vd]] w fun e w' => e = .returned (.bool true) ∧ Below w.heap.size w w' := by
  have HC := Lib.hid hc
  have HS := Lib.hid hs
  have HI := Lib.hid hi
  have HU := Lib.hid hu
  have HD := Lib.hid hd
  obtain ⟨pc, cc, rfl, _⟩ := hc
  obtain ⟨ps, cs, rfl, _⟩ := hs
  obtain ⟨pi, ci, rfl, _⟩ := hi
  obtain ⟨pu, cu, rfl, _⟩ := hu
  obtain ⟨pd, cd, rfl, _⟩ := hd
  go_enter Try.func3, Try.ntmps3
  go_wp2_with fail
  refine calls_gen (fun W => Below w.heap.size w W ∧ W.heap[w.heap.size]? = some (.cells (pbC p (.slice pc p.t.cases.length cc) (.slice ps p.a.states.length cs)) 29) ∧ W.heap[w.heap.size + 1]? = some (.cells #[.slice pi inp.length ci, .slice pu word.length cu, .slice pd dec.length cd] 33)) ⟨by go_grown, alloc_old _ (alloc_new _ _), alloc2_new _ _ _⟩ (fun W0 hW0 => ?_)
  obtain ⟨hb0, hA0, hX0⟩ := hW0
  refine (rfewProb_any p _ _ W0 (HC.out.up up_case hb0) (HS.out.up up_moves hb0)).mono ?_
  rintro e w1 ⟨rfl, hb1⟩
  have hb1' := ext_trans hb0 hb1
  have HA1 := Lib.hid (block_up hb1 hA0)
  have HX1 := Lib.hid (block_up hb1 hX0)
  have t1 := cell_block HA1.out
  have s1 := cell_block HX1.out
  clear hA0 hX0
  cases hfp : fewPB p with
  | false =>
    clear hfp
    go_wp2_with fail
    refine (lawake_any _).mono ?_
    rintro e w2 ⟨rfl, hb2⟩
    go_wp2_with fail
    go_ret
    exact ⟨rfl, ext_trans hb1' hb2⟩
  | true =>
  have hmv := fewPB_moves hfp
  clear hfp
  have HF := Lib.hid (lfew_any _ _ _ inp word dec w1 (HI.out.up up_int hb1') (HU.out.up up_round hb1') (HD.out.up up_int hb1'))
  generalize fewXB inp word dec = fx at HF
  cases fx with
  | false =>
    go_wp2_with fail
    refine HF.out.mono ?_
    rintro e w2 ⟨rfl, hb2⟩
    clear t1 s1
    go_wp2_with fail
    refine (lawake_any _).mono ?_
    rintro e w3 ⟨rfl, hb3⟩
    go_wp2_with fail
    go_ret
    exact ⟨rfl, ext_trans (ext_trans hb1' hb2) hb3⟩
  | true =>
  go_wp2_with fail
  refine HF.out.mono ?_
  rintro e w2 ⟨rfl, hb2⟩
  have hb2' := ext_trans hb1' hb2
  have HA2 := Lib.hid (block_up hb2 HA1.out)
  have HX2 := Lib.hid (block_up hb2 HX1.out)
  have t2 := cell_block HA2.out
  have s2 := cell_block HX2.out
  clear t1 s1
  go_wp2_with fail
  refine (blame_any p _ _ _ inp _ word _ dec w2 (HC.out.up up_case hb2') (HS.out.up up_moves hb2') (HI.out.up up_int hb2') (HU.out.up up_round hb2') (HD.out.up up_int hb2') (by omega)).mono ?_
  rintro e w3 ⟨rfl, hb3⟩
  have hb3' := ext_trans hb2' hb3
  have t3 := cell_block (block_up hb3 HA2.out)
  have s3 := cell_block (block_up hb3 HX2.out)
  clear t2 s2
  go_wp2_with fail
  refine (rblame_any p _ _ _ inp _ word _ dec w3 (HC.out.up up_case hb3') (HS.out.up up_moves hb3') (HI.out.up up_int hb3') (HU.out.up up_round hb3') (HD.out.up up_int hb3') (by omega)).mono ?_
  rintro e w4 ⟨rfl, hb4⟩
  clear t3 s3
  generalize (blameR p inp word dec).1 = r1
  generalize (blameR p inp word dec).2.1 = r2
  generalize (blameR p inp word dec).2.2 = r3
  go_wp2_with fail
  refine (lawake_any _).mono ?_
  rintro e w5 ⟨rfl, hb5⟩
  go_wp2_with fail
  go_ret
  exact ⟨rfl, ext_trans (ext_trans hb3' hb4) hb5⟩
end Go.Proofs.Ytlfnfphkhokdiaa

namespace Go.Proofs.Ytlfnfphkhokdiaa
open Go.RowKit Go Go.Shelf

theorem owns_set {w : World} {base : Nat} {e : TypeId} {g n cap : Nat} {xs : List Value} (h : w.ownsRow base e 1 (.slice (some ⟨g, 0, none⟩) n cap) n xs) (k : Nat) (v : Value) : (w.setCell ⟨g, k, none⟩ v).ownsRow base e 1 (.slice (some ⟨g, 0, none⟩) n cap) n (xs.set k v) := by
  obtain ⟨hl, h⟩ := h
  refine ⟨by simpa using hl, ?_⟩
  rcases h with ⟨h1, _⟩ | ⟨g', cap', cur, h1, h2, h3, h4, h5, h6, h7⟩
  · cases h1
  · cases h1
    refine .inr ⟨g, cap, cur.setIfInBounds k v, rfl, h2, setCell_same h3 _ _, h4, h5, by simpa using h6, ?_⟩
    rw [← h7]
    simp [List.take_set]
theorem owns_block {w : World} {base : Nat} {e : TypeId} {g n cap : Nat} {xs : List Value} (h : w.ownsRow base e 1 (.slice (some ⟨g, 0, none⟩) n cap) n xs) : base ≤ g ∧ g < w.heap.size ∧ (∀ k, k < n → ∃ old, w.cell? ⟨g, k, none⟩ = some old) ∧ ∀ k, w.frozen? ⟨g, k, none⟩ = false := by
  obtain ⟨hl, h⟩ := h
  rcases h with ⟨h1, _⟩ | ⟨g', cap', cur, h1, h2, h3, h4, h5, h6, h7⟩
  · cases h1
  · cases h1
    refine ⟨h2, block_lt h3, fun k hk => ?_, fun k => frozen_block h3 k⟩
    have hlt : k < cur.size := by omega
    exact ⟨cur[k], by rw [cell_block h3]; exact Array.getElem?_eq_getElem hlt⟩

abbrev othV (o0 o1 o2 o3 o4 : Int) : Array Value := #[.int .u8 o0, .int .u8 o1, .int .u8 o2, .int .u8 o3, .int .u8 o4]
def othA (o0 o1 o2 o3 o4 : Int) (k : Nat) : Int := match k with | 0 => o0 | 1 => o1 | 2 => o2 | 3 => o3 | 4 => o4 | _ => 0
theorem oth_cell {w : World} {b : Nat} {t : TypeId} {o0 o1 o2 o3 o4 : Int} (h : w.heap[b]? = some (.cells (othV o0 o1 o2 o3 o4) t)) (k : Nat) (hk : k < 5) : w.cell? ⟨b, k, none⟩ = some (.int .u8 (othA o0 o1 o2 o3 o4 k)) := by
  have : k = 0 ∨ k = 1 ∨ k = 2 ∨ k = 3 ∨ k = 4 := by omega
  rcases this with h1 | h1 | h1 | h1 | h1 <;> subst h1 <;> rw [cell_block h] <;> rfl
theorem oth_bd {o0 o1 o2 o3 o4 : Int} (h : (0 ≤ o0 ∧ o0 ≤ 255) ∧ (0 ≤ o1 ∧ o1 ≤ 255) ∧ (0 ≤ o2 ∧ o2 ≤ 255) ∧ (0 ≤ o3 ∧ o3 ≤ 255) ∧ 0 ≤ o4 ∧ o4 ≤ 255) (k : Nat) : 0 ≤ othA o0 o1 o2 o3 o4 k ∧ othA o0 o1 o2 o3 o4 k ≤ 255 := by
  unfold othA
  split <;> omega

set_option maxRecDepth 100000 in
set_option maxHeartbeats 8000000 in
theorem lexcuses_any (p : Pb) (vc vs vi u vd : Value) (inp : List Int) (word : List Rd) (dec : List Int) (o0 o1 o2 o3 o4 : Int) (w : World) (hc : IsCases w vc p.t.cases) (hs : IsStates w vs p.a.states) (hi : IsInts w vi inp) (hu : IsWord w u word) (hd : IsInts w vd dec)
    (ho : (0 ≤ o0 ∧ o0 ≤ 255) ∧ (0 ≤ o1 ∧ o1 ≤ 255) ∧ (0 ≤ o2 ∧ o2 ≤ 255) ∧ (0 ≤ o3 ∧ o3 ≤ 255) ∧ 0 ≤ o4 ∧ o4 ≤ 255) :
    Calls Try.prog 4 #[pbV p vc vs, .agg #[vi, u, vd], .agg (othV o0 o1 o2 o3 o4)] w fun e w' => e = .returned (.bool true) ∧ Below w.heap.size w w' := by
  have HC := Lib.hid hc
  have HS := Lib.hid hs
  have HI := Lib.hid hi
  have HU := Lib.hid hu
  have HD := Lib.hid hd
  have HOB := Lib.hid (oth_bd ho)
  obtain ⟨pc, cc, rfl, _, _, ec⟩ := hc.at
  have EC := Lib.hid ec
  obtain ⟨ps, cs, rfl, _⟩ := hs
  obtain ⟨pi, ci, rfl, _⟩ := hi
  obtain ⟨pu, cu, rfl, _⟩ := hu
  obtain ⟨pd, cd, rfl, ld1, ld2, ed⟩ := hd.at
  have ED := Lib.hid ed
  clear hc hd ed ec ho
  go_enter Try.func4, Try.ntmps4
  go_wp2_with fail
  refine calls_gen (fun W => Below w.heap.size w W ∧ W.heap[w.heap.size]? = some (.cells (pbC p (.slice pc p.t.cases.length cc) (.slice ps p.a.states.length cs)) 29) ∧ W.heap[w.heap.size + 1]? = some (.cells #[.slice pi inp.length ci, .slice pu word.length cu, .slice pd dec.length cd] 33) ∧ W.heap[w.heap.size + 1 + 1]? = some (.cells (othV o0 o1 o2 o3 o4) 43)) ⟨by go_grown, alloc_old _ (alloc_old _ (alloc_new _ _)), alloc_old _ (alloc2_new _ _ _), alloc3_new _ _ _ _⟩ (fun W0 hW0 => ?_)
  obtain ⟨hb0, hA0, hX0, hO0⟩ := hW0
  refine (rfewProb_any p _ _ W0 (HC.out.up up_case hb0) (HS.out.up up_moves hb0)).mono ?_
  rintro e w1 ⟨rfl, hb1⟩
  have hb1' := ext_trans hb0 hb1
  have HA1 := Lib.hid (block_up hb1 hA0)
  have HX1 := Lib.hid (block_up hb1 hX0)
  have HO1 := Lib.hid (block_up hb1 hO0)
  have t1 := cell_block HA1.out
  have s1 := cell_block HX1.out
  clear hA0 hX0 hO0
  cases hfp : fewPB p with
  | false =>
    clear hfp
    go_wp2_with fail
    refine (lawake_any _).mono ?_
    rintro e w2 ⟨rfl, hb2⟩
    go_wp2_with fail
    go_ret
    exact ⟨rfl, ext_trans hb1' hb2⟩
  | true =>
  have hmv := fewPB_moves hfp
  clear hfp
  have HF := Lib.hid (lfew_any _ _ _ inp word dec w1 (HI.out.up up_int hb1') (HU.out.up up_round hb1') (HD.out.up up_int hb1'))
  generalize fewXB inp word dec = fx at HF
  cases fx with
  | false =>
    go_wp2_with fail
    refine HF.out.mono ?_
    rintro e w2 ⟨rfl, hb2⟩
    clear t1 s1
    go_wp2_with fail
    refine (lawake_any _).mono ?_
    rintro e w3 ⟨rfl, hb3⟩
    go_wp2_with fail
    go_ret
    exact ⟨rfl, ext_trans (ext_trans hb1' hb2) hb3⟩
  | true =>
  go_wp2_with fail
  refine HF.out.mono ?_
  rintro e w2 ⟨rfl, hb2⟩
  have hb2' := ext_trans hb1' hb2
  have HA2 := Lib.hid (block_up hb2 HA1.out)
  have HX2 := Lib.hid (block_up hb2 HX1.out)
  have HO2 := Lib.hid (block_up hb2 HO1.out)
  have t2 := cell_block HA2.out
  have s2 := cell_block HX2.out
  clear t1 s1 HA1 HX1 HO1 HF
  go_wp2_with fail
  refine (rblame_any p _ _ _ inp _ word _ dec w2 (HC.out.up up_case hb2') (HS.out.up up_moves hb2') (HI.out.up up_int hb2') (HU.out.up up_round hb2') (HD.out.up up_int hb2') (by omega)).mono ?_
  rintro e w3 ⟨rfl, hb3⟩
  have hb3' := ext_trans hb2' hb3
  have HA3 := Lib.hid (block_up hb3 HA2.out)
  have HX3 := Lib.hid (block_up hb3 HX2.out)
  have HO3 := Lib.hid (block_up hb3 HO2.out)
  have t3 := cell_block HA3.out
  have s3 := cell_block HX3.out
  clear t2 s2 HA2 HX2 HO2
  have HBL := Lib.hid (blame_any p _ _ _ inp _ word _ dec w3 (HC.out.up up_case hb3') (HS.out.up up_moves hb3') (HI.out.up up_int hb3') (HU.out.up up_round hb3') (HD.out.up up_int hb3') (by omega))
  have HBK := Lib.hid (fun h => blame_ok (p := p) (inp := inp) (word := word) (dec := dec) h)
  generalize (blameR p inp word dec).1 = a at HBL HBK
  generalize (blameR p inp word dec).2.1 = q at HBL HBK
  generalize (blameR p inp word dec).2.2 = er at HBL HBK
  by_cases her : er = 0
  case neg =>
    have her' : (er != 0) = true := by simpa using her
    go_wp2_with fail
    refine (lawake_any _).mono ?_
    rintro e w4 ⟨rfl, hb4⟩
    go_wp2_with fail
    go_ret
    exact ⟨rfl, ext_trans hb3' hb4⟩
  subst her
  have HOK := Lib.hid (HBK.out rfl)
  clear HBK
  go_wp2_with fail
  refine HBL.out.mono ?_
  rintro e w4 ⟨rfl, hb4⟩
  have hb4' := ext_trans hb3' hb4
  have HA4 := Lib.hid (block_up hb4 HA3.out)
  have HX4 := Lib.hid (block_up hb4 HX3.out)
  have HO4 := Lib.hid (block_up hb4 HO3.out)
  have t4 := cell_block HA4.out
  have s4 := cell_block HX4.out
  clear t3 s3 HA3 HX3 HO3 HBL
  by_cases ha1 : a = 1
  · subst ha1
    go_wp2_with fail
    refine (lawake_any _).mono ?_
    rintro e w5 ⟨rfl, hb5⟩
    go_wp2_with fail
    go_ret
    exact ⟨rfl, ext_trans hb4' hb5⟩
  have ha1' : (a == 1) = false := by simpa using ha1
  have HEX := Lib.hid (exc_cases HOK.out ha1)
  have HBC := Lib.hid (fun oth => blame_chg HOK.out oth)
  have hdn : dec.length ≤ 5 := by have h1 := HOK.out.len; have h2 := (task_ok (prob_ok HOK.out.prob).1).1; omega
  have hou := (task_ok (prob_ok HOK.out.prob).1).2.2.1
  have HFA := Lib.hid (rfaulty_any _ word w4 (HU.out.up up_round hb4'))
  have hf0 := HEX.out.1
  clear ha1
  generalize hfe : faultyS word = f at HEX HBC HFA hf0
  clear hfe
  go_wp2_with fail
  refine HFA.out.mono ?_
  rintro e w5 ⟨rfl, rfl⟩
  go_wp2_with fail
  refine (cloneRawInts _ _ w4 (raw_of_ints (HD.out.up up_int hb4')) (by rw [List.length_map]; omega)).mono ?_
  rintro e w5 ⟨uc, rfl, huc, hb5⟩
  rw [List.length_map] at huc
  have HUC := Lib.hid huc
  obtain ⟨ac, kc, rfl, _⟩ := owns_cell huc
  have hb5' := ext_trans hb4' hb5
  have HA5 := Lib.hid (block_up hb5 HA4.out)
  have HX5 := Lib.hid (block_up hb5 HX4.out)
  have HO5 := Lib.hid (block_up hb5 HO4.out)
  clear t4 s4 huc HFA
  go_wp2_with fail
  have HFR := Lib.hid hb5
  clear hb5
  go_loopw [81] (fun i wr => Below w4.heap.size w4 wr ∧ ∃ k : Nat, k ≤ dec.length ∧ i = .int .i64 k ∧ wr.ownsRow w4.heap.size 3 1 (.slice ac dec.length kc) dec.length ((chgTo f p.t.outs (othA o0 o1 o2 o3 o4) dec k).map (Value.int .i64))) (fun i _ => dec.length - (intOf i).toNat)
  case atStart => exact ⟨HFR.out, 0, by omega, rfl, by rw [chgTo_zero]; exact HUC.out⟩
  case round =>
    obtain ⟨hbr, k, hk, rfl, hown⟩ := hrel
    have hbw := ext_trans hb4' hbr
    have HOWN := Lib.hid hown
    clear hown
    by_cases hlt : k < dec.length
    · have C1 := Lib.hid (fun w => rhas_any f k (by omega) (by omega) (by omega) w)
      cases hh : hasB f k with
      | false =>
        rw [hh] at C1
        have HSK := Lib.hid (chgTo_skip f p.t.outs (othA o0 o1 o2 o3 o4) dec k hh)
        clear hh
        go_wp2_with fail
        refine (C1.out _).mono ?_
        rintro e w' ⟨rfl, rfl⟩
        go_wp2_with fail
        go_roundw
        case rel => exact ⟨hbr, k + 1, by omega, by go_num, by rw [HSK.out]; exact HOWN.out⟩
        case measure => simp [intOf]; omega
      | true =>
        rw [hh] at C1
        have HST := Lib.hid (chgTo_set f p.t.outs (othA o0 o1 o2 o3 o4) dec k hh)
        clear hh
        obtain ⟨ac', kc', e1, _, _, _, hxl, hcell⟩ := owns_cell HOWN.out
        obtain ⟨rfl, rfl⟩ : ac = ac' ∧ kc = kc' := by simpa using e1
        obtain ⟨g, rfl, hdrop⟩ := hcell k _ (List.getElem?_eq_getElem (by rw [hxl]; exact hlt))
        obtain ⟨hg1, hg2, hg3, hg4⟩ := owns_block HOWN.out
        obtain ⟨old, hold⟩ := hg3 k hlt
        have hfz := hg4 k
        have hox := HOB.out k
        have c1 := oth_cell (block_up hbr HO4.out) k (by omega)
        have t1 := cell_block (block_up hbr HA4.out)
        generalize othA o0 o1 o2 o3 o4 k = x at hox c1 HST
        have hk5 : k < 5 := by omega
        have hk6 : (k : Int) < 5 := by omega
        have hw1 : IntKind.i64.wrap (p.t.outs + 1) = p.t.outs + 1 := IntWalk.i64_in _ (by omega)
        have hw2 : Int.tmod x (p.t.outs + 1) = x % (p.t.outs + 1) := Int.tmod_eq_emod_of_nonneg hox.1
        have hm1 := Int.emod_nonneg x (show p.t.outs + 1 ≠ 0 by omega)
        have hm2 := Int.emod_lt_of_pos x (show 0 < p.t.outs + 1 by omega)
        have hw3 : IntKind.i64.wrap (x % (p.t.outs + 1) - 1) = x % (p.t.outs + 1) - 1 := IntWalk.i64_in _ (by omega)
        have hw5 : IntKind.i64.wrap x = x := IntWalk.i64_in _ (by omega)
        have hw6 : ¬ p.t.outs + 1 = 0 := by omega
        have hw7 : IntKind.i64.wrap (x % (p.t.outs + 1)) = x % (p.t.outs + 1) := IntWalk.i64_in _ (by omega)
        have hw8 : (p.t.outs + 1 == -1) = false := beq_eq_false_iff_ne.2 (by omega)
        have hw4 : (p.t.outs + 1 == 0) = false := beq_eq_false_iff_ne.2 (by omega)
        clear hdrop hcell hg3 hg4 e1
        clear hxl
        go_wp2_with fail
        refine (C1.out _).mono ?_
        rintro e w' ⟨rfl, rfl⟩
        go_wp2_with fail
        go_still_tail 13, (by kernel_rfl)
        change wpList _ _ _ _ _ wr.drew
        have hold' : wr.drew.cell? ⟨g, k, none⟩ = some old := hold
        have hfz' : wr.drew.frozen? ⟨g, k, none⟩ = false := hfz
        have hbr' : Below w4.heap.size w4 wr.drew := hbr.drew
        have HOWN' := Lib.hid (show wr.drew.ownsRow w4.heap.size 3 1 (.slice (some ⟨g, 0, none⟩) dec.length kc) dec.length ((chgTo f p.t.outs (othA o0 o1 o2 o3 o4) dec k).map (Value.int .i64)) from HOWN.out)
        clear HOWN hold hfz hbr c1 t1 hbw
        generalize wr.drew = wq at hold' hfz' hbr' HOWN' ⊢
        go_wp2_with fail
        go_roundw
        case rel =>
          refine ⟨hbr'.setCell (p := ⟨g, k, none⟩) hg1 _, k + 1, by omega, by go_num, ?_⟩
          rw [HST.out, List.map_set]
          exact owns_set HOWN'.out k _
        case measure => simp [intOf]; omega
    · obtain rfl : k = dec.length := by omega
      have t1 := cell_block (block_up hbr HA4.out)
      have s1 := cell_block (block_up hbr HX4.out)
      have hrow := HOWN.out
      rw [chgTo_all] at hrow
      have hci : IsInts wr (.slice ac dec.length kc) (chgS f p.t.outs (othA o0 o1 o2 o3 o4) dec) := by
        have h1 := chgS_len f p.t.outs (othA o0 o1 o2 o3 o4) dec
        rw [← h1] at hrow ⊢
        refine ints_of_owns hrow (fun x hx => ?_) (by omega)
        obtain ⟨i, hi, rfl⟩ := List.mem_map.1 hx
        have hil := List.mem_range.1 hi
        unfold chgAt
        split
        · have h2 := Int.emod_nonneg (othA o0 o1 o2 o3 o4 i) (show p.t.outs + 1 ≠ 0 by omega)
          have h3 := Int.emod_lt_of_pos (othA o0 o1 o2 o3 o4 i) (show 0 < p.t.outs + 1 by omega)
          exact ⟨by omega, by omega⟩
        · rw [getD_of_lt 0 hil]
          exact ints_inR HD.out _ (List.getElem_mem hil)
      have HCB := Lib.hid (blame_any p _ _ _ inp _ word _ (chgS f p.t.outs (othA o0 o1 o2 o3 o4) dec) wr (HC.out.up up_case hbw) (HS.out.up up_moves hbw) (HI.out.up up_int hbw) (HU.out.up up_round hbw) hci (by omega))
      rw [HBC.out (othA o0 o1 o2 o3 o4)] at HCB
      have HXW := Lib.hid (block_up hbr HX4.out)
      have HAW := Lib.hid (block_up hbr HA4.out)
      clear hrow hci HOWN
      go_wp2_with fail
      refine HCB.out.mono ?_
      rintro e w6 ⟨rfl, hb6⟩
      have hbw6 := ext_trans hbw hb6
      have HX6 := Lib.hid (block_up hb6 HXW.out)
      have HA6 := Lib.hid (block_up hb6 HAW.out)
      have t6 := cell_block HA6.out
      have s6 := cell_block HX6.out
      clear t1 s1 HCB HXW HAW
      rcases HEX.out.2 with ⟨rfl, rfl⟩ | ⟨k, rfl, hkn, hkf, hrest⟩
      · go_wp2_with fail
        refine (lawake_any _).mono ?_
        rintro e w7 ⟨rfl, hb7⟩
        go_wp2_with fail
        go_ret
        exact ⟨rfl, ext_trans hbw6 hb7⟩
      have C1 := Lib.hid (fun w => rhas_any f k (by have h1 := HOK.out.len; omega) (by omega) (by omega) w)
      rw [hkf] at C1
      have HKF := Lib.hid hkf
      have hkd : k < dec.length := by have h1 := HOK.out.len; omega
      clear hkf HEX
      rcases hrest with ⟨rfl, hdk⟩ | ⟨rfl, i, hfi, hil, hbf, hwi⟩
      · obtain ⟨b4, o4', rfl, c4, _⟩ := ED.out k hkd
        rw [Nat.mul_one] at c4
        rw [getD_of_lt 0 hkd] at hdk
        have d4 := cell_up hbw6 c4
        generalize dec[k] = y at hdk c4 d4
        clear c4
        go_wp2_with fail
        refine (C1.out _).mono ?_
        rintro e w7 ⟨rfl, rfl⟩
        go_wp2_with fail
        refine (lawake_any _).mono ?_
        rintro e w8 ⟨rfl, hb8⟩
        go_wp2_with fail
        go_ret
        exact ⟨rfl, ext_trans hbw6 hb8⟩
      · have HIX := Lib.hid (rindex_any p.t _ _ inp w6 (HC.out.up up_case hbw6) (HI.out.up up_int hbw6))
        have hfe : findI p.t inp = i := hfi
        rw [hfe] at HIX
        clear hfe hfi
        go_wp2_with fail
        refine (C1.out _).mono ?_
        rintro e w7 ⟨rfl, rfl⟩
        go_wp2_with fail
        refine HIX.out.mono ?_
        rintro e w7 ⟨rfl, hb7⟩
        have hbw7 := ext_trans hbw6 hb7
        have HX7 := Lib.hid (block_up hb7 HX6.out)
        have HA7 := Lib.hid (block_up hb7 HA6.out)
        have t7 := cell_block HA7.out
        have s7 := cell_block HX7.out
        clear t6 s6 HX6 HA6
        obtain ⟨b1, o1', rfl, ⟨x0, cx0, hx0⟩, ⟨x1, cx1, hx1⟩, ⟨x2, cx2, hx2⟩⟩ := EC.out i hil
        have d0 := cell_up hbw7 cx0
        have d1 := cell_up hbw7 cx1
        have d2 := cell_up hbw7 cx2
        have HVC := Lib.hid (rvectors_any x0 x1 x2 p.t.cases[i] f w7 (hx0.up up_int hbw7) (hx1.up up_ints hbw7) (hx2.up up_ints hbw7))
        have HVL := Lib.hid (fun v (hv : v ∈ vecsS p.t.cases[i] f) => show v.length = dec.length by have h1 := (vecs_ok ((task_ok (prob_ok HOK.out.prob).1).2.2.2.2 _ (List.getElem_mem hil)) f).2 v hv; have h2 := HOK.out.len; omega)
        obtain ⟨p0, q0, rfl, _⟩ := hx0
        obtain ⟨p1, q1, rfl, _⟩ := hx1
        obtain ⟨p2, q2, rfl, _⟩ := hx2
        clear cx0 cx1 cx2
        have HBF := Lib.hid hbf
        have HWI := Lib.hid hwi
        clear hbf hwi
        generalize vecsS p.t.cases[i] f = L at HVC HVL HBF HWI
        go_wp2_with fail
        refine HVC.out.mono ?_
        rintro e w8 ⟨uL, rfl, huL, hb8⟩
        have hbw8 := ext_trans hbw7 hb8
        obtain ⟨pL, cL, rfl, lL1, lL2, eL⟩ := huL.at
        have EL := Lib.hid eL
        have HX8 := Lib.hid (block_up hb8 HX7.out)
        clear huL eL t7 s7 d0 d1 d2 HVC HX7 HA7 HIX
        go_wp2_with fail
        go_loopw [20, 21, 168] (fun be wi ix wt => Below w8.heap.size w8 wt ∧ ∃ m : Nat, m ≤ L.length ∧ ix = .int .i64 m ∧ be = .bool (beforeB f L dec k m) ∧ wi = .bool (withB f L dec k m)) (fun _ _ ix _ => L.length - (intOf ix).toNat)
        case atStart => exact ⟨Below.refl _ _, 0, by omega, rfl, rfl, rfl⟩
        case round =>
          obtain ⟨hbt, m, hm, rfl, rfl, rfl⟩ := hrel
          rename World => wt
          have hbtw := ext_trans hbw8 hbt
          by_cases hml : m < L.length
          · obtain ⟨bL, oL, rfl, x, cx, hx⟩ := EL.out m hml
            rw [Nat.mul_one] at cx
            obtain ⟨px, qx, rfl, x1, x2, ex⟩ := hx.at
            have EX := Lib.hid ex
            have d1 := cell_up hbt cx
            have HVM := Lib.hid (HVL.out L[m] (List.getElem_mem hml))
            have HBM : Hid (beforeB f L dec k (m + 1) = (beforeB f L dec k m || sameB f L[m] dec k)) := by
              have h : beforeB f L dec k (m + 1) = (beforeB f L dec k m || sameB f L[m] dec k) := by
                rw [← getD_of_lt [] hml]; rfl
              exact h
            have HWM : Hid (withB f L dec k (m + 1) = (withB f L dec k m || (sameB f L[m] dec k && (L[m].getD k 0 == dec.getD k 0)))) := by
              have h : withB f L dec k (m + 1) = (withB f L dec k m || (sameB f L[m] dec k && (L[m].getD k 0 == dec.getD k 0))) := by
                rw [← getD_of_lt [] hml]; rfl
              exact h
            clear hx ex cx
            generalize L[m] = v at x1 x2 EX d1 HVM HBM HWM
            generalize beforeB f L dec k m = be at HBM
            generalize withB f L dec k m = wi at HWM
            go_wp2_with fail
            clear d1
            go_loopw [24, 173] (fun sm ix wu => Below wt.heap.size wt wu ∧ ∃ j : Nat, j ≤ k ∧ ix = .int .i64 j ∧ sm = .bool (sameB f v dec j)) (fun _ ix _ => k - (intOf ix).toNat)
            case atStart => exact ⟨Below.refl _ _, 0, by omega, rfl, rfl⟩
            case round =>
              obtain ⟨hbu, j, hj, rfl, rfl⟩ := hrel
              rename World => wu
              have hbu8 := ext_trans hbt hbu
              have hbuw := ext_trans hbtw hbu
              by_cases hjk : j < k
              · have HSS : Hid (sameB f v dec (j + 1) = (sameB f v dec j && !(!hasB f j && (v.getD j 0 != dec.getD j 0)))) := by
                  have h : sameB f v dec (j + 1) = (sameB f v dec j && !(!hasB f j && (v.getD j 0 != dec.getD j 0))) := by
                    show (!(anyLt j (disB f v dec) || disB f v dec j)) = _
                    rw [Bool.not_or]; rfl
                  exact h
                have HCALL := Lib.hid (fun x : ExtW wu => Calls.ext_of ((rhas_any f j (by omega) (by omega) (by omega) x.val).mono (fun _ _ ⟨h1, h2⟩ => ⟨h1, h2 ▸ Below.refl _ _⟩)))
                generalize sameB f v dec j = sj at HSS
                cases sj with
                | false =>
                  go_wp2_with fail
                  refine wp_region_quiet_ext (by kernel_rfl) (by kernel_rfl) ?_
                  repeat (go_big_quiet_step (fail))
                  refine wpQuiet_nil ?_
                  intro _ hw'
                  obtain ⟨xq, hw''⟩ := hw'
                  subst hw''
                  go_wp2_with fail
                  go_roundw
                  case rel => exact ⟨ext_trans hbu xq.ext, j + 1, by omega, by go_num, by rw [HSS.out]; rfl⟩
                  case measure => simp [intOf]; omega
                | true =>
                  cases hh : hasB f j with
                  | true =>
                    rw [hh] at HCALL HSS
                    clear hh
                    go_wp2_with fail
                    refine wp_region_quiet_ext (by kernel_rfl) (by kernel_rfl) ?_
                    repeat (go_big_quiet_step ((go_at_call 12; exact HCALL.out _)))
                    refine wpQuiet_nil ?_
                    intro _ hw'
                    obtain ⟨xq, hw''⟩ := hw'
                    subst hw''
                    go_wp2_with fail
                    go_roundw
                    case rel => exact ⟨ext_trans hbu xq.ext, j + 1, by omega, by go_num, by rw [HSS.out]; rfl⟩
                    case measure => simp [intOf]; omega
                  | false =>
                    rw [hh] at HCALL HSS
                    clear hh
                    have hjv : j < v.length := by rw [HVM.out]; omega
                    have hjd : j < dec.length := by omega
                    obtain ⟨b5, o5, rfl, c5, _⟩ := EX.out j hjv
                    obtain ⟨b6, o6, rfl, c6, _⟩ := ED.out j hjd
                    rw [Nat.mul_one] at c5 c6
                    rw [getD_of_lt 0 hjv, getD_of_lt 0 hjd] at HSS
                    generalize v[j] = y at c5 HSS
                    generalize dec[j] = z at c6 HSS
                    have r1 : ∀ x : ExtW wu, x.val.cell? ⟨b5, o5 + j, none⟩ = _ := fun x => x.cell (cell_up hbu8 c5)
                    have r2 : ∀ x : ExtW wu, x.val.cell? ⟨b6, o6 + j, none⟩ = _ := fun x => x.cell (cell_up hbuw c6)
                    have r3 : ∀ x : ExtW wu, ∀ o, x.val.cell? ⟨w.heap.size + 1, o, none⟩ = _ := fun x => cell_block (block_up (ext_trans hbu8 x.ext) HX8.out)
                    clear c5 c6
                    go_wp2_with fail
                    refine wp_region_quiet_ext (by kernel_rfl) (by kernel_rfl) ?_
                    repeat (go_big_quiet_step ((go_at_call 12; exact HCALL.out _)))
                    refine wpQuiet_nil ?_
                    intro _ hw'
                    obtain ⟨xq, hw''⟩ := hw'
                    subst hw''
                    clear r1 r2 r3
                    go_wp2_with fail
                    go_roundw
                    case rel => exact ⟨ext_trans hbu xq.ext, j + 1, by omega, by go_num, by rw [HSS.out]; simp [bne]⟩
                    case measure => simp [intOf]; omega
              · obtain rfl : j = k := by omega
                have hjv : j < v.length := by rw [HVM.out]; omega
                obtain ⟨b5, o5, rfl, c5, _⟩ := EX.out j hjv
                obtain ⟨b6, o6, rfl, c6, _⟩ := ED.out j hkd
                rw [Nat.mul_one] at c5 c6
                rw [getD_of_lt 0 hjv, getD_of_lt 0 hkd] at HWM
                generalize v[j] = y at c5 HWM
                generalize dec[j] = z at c6 HWM
                have r1 : ∀ x : ExtW wu, x.val.cell? ⟨b5, o5 + j, none⟩ = _ := fun x => x.cell (cell_up hbu8 c5)
                have r2 : ∀ x : ExtW wu, x.val.cell? ⟨b6, o6 + j, none⟩ = _ := fun x => x.cell (cell_up hbuw c6)
                have r3 : ∀ x : ExtW wu, ∀ o, x.val.cell? ⟨w.heap.size + 1, o, none⟩ = _ := fun x => cell_block (block_up (ext_trans hbu8 x.ext) HX8.out)
                clear c5 c6
                generalize sameB f v dec j = sj at HBM HWM
                cases be <;> cases wi <;> cases sj
                all_goals
                  go_wp2_with fail
                  refine wp_region_quiet_ext (by kernel_rfl) (by kernel_rfl) ?_
                  repeat (go_big_quiet_step (fail))
                  refine wpQuiet_nil ?_
                  intro _ hw'
                  obtain ⟨xq, hw''⟩ := hw'
                  subst hw''
                  clear r1 r2 r3
                  go_wp2_with fail
                  go_roundw
                  case rel => exact ⟨ext_trans hbt (ext_trans hbu xq.ext), m + 1, by omega, by go_num, by rw [HBM.out]; rfl, by rw [HWM.out]; rfl⟩
                  case measure => simp [intOf]; omega
          · obtain rfl : m = L.length := by omega
            rw [HBF.out, HWI.out]
            go_wp2_with fail
            refine (lawake_any _).mono ?_
            rintro e w9 ⟨rfl, hb9⟩
            go_wp2_with fail
            go_ret
            exact ⟨rfl, ext_trans hbtw hb9⟩
end Go.Proofs.Ytlfnfphkhokdiaa

namespace Go.Proofs.Ytlfnfphkhokdiaa
open Go.ChangeShapes Go.WideShapes Go.ChangeAt Go.RowKit Go Go.Deep

section
variable {H : Type} {enc : TypeId × Value → H} {w : World}

/-- a reading of the cells cs at type t -/
abbrev Rdg (enc : TypeId × Value → H) (w : World) (fuel : Nat) (t : TypeId) (cs : List Value) (x : DataW H × List MemPlace) : Prop := DataW.trod enc Try.prog w 0 (fun _ => true) true fuel t cs = some x
/-- all that is read is within the reach -/
def Szd (t : TypeId) (d : DataW H) : Prop := ∀ n ∈ d.weights Try.prog t, n ≤ reachBytes

theorem inR_wf {n : Int} (h : (Lit.int .i64 n).wf = true) : InR n := by
  simp [Lit.wf, IntKind.min, IntKind.max, IntKind.bits, IntKind.signed] at h
  unfold InR
  omega

theorem weightsEach_mem {ts : List TypeId} {ds : List (DataW H)} {j : Nat} {t : TypeId} {d : DataW H} (ht : ts[j]? = some t) (hd : ds[j]? = some d) {n : Nat} (hn : n ∈ d.weights Try.prog t) : n ∈ DataW.weightsEach Try.prog ts ds := DataW.weights_mem_each ht hd n hn
theorem weightsAll_mem {e : TypeId} {ds : List (DataW H)} {d : DataW H} (hd : d ∈ ds) {n : Nat} (hn : n ∈ d.weights Try.prog e) : n ∈ DataW.weightsAll Try.prog e ds := by
  induction ds with
  | nil => cases hd
  | cons x r ih =>
    simp only [DataW.weightsAll, List.mem_append]
    rcases List.mem_cons.1 hd with rfl | h
    · exact .inl hn
    · exact .inr (ih h)
/-- the fields of a struct -/
theorem rdg_struct {fs : Array Field} {t : TypeId} {fuel : Nat} {cs : List Value} {x : DataW H × List MemPlace} (ht : Try.prog.underlying t = some (.struct fs)) (h : Rdg enc w fuel t cs x) (hz : Szd t x.1) :
    cs.length = Try.prog.cellsOf t ∧ ∃ n, ∀ (i : Nat) (f : Field), fs[i]? = some f → ∃ y, Rdg enc w n f.type ((cs.drop f.offset).take (Try.prog.cellsOf f.type)) y ∧ Szd f.type y.1 := by
  obtain ⟨xs, n, _, rfl, hl, hx, hf⟩ := DataW.trod_struct ht h
  refine ⟨hl, n, fun i f hi => ?_⟩
  have hlt : i < xs.length := by have := (Array.getElem?_eq_some_iff.1 hi).1; omega
  refine ⟨xs[i], (hf i f hi).trans (List.getElem?_eq_getElem hlt), fun m hm => hz m ?_⟩
  simp only [DataW.weights, ht]
  exact weightsEach_mem (j := i) (by simp [hi]) (by simp [hlt]) hm

/-- every cell is a number -/
def AllInt (enc : TypeId × Value → H) (w : World) (t : TypeId) (k : Nat) : Prop := ∀ fuel cs x, Rdg enc w fuel t cs x → cs.length = k ∧ ∀ j, j < k → ∃ n, cs[j]? = some (.int .i64 n) ∧ InR n
theorem allInt_int {t : TypeId} (ht : Try.prog.underlying t = some (.int .i64)) : AllInt enc w t 1 := fun fuel cs x h => by
  obtain ⟨n, rfl, _, hw⟩ := DataW.trod_int ht h
  refine ⟨rfl, fun j hj => ⟨n, ?_, inR_wf hw⟩⟩
  obtain rfl : j = 0 := by omega
  rfl
theorem allInt_array {t e : TypeId} {m : Nat} (ht : Try.prog.underlying t = some (.array m e)) (he : Try.prog.underlying e = some (.int .i64)) (h1 : Try.prog.cellsOf e = 1) (hk : Try.prog.cellsOf t = m) : AllInt enc w t m := fun fuel cs x h => by
  obtain ⟨xs, n, _, _, hl, hx, hf⟩ := DataW.trod_array ht h
  refine ⟨by rw [hl, hk], fun j hj => ?_⟩
  have h2 := hf j hj
  rw [h1, Nat.mul_one, List.getElem?_eq_getElem (by omega)] at h2
  obtain ⟨v, e1, _, hw⟩ := DataW.trod_int he h2
  refine ⟨v, ?_, inR_wf hw⟩
  have h3 : ((cs.drop j).take 1)[0]? = cs[j]? := by simp
  rw [← h3, e1]
  rfl
theorem allInt_two {t : TypeId} {f0 f1 : Field} {k0 k1 : Nat} (ht : Try.prog.underlying t = some (.struct #[f0, f1])) (o0 : f0.offset = 0) (o1 : f1.offset = k0) (c0 : Try.prog.cellsOf f0.type = k0) (c1 : Try.prog.cellsOf f1.type = k1) (ct : Try.prog.cellsOf t = k0 + k1)
    (h0 : AllInt enc w f0.type k0) (h1 : AllInt enc w f1.type k1) : AllInt enc w t (k0 + k1) := fun fuel cs x h => by
  obtain ⟨xs, n, _, _, hl, hx, hf⟩ := DataW.trod_struct ht h
  refine ⟨by rw [hl, ct], fun j hj => ?_⟩
  have g0 := hf 0 f0 rfl
  have g1 := hf 1 f1 rfl
  have hx2 : xs.length = 2 := hx
  rw [o0, c0, List.getElem?_eq_getElem (by omega)] at g0
  rw [o1, c1, List.getElem?_eq_getElem (by omega)] at g1
  by_cases hj0 : j < k0
  · obtain ⟨v, e, hv⟩ := (h0 _ _ _ g0).2 j hj0
    refine ⟨v, ?_, hv⟩
    rw [← e]
    simp [List.getElem?_take_of_lt hj0]
  · obtain ⟨v, e, hv⟩ := (h1 _ _ _ g1).2 (j - k0) (by omega)
    refine ⟨v, ?_, hv⟩
    rw [← e, List.getElem?_take_of_lt (by omega), List.getElem?_drop, show k0 + (j - k0) = j by omega]

/-- what a type reads as, in memory -/
def Opn {α : Type} (enc : TypeId × Value → H) (w : World) (t : TypeId) (k : Nat) (R : World → Nat → Nat → α → Prop) : Prop :=
  ∀ fuel cs x b off, Rdg enc w fuel t cs x → Szd t x.1 → (∀ j, j < k → w.cell? ⟨b, off + j, none⟩ = cs[j]?) → ∃ a : α, R w b off a

theorem opn_int : Opn enc w 3 1 IntAt := fun fuel cs x b off h _ hc => by
  obtain ⟨n, rfl, _, hw⟩ := DataW.trod_int Try.underlying3 h
  exact ⟨n, (hc 0 (by omega)).trans rfl, inR_wf hw⟩
theorem add_zero_spot {a : Addr} {j : Nat} (h : a.spot = none) : a.add j = ⟨a.block, a.off + j, none⟩ := by
  obtain ⟨b, o, s⟩ := a
  simp at h
  subst h
  unfold Addr.add
  split <;> simp_all

/-- a slice -/
theorem opn_val {α : Type} {t e : TypeId} {k : Nat} {R : World → Nat → Nat → α → Prop} (hu : Try.prog.underlying t = some (.slice e)) (hk : Try.prog.cellsOf e = k) (hk0 : 0 < k) (hby : 8 ≤ Try.prog.bytesOf e) (he : Opn enc w e k R)
    {fuel : Nat} {cs : List Value} {x : DataW H × List MemPlace} (h : Rdg enc w fuel t cs x) (hz : Szd t x.1) : ∃ v l, cs = [v] ∧ IsSl k R w v l := by
  rcases open_slice hu h with ⟨rfl, _⟩ | ⟨a, len, cap, m, n, D, Pl, rfl, _, hl, hm, hmm, rfl, hi⟩
  · exact ⟨_, [], rfl, none, 0, rfl, ⟨by simp, by omega, fun _ => rfl⟩, by simp, fun i x hx => by simp at hx⟩
  · have hmc : m = cap := by rw [hmm]; rfl
    subst hmc
    have hw : (((List.range len).map D).length + ((List.range (m - len)).map fun j => D (len + j)).length) * Try.prog.bytesOf e ≤ reachBytes := by
      refine hz _ ?_
      simp only [DataW.weights, hu]
      exact List.mem_cons_self
    have hw2 : m * 8 ≤ reachBytes := by
      refine Nat.le_trans (Nat.mul_le_mul_left m hby) ?_
      refine Nat.le_trans ?_ hw
      rw [List.length_map, List.length_map, List.length_range, List.length_range]
      exact Nat.mul_le_mul_right _ (by omega)
    have hw3 : m ≤ 17592186044416 := by unfold reachBytes at hw2; omega
    have hsp0 : 0 < len → a.spot = none := fun h0 => by
      obtain ⟨cs', hc, ht⟩ := hi 0 (by omega)
      rw [hk] at hc
      obtain ⟨_, hcl, hat⟩ := World.cells?_some hc
      have h1 := hat 0 hk0
      rw [List.getElem?_eq_getElem (by omega)] at h1
      have := World.cell?_spot h1
      simpa [Addr.add] using this
    have key : ∀ i : Fin len, ∃ y : α, a.spot = none ∧ R w a.block (a.off + i.1 * k) y := fun i => by
      obtain ⟨cs', hc, ht⟩ := hi i.1 (by have := i.2; omega)
      rw [hk] at hc
      obtain ⟨_, hcl, hat⟩ := World.cells?_some hc
      have hsp := hsp0 (by have := i.2; omega)
      have hz1 : Szd e (D i.1) := fun q hq => hz q (by
        simp only [DataW.weights, hu]
        refine List.mem_cons_of_mem _ (List.mem_append_left _ (weightsAll_mem (d := D i.1) ?_ hq))
        exact List.mem_map.2 ⟨i.1, List.mem_range.2 i.2, rfl⟩)
      obtain ⟨y, hy⟩ := he _ _ _ a.block (a.off + i.1 * k) ht hz1 (fun j hj => by
        rw [← hat j hj, add_zero_spot hsp, add_zero_spot rfl])
      exact ⟨y, hsp, hy⟩
    refine ⟨_, List.ofFn fun i => Classical.choose (key i), rfl, some a, m, by rw [List.length_ofFn], ⟨by rw [List.length_ofFn]; omega, by omega, fun h => by cases h⟩, by rw [List.length_ofFn]; omega, fun i y hy => ?_⟩
    have hil : i < len := by have := (List.getElem?_eq_some_iff.1 hy).1; simpa using this
    have e1 : y = Classical.choose (key ⟨i, hil⟩) := by
      rw [List.getElem?_ofFn] at hy
      simp [hil] at hy
      exact hy.symm
    obtain ⟨hs, hr⟩ := Classical.choose_spec (key ⟨i, hil⟩)
    refine ⟨a.block, a.off, ?_, by rw [e1]; exact hr⟩
    obtain ⟨b, o, s⟩ := a
    simp at hs
    subst hs
    rfl
theorem opn_slice {α : Type} {t e : TypeId} {k : Nat} {R : World → Nat → Nat → α → Prop} (hu : Try.prog.underlying t = some (.slice e)) (hk : Try.prog.cellsOf e = k) (hk0 : 0 < k) (hby : 8 ≤ Try.prog.bytesOf e) (he : Opn enc w e k R) : Opn enc w t 1 (SlAt k R) := fun fuel cs x b off h hz hc => by
  obtain ⟨v, l, rfl, hl⟩ := opn_val hu hk hk0 hby he h hz
  exact ⟨l, v, (hc 0 (by omega)).trans rfl, hl⟩
theorem one_take {cs : List Value} {j : Nat} (h : j < cs.length) : (cs.drop j).take 1 = [cs[j]] := by
  rw [List.drop_eq_getElem_cons h]
  rfl

theorem Try.cInt : Try.prog.cellsOf 3 = 1 := by kernel_rfl
theorem Try.cInts : Try.prog.cellsOf 30 = 1 := by kernel_rfl
theorem Try.cVecs : Try.prog.cellsOf 48 = 1 := by kernel_rfl
theorem Try.cCase : Try.prog.cellsOf 51 = 3 := by kernel_rfl
theorem Try.cGraph : Try.prog.cellsOf 60 = 6 := by kernel_rfl
theorem Try.cRound : Try.prog.cellsOf 62 = 7 := by kernel_rfl
theorem Try.cMove : Try.prog.cellsOf 84 = 8 := by kernel_rfl
theorem Try.cMoves : Try.prog.cellsOf 85 = 1 := by kernel_rfl

theorem opn_ints : Opn enc w 30 1 IntsAt := opn_slice Try.underlying30 Try.cInt (by omega) (of_decide_eq_true (by kernel_rfl)) opn_int
theorem opn_vecs : Opn enc w 48 1 VecsAt := opn_slice Try.underlying48 Try.cInts (by omega) (of_decide_eq_true (by kernel_rfl)) opn_ints
theorem opn_case : Opn enc w 51 3 CaseAt := fun fuel cs x b off h hz hc => by
  obtain ⟨hl, n, hf⟩ := rdg_struct Try.underlying51 h hz
  rw [Try.cCase] at hl
  obtain ⟨y0, r0, z0⟩ := hf 0 _ rfl
  obtain ⟨y1, r1, z1⟩ := hf 1 _ rfl
  obtain ⟨y2, r2, z2⟩ := hf 2 _ rfl
  change Rdg enc w n 30 ((cs.drop 0).take (Try.prog.cellsOf 30)) y0 at r0
  change Rdg enc w n 48 ((cs.drop 1).take (Try.prog.cellsOf 48)) y1 at r1
  change Rdg enc w n 48 ((cs.drop 2).take (Try.prog.cellsOf 48)) y2 at r2
  rw [Try.cInts, one_take (by omega)] at r0
  rw [Try.cVecs, one_take (by omega)] at r1 r2
  obtain ⟨a0, h0⟩ := opn_ints _ _ _ b off r0 z0 (fun j hj => by obtain rfl : j = 0 := by omega
                                                                rw [hc 0 (by omega), List.getElem?_eq_getElem (by omega)]; rfl)
  obtain ⟨a1, h1⟩ := opn_vecs _ _ _ b (off + 1) r1 z1 (fun j hj => by obtain rfl : j = 0 := by omega
                                                                      rw [show off + 1 + 0 = off + 1 by omega, hc 1 (by omega), List.getElem?_eq_getElem (by omega)]; rfl)
  obtain ⟨a2, h2⟩ := opn_vecs _ _ _ b (off + 2) r2 z2 (fun j hj => by obtain rfl : j = 0 := by omega
                                                                      rw [show off + 2 + 0 = off + 2 by omega, hc 2 (by omega), List.getElem?_eq_getElem (by omega)]; rfl)
  exact ⟨⟨a0, a1, a2⟩, h0, h1, h2⟩
theorem allInt_graph : AllInt enc w 60 6 := allInt_two (k0 := 1) (k1 := 5) Try.underlying60 rfl rfl Try.cInt (by kernel_rfl) Try.cGraph (allInt_int Try.underlying3) (allInt_array Try.underlying58 Try.underlying3 Try.cInt (by kernel_rfl))
theorem allInt_round : AllInt enc w 62 7 := allInt_two (k0 := 6) (k1 := 1) Try.underlying62 rfl rfl Try.cGraph Try.cInt Try.cRound allInt_graph (allInt_int Try.underlying3)
theorem allInt_move : AllInt enc w 84 8 := allInt_two (k0 := 7) (k1 := 1) Try.underlying84 rfl rfl Try.cRound Try.cInt Try.cMove allInt_round (allInt_int Try.underlying3)
theorem opn_round : Opn enc w 62 7 RoundAt := fun fuel cs x b off h _ hc => by
  have ha := (allInt_round _ _ _ h).2
  obtain ⟨n0, e0, i0⟩ := ha 0 (by omega)
  obtain ⟨n1, e1, i1⟩ := ha 1 (by omega)
  obtain ⟨n2, e2, i2⟩ := ha 2 (by omega)
  obtain ⟨n3, e3, i3⟩ := ha 3 (by omega)
  obtain ⟨n4, e4, i4⟩ := ha 4 (by omega)
  obtain ⟨n5, e5, i5⟩ := ha 5 (by omega)
  obtain ⟨n6, e6, i6⟩ := ha 6 (by omega)
  exact ⟨⟨⟨n0, n1, n2, n3, n4, n5⟩, n6⟩, ⟨(hc 0 (by omega)).trans e0, i0⟩, ⟨(hc 1 (by omega)).trans e1, i1⟩, ⟨(hc 2 (by omega)).trans e2, i2⟩, ⟨(hc 3 (by omega)).trans e3, i3⟩, ⟨(hc 4 (by omega)).trans e4, i4⟩, ⟨(hc 5 (by omega)).trans e5, i5⟩, ⟨(hc 6 (by omega)).trans e6, i6⟩⟩
theorem opn_move : Opn enc w 84 8 MoveAt := fun fuel cs x b off h _ hc => by
  have ha := (allInt_move _ _ _ h).2
  obtain ⟨n0, e0, i0⟩ := ha 0 (by omega)
  obtain ⟨n1, e1, i1⟩ := ha 1 (by omega)
  obtain ⟨n2, e2, i2⟩ := ha 2 (by omega)
  obtain ⟨n3, e3, i3⟩ := ha 3 (by omega)
  obtain ⟨n4, e4, i4⟩ := ha 4 (by omega)
  obtain ⟨n5, e5, i5⟩ := ha 5 (by omega)
  obtain ⟨n6, e6, i6⟩ := ha 6 (by omega)
  obtain ⟨n7, e7, i7⟩ := ha 7 (by omega)
  exact ⟨⟨⟨⟨n0, n1, n2, n3, n4, n5⟩, n6⟩, n7⟩, ⟨⟨(hc 0 (by omega)).trans e0, i0⟩, ⟨(hc 1 (by omega)).trans e1, i1⟩, ⟨(hc 2 (by omega)).trans e2, i2⟩, ⟨(hc 3 (by omega)).trans e3, i3⟩, ⟨(hc 4 (by omega)).trans e4, i4⟩, ⟨(hc 5 (by omega)).trans e5, i5⟩, ⟨(hc 6 (by omega)).trans e6, i6⟩⟩, (hc 7 (by omega)).trans e7, i7⟩
theorem opn_moves : Opn enc w 85 1 MovesAt := opn_slice Try.underlying85 Try.cMove (by omega) (of_decide_eq_true (by kernel_rfl)) opn_move

theorem list7 {l : List Value} (h : l.length = 7) : ∃ c0 c1 c2 c3 c4 c5 c6, l = [c0, c1, c2, c3, c4, c5, c6] := by
  match l, h with
  | [c0, c1, c2, c3, c4, c5, c6], _ => exact ⟨c0, c1, c2, c3, c4, c5, c6, rfl⟩
theorem Try.cProb : Try.prog.cellsOf 29 = 7 := by kernel_rfl
theorem Try.cTask : Try.prog.cellsOf 24 = 4 := by kernel_rfl
theorem Try.cAdv : Try.prog.cellsOf 27 = 2 := by kernel_rfl
theorem Try.cCases : Try.prog.cellsOf 22 = 1 := by kernel_rfl
theorem Try.cStates : Try.prog.cellsOf 25 = 1 := by kernel_rfl
theorem open_task {fuel : Nat} {c0 c1 c2 c3 : Value} {x : DataW H × List MemPlace} (h : Rdg enc w fuel 24 [c0, c1, c2, c3] x) (hz : Szd 24 x.1) :
    ∃ (t : Tk), c0 = .int .i64 t.n ∧ c1 = .int .i64 t.ins ∧ c2 = .int .i64 t.outs ∧ IsCases w c3 t.cases := by
  obtain ⟨_, n, hf⟩ := rdg_struct Try.underlying24 h hz
  obtain ⟨u0, s0, _⟩ := hf 0 _ rfl
  obtain ⟨u1, s1, _⟩ := hf 1 _ rfl
  obtain ⟨u2, s2, _⟩ := hf 2 _ rfl
  obtain ⟨u3, s3, q3⟩ := hf 3 _ rfl
  change Rdg enc w n 3 (([c0, c1, c2, c3].drop 0).take (Try.prog.cellsOf 3)) u0 at s0
  change Rdg enc w n 3 (([c0, c1, c2, c3].drop 1).take (Try.prog.cellsOf 3)) u1 at s1
  change Rdg enc w n 3 (([c0, c1, c2, c3].drop 2).take (Try.prog.cellsOf 3)) u2 at s2
  change Rdg enc w n 22 (([c0, c1, c2, c3].drop 3).take (Try.prog.cellsOf 22)) u3 at s3
  change Szd 22 u3.1 at q3
  rw [Try.cInt] at s0 s1 s2
  rw [Try.cCases] at s3
  obtain ⟨m0, e0, _, _⟩ := DataW.trod_int Try.underlying3 s0
  obtain ⟨m1, e1, _, _⟩ := DataW.trod_int Try.underlying3 s1
  obtain ⟨m2, e2, _, _⟩ := DataW.trod_int Try.underlying3 s2
  obtain ⟨vc, cases, e3, g3⟩ := opn_val Try.underlying22 Try.cCase (by omega) (of_decide_eq_true (by kernel_rfl)) opn_case s3 q3
  simp at e0 e1 e2 e3
  subst e3
  exact ⟨⟨m0, m1, m2, cases⟩, e0, e1, e2, g3⟩
theorem open_adv {fuel : Nat} {c0 c1 : Value} {x : DataW H × List MemPlace} (h : Rdg enc w fuel 27 [c0, c1] x) (hz : Szd 27 x.1) :
    ∃ (a : Adv), c0 = .int .i64 a.n ∧ IsStates w c1 a.states := by
  obtain ⟨_, n, hf⟩ := rdg_struct Try.underlying27 h hz
  obtain ⟨u0, s0, _⟩ := hf 0 _ rfl
  obtain ⟨u1, s1, q1⟩ := hf 1 _ rfl
  change Rdg enc w n 3 (([c0, c1].drop 0).take (Try.prog.cellsOf 3)) u0 at s0
  change Rdg enc w n 25 (([c0, c1].drop 1).take (Try.prog.cellsOf 25)) u1 at s1
  change Szd 25 u1.1 at q1
  rw [Try.cInt] at s0
  rw [Try.cStates] at s1
  obtain ⟨m0, e0, _, _⟩ := DataW.trod_int Try.underlying3 s0
  obtain ⟨vs, states, e1, g1⟩ := opn_val Try.underlying25 Try.cMoves (by omega) (of_decide_eq_true (by kernel_rfl)) opn_moves s1 q1
  simp at e0 e1
  subst e1
  exact ⟨⟨m0, states⟩, e0, g1⟩
/-- a problem -/
theorem open_prob {fuel : Nat} {cs : List Value} {x : DataW H × List MemPlace} (h : Rdg enc w fuel 29 cs x) (hz : Szd 29 x.1) :
    ∃ (p : Pb) (vc vs : Value), cs = [.int .i64 p.t.n, .int .i64 p.t.ins, .int .i64 p.t.outs, vc, .int .i64 p.a.n, vs, .int .i64 p.rounds] ∧ IsCases w vc p.t.cases ∧ IsStates w vs p.a.states := by
  obtain ⟨hl, n, hf⟩ := rdg_struct Try.underlying29 h hz
  rw [Try.cProb] at hl
  obtain ⟨c0, c1, c2, c3, c4, c5, c6, rfl⟩ := list7 hl
  obtain ⟨y0, r0, z0⟩ := hf 0 _ rfl
  obtain ⟨y1, r1, z1⟩ := hf 1 _ rfl
  obtain ⟨y2, r2, z2⟩ := hf 2 _ rfl
  change Rdg enc w n 24 (([c0, c1, c2, c3, c4, c5, c6].drop 0).take (Try.prog.cellsOf 24)) y0 at r0
  change Rdg enc w n 27 (([c0, c1, c2, c3, c4, c5, c6].drop 4).take (Try.prog.cellsOf 27)) y1 at r1
  change Rdg enc w n 3 (([c0, c1, c2, c3, c4, c5, c6].drop 6).take (Try.prog.cellsOf 3)) y2 at r2
  rw [Try.cTask] at r0
  rw [Try.cAdv] at r1
  rw [Try.cInt] at r2
  obtain ⟨t, rfl, rfl, rfl, g0⟩ := open_task r0 z0
  obtain ⟨a, rfl, g1⟩ := open_adv r1 z1
  obtain ⟨m6, e6, _, _⟩ := DataW.trod_int Try.underlying3 r2
  simp at e6
  subst e6
  exact ⟨⟨t, a, m6⟩, c3, c5, rfl, g0, g1⟩
end
end Go.Proofs.Ytlfnfphkhokdiaa

namespace Go.Proofs.Ytlfnfphkhokdiaa
open Go.ChangeShapes Go.WideShapes Go.ChangeAt Go.RowKit Go

theorem Try.own : ownKnob Try.prog.godebug = none := by kernel_rfl
theorem Try.laidOut : laidOutB Try.prog = true := by kernel_rfl
section
variable {H : Type} {enc : TypeId × Value → H} {w : World}
theorem list3 {l : List Value} (h : l.length = 3) : ∃ c0 c1 c2, l = [c0, c1, c2] := by
  match l, h with
  | [c0, c1, c2], _ => exact ⟨c0, c1, c2, rfl⟩
theorem Try.cPlay : Try.prog.cellsOf 33 = 3 := by kernel_rfl
theorem Try.cWord : Try.prog.cellsOf 31 = 1 := by kernel_rfl
theorem open_play {fuel : Nat} {cs : List Value} {x : DataW H × List MemPlace} (h : Rdg enc w fuel 33 cs x) (hz : Szd 33 x.1) :
    ∃ (vi u vd : Value) (inp : List Int) (word : List Rd) (dec : List Int), cs = [vi, u, vd] ∧ IsInts w vi inp ∧ IsWord w u word ∧ IsInts w vd dec := by
  obtain ⟨hl, n, hf⟩ := rdg_struct Try.underlying33 h hz
  rw [Try.cPlay] at hl
  obtain ⟨c0, c1, c2, rfl⟩ := list3 hl
  obtain ⟨u0, s0, q0⟩ := hf 0 _ rfl
  obtain ⟨u1, s1, q1⟩ := hf 1 _ rfl
  obtain ⟨u2, s2, q2⟩ := hf 2 _ rfl
  change Rdg enc w n 30 (([c0, c1, c2].drop 0).take (Try.prog.cellsOf 30)) u0 at s0
  change Rdg enc w n 31 (([c0, c1, c2].drop 1).take (Try.prog.cellsOf 31)) u1 at s1
  change Rdg enc w n 30 (([c0, c1, c2].drop 2).take (Try.prog.cellsOf 30)) u2 at s2
  change Szd 30 u0.1 at q0
  change Szd 31 u1.1 at q1
  change Szd 30 u2.1 at q2
  rw [Try.cInts] at s0 s2
  rw [Try.cWord] at s1
  obtain ⟨v0, l0, e0, g0⟩ := opn_val Try.underlying30 Try.cInt (by omega) (of_decide_eq_true (by kernel_rfl)) opn_int s0 q0
  obtain ⟨v1, l1, e1, g1⟩ := opn_val Try.underlying31 Try.cRound (by omega) (of_decide_eq_true (by kernel_rfl)) opn_round s1 q1
  obtain ⟨v2, l2, e2, g2⟩ := opn_val Try.underlying30 Try.cInt (by omega) (of_decide_eq_true (by kernel_rfl)) opn_int s2 q2
  simp at e0 e1 e2
  subst e0 e1 e2
  exact ⟨_, _, _, _, _, _, rfl, g0, g1, g2⟩
end

end Go.Proofs.Ytlfnfphkhokdiaa
