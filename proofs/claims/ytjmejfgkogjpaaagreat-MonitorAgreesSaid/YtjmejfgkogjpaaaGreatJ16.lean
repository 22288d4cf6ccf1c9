/-
  Parts of the proof, in order. Contract of the program's simulate.checkDecisions. Conditions: the argument reads as a trace. Contract of the program's simulate.Check. Conditions: the argument reads as a trace. Contracts of the library's slices.Equal at rounds and messages, slices.EqualFunc at lists, and of the program's simulate.same. Conditions: the arguments read as traces. Contract of the program's simulate.Replay. Conditions: the arguments read as a machine and a trace.
-/
import Derived.Test.YtjmejfgkogjpaaaGreatJ15
namespace Go.Proofs.YtjmejfgkogjpaaaGreat
open Go.RowKit Go Go.Shelf

set_option maxRecDepth 100000 in
set_option maxHeartbeats 4000000 in
theorem checkDecisions_any (t : Tr) (vi vw vs vm vd vt : Value) (w : World) (ht : IsTr w t vi vw vs vm vd vt) :
    Calls Tryz.prog 45 #[.agg (trC vi vw vs vm vd vt)] w fun e w' => e = .returned (.int .i64 (decisionsE t)) ∧ Below w.heap.size w w' := by
  obtain ⟨hi, hw, hs, hm, hd, htt⟩ := ht
  obtain ⟨pi, ci, rfl, li1, li2, _⟩ := hi.at
  obtain ⟨pw, cw, rfl, lw1, lw2, _⟩ := hw.at
  obtain ⟨ps, cs, rfl, ls1, ls2, _⟩ := hs.at
  obtain ⟨pm, cm, rfl, _⟩ := hm.at
  obtain ⟨pd, cd, rfl, ld1, ld2, ed⟩ := hd.at
  obtain ⟨pt, ct, rfl, lt1, lt2, et⟩ := htt.at
  clear hi hw hs hm hd htt
  have ED := Lib.hid ed
  have ET := Lib.hid et
  clear ed et
  have HV : Hid (decisionsE t = if t.dec.length ≠ t.inp.length ∨ t.times.length ≠ t.inp.length then 15 else firstNZ t.dec.length (deciE t)) := by exact rfl
  by_cases h1 : t.dec.length = t.inp.length
  case neg =>
    have d1 : ((t.dec.length : Int) != (t.inp.length : Int)) = true := by simp; omega
    have HV1 : Hid (decisionsE t = 15) := by (have h : decisionsE t = 15 := by (rw [HV.out, if_pos (Or.inl h1)])); exact h
    clear h1
    go_enter Tryz.func45, Tryz.ntmps45
    go_wp2_with fail
    go_ret
    exact ⟨ret_int HV1.out.symm, by go_grown⟩
  have d1 : ((t.dec.length : Int) != (t.inp.length : Int)) = false := by simp; omega
  by_cases h2 : t.times.length = t.inp.length
  case neg =>
    have d2 : ((t.times.length : Int) != (t.inp.length : Int)) = true := by simp; omega
    have HV1 : Hid (decisionsE t = 15) := by (have h : decisionsE t = 15 := by (rw [HV.out, if_pos (Or.inr h2)])); exact h
    clear h1 h2
    go_enter Tryz.func45, Tryz.ntmps45
    go_wp2_with fail
    go_ret
    exact ⟨ret_int HV1.out.symm, by go_grown⟩
  have d2 : ((t.times.length : Int) != (t.inp.length : Int)) = false := by simp; omega
  have HV1 : Hid (decisionsE t = firstNZ t.dec.length (deciE t)) := by (have h : decisionsE t = firstNZ t.dec.length (deciE t) := by (rw [HV.out, if_neg (by omega)])); exact h
  have H12 : Hid (t.dec.length = t.times.length) := by (have h : t.dec.length = t.times.length := by omega); exact h
  clear h1 h2 HV
  go_enter Tryz.func45, Tryz.ntmps45
  go_wp2_with fail
  clear d1 d2
  refine wp_gen (fun W => Below w.heap.size w W ∧ W.heap[w.heap.size]? = some (.cells (trC (.slice pi t.inp.length ci) (.slice pw t.word.length cw) (.slice ps t.states.length cs) (.slice pm t.msgs.length cm) (.slice pd t.dec.length cd) (.slice pt t.times.length ct)) 40)) ⟨by go_grown, alloc_new _ _⟩ (fun W0 hW0 => ?_)
  obtain ⟨hb0, hT0⟩ := hW0
  have HT0 := Lib.hid hT0; clear hT0
  go_loopw [24] (fun i wr => Below W0.heap.size W0 wr ∧ ∃ k : Nat, k ≤ t.dec.length ∧ i = .int .i64 k ∧ ∀ j, j < k → deciE t j = 0) (fun i _ => t.dec.length - (intOf i).toNat)
  case atStart => exact ⟨Below.refl _ _, 0, by omega, rfl, by simp⟩
  case round =>
    obtain ⟨hbr, k, hk, rfl, hinv⟩ := hrel
    have H := Lib.hid hinv; clear hinv
    have hbW := ext_trans hb0 hbr
    by_cases hlt : k < t.dec.length
    · have hlt2 : k < t.times.length := by have := H12.out; omega
      obtain ⟨b1, o1, rfl, h3⟩ := ED.out k hlt
      obtain ⟨b2, o2, rfl, h4⟩ := ET.out k hlt2
      rw [Nat.mul_one] at h3 h4
      have c3 := cell_up hbW h3.1
      have c4 := cell_up hbW h4.1
      have HC4 := Lib.hid h4.1
      have HE : Hid (deciE t k = if !inB t.times[k] (-1) t.word.length || !inB t.dec[k] (-1) 7 then 2 else if decide (t.dec[k] = -1) != decide (t.times[k] = -1) then 3 else 0) := by
        (have h : deciE t k = if !inB t.times[k] (-1) t.word.length || !inB t.dec[k] (-1) 7 then 2 else if decide (t.dec[k] = -1) != decide (t.times[k] = -1) then 3 else 0 := by (unfold deciE; rw [getD_of_lt 0 hlt, getD_of_lt 0 hlt2])); exact h
      clear h3 h4
      generalize t.dec[k] = dk at c3 HE
      generalize t.times[k] = tk at c4 HC4 HE
      go_wp2_with fail
      clear c3 c4
      have hs0 := hbW.size
      cases hq : inB tk (-1) t.word.length
      · have HQ := Lib.hid hq; clear hq
        have HE2 : Hid (deciE t k = 2) := by (have h : deciE t k = 2 := by (rw [HE.out, HQ.out]; rfl)); exact h
        refine wp_region_all 16 [30, 31, 32, 33, 34, 35, 36, 37, 38, 39, 40, 41, 42, 43, 44, 29] [MP.eq (.pointer (some ⟨w.heap.size, 1, none⟩)),
          MP.eq (.slice pw t.word.length cw),
          MP.eq (.int .i64 t.word.length),
          MP.outF (-1) t.word.length,
          MP.eq (.pointer (some ⟨w.heap.size, 5, none⟩)),
          MP.eq (.slice (some ⟨b2, o2, none⟩) t.times.length ct),
          MP.eq (.int .i64 k),
          MP.eq (.pointer (some ⟨b2, o2 + k, none⟩)),
          MP.eq (.int .i64 tk),
          MP.eq (.bool true),
          MP.eq (.bool true),
          MP.any,
          MP.any,
          MP.any,
          MP.eq (.bool true),
          MP.eq (.bool true)] (by kernel_rfl) rfl (by decide) rfl (by kernel_rfl) ?step ?tail
        case step =>
          intro x W i o s F hi ho hs hB hdep hF
          have hcase : i = 0 ∨ i = 1 ∨ i = 2 ∨ i = 3 ∨ i = 4 ∨ i = 5 ∨ i = 6 ∨ i = 7 ∨ i = 8 ∨ i = 9 ∨ i = 10 ∨ i = 11 ∨ i = 12 ∨ i = 13 ∨ i = 14 ∨ i = 15 := by omega
          rcases hcase with rfl | rfl | rfl | rfl | rfl | rfl | rfl | rfl | rfl | rfl | rfl | rfl | rfl | rfl | rfl | rfl
          · obtain rfl := Option.some.inj ho.symm
            obtain rfl := Option.some.inj hs.symm
            clear hdep hi ho hs
            simp only [setAll, setFrom, List.setIfInBounds_toArray, List.set_cons_succ, List.set_cons_zero, Nat.reduceAdd] at hF
            subst hF
            go_wp2_with fail
            exact EachK.mk _ (Below.refl _ _) rfl (by simp only [List.setIfInBounds_toArray, List.set_cons_succ, List.set_cons_zero])
          · obtain rfl := Option.some.inj ho.symm
            obtain rfl := Option.some.inj hs.symm
            have d0 : x 0 = .pointer (some ⟨w.heap.size, 1, none⟩) := hdep ⟨0, .data⟩ (by simp) rfl
            clear hdep hi ho hs
            have t1 := cell_block (block_up (ext_trans hbr hB) HT0.out)
            simp only [setAll, setFrom, List.setIfInBounds_toArray, List.set_cons_succ, List.set_cons_zero, Nat.reduceAdd] at hF
            simp only [d0] at hF
            subst hF
            go_wp2_with fail
            exact EachK.mk _ (Below.refl _ _) rfl (by simp only [List.setIfInBounds_toArray, List.set_cons_succ, List.set_cons_zero])
          · obtain rfl := Option.some.inj ho.symm
            obtain rfl := Option.some.inj hs.symm
            have d1 : x 1 = (.slice pw t.word.length cw) := hdep ⟨1, .data⟩ (by simp) rfl
            clear hdep hi ho hs
            simp only [setAll, setFrom, List.setIfInBounds_toArray, List.set_cons_succ, List.set_cons_zero, Nat.reduceAdd] at hF
            simp only [d1] at hF
            subst hF
            go_wp2_with fail
            exact EachK.mk _ (Below.refl _ _) rfl (by simp only [List.setIfInBounds_toArray, List.set_cons_succ, List.set_cons_zero])
          · obtain rfl := Option.some.inj ho.symm
            obtain rfl := Option.some.inj hs.symm
            have d2 : x 2 = .int .i64 t.word.length := hdep ⟨2, .data⟩ (by simp) rfl
            clear hdep hi ho hs
            simp only [setAll, setFrom, List.setIfInBounds_toArray, List.set_cons_succ, List.set_cons_zero, Nat.reduceAdd] at hF
            simp only [d2] at hF
            subst hF
            go_wp2_with fail
            refine (outside_any _ _ _).mono ?_
            rintro e w9 ⟨v, rfl, hv9, hb9⟩
            have HV9 := Lib.hid hv9
            obtain ⟨_, _, rfl, _⟩ := hv9
            go_wp2_with fail
            exact EachK.mk _ hb9 HV9.out (by simp only [List.setIfInBounds_toArray, List.set_cons_succ, List.set_cons_zero])
          · obtain rfl := Option.some.inj ho.symm
            obtain rfl := Option.some.inj hs.symm
            clear hdep hi ho hs
            simp only [setAll, setFrom, List.setIfInBounds_toArray, List.set_cons_succ, List.set_cons_zero, Nat.reduceAdd] at hF
            subst hF
            go_wp2_with fail
            exact EachK.mk _ (Below.refl _ _) rfl (by simp only [List.setIfInBounds_toArray, List.set_cons_succ, List.set_cons_zero])
          · obtain rfl := Option.some.inj ho.symm
            obtain rfl := Option.some.inj hs.symm
            have d4 : x 4 = .pointer (some ⟨w.heap.size, 5, none⟩) := hdep ⟨4, .data⟩ (by simp) rfl
            clear hdep hi ho hs
            have t1 := cell_block (block_up (ext_trans hbr hB) HT0.out)
            simp only [setAll, setFrom, List.setIfInBounds_toArray, List.set_cons_succ, List.set_cons_zero, Nat.reduceAdd] at hF
            simp only [d4] at hF
            subst hF
            go_wp2_with fail
            exact EachK.mk _ (Below.refl _ _) rfl (by simp only [List.setIfInBounds_toArray, List.set_cons_succ, List.set_cons_zero])
          · obtain rfl := Option.some.inj ho.symm
            obtain rfl := Option.some.inj hs.symm
            clear hdep hi ho hs
            simp only [setAll, setFrom, List.setIfInBounds_toArray, List.set_cons_succ, List.set_cons_zero, Nat.reduceAdd] at hF
            subst hF
            go_wp2_with fail
            exact EachK.mk _ (Below.refl _ _) rfl (by simp only [List.setIfInBounds_toArray, List.set_cons_succ, List.set_cons_zero])
          · obtain rfl := Option.some.inj ho.symm
            obtain rfl := Option.some.inj hs.symm
            have d5 : x 5 = .slice (some ⟨b2, o2, none⟩) t.times.length ct := hdep ⟨5, .data⟩ (by simp) rfl
            have d6 : x 6 = .int .i64 k := hdep ⟨6, .data⟩ (by simp) rfl
            clear hdep hi ho hs
            simp only [setAll, setFrom, List.setIfInBounds_toArray, List.set_cons_succ, List.set_cons_zero, Nat.reduceAdd] at hF
            simp only [d5, d6] at hF
            subst hF
            go_wp2_with fail
            exact EachK.mk _ (Below.refl _ _) rfl (by simp only [List.setIfInBounds_toArray, List.set_cons_succ, List.set_cons_zero])
          · obtain rfl := Option.some.inj ho.symm
            obtain rfl := Option.some.inj hs.symm
            have d7 : x 7 = .pointer (some ⟨b2, o2 + k, none⟩) := hdep ⟨7, .data⟩ (by simp) rfl
            clear hdep hi ho hs
            have c4 := cell_up (ext_trans hbW hB) HC4.out
            simp only [setAll, setFrom, List.setIfInBounds_toArray, List.set_cons_succ, List.set_cons_zero, Nat.reduceAdd] at hF
            simp only [d7] at hF
            subst hF
            go_wp2_with fail
            exact EachK.mk _ (Below.refl _ _) rfl (by simp only [List.setIfInBounds_toArray, List.set_cons_succ, List.set_cons_zero])
          · obtain rfl := Option.some.inj ho.symm
            obtain rfl := Option.some.inj hs.symm
            have d3 := hdep ⟨3, .data⟩ (by simp) rfl
            have d8 : x 8 = .int .i64 tk := hdep ⟨8, .data⟩ (by simp) rfl
            clear hdep hi ho hs
            obtain ⟨b9, c9, e9, f9, g9⟩ := d3
            have HO9 := Lib.hid (outside1_any tk _ _ b9 c9 W f9 g9)
            rw [HQ.out] at HO9
            simp only [setAll, setFrom, List.setIfInBounds_toArray, List.set_cons_succ, List.set_cons_zero, Nat.reduceAdd] at hF
            simp only [d8, e9] at hF
            subst hF
            go_wp2_with fail
            refine HO9.out.mono ?_
            rintro e w9 ⟨rfl, rfl⟩
            go_wp2_with fail
            exact EachK.mk _ (Below.refl _ _) rfl (by simp only [List.setIfInBounds_toArray, List.set_cons_succ, List.set_cons_zero])
          · obtain rfl := Option.some.inj ho.symm
            obtain rfl := Option.some.inj hs.symm
            have d9 : x 9 = .bool true := hdep ⟨9, .data⟩ (by simp) rfl
            clear hdep hi ho hs
            simp only [setAll, setFrom, List.setIfInBounds_toArray, List.set_cons_succ, List.set_cons_zero, Nat.reduceAdd] at hF
            simp only [d9] at hF
            subst hF
            go_wp2_with fail
            exact EachK.mk _ (Below.refl _ _) rfl (by simp only [List.setIfInBounds_toArray, List.set_cons_succ, List.set_cons_zero])
          · obtain rfl := Option.some.inj ho.symm
            obtain rfl := Option.some.inj hs.symm
            have d10 : x 10 = .bool true := hdep ⟨10, .guard⟩ (by simp) rfl
            clear hdep hi ho hs
            simp only [setAll, setFrom, List.setIfInBounds_toArray, List.set_cons_succ, List.set_cons_zero, Nat.reduceAdd] at hF
            simp only [d10] at hF
            subst hF
            go_wp2_with fail
            exact EachK.mk undef (Below.refl _ _) trivial (by simp only [List.setIfInBounds_toArray, List.set_cons_succ, List.set_cons_zero])
          · obtain rfl := Option.some.inj ho.symm
            obtain rfl := Option.some.inj hs.symm
            have d10 : x 10 = .bool true := hdep ⟨10, .guard⟩ (by simp) rfl
            clear hdep hi ho hs
            simp only [setAll, setFrom, List.setIfInBounds_toArray, List.set_cons_succ, List.set_cons_zero, Nat.reduceAdd] at hF
            simp only [d10] at hF
            subst hF
            go_wp2_with fail
            exact EachK.mk undef (Below.refl _ _) trivial (by simp only [List.setIfInBounds_toArray, List.set_cons_succ, List.set_cons_zero])
          · obtain rfl := Option.some.inj ho.symm
            obtain rfl := Option.some.inj hs.symm
            have d10 : x 10 = .bool true := hdep ⟨10, .guard⟩ (by simp) rfl
            clear hdep hi ho hs
            simp only [setAll, setFrom, List.setIfInBounds_toArray, List.set_cons_succ, List.set_cons_zero, Nat.reduceAdd] at hF
            simp only [d10] at hF
            subst hF
            go_wp2_with fail
            exact EachK.mk undef (Below.refl _ _) trivial (by simp only [List.setIfInBounds_toArray, List.set_cons_succ, List.set_cons_zero])
          · obtain rfl := Option.some.inj ho.symm
            obtain rfl := Option.some.inj hs.symm
            have d10 : x 10 = .bool true := hdep ⟨10, .data⟩ (by simp) rfl
            clear hdep hi ho hs
            simp only [setAll, setFrom, List.setIfInBounds_toArray, List.set_cons_succ, List.set_cons_zero, Nat.reduceAdd] at hF
            simp only [d10] at hF
            subst hF
            go_wp2_with fail
            exact EachK.mk _ (Below.refl _ _) rfl (by simp only [List.setIfInBounds_toArray, List.set_cons_succ, List.set_cons_zero])
          · obtain rfl := Option.some.inj ho.symm
            obtain rfl := Option.some.inj hs.symm
            have d14 : x 14 = .bool true := hdep ⟨14, .data⟩ (by simp) rfl
            clear hdep hi ho hs
            simp only [setAll, setFrom, List.setIfInBounds_toArray, List.set_cons_succ, List.set_cons_zero, Nat.reduceAdd] at hF
            simp only [d14] at hF
            subst hF
            go_wp2_with fail
            exact EachK.mk _ (Below.refl _ _) rfl (by simp only [List.setIfInBounds_toArray, List.set_cons_succ, List.set_cons_zero])
        case tail =>
          intro x W F hB hall hF
          have e15 : x 15 = .bool true := hall 15 (by omega)
          clear hall
          simp only [setAll, setFrom, List.setIfInBounds_toArray, List.set_cons_succ, List.set_cons_zero, Nat.reduceAdd] at hF
          simp only [e15] at hF
          subst hF
          go_wp2_with fail
          go_ret
          exact ⟨ret_int (by rw [HV1.out, ← firstNZ_hit k 2 hlt H.out HE2.out (by decide)]), ext_trans hbW hB⟩
      · have HQ := Lib.hid hq; clear hq
        have HE2 : Hid (deciE t k = if !inB dk (-1) 7 then 2 else if decide (dk = -1) != decide (tk = -1) then 3 else 0) := by (have h : deciE t k = if !inB dk (-1) 7 then 2 else if decide (dk = -1) != decide (tk = -1) then 3 else 0 := by (rw [HE.out, HQ.out]; rfl)); exact h
        clear HE
        refine wp_region_all 16 [30, 31, 32, 33, 34, 35, 36, 37, 38, 39, 40, 41, 42, 43, 44, 29] [MP.eq (.pointer (some ⟨w.heap.size, 1, none⟩)),
          MP.eq (.slice pw t.word.length cw),
          MP.eq (.int .i64 t.word.length),
          MP.outF (-1) t.word.length,
          MP.eq (.pointer (some ⟨w.heap.size, 5, none⟩)),
          MP.eq (.slice (some ⟨b2, o2, none⟩) t.times.length ct),
          MP.eq (.int .i64 k),
          MP.eq (.pointer (some ⟨b2, o2 + k, none⟩)),
          MP.eq (.int .i64 tk),
          MP.eq (.bool false),
          MP.eq (.bool false),
          MP.outF (-1) 7,
          MP.eq (.int .i64 dk),
          MP.eq (.bool (!inB dk (-1) 7)),
          MP.eq (.bool (!inB dk (-1) 7)),
          MP.eq (.bool (!inB dk (-1) 7))] (by kernel_rfl) rfl (by decide) rfl (by kernel_rfl) ?step ?tail
        case step =>
          intro x W i o s F hi ho hs hB hdep hF
          have hcase : i = 0 ∨ i = 1 ∨ i = 2 ∨ i = 3 ∨ i = 4 ∨ i = 5 ∨ i = 6 ∨ i = 7 ∨ i = 8 ∨ i = 9 ∨ i = 10 ∨ i = 11 ∨ i = 12 ∨ i = 13 ∨ i = 14 ∨ i = 15 := by omega
          rcases hcase with rfl | rfl | rfl | rfl | rfl | rfl | rfl | rfl | rfl | rfl | rfl | rfl | rfl | rfl | rfl | rfl
          · obtain rfl := Option.some.inj ho.symm
            obtain rfl := Option.some.inj hs.symm
            clear hdep hi ho hs
            simp only [setAll, setFrom, List.setIfInBounds_toArray, List.set_cons_succ, List.set_cons_zero, Nat.reduceAdd] at hF
            subst hF
            go_wp2_with fail
            exact EachK.mk _ (Below.refl _ _) rfl (by simp only [List.setIfInBounds_toArray, List.set_cons_succ, List.set_cons_zero])
          · obtain rfl := Option.some.inj ho.symm
            obtain rfl := Option.some.inj hs.symm
            have d0 : x 0 = .pointer (some ⟨w.heap.size, 1, none⟩) := hdep ⟨0, .data⟩ (by simp) rfl
            clear hdep hi ho hs
            have t1 := cell_block (block_up (ext_trans hbr hB) HT0.out)
            simp only [setAll, setFrom, List.setIfInBounds_toArray, List.set_cons_succ, List.set_cons_zero, Nat.reduceAdd] at hF
            simp only [d0] at hF
            subst hF
            go_wp2_with fail
            exact EachK.mk _ (Below.refl _ _) rfl (by simp only [List.setIfInBounds_toArray, List.set_cons_succ, List.set_cons_zero])
          · obtain rfl := Option.some.inj ho.symm
            obtain rfl := Option.some.inj hs.symm
            have d1 : x 1 = (.slice pw t.word.length cw) := hdep ⟨1, .data⟩ (by simp) rfl
            clear hdep hi ho hs
            simp only [setAll, setFrom, List.setIfInBounds_toArray, List.set_cons_succ, List.set_cons_zero, Nat.reduceAdd] at hF
            simp only [d1] at hF
            subst hF
            go_wp2_with fail
            exact EachK.mk _ (Below.refl _ _) rfl (by simp only [List.setIfInBounds_toArray, List.set_cons_succ, List.set_cons_zero])
          · obtain rfl := Option.some.inj ho.symm
            obtain rfl := Option.some.inj hs.symm
            have d2 : x 2 = .int .i64 t.word.length := hdep ⟨2, .data⟩ (by simp) rfl
            clear hdep hi ho hs
            simp only [setAll, setFrom, List.setIfInBounds_toArray, List.set_cons_succ, List.set_cons_zero, Nat.reduceAdd] at hF
            simp only [d2] at hF
            subst hF
            go_wp2_with fail
            refine (outside_any _ _ _).mono ?_
            rintro e w9 ⟨v, rfl, hv9, hb9⟩
            have HV9 := Lib.hid hv9
            obtain ⟨_, _, rfl, _⟩ := hv9
            go_wp2_with fail
            exact EachK.mk _ hb9 HV9.out (by simp only [List.setIfInBounds_toArray, List.set_cons_succ, List.set_cons_zero])
          · obtain rfl := Option.some.inj ho.symm
            obtain rfl := Option.some.inj hs.symm
            clear hdep hi ho hs
            simp only [setAll, setFrom, List.setIfInBounds_toArray, List.set_cons_succ, List.set_cons_zero, Nat.reduceAdd] at hF
            subst hF
            go_wp2_with fail
            exact EachK.mk _ (Below.refl _ _) rfl (by simp only [List.setIfInBounds_toArray, List.set_cons_succ, List.set_cons_zero])
          · obtain rfl := Option.some.inj ho.symm
            obtain rfl := Option.some.inj hs.symm
            have d4 : x 4 = .pointer (some ⟨w.heap.size, 5, none⟩) := hdep ⟨4, .data⟩ (by simp) rfl
            clear hdep hi ho hs
            have t1 := cell_block (block_up (ext_trans hbr hB) HT0.out)
            simp only [setAll, setFrom, List.setIfInBounds_toArray, List.set_cons_succ, List.set_cons_zero, Nat.reduceAdd] at hF
            simp only [d4] at hF
            subst hF
            go_wp2_with fail
            exact EachK.mk _ (Below.refl _ _) rfl (by simp only [List.setIfInBounds_toArray, List.set_cons_succ, List.set_cons_zero])
          · obtain rfl := Option.some.inj ho.symm
            obtain rfl := Option.some.inj hs.symm
            clear hdep hi ho hs
            simp only [setAll, setFrom, List.setIfInBounds_toArray, List.set_cons_succ, List.set_cons_zero, Nat.reduceAdd] at hF
            subst hF
            go_wp2_with fail
            exact EachK.mk _ (Below.refl _ _) rfl (by simp only [List.setIfInBounds_toArray, List.set_cons_succ, List.set_cons_zero])
          · obtain rfl := Option.some.inj ho.symm
            obtain rfl := Option.some.inj hs.symm
            have d5 : x 5 = .slice (some ⟨b2, o2, none⟩) t.times.length ct := hdep ⟨5, .data⟩ (by simp) rfl
            have d6 : x 6 = .int .i64 k := hdep ⟨6, .data⟩ (by simp) rfl
            clear hdep hi ho hs
            simp only [setAll, setFrom, List.setIfInBounds_toArray, List.set_cons_succ, List.set_cons_zero, Nat.reduceAdd] at hF
            simp only [d5, d6] at hF
            subst hF
            go_wp2_with fail
            exact EachK.mk _ (Below.refl _ _) rfl (by simp only [List.setIfInBounds_toArray, List.set_cons_succ, List.set_cons_zero])
          · obtain rfl := Option.some.inj ho.symm
            obtain rfl := Option.some.inj hs.symm
            have d7 : x 7 = .pointer (some ⟨b2, o2 + k, none⟩) := hdep ⟨7, .data⟩ (by simp) rfl
            clear hdep hi ho hs
            have c4 := cell_up (ext_trans hbW hB) HC4.out
            simp only [setAll, setFrom, List.setIfInBounds_toArray, List.set_cons_succ, List.set_cons_zero, Nat.reduceAdd] at hF
            simp only [d7] at hF
            subst hF
            go_wp2_with fail
            exact EachK.mk _ (Below.refl _ _) rfl (by simp only [List.setIfInBounds_toArray, List.set_cons_succ, List.set_cons_zero])
          · obtain rfl := Option.some.inj ho.symm
            obtain rfl := Option.some.inj hs.symm
            have d3 := hdep ⟨3, .data⟩ (by simp) rfl
            have d8 : x 8 = .int .i64 tk := hdep ⟨8, .data⟩ (by simp) rfl
            clear hdep hi ho hs
            obtain ⟨b9, c9, e9, f9, g9⟩ := d3
            have HO9 := Lib.hid (outside1_any tk _ _ b9 c9 W f9 g9)
            rw [HQ.out] at HO9
            simp only [setAll, setFrom, List.setIfInBounds_toArray, List.set_cons_succ, List.set_cons_zero, Nat.reduceAdd] at hF
            simp only [d8, e9] at hF
            subst hF
            go_wp2_with fail
            refine HO9.out.mono ?_
            rintro e w9 ⟨rfl, rfl⟩
            go_wp2_with fail
            exact EachK.mk _ (Below.refl _ _) rfl (by simp only [List.setIfInBounds_toArray, List.set_cons_succ, List.set_cons_zero])
          · obtain rfl := Option.some.inj ho.symm
            obtain rfl := Option.some.inj hs.symm
            have d9 : x 9 = .bool false := hdep ⟨9, .data⟩ (by simp) rfl
            clear hdep hi ho hs
            simp only [setAll, setFrom, List.setIfInBounds_toArray, List.set_cons_succ, List.set_cons_zero, Nat.reduceAdd] at hF
            simp only [d9] at hF
            subst hF
            go_wp2_with fail
            exact EachK.mk _ (Below.refl _ _) rfl (by simp only [List.setIfInBounds_toArray, List.set_cons_succ, List.set_cons_zero])
          · obtain rfl := Option.some.inj ho.symm
            obtain rfl := Option.some.inj hs.symm
            have d10 : x 10 = .bool false := hdep ⟨10, .guard⟩ (by simp) rfl
            clear hdep hi ho hs
            simp only [setAll, setFrom, List.setIfInBounds_toArray, List.set_cons_succ, List.set_cons_zero, Nat.reduceAdd] at hF
            simp only [d10] at hF
            subst hF
            go_wp2_with fail
            refine (outside_any _ _ _).mono ?_
            rintro e w9 ⟨v, rfl, hv9, hb9⟩
            have HV9 := Lib.hid hv9
            obtain ⟨_, _, rfl, _⟩ := hv9
            go_wp2_with fail
            exact EachK.mk _ hb9 HV9.out (by simp only [List.setIfInBounds_toArray, List.set_cons_succ, List.set_cons_zero])
          · obtain rfl := Option.some.inj ho.symm
            obtain rfl := Option.some.inj hs.symm
            have d10 : x 10 = .bool false := hdep ⟨10, .guard⟩ (by simp) rfl
            clear hdep hi ho hs
            simp only [setAll, setFrom, List.setIfInBounds_toArray, List.set_cons_succ, List.set_cons_zero, Nat.reduceAdd] at hF
            simp only [d10] at hF
            subst hF
            go_wp2_with fail
            exact EachK.mk _ (Below.refl _ _) rfl (by simp only [List.setIfInBounds_toArray, List.set_cons_succ, List.set_cons_zero])
          · obtain rfl := Option.some.inj ho.symm
            obtain rfl := Option.some.inj hs.symm
            have d11 := hdep ⟨11, .data⟩ (by simp) rfl
            have d12 : x 12 = .int .i64 dk := hdep ⟨12, .data⟩ (by simp) rfl
            have d10 : x 10 = .bool false := hdep ⟨10, .guard⟩ (by simp) rfl
            clear hdep hi ho hs
            obtain ⟨b9, c9, e9, f9, g9⟩ := d11
            have HO9 := Lib.hid (outside1_any dk _ _ b9 c9 W f9 g9)
            simp only [setAll, setFrom, List.setIfInBounds_toArray, List.set_cons_succ, List.set_cons_zero, Nat.reduceAdd] at hF
            simp only [d12, d10, e9] at hF
            subst hF
            go_wp2_with fail
            refine HO9.out.mono ?_
            rintro e w9 ⟨rfl, rfl⟩
            go_wp2_with fail
            exact EachK.mk _ (Below.refl _ _) rfl (by simp only [List.setIfInBounds_toArray, List.set_cons_succ, List.set_cons_zero])
          · obtain rfl := Option.some.inj ho.symm
            obtain rfl := Option.some.inj hs.symm
            have d10 : x 10 = .bool false := hdep ⟨10, .data⟩ (by simp) rfl
            have d13 : x 13 = .bool (!inB dk (-1) 7) := hdep ⟨13, .data⟩ (by simp) rfl
            clear hdep hi ho hs
            simp only [setAll, setFrom, List.setIfInBounds_toArray, List.set_cons_succ, List.set_cons_zero, Nat.reduceAdd] at hF
            simp only [d10, d13] at hF
            subst hF
            go_wp2_with fail
            exact EachK.mk _ (Below.refl _ _) rfl (by simp only [List.setIfInBounds_toArray, List.set_cons_succ, List.set_cons_zero])
          · obtain rfl := Option.some.inj ho.symm
            obtain rfl := Option.some.inj hs.symm
            have d14 : x 14 = .bool (!inB dk (-1) 7) := hdep ⟨14, .data⟩ (by simp) rfl
            clear hdep hi ho hs
            simp only [setAll, setFrom, List.setIfInBounds_toArray, List.set_cons_succ, List.set_cons_zero, Nat.reduceAdd] at hF
            simp only [d14] at hF
            subst hF
            go_wp2_with fail
            exact EachK.mk _ (Below.refl _ _) rfl (by simp only [List.setIfInBounds_toArray, List.set_cons_succ, List.set_cons_zero])
        case tail =>
          intro x W F hB hall hF
          have e15 : x 15 = .bool (!inB dk (-1) 7) := hall 15 (by omega)
          clear hall
          simp only [setAll, setFrom, List.setIfInBounds_toArray, List.set_cons_succ, List.set_cons_zero, Nat.reduceAdd] at hF
          simp only [e15] at hF
          subst hF
          have hbX := ext_trans hbW hB
          cases hq : inB dk (-1) 7
          · have HE3 : Hid (deciE t k = 2) := by (have h : deciE t k = 2 := by (rw [HE2.out, hq]; rfl)); exact h
            clear hq
            go_wp2_with fail
            go_ret
            exact ⟨ret_int (by rw [HV1.out, ← firstNZ_hit k 2 hlt H.out HE3.out (by decide)]), hbX⟩
          · have HE3 : Hid (deciE t k = if decide (dk = -1) != decide (tk = -1) then 3 else 0) := by (have h : deciE t k = if decide (dk = -1) != decide (tk = -1) then 3 else 0 := by (rw [HE2.out, hq]; rfl)); exact h
            clear hq
            have t1 := cell_block (block_up (ext_trans hbr hB) HT0.out)
            have c4 := cell_up hbX HC4.out
            by_cases ha : dk = -1 <;> by_cases hb : tk = -1
            · have HE4 : Hid (deciE t k = 0) := by (have h : deciE t k = 0 := by (rw [HE3.out, ha, hb]; rfl)); exact h
              subst ha hb
              go_wp2_with fail
              go_roundw
              case rel => exact ⟨ext_trans hbr hB, k + 1, by omega, by go_num, below_succ H.out HE4.out⟩
              case measure => simp [intOf]; omega
            · have HE4 : Hid (deciE t k = 3) := by (have h : deciE t k = 3 := by (rw [HE3.out]; simp [ha, hb])); exact h
              have hb2 : (tk == -1) = false := by simpa using hb
              have hb3 : decide (tk = -1) = false := by simpa using hb
              subst ha
              go_wp2_with fail
              go_ret
              exact ⟨ret_int (by rw [HV1.out, ← firstNZ_hit k 3 hlt H.out HE4.out (by decide)]), hbX⟩
            · have HE4 : Hid (deciE t k = 3) := by (have h : deciE t k = 3 := by (rw [HE3.out]; simp [ha, hb])); exact h
              have ha2 : (dk == -1) = false := by simpa using ha
              have ha3 : decide (dk = -1) = false := by simpa using ha
              subst hb
              go_wp2_with fail
              go_ret
              exact ⟨ret_int (by rw [HV1.out, ← firstNZ_hit k 3 hlt H.out HE4.out (by decide)]), hbX⟩
            · have HE4 : Hid (deciE t k = 0) := by (have h : deciE t k = 0 := by (rw [HE3.out]; simp [ha, hb])); exact h
              have ha2 : (dk == -1) = false := by simpa using ha
              have ha3 : decide (dk = -1) = false := by simpa using ha
              have hb2 : (tk == -1) = false := by simpa using hb
              have hb3 : decide (tk = -1) = false := by simpa using hb
              go_wp2_with fail
              go_roundw
              case rel => exact ⟨ext_trans hbr hB, k + 1, by omega, by go_num, below_succ H.out HE4.out⟩
              case measure => simp [intOf]; omega
    · go_wp2_with fail
      go_ret
      exact ⟨ret_int (by rw [HV1.out, firstNZ_zero]; intro j hj; exact H.out j (by omega)), hbW⟩
end Go.Proofs.YtjmejfgkogjpaaaGreat

namespace Go.Proofs.YtjmejfgkogjpaaaGreat
open Go.RowKit Go Go.Shelf
attribute [local go_sem] run_store_func

/-- what the three checks have passed -/
def passT (a b c : Int) (k : Nat) : Prop := (1 ≤ k → a = 0) ∧ (2 ≤ k → b = 0) ∧ (3 ≤ k → c = 0)

set_option maxRecDepth 100000 in
set_option maxHeartbeats 8000000 in
theorem trCheck_any (t : Tr) (vi vw vs vm vd vt : Value) (w : World) (ht : IsTr w t vi vw vs vm vd vt) :
    Calls Tryz.prog 20 #[.agg (trC vi vw vs vm vd vt)] w fun e w' => e = .returned (.int .i64 (traceE t)) ∧ Below w.heap.size w w' := by
  have HT := Lib.hid ht
  obtain ⟨hi, hw, hs, hm, hd, htt⟩ := ht
  obtain ⟨pi, ci, rfl, li1, li2, _⟩ := hi.at
  obtain ⟨pw, cw, rfl, lw1, lw2, _⟩ := hw.at
  obtain ⟨ps, cs, rfl, ls1, ls2, _⟩ := hs.at
  obtain ⟨pm, cm, rfl, _⟩ := hm.at
  obtain ⟨pd, cd, rfl, _⟩ := hd.at
  obtain ⟨pt, ct, rfl, _⟩ := htt.at
  clear hi hw hs hm hd htt
  have HV : Hid (traceE t = if t.inp.length < 1 ∨ 5 < t.inp.length then 2 else if anyLt t.inp.length (fun i => !inB (t.inp.getD i 0) 0 7) then 2 else if wordE t.inp.length t.word ≠ 0 then wordE t.inp.length t.word else if 6 < t.word.length then 5 else if statesE t ≠ 0 then statesE t else if messagesE t ≠ 0 then messagesE t else decisionsE t) := by exact rfl
  go_enter Tryz.func20, Tryz.ntmps20
  go_wp2_with fail
  refine wp_gen (fun W => Below w.heap.size w W ∧ W.heap[w.heap.size]? = some (.cells (trC (.slice pi t.inp.length ci) (.slice pw t.word.length cw) (.slice ps t.states.length cs) (.slice pm t.msgs.length cm) (.slice pd t.dec.length cd) (.slice pt t.times.length ct)) 40)) ⟨by go_grown, alloc_new _ _⟩ (fun W0 hW0 => ?_)
  obtain ⟨hb0, hT0⟩ := hW0
  have HT0 := Lib.hid hT0; clear hT0
  by_cases hlo : t.inp.length < 1
  · have HV1 : Hid (traceE t = 2) := by (have h : traceE t = 2 := by (rw [HV.out, if_pos (Or.inl hlo)])); exact h
    have hl2 : (t.inp.length : Int) < 1 := by omega
    refine wp_region_all 12 [11, 12, 13, 14, 15, 16, 17, 18, 19, 20, 21, 22] [MP.eq (.int .i64 (t.inp.length : Int)),
      MP.eq (.bool true),
      MP.eq (.bool true),
      MP.any,
      MP.any,
      MP.eq (.bool true),
      MP.eq (.bool true),
      MP.any,
      MP.any,
      MP.any,
      MP.any,
      MP.eq (.bool true)] (by kernel_rfl) rfl (by decide) rfl (by kernel_rfl) ?step ?tail
    case step =>
      intro x W i o s F hi ho hs hB hdep hF
      have hcase : i = 0 ∨ i = 1 ∨ i = 2 ∨ i = 3 ∨ i = 4 ∨ i = 5 ∨ i = 6 ∨ i = 7 ∨ i = 8 ∨ i = 9 ∨ i = 10 ∨ i = 11 := by omega
      rcases hcase with rfl | rfl | rfl | rfl | rfl | rfl | rfl | rfl | rfl | rfl | rfl | rfl
      · obtain rfl := Option.some.inj ho.symm
        obtain rfl := Option.some.inj hs.symm
        clear hdep hi ho hs
        simp only [setAll, setFrom, List.setIfInBounds_toArray, List.set_cons_succ, List.set_cons_zero, Nat.reduceAdd] at hF
        subst hF
        go_wp2_with fail
        exact EachK.mk _ (Below.refl _ _) rfl (by simp only [List.setIfInBounds_toArray, List.set_cons_succ, List.set_cons_zero])
      · obtain rfl := Option.some.inj ho.symm
        obtain rfl := Option.some.inj hs.symm
        have d0 : x 0 = .int .i64 (t.inp.length : Int) := hdep ⟨0, .data⟩ (by simp) rfl
        clear hdep hi ho hs
        simp only [setAll, setFrom, List.setIfInBounds_toArray, List.set_cons_succ, List.set_cons_zero, Nat.reduceAdd] at hF
        simp only [d0] at hF
        subst hF
        go_wp2_with fail
        exact EachK.mk _ (Below.refl _ _) rfl (by simp only [List.setIfInBounds_toArray, List.set_cons_succ, List.set_cons_zero])
      · obtain rfl := Option.some.inj ho.symm
        obtain rfl := Option.some.inj hs.symm
        have d1 : x 1 = .bool true := hdep ⟨1, .data⟩ (by simp) rfl
        clear hdep hi ho hs
        simp only [setAll, setFrom, List.setIfInBounds_toArray, List.set_cons_succ, List.set_cons_zero, Nat.reduceAdd] at hF
        simp only [d1] at hF
        subst hF
        go_wp2_with fail
        exact EachK.mk _ (Below.refl _ _) rfl (by simp only [List.setIfInBounds_toArray, List.set_cons_succ, List.set_cons_zero])
      · obtain rfl := Option.some.inj ho.symm
        obtain rfl := Option.some.inj hs.symm
        have d2 : x 2 = .bool true := hdep ⟨2, .guard⟩ (by simp) rfl
        clear hdep hi ho hs
        simp only [setAll, setFrom, List.setIfInBounds_toArray, List.set_cons_succ, List.set_cons_zero, Nat.reduceAdd] at hF
        simp only [d2] at hF
        subst hF
        go_wp2_with fail
        exact EachK.mk undef (Below.refl _ _) trivial (by simp only [List.setIfInBounds_toArray, List.set_cons_succ, List.set_cons_zero])
      · obtain rfl := Option.some.inj ho.symm
        obtain rfl := Option.some.inj hs.symm
        have d2 : x 2 = .bool true := hdep ⟨2, .guard⟩ (by simp) rfl
        clear hdep hi ho hs
        simp only [setAll, setFrom, List.setIfInBounds_toArray, List.set_cons_succ, List.set_cons_zero, Nat.reduceAdd] at hF
        simp only [d2] at hF
        subst hF
        go_wp2_with fail
        exact EachK.mk undef (Below.refl _ _) trivial (by simp only [List.setIfInBounds_toArray, List.set_cons_succ, List.set_cons_zero])
      · obtain rfl := Option.some.inj ho.symm
        obtain rfl := Option.some.inj hs.symm
        have d2 : x 2 = .bool true := hdep ⟨2, .data⟩ (by simp) rfl
        clear hdep hi ho hs
        simp only [setAll, setFrom, List.setIfInBounds_toArray, List.set_cons_succ, List.set_cons_zero, Nat.reduceAdd] at hF
        simp only [d2] at hF
        subst hF
        go_wp2_with fail
        exact EachK.mk _ (Below.refl _ _) rfl (by simp only [List.setIfInBounds_toArray, List.set_cons_succ, List.set_cons_zero])
      · obtain rfl := Option.some.inj ho.symm
        obtain rfl := Option.some.inj hs.symm
        have d5 : x 5 = .bool true := hdep ⟨5, .data⟩ (by simp) rfl
        clear hdep hi ho hs
        simp only [setAll, setFrom, List.setIfInBounds_toArray, List.set_cons_succ, List.set_cons_zero, Nat.reduceAdd] at hF
        simp only [d5] at hF
        subst hF
        go_wp2_with fail
        exact EachK.mk _ (Below.refl _ _) rfl (by simp only [List.setIfInBounds_toArray, List.set_cons_succ, List.set_cons_zero])
      · obtain rfl := Option.some.inj ho.symm
        obtain rfl := Option.some.inj hs.symm
        have d6 : x 6 = .bool true := hdep ⟨6, .guard⟩ (by simp) rfl
        clear hdep hi ho hs
        simp only [setAll, setFrom, List.setIfInBounds_toArray, List.set_cons_succ, List.set_cons_zero, Nat.reduceAdd] at hF
        simp only [d6] at hF
        subst hF
        go_wp2_with fail
        exact EachK.mk undef (Below.refl _ _) trivial (by simp only [List.setIfInBounds_toArray, List.set_cons_succ, List.set_cons_zero])
      · obtain rfl := Option.some.inj ho.symm
        obtain rfl := Option.some.inj hs.symm
        have d6 : x 6 = .bool true := hdep ⟨6, .guard⟩ (by simp) rfl
        clear hdep hi ho hs
        simp only [setAll, setFrom, List.setIfInBounds_toArray, List.set_cons_succ, List.set_cons_zero, Nat.reduceAdd] at hF
        simp only [d6] at hF
        subst hF
        go_wp2_with fail
        exact EachK.mk undef (Below.refl _ _) trivial (by simp only [List.setIfInBounds_toArray, List.set_cons_succ, List.set_cons_zero])
      · obtain rfl := Option.some.inj ho.symm
        obtain rfl := Option.some.inj hs.symm
        have d6 : x 6 = .bool true := hdep ⟨6, .guard⟩ (by simp) rfl
        clear hdep hi ho hs
        simp only [setAll, setFrom, List.setIfInBounds_toArray, List.set_cons_succ, List.set_cons_zero, Nat.reduceAdd] at hF
        simp only [d6] at hF
        subst hF
        go_wp2_with fail
        exact EachK.mk undef (Below.refl _ _) trivial (by simp only [List.setIfInBounds_toArray, List.set_cons_succ, List.set_cons_zero])
      · obtain rfl := Option.some.inj ho.symm
        obtain rfl := Option.some.inj hs.symm
        have d6 : x 6 = .bool true := hdep ⟨6, .guard⟩ (by simp) rfl
        clear hdep hi ho hs
        simp only [setAll, setFrom, List.setIfInBounds_toArray, List.set_cons_succ, List.set_cons_zero, Nat.reduceAdd] at hF
        simp only [d6] at hF
        subst hF
        go_wp2_with fail
        exact EachK.mk undef (Below.refl _ _) trivial (by simp only [List.setIfInBounds_toArray, List.set_cons_succ, List.set_cons_zero])
      · obtain rfl := Option.some.inj ho.symm
        obtain rfl := Option.some.inj hs.symm
        have d6 : x 6 = .bool true := hdep ⟨6, .data⟩ (by simp) rfl
        clear hdep hi ho hs
        simp only [setAll, setFrom, List.setIfInBounds_toArray, List.set_cons_succ, List.set_cons_zero, Nat.reduceAdd] at hF
        simp only [d6] at hF
        subst hF
        go_wp2_with fail
        exact EachK.mk _ (Below.refl _ _) rfl (by simp only [List.setIfInBounds_toArray, List.set_cons_succ, List.set_cons_zero])
    case tail =>
      intro x W F hB hall hF
      have e11 : x 11 = .bool true := hall 11 (by omega)
      clear hall
      simp only [setAll, setFrom, List.setIfInBounds_toArray, List.set_cons_succ, List.set_cons_zero, Nat.reduceAdd] at hF
      simp only [e11] at hF
      subst hF
      go_wp2_with fail
      go_ret
      exact ⟨ret_int HV1.out.symm, ext_trans hb0 hB⟩
  by_cases h5' : 5 < t.inp.length
  · have HV1 : Hid (traceE t = 2) := by (have h : traceE t = 2 := by (rw [HV.out, if_pos (Or.inr h5')])); exact h
    have hl2 : ¬ (t.inp.length : Int) < 1 := by omega
    have hl3 : 5 < (t.inp.length : Int) := by omega
    refine wp_region_all 12 [11, 12, 13, 14, 15, 16, 17, 18, 19, 20, 21, 22] [MP.eq (.int .i64 (t.inp.length : Int)),
      MP.eq (.bool false),
      MP.eq (.bool false),
      MP.eq (.int .i64 (t.inp.length : Int)),
      MP.eq (.bool true),
      MP.eq (.bool true),
      MP.eq (.bool true),
      MP.any,
      MP.any,
      MP.any,
      MP.any,
      MP.eq (.bool true)] (by kernel_rfl) rfl (by decide) rfl (by kernel_rfl) ?step ?tail
    case step =>
      intro x W i o s F hi ho hs hB hdep hF
      have hcase : i = 0 ∨ i = 1 ∨ i = 2 ∨ i = 3 ∨ i = 4 ∨ i = 5 ∨ i = 6 ∨ i = 7 ∨ i = 8 ∨ i = 9 ∨ i = 10 ∨ i = 11 := by omega
      rcases hcase with rfl | rfl | rfl | rfl | rfl | rfl | rfl | rfl | rfl | rfl | rfl | rfl
      · obtain rfl := Option.some.inj ho.symm
        obtain rfl := Option.some.inj hs.symm
        clear hdep hi ho hs
        simp only [setAll, setFrom, List.setIfInBounds_toArray, List.set_cons_succ, List.set_cons_zero, Nat.reduceAdd] at hF
        subst hF
        go_wp2_with fail
        exact EachK.mk _ (Below.refl _ _) rfl (by simp only [List.setIfInBounds_toArray, List.set_cons_succ, List.set_cons_zero])
      · obtain rfl := Option.some.inj ho.symm
        obtain rfl := Option.some.inj hs.symm
        have d0 : x 0 = .int .i64 (t.inp.length : Int) := hdep ⟨0, .data⟩ (by simp) rfl
        clear hdep hi ho hs
        simp only [setAll, setFrom, List.setIfInBounds_toArray, List.set_cons_succ, List.set_cons_zero, Nat.reduceAdd] at hF
        simp only [d0] at hF
        subst hF
        go_wp2_with fail
        exact EachK.mk _ (Below.refl _ _) rfl (by simp only [List.setIfInBounds_toArray, List.set_cons_succ, List.set_cons_zero])
      · obtain rfl := Option.some.inj ho.symm
        obtain rfl := Option.some.inj hs.symm
        have d1 : x 1 = .bool false := hdep ⟨1, .data⟩ (by simp) rfl
        clear hdep hi ho hs
        simp only [setAll, setFrom, List.setIfInBounds_toArray, List.set_cons_succ, List.set_cons_zero, Nat.reduceAdd] at hF
        simp only [d1] at hF
        subst hF
        go_wp2_with fail
        exact EachK.mk _ (Below.refl _ _) rfl (by simp only [List.setIfInBounds_toArray, List.set_cons_succ, List.set_cons_zero])
      · obtain rfl := Option.some.inj ho.symm
        obtain rfl := Option.some.inj hs.symm
        have d2 : x 2 = .bool false := hdep ⟨2, .guard⟩ (by simp) rfl
        clear hdep hi ho hs
        simp only [setAll, setFrom, List.setIfInBounds_toArray, List.set_cons_succ, List.set_cons_zero, Nat.reduceAdd] at hF
        simp only [d2] at hF
        subst hF
        go_wp2_with fail
        exact EachK.mk _ (Below.refl _ _) rfl (by simp only [List.setIfInBounds_toArray, List.set_cons_succ, List.set_cons_zero])
      · obtain rfl := Option.some.inj ho.symm
        obtain rfl := Option.some.inj hs.symm
        have d3 : x 3 = .int .i64 (t.inp.length : Int) := hdep ⟨3, .data⟩ (by simp) rfl
        have d2 : x 2 = .bool false := hdep ⟨2, .guard⟩ (by simp) rfl
        clear hdep hi ho hs
        simp only [setAll, setFrom, List.setIfInBounds_toArray, List.set_cons_succ, List.set_cons_zero, Nat.reduceAdd] at hF
        simp only [d3, d2] at hF
        subst hF
        go_wp2_with fail
        exact EachK.mk _ (Below.refl _ _) rfl (by simp only [List.setIfInBounds_toArray, List.set_cons_succ, List.set_cons_zero])
      · obtain rfl := Option.some.inj ho.symm
        obtain rfl := Option.some.inj hs.symm
        have d2 : x 2 = .bool false := hdep ⟨2, .data⟩ (by simp) rfl
        have d4 : x 4 = .bool true := hdep ⟨4, .data⟩ (by simp) rfl
        clear hdep hi ho hs
        simp only [setAll, setFrom, List.setIfInBounds_toArray, List.set_cons_succ, List.set_cons_zero, Nat.reduceAdd] at hF
        simp only [d2, d4] at hF
        subst hF
        go_wp2_with fail
        exact EachK.mk _ (Below.refl _ _) rfl (by simp only [List.setIfInBounds_toArray, List.set_cons_succ, List.set_cons_zero])
      · obtain rfl := Option.some.inj ho.symm
        obtain rfl := Option.some.inj hs.symm
        have d5 : x 5 = .bool true := hdep ⟨5, .data⟩ (by simp) rfl
        clear hdep hi ho hs
        simp only [setAll, setFrom, List.setIfInBounds_toArray, List.set_cons_succ, List.set_cons_zero, Nat.reduceAdd] at hF
        simp only [d5] at hF
        subst hF
        go_wp2_with fail
        exact EachK.mk _ (Below.refl _ _) rfl (by simp only [List.setIfInBounds_toArray, List.set_cons_succ, List.set_cons_zero])
      · obtain rfl := Option.some.inj ho.symm
        obtain rfl := Option.some.inj hs.symm
        have d6 : x 6 = .bool true := hdep ⟨6, .guard⟩ (by simp) rfl
        clear hdep hi ho hs
        simp only [setAll, setFrom, List.setIfInBounds_toArray, List.set_cons_succ, List.set_cons_zero, Nat.reduceAdd] at hF
        simp only [d6] at hF
        subst hF
        go_wp2_with fail
        exact EachK.mk undef (Below.refl _ _) trivial (by simp only [List.setIfInBounds_toArray, List.set_cons_succ, List.set_cons_zero])
      · obtain rfl := Option.some.inj ho.symm
        obtain rfl := Option.some.inj hs.symm
        have d6 : x 6 = .bool true := hdep ⟨6, .guard⟩ (by simp) rfl
        clear hdep hi ho hs
        simp only [setAll, setFrom, List.setIfInBounds_toArray, List.set_cons_succ, List.set_cons_zero, Nat.reduceAdd] at hF
        simp only [d6] at hF
        subst hF
        go_wp2_with fail
        exact EachK.mk undef (Below.refl _ _) trivial (by simp only [List.setIfInBounds_toArray, List.set_cons_succ, List.set_cons_zero])
      · obtain rfl := Option.some.inj ho.symm
        obtain rfl := Option.some.inj hs.symm
        have d6 : x 6 = .bool true := hdep ⟨6, .guard⟩ (by simp) rfl
        clear hdep hi ho hs
        simp only [setAll, setFrom, List.setIfInBounds_toArray, List.set_cons_succ, List.set_cons_zero, Nat.reduceAdd] at hF
        simp only [d6] at hF
        subst hF
        go_wp2_with fail
        exact EachK.mk undef (Below.refl _ _) trivial (by simp only [List.setIfInBounds_toArray, List.set_cons_succ, List.set_cons_zero])
      · obtain rfl := Option.some.inj ho.symm
        obtain rfl := Option.some.inj hs.symm
        have d6 : x 6 = .bool true := hdep ⟨6, .guard⟩ (by simp) rfl
        clear hdep hi ho hs
        simp only [setAll, setFrom, List.setIfInBounds_toArray, List.set_cons_succ, List.set_cons_zero, Nat.reduceAdd] at hF
        simp only [d6] at hF
        subst hF
        go_wp2_with fail
        exact EachK.mk undef (Below.refl _ _) trivial (by simp only [List.setIfInBounds_toArray, List.set_cons_succ, List.set_cons_zero])
      · obtain rfl := Option.some.inj ho.symm
        obtain rfl := Option.some.inj hs.symm
        have d6 : x 6 = .bool true := hdep ⟨6, .data⟩ (by simp) rfl
        clear hdep hi ho hs
        simp only [setAll, setFrom, List.setIfInBounds_toArray, List.set_cons_succ, List.set_cons_zero, Nat.reduceAdd] at hF
        simp only [d6] at hF
        subst hF
        go_wp2_with fail
        exact EachK.mk _ (Below.refl _ _) rfl (by simp only [List.setIfInBounds_toArray, List.set_cons_succ, List.set_cons_zero])
    case tail =>
      intro x W F hB hall hF
      have e11 : x 11 = .bool true := hall 11 (by omega)
      clear hall
      simp only [setAll, setFrom, List.setIfInBounds_toArray, List.set_cons_succ, List.set_cons_zero, Nat.reduceAdd] at hF
      simp only [e11] at hF
      subst hF
      go_wp2_with fail
      go_ret
      exact ⟨ret_int HV1.out.symm, ext_trans hb0 hB⟩
  have h5 : t.inp.length ≤ 5 := by omega
  have hl2 : ¬ (t.inp.length : Int) < 1 := by omega
  have hl3 : ¬ 5 < (t.inp.length : Int) := by omega
  have HV1 : Hid (traceE t = if anyLt t.inp.length (fun i => !inB (t.inp.getD i 0) 0 7) then 2 else if wordE t.inp.length t.word ≠ 0 then wordE t.inp.length t.word else if 6 < t.word.length then 5 else if statesE t ≠ 0 then statesE t else if messagesE t ≠ 0 then messagesE t else decisionsE t) := by
    (have h : traceE t = if anyLt t.inp.length (fun i => !inB (t.inp.getD i 0) 0 7) then 2 else if wordE t.inp.length t.word ≠ 0 then wordE t.inp.length t.word else if 6 < t.word.length then 5 else if statesE t ≠ 0 then statesE t else if messagesE t ≠ 0 then messagesE t else decisionsE t := by (rw [HV.out, if_neg (by omega)])); exact h
  clear HV
  obtain ⟨ab, HAB⟩ : ∃ ab, Hid ((anyLt t.inp.length fun i => !inB (t.inp.getD i 0) 0 7) = ab) := ⟨_, Lib.hid rfl⟩
  rw [HAB.out] at HV1
  refine wp_region_all 12 [11, 12, 13, 14, 15, 16, 17, 18, 19, 20, 21, 22] [MP.eq (.int .i64 (t.inp.length : Int)),
    MP.eq (.bool false),
    MP.eq (.bool false),
    MP.eq (.int .i64 (t.inp.length : Int)),
    MP.eq (.bool false),
    MP.eq (.bool false),
    MP.eq (.bool false),
    MP.eq (.pointer (some ⟨w.heap.size, 0, none⟩)),
    MP.eq (.slice pi t.inp.length ci),
    MP.outF 0 7,
    MP.eq (.bool ab),
    MP.eq (.bool ab)] (by kernel_rfl) rfl (by decide) rfl (by kernel_rfl) ?step ?tail
  case step =>
    intro x W i o s F hi ho hs hB hdep hF
    have hcase : i = 0 ∨ i = 1 ∨ i = 2 ∨ i = 3 ∨ i = 4 ∨ i = 5 ∨ i = 6 ∨ i = 7 ∨ i = 8 ∨ i = 9 ∨ i = 10 ∨ i = 11 := by omega
    rcases hcase with rfl | rfl | rfl | rfl | rfl | rfl | rfl | rfl | rfl | rfl | rfl | rfl
    · obtain rfl := Option.some.inj ho.symm
      obtain rfl := Option.some.inj hs.symm
      clear hdep hi ho hs
      simp only [setAll, setFrom, List.setIfInBounds_toArray, List.set_cons_succ, List.set_cons_zero, Nat.reduceAdd] at hF
      subst hF
      go_wp2_with fail
      exact EachK.mk _ (Below.refl _ _) rfl (by simp only [List.setIfInBounds_toArray, List.set_cons_succ, List.set_cons_zero])
    · obtain rfl := Option.some.inj ho.symm
      obtain rfl := Option.some.inj hs.symm
      have d0 : x 0 = .int .i64 (t.inp.length : Int) := hdep ⟨0, .data⟩ (by simp) rfl
      clear hdep hi ho hs
      simp only [setAll, setFrom, List.setIfInBounds_toArray, List.set_cons_succ, List.set_cons_zero, Nat.reduceAdd] at hF
      simp only [d0] at hF
      subst hF
      go_wp2_with fail
      exact EachK.mk _ (Below.refl _ _) rfl (by simp only [List.setIfInBounds_toArray, List.set_cons_succ, List.set_cons_zero])
    · obtain rfl := Option.some.inj ho.symm
      obtain rfl := Option.some.inj hs.symm
      have d1 : x 1 = .bool false := hdep ⟨1, .data⟩ (by simp) rfl
      clear hdep hi ho hs
      simp only [setAll, setFrom, List.setIfInBounds_toArray, List.set_cons_succ, List.set_cons_zero, Nat.reduceAdd] at hF
      simp only [d1] at hF
      subst hF
      go_wp2_with fail
      exact EachK.mk _ (Below.refl _ _) rfl (by simp only [List.setIfInBounds_toArray, List.set_cons_succ, List.set_cons_zero])
    · obtain rfl := Option.some.inj ho.symm
      obtain rfl := Option.some.inj hs.symm
      have d2 : x 2 = .bool false := hdep ⟨2, .guard⟩ (by simp) rfl
      clear hdep hi ho hs
      simp only [setAll, setFrom, List.setIfInBounds_toArray, List.set_cons_succ, List.set_cons_zero, Nat.reduceAdd] at hF
      simp only [d2] at hF
      subst hF
      go_wp2_with fail
      exact EachK.mk _ (Below.refl _ _) rfl (by simp only [List.setIfInBounds_toArray, List.set_cons_succ, List.set_cons_zero])
    · obtain rfl := Option.some.inj ho.symm
      obtain rfl := Option.some.inj hs.symm
      have d3 : x 3 = .int .i64 (t.inp.length : Int) := hdep ⟨3, .data⟩ (by simp) rfl
      have d2 : x 2 = .bool false := hdep ⟨2, .guard⟩ (by simp) rfl
      clear hdep hi ho hs
      simp only [setAll, setFrom, List.setIfInBounds_toArray, List.set_cons_succ, List.set_cons_zero, Nat.reduceAdd] at hF
      simp only [d3, d2] at hF
      subst hF
      go_wp2_with fail
      exact EachK.mk _ (Below.refl _ _) rfl (by simp only [List.setIfInBounds_toArray, List.set_cons_succ, List.set_cons_zero])
    · obtain rfl := Option.some.inj ho.symm
      obtain rfl := Option.some.inj hs.symm
      have d2 : x 2 = .bool false := hdep ⟨2, .data⟩ (by simp) rfl
      have d4 : x 4 = .bool false := hdep ⟨4, .data⟩ (by simp) rfl
      clear hdep hi ho hs
      simp only [setAll, setFrom, List.setIfInBounds_toArray, List.set_cons_succ, List.set_cons_zero, Nat.reduceAdd] at hF
      simp only [d2, d4] at hF
      subst hF
      go_wp2_with fail
      exact EachK.mk _ (Below.refl _ _) rfl (by simp only [List.setIfInBounds_toArray, List.set_cons_succ, List.set_cons_zero])
    · obtain rfl := Option.some.inj ho.symm
      obtain rfl := Option.some.inj hs.symm
      have d5 : x 5 = .bool false := hdep ⟨5, .data⟩ (by simp) rfl
      clear hdep hi ho hs
      simp only [setAll, setFrom, List.setIfInBounds_toArray, List.set_cons_succ, List.set_cons_zero, Nat.reduceAdd] at hF
      simp only [d5] at hF
      subst hF
      go_wp2_with fail
      exact EachK.mk _ (Below.refl _ _) rfl (by simp only [List.setIfInBounds_toArray, List.set_cons_succ, List.set_cons_zero])
    · obtain rfl := Option.some.inj ho.symm
      obtain rfl := Option.some.inj hs.symm
      have d6 : x 6 = .bool false := hdep ⟨6, .guard⟩ (by simp) rfl
      clear hdep hi ho hs
      simp only [setAll, setFrom, List.setIfInBounds_toArray, List.set_cons_succ, List.set_cons_zero, Nat.reduceAdd] at hF
      simp only [d6] at hF
      subst hF
      go_wp2_with fail
      exact EachK.mk _ (Below.refl _ _) rfl (by simp only [List.setIfInBounds_toArray, List.set_cons_succ, List.set_cons_zero])
    · obtain rfl := Option.some.inj ho.symm
      obtain rfl := Option.some.inj hs.symm
      have d7 : x 7 = .pointer (some ⟨w.heap.size, 0, none⟩) := hdep ⟨7, .data⟩ (by simp) rfl
      have d6 : x 6 = .bool false := hdep ⟨6, .guard⟩ (by simp) rfl
      clear hdep hi ho hs
      have t1 := cell_block (block_up hB HT0.out)
      simp only [setAll, setFrom, List.setIfInBounds_toArray, List.set_cons_succ, List.set_cons_zero, Nat.reduceAdd] at hF
      simp only [d7, d6] at hF
      subst hF
      go_wp2_with fail
      exact EachK.mk _ (Below.refl _ _) rfl (by simp only [List.setIfInBounds_toArray, List.set_cons_succ, List.set_cons_zero])
    · obtain rfl := Option.some.inj ho.symm
      obtain rfl := Option.some.inj hs.symm
      have d6 : x 6 = .bool false := hdep ⟨6, .guard⟩ (by simp) rfl
      clear hdep hi ho hs
      simp only [setAll, setFrom, List.setIfInBounds_toArray, List.set_cons_succ, List.set_cons_zero, Nat.reduceAdd] at hF
      simp only [d6] at hF
      subst hF
      go_wp2_with fail
      refine (outside_any _ _ _).mono ?_
      rintro e w9 ⟨v, rfl, hv9, hb9⟩
      have HV9 := Lib.hid hv9
      obtain ⟨_, _, rfl, _⟩ := hv9
      go_wp2_with fail
      exact EachK.mk _ hb9 HV9.out (by simp only [List.setIfInBounds_toArray, List.set_cons_succ, List.set_cons_zero])
    · obtain rfl := Option.some.inj ho.symm
      obtain rfl := Option.some.inj hs.symm
      have d8 : x 8 = .slice pi t.inp.length ci := hdep ⟨8, .data⟩ (by simp) rfl
      have d9 := hdep ⟨9, .data⟩ (by simp) rfl
      have d6 : x 6 = .bool false := hdep ⟨6, .guard⟩ (by simp) rfl
      clear hdep hi ho hs
      have HO9 := Lib.hid (containsOut_any 0 7 _ _ t.inp W d9 (HT.out.inp.up up_int (ext_trans hb0 hB)))
      obtain ⟨b9, c9, e9, f9, g9⟩ := d9
      rw [e9, HAB.out] at HO9
      simp only [setAll, setFrom, List.setIfInBounds_toArray, List.set_cons_succ, List.set_cons_zero, Nat.reduceAdd] at hF
      simp only [d8, d6, e9] at hF
      subst hF
      go_wp2_with fail
      refine HO9.out.mono ?_
      rintro e w9 ⟨rfl, hb9⟩
      go_wp2_with fail
      exact EachK.mk _ hb9 rfl (by simp only [List.setIfInBounds_toArray, List.set_cons_succ, List.set_cons_zero])
    · obtain rfl := Option.some.inj ho.symm
      obtain rfl := Option.some.inj hs.symm
      have d6 : x 6 = .bool false := hdep ⟨6, .data⟩ (by simp) rfl
      have d10 : x 10 = .bool ab := hdep ⟨10, .data⟩ (by simp) rfl
      clear hdep hi ho hs
      simp only [setAll, setFrom, List.setIfInBounds_toArray, List.set_cons_succ, List.set_cons_zero, Nat.reduceAdd] at hF
      simp only [d6, d10] at hF
      subst hF
      go_wp2_with fail
      exact EachK.mk _ (Below.refl _ _) rfl (by simp only [List.setIfInBounds_toArray, List.set_cons_succ, List.set_cons_zero])
  case tail =>
    intro x W F hB hall hF
    have e11 : x 11 = .bool ab := hall 11 (by omega)
    clear hall
    simp only [setAll, setFrom, List.setIfInBounds_toArray, List.set_cons_succ, List.set_cons_zero, Nat.reduceAdd] at hF
    simp only [e11] at hF
    subst hF
    have hbW := ext_trans hb0 hB
    cases ab with
    | true =>
      go_wp2_with fail
      go_ret
      exact ⟨ret_int (by rw [HV1.out]; rfl), hbW⟩
    | false =>
      have HV2 : Hid (traceE t = if wordE t.inp.length t.word ≠ 0 then wordE t.inp.length t.word else if 6 < t.word.length then 5 else if statesE t ≠ 0 then statesE t else if messagesE t ≠ 0 then messagesE t else decisionsE t) := HV1
      clear HV1
      have t1 := cell_block (block_up hB HT0.out)
      go_wp2_with fail
      refine (word_any _ _ t.word W (HT.out.word.up up_round hbW)).mono ?_
      rintro e w1 ⟨rfl, hb1⟩
      have hbW1 := ext_trans hbW hb1
      have HT1 := Lib.hid (block_up (ext_trans hB hb1) HT0.out)
      clear t1
      generalize wordE t.inp.length t.word = we at HV2
      by_cases hwe : we = 0
      case neg =>
        have hwe' : (we != 0) = true := by simpa using hwe
        go_wp2_with fail
        go_ret
        exact ⟨ret_int (by rw [HV2.out, if_pos hwe]), hbW1⟩
      subst hwe
      have t1 := cell_block HT1.out
      by_cases h6 : 6 < t.word.length
      · go_wp2_with fail
        go_ret
        exact ⟨ret_int (by rw [HV2.out, if_neg (by simp), if_pos h6]), hbW1⟩
      have HV3 : Hid (traceE t = if statesE t ≠ 0 then statesE t else if messagesE t ≠ 0 then messagesE t else decisionsE t) := by (have h : traceE t = if statesE t ≠ 0 then statesE t else if messagesE t ≠ 0 then messagesE t else decisionsE t := by (rw [HV2.out, if_neg (by simp), if_neg h6])); exact h
      clear HV2
      have H1 := Lib.hid (fun W (hb : Below w.heap.size w W) => checkStates_any t _ _ _ _ _ _ W (HT.out.up hb))
      have H2 := Lib.hid (fun W (hb : Below w.heap.size w W) => checkMessages_any t _ _ _ _ _ _ W (HT.out.up hb) h5 (by omega))
      have H3 := Lib.hid (fun W (hb : Below w.heap.size w W) => checkDecisions_any t _ _ _ _ _ _ W (HT.out.up hb))
      generalize statesE t = ea at HV3 H1
      generalize messagesE t = eb at HV3 H2
      generalize decisionsE t = ec at HV3 H3
      have g1 := enters_of Tryz.func43 (P := Tryz.prog) (by kernel_rfl) rfl
      have g2 := enters_of Tryz.func44 (P := Tryz.prog) (by kernel_rfl) rfl
      have g3 := enters_of Tryz.func45 (P := Tryz.prog) (by kernel_rfl) rfl
      go_wp2_with fail
      clear t1
      refine wp_gen (fun V => Below w1.heap.size w1 V ∧ V.heap[w1.heap.size]? = some (.cells #[.func (.func 43) #[] #[], .func (.func 44) #[] #[], .func (.func 45) #[] #[]] 70)) ⟨by go_grown, alloc_new _ _⟩ (fun V hV => ?_)
      obtain ⟨hbV, hF0⟩ := hV
      have HF0 := Lib.hid hF0; clear hF0
      go_loopw [36] (fun i wr => Below V.heap.size V wr ∧ ∃ k : Nat, k ≤ 3 ∧ i = .int .i64 k ∧ passT ea eb ec k) (fun i _ => 3 - (intOf i).toNat)
      case atStart => exact ⟨Below.refl _ _, 0, by omega, rfl, by unfold passT; omega⟩
      case round =>
        obtain ⟨hbr, k, hk, rfl, hinv⟩ := hrel
        have HI := Lib.hid hinv; clear hinv
        have t1 := cell_block (block_up (ext_trans hbV hbr) HT1.out)
        have t2 := cell_block (block_up hbr HF0.out)
        have hbw := ext_trans hbW1 (ext_trans hbV hbr)
        have hk' : k = 0 ∨ k = 1 ∨ k = 2 ∨ k = 3 := by omega
        rcases hk' with rfl | rfl | rfl | rfl
        · go_wp2_with fail
          refine (H1.out wr hbw).mono ?_
          rintro e w3 ⟨rfl, hb3⟩
          clear t1 t2
          by_cases hz : ea = 0
          · have HZ := Lib.hid hz
            have hz' : (ea != 0) = false := by simpa using hz
            clear hz
            go_wp2_with fail
            go_roundw
            case rel => exact ⟨ext_trans hbr hb3, 1, by omega, by go_num, by have hi := HI.out; have hz := HZ.out; unfold passT at hi ⊢; omega⟩
            case measure => simp [intOf]
          · have HZ := Lib.hid hz
            have hz' : (ea != 0) = true := by simpa using hz
            clear hz
            go_wp2_with fail
            go_ret
            refine ⟨ret_int ?_, ext_trans hbw hb3⟩
            have hi := HI.out
            have hz := HZ.out
            rw [HV3.out]
            unfold passT at hi
            go_light
            grind
        · go_wp2_with fail
          refine (H2.out wr hbw).mono ?_
          rintro e w3 ⟨rfl, hb3⟩
          clear t1 t2
          by_cases hz : eb = 0
          · have HZ := Lib.hid hz
            have hz' : (eb != 0) = false := by simpa using hz
            clear hz
            go_wp2_with fail
            go_roundw
            case rel => exact ⟨ext_trans hbr hb3, 2, by omega, by go_num, by have hi := HI.out; have hz := HZ.out; unfold passT at hi ⊢; omega⟩
            case measure => simp [intOf]
          · have HZ := Lib.hid hz
            have hz' : (eb != 0) = true := by simpa using hz
            clear hz
            go_wp2_with fail
            go_ret
            refine ⟨ret_int ?_, ext_trans hbw hb3⟩
            have hi := HI.out
            have hz := HZ.out
            rw [HV3.out]
            unfold passT at hi
            go_light
            grind
        · go_wp2_with fail
          refine (H3.out wr hbw).mono ?_
          rintro e w3 ⟨rfl, hb3⟩
          clear t1 t2
          by_cases hz : ec = 0
          · have HZ := Lib.hid hz
            have hz' : (ec != 0) = false := by simpa using hz
            clear hz
            go_wp2_with fail
            go_roundw
            case rel => exact ⟨ext_trans hbr hb3, 3, by omega, by go_num, by have hi := HI.out; have hz := HZ.out; unfold passT at hi ⊢; omega⟩
            case measure => simp [intOf]
          · have HZ := Lib.hid hz
            have hz' : (ec != 0) = true := by simpa using hz
            clear hz
            go_wp2_with fail
            go_ret
            refine ⟨ret_int ?_, ext_trans hbw hb3⟩
            have hi := HI.out
            have hz := HZ.out
            rw [HV3.out]
            unfold passT at hi
            go_light
            grind
        · go_wp2_with fail
          go_ret
          refine ⟨ret_int ?_, hbw⟩
          have hi := HI.out
          rw [HV3.out]
          unfold passT at hi
          go_light
          grind
end Go.Proofs.YtjmejfgkogjpaaaGreat

namespace Go.Proofs.YtjmejfgkogjpaaaGreat
open Go.RowKit Go Go.Shelf

theorem neq_rd (a b : Rd) (w : World) : (binOp .neq 64 a.v b.v).run Tryz.prog w = .ok (.bool (!decide (a = b))) w := by
  rw [run_neq_struct, eqIn_rd 9996]; rfl
abbrev Msg.v (m : Msg) : Value := .agg m.c
theorem bytes_toList (a b : ByteArray) : (a.toList == b.toList) = decide (a = b) := by
  rw [ByteArray.toList_eq, ByteArray.toList_eq]
  obtain ⟨⟨x⟩⟩ := a
  obtain ⟨⟨y⟩⟩ := b
  by_cases h : x = y <;> simp [h]
theorem eqIn_msg (d : Nat) (a b : Msg) (w : World) : (Op.equalIn (d + 2) 58 a.v b.v).run Tryz.prog w = .ok (decide (a = b)) w := by
  have hS : Tryz.prog.underlying 58 = some (.struct (Tryz.prog.fieldsOf 58)) := by kernel_rfl
  have hp : Tryz.prog.stoodInHeld 58 = false := by kernel_rfl
  rw [run_equalIn_struct w (d + 1) 58 _ _ hS hp]
  have ag := Tryz.isAgg3
  have ah := Tryz.isAgg9
  have u3 := Tryz.underlying3
  have u9 := Tryz.underlying9
  simp only [Program.fieldsOf, Tryz.underlying58]
  simp [Op.eqFields, part, ag, ah, run_equalIn_int w d 3 _ .i64 _ _ u3, run_equalIn_string w d 9 _ _ u9]
  obtain ⟨n, k, h0, h1⟩ := a
  obtain ⟨m, l, g0, g1⟩ := b
  by_cases hn : n = m
  case neg => simp [hn]
  by_cases hk : k = l
  case neg => simp [hn, hk]
  by_cases hh : h0 = g0
  case neg => simp [hn, hk, hh]
  have hb := bytes_toList h1 g1
  by_cases hs : h1 = g1
  · simp [hn, hk, hh, hs]
  · have hb2 : ¬ h1.toList = g1.toList := by simpa [hs] using hb
    simp [hn, hk, hh, hs, hb2]
theorem neq_msg (a b : Msg) (w : World) : (binOp .neq 58 a.v b.v).run Tryz.prog w = .ok (.bool (!decide (a = b))) w := by
  rw [run_neq_struct, eqIn_msg 9998]; rfl
theorem list_ext_getD {α : Type} [DecidableEq α] {a b : List α} (d : α) (hl : a.length = b.length) (h : ∀ j, j < a.length → a.getD j d = b.getD j d) : a = b :=
  List.ext_getElem hl fun i h1 h2 => by
    have := h i h1
    rwa [getD_of_lt d h1, getD_of_lt d h2] at this

set_option maxRecDepth 100000 in
set_option maxHeartbeats 2000000 in
theorem equalRounds_any (va vb : Value) (a b : List Rd) (w : World) (ha : IsWord w va a) (hb : IsWord w vb b) :
    Calls Tryz.prog 58 #[va, vb] w fun e w' => e = .returned (.bool (decide (a = b))) ∧ Below w.heap.size w w' := by
  obtain ⟨pa, ca, rfl, la1, la2, ea⟩ := ha.at
  obtain ⟨pb, cb, rfl, lb1, lb2, eb⟩ := hb.at
  clear ha hb
  have EA := Lib.hid ea; clear ea
  have EB := Lib.hid eb; clear eb
  generalize hres : decide (a = b) = res
  have HRES := Lib.hid hres
  clear hres
  by_cases hl : a.length = b.length
  case neg =>
    have hl1 : ((a.length : Int) != (b.length : Int)) = true := by simp; omega
    have HR : Hid (res = false) := by (have h : res = false := by (rw [← HRES.out]; simp; intro h; exact hl (by rw [h]))); exact h
    clear hl
    go_enter Tryz.func58, Tryz.ntmps58
    go_wp2
    go_ret
    exact ⟨ret_bool HR.out.symm, Below.refl _ _⟩
  have hl1 : ((a.length : Int) != (b.length : Int)) = false := by simp [hl]
  have HL := Lib.hid hl; clear hl
  go_enter Tryz.func58, Tryz.ntmps58
  go_wp2
  clear hl1
  go_loopw [13] (fun i wr => Below w.heap.size w wr ∧ ∃ k : Nat, k ≤ a.length ∧ i = .int .i64 k ∧ ∀ j, j < k → a.getD j default = b.getD j default) (fun i _ => a.length - (intOf i).toNat)
  case atStart => exact ⟨Below.refl _ _, 0, by omega, rfl, by simp⟩
  case round =>
    obtain ⟨hbr, k, hk, rfl, hinv⟩ := hrel
    have H := Lib.hid hinv; clear hinv
    by_cases hlt : k < a.length
    · have hlt2 : k < b.length := by have := HL.out; omega
      obtain ⟨b1, o1, rfl, ⟨c0, r0⟩, ⟨c1, r1⟩, ⟨c2, r2⟩, ⟨c3, r3⟩, ⟨c4, r4⟩, ⟨c5, r5⟩, ⟨c6, r6⟩⟩ := EA.out k hlt
      obtain ⟨b2, o2, rfl, ⟨e0, s0⟩, ⟨e1, s1⟩, ⟨e2, s2⟩, ⟨e3, s3⟩, ⟨e4, s4⟩, ⟨e5, s5⟩, ⟨e6, s6⟩⟩ := EB.out k hlt2
      have c0' : ∀ y : ExtW wr, y.val.cell? ⟨b1, o1 + k * 7, none⟩ = _ := fun y => y.cell (cell_up hbr c0)
      have c1' : ∀ y : ExtW wr, y.val.cell? ⟨b1, o1 + k * 7 + 1, none⟩ = _ := fun y => y.cell (cell_up hbr c1)
      have c2' : ∀ y : ExtW wr, y.val.cell? ⟨b1, o1 + k * 7 + 2, none⟩ = _ := fun y => y.cell (cell_up hbr c2)
      have c3' : ∀ y : ExtW wr, y.val.cell? ⟨b1, o1 + k * 7 + 3, none⟩ = _ := fun y => y.cell (cell_up hbr c3)
      have c4' : ∀ y : ExtW wr, y.val.cell? ⟨b1, o1 + k * 7 + 4, none⟩ = _ := fun y => y.cell (cell_up hbr c4)
      have c5' : ∀ y : ExtW wr, y.val.cell? ⟨b1, o1 + k * 7 + 5, none⟩ = _ := fun y => y.cell (cell_up hbr c5)
      have c6' : ∀ y : ExtW wr, y.val.cell? ⟨b1, o1 + k * 7 + 6, none⟩ = _ := fun y => y.cell (cell_up hbr c6)
      have e0' : ∀ y : ExtW wr, y.val.cell? ⟨b2, o2 + k * 7, none⟩ = _ := fun y => y.cell (cell_up hbr e0)
      have e1' : ∀ y : ExtW wr, y.val.cell? ⟨b2, o2 + k * 7 + 1, none⟩ = _ := fun y => y.cell (cell_up hbr e1)
      have e2' : ∀ y : ExtW wr, y.val.cell? ⟨b2, o2 + k * 7 + 2, none⟩ = _ := fun y => y.cell (cell_up hbr e2)
      have e3' : ∀ y : ExtW wr, y.val.cell? ⟨b2, o2 + k * 7 + 3, none⟩ = _ := fun y => y.cell (cell_up hbr e3)
      have e4' : ∀ y : ExtW wr, y.val.cell? ⟨b2, o2 + k * 7 + 4, none⟩ = _ := fun y => y.cell (cell_up hbr e4)
      have e5' : ∀ y : ExtW wr, y.val.cell? ⟨b2, o2 + k * 7 + 5, none⟩ = _ := fun y => y.cell (cell_up hbr e5)
      have e6' : ∀ y : ExtW wr, y.val.cell? ⟨b2, o2 + k * 7 + 6, none⟩ = _ := fun y => y.cell (cell_up hbr e6)
      have HX := Lib.hid (getD_of_lt default hlt)
      have HY := Lib.hid (getD_of_lt default hlt2)
      clear c0 r0 e0 s0 c1 r1 e1 s1 c2 r2 e2 s2 c3 r3 e3 s3 c4 r4 e4 s4 c5 r5 e5 s5 c6 r6 e6 s6
      generalize a[k] = x at c0' c1' c2' c3' c4' c5' c6' HX
      generalize b[k] = y at e0' e1' e2' e3' e4' e5' e6' HY
      have hne := fun w => neq_rd x y w
      go_wp2
      by_cases hxy : x = y
      · have hd : decide (x = y) = true := by simpa using hxy
        have HXY : Hid (a.getD k default = b.getD k default) := by (have h : a.getD k default = b.getD k default := by (rw [HX.out, HY.out, hxy])); exact h
        rw [hd] at hne
        clear hxy hd
        refine wp_region_quiet_ext (by kernel_rfl) (by kernel_rfl) ?_
        repeat (go_big_quiet_step (fail))
        refine wpQuiet_nil ?_
        intro _ hw'
        obtain ⟨xq, hw''⟩ := hw'
        subst hw''
        clear c0' c1' c2' c3' c4' c5' c6' e0' e1' e2' e3' e4' e5' e6' hne
        go_wp2
        go_roundw
        case rel => exact ⟨ext_trans hbr xq.ext, k + 1, by omega, by go_num, below_succ H.out HXY.out⟩
        case measure => simp [intOf]; omega
      · have hd : decide (x = y) = false := by simpa using hxy
        have HR : Hid (res = false) := by (have h : res = false := by (rw [← HRES.out]; simp; intro h; subst h; rw [HX.out] at HY; exact hxy HY.out)); exact h
        rw [hd] at hne
        clear hxy hd
        refine wp_region_quiet_ext (by kernel_rfl) (by kernel_rfl) ?_
        repeat (go_big_quiet_step (fail))
        refine wpQuiet_nil ?_
        intro _ hw'
        obtain ⟨xq, hw''⟩ := hw'
        subst hw''
        clear c0' c1' c2' c3' c4' c5' c6' e0' e1' e2' e3' e4' e5' e6' hne
        go_wp2
        go_ret
        exact ⟨ret_bool HR.out.symm, ext_trans hbr xq.ext⟩
    · have HR : Hid (res = true) := by (have h : res = true := by (rw [← HRES.out]; simp; exact list_ext_getD default HL.out fun j hj => H.out j (by omega))); exact h
      go_wp2
      go_ret
      exact ⟨ret_bool HR.out.symm, hbr⟩

set_option maxRecDepth 100000 in
set_option maxHeartbeats 2000000 in
theorem equalMsgs_any (va vb : Value) (a b : List Msg) (w : World) (ha : IsMsgs w va a) (hb : IsMsgs w vb b) :
    Calls Tryz.prog 61 #[va, vb] w fun e w' => e = .returned (.bool (decide (a = b))) ∧ Below w.heap.size w w' := by
  obtain ⟨pa, ca, rfl, la1, la2, ea⟩ := ha.at
  obtain ⟨pb, cb, rfl, lb1, lb2, eb⟩ := hb.at
  clear ha hb
  have EA := Lib.hid ea; clear ea
  have EB := Lib.hid eb; clear eb
  generalize hres : decide (a = b) = res
  have HRES := Lib.hid hres
  clear hres
  by_cases hl : a.length = b.length
  case neg =>
    have hl1 : ((a.length : Int) != (b.length : Int)) = true := by simp; omega
    have HR : Hid (res = false) := by (have h : res = false := by (rw [← HRES.out]; simp; intro h; exact hl (by rw [h]))); exact h
    clear hl
    go_enter Tryz.func61, Tryz.ntmps61
    go_wp2
    go_ret
    exact ⟨ret_bool HR.out.symm, Below.refl _ _⟩
  have hl1 : ((a.length : Int) != (b.length : Int)) = false := by simp [hl]
  have HL := Lib.hid hl; clear hl
  go_enter Tryz.func61, Tryz.ntmps61
  go_wp2
  clear hl1
  go_loopw [13] (fun i wr => Below w.heap.size w wr ∧ ∃ k : Nat, k ≤ a.length ∧ i = .int .i64 k ∧ ∀ j, j < k → a.getD j default = b.getD j default) (fun i _ => a.length - (intOf i).toNat)
  case atStart => exact ⟨Below.refl _ _, 0, by omega, rfl, by simp⟩
  case round =>
    obtain ⟨hbr, k, hk, rfl, hinv⟩ := hrel
    have H := Lib.hid hinv; clear hinv
    by_cases hlt : k < a.length
    · have hlt2 : k < b.length := by have := HL.out; omega
      obtain ⟨b1, o1, rfl, ⟨c0, r0⟩, ⟨c1, r1⟩, ⟨c2, r2⟩, c3, r3⟩ := EA.out k hlt
      obtain ⟨b2, o2, rfl, ⟨e0, s0⟩, ⟨e1, s1⟩, ⟨e2, s2⟩, e3, s3⟩ := EB.out k hlt2
      have c0' : ∀ y : ExtW wr, y.val.cell? ⟨b1, o1 + k * 4, none⟩ = _ := fun y => y.cell (cell_up hbr c0)
      have c1' : ∀ y : ExtW wr, y.val.cell? ⟨b1, o1 + k * 4 + 1, none⟩ = _ := fun y => y.cell (cell_up hbr c1)
      have c2' : ∀ y : ExtW wr, y.val.cell? ⟨b1, o1 + k * 4 + 2, none⟩ = _ := fun y => y.cell (cell_up hbr c2)
      have c3' : ∀ y : ExtW wr, y.val.cell? ⟨b1, o1 + k * 4 + 3, none⟩ = _ := fun y => y.cell (cell_up hbr c3)
      have e0' : ∀ y : ExtW wr, y.val.cell? ⟨b2, o2 + k * 4, none⟩ = _ := fun y => y.cell (cell_up hbr e0)
      have e1' : ∀ y : ExtW wr, y.val.cell? ⟨b2, o2 + k * 4 + 1, none⟩ = _ := fun y => y.cell (cell_up hbr e1)
      have e2' : ∀ y : ExtW wr, y.val.cell? ⟨b2, o2 + k * 4 + 2, none⟩ = _ := fun y => y.cell (cell_up hbr e2)
      have e3' : ∀ y : ExtW wr, y.val.cell? ⟨b2, o2 + k * 4 + 3, none⟩ = _ := fun y => y.cell (cell_up hbr e3)
      have HX := Lib.hid (getD_of_lt default hlt)
      have HY := Lib.hid (getD_of_lt default hlt2)
      clear c0 r0 e0 s0 c1 r1 e1 s1 c2 r2 e2 s2 c3 r3 e3 s3
      generalize a[k] = x at c0' c1' c2' c3' HX
      generalize b[k] = y at e0' e1' e2' e3' HY
      have hne := fun w => neq_msg x y w
      go_wp2
      by_cases hxy : x = y
      · have hd : decide (x = y) = true := by simpa using hxy
        have HXY : Hid (a.getD k default = b.getD k default) := by (have h : a.getD k default = b.getD k default := by (rw [HX.out, HY.out, hxy])); exact h
        rw [hd] at hne
        clear hxy hd
        refine wp_region_quiet_ext (by kernel_rfl) (by kernel_rfl) ?_
        repeat (go_big_quiet_step (fail))
        refine wpQuiet_nil ?_
        intro _ hw'
        obtain ⟨xq, hw''⟩ := hw'
        subst hw''
        clear c0' c1' c2' c3' e0' e1' e2' e3' hne
        go_wp2
        go_roundw
        case rel => exact ⟨ext_trans hbr xq.ext, k + 1, by omega, by go_num, below_succ H.out HXY.out⟩
        case measure => simp [intOf]; omega
      · have hd : decide (x = y) = false := by simpa using hxy
        have HR : Hid (res = false) := by (have h : res = false := by (rw [← HRES.out]; simp; intro h; subst h; rw [HX.out] at HY; exact hxy HY.out)); exact h
        rw [hd] at hne
        clear hxy hd
        refine wp_region_quiet_ext (by kernel_rfl) (by kernel_rfl) ?_
        repeat (go_big_quiet_step (fail))
        refine wpQuiet_nil ?_
        intro _ hw'
        obtain ⟨xq, hw''⟩ := hw'
        subst hw''
        clear c0' c1' c2' c3' e0' e1' e2' e3' hne
        go_wp2
        go_ret
        exact ⟨ret_bool HR.out.symm, ext_trans hbr xq.ext⟩
    · have HR : Hid (res = true) := by (have h : res = true := by (rw [← HRES.out]; simp; exact list_ext_getD default HL.out fun j hj => H.out j (by omega))); exact h
      go_wp2
      go_ret
      exact ⟨ret_bool HR.out.symm, hbr⟩

set_option maxHeartbeats 400000 in
theorem same1_any (vx vy : Value) (x y : List Int) (w : World) (hx : IsInts w vx x) (hy : IsInts w vy y) :
    Calls Tryz.prog 60 #[vx, vy] w fun e w' => e = .returned (.bool (eqV x y)) ∧ Below w.heap.size w w' := by
  have HC := Lib.hid (slicesEqual_any vx vy x y w hx hy)
  obtain ⟨_, _, rfl, _⟩ := hx.at
  obtain ⟨_, _, rfl, _⟩ := hy.at
  clear hx hy
  go_enter Tryz.func60, Tryz.ntmps60
  go_wp2_with fail
  refine HC.out.mono ?_
  rintro e w1 ⟨rfl, hb1⟩
  go_wp2_with fail
  go_ret
  exact ⟨rfl, hb1⟩

set_option maxRecDepth 100000 in
set_option maxHeartbeats 2000000 in
theorem equalVecs_any (va vb : Value) (a b : List (List Int)) (w : World) (ha : IsVecs w va a) (hb : IsVecs w vb b) :
    Calls Tryz.prog 59 #[va, vb, .func (.func 60) #[] #[]] w fun e w' => e = .returned (.bool (decide (a = b))) ∧ Below w.heap.size w w' := by
  obtain ⟨pa, ca, rfl, la1, la2, ea⟩ := ha.at
  obtain ⟨pb, cb, rfl, lb1, lb2, eb⟩ := hb.at
  clear ha hb
  have EA := Lib.hid ea; clear ea
  have EB := Lib.hid eb; clear eb
  generalize hres : decide (a = b) = res
  have HRES := Lib.hid hres
  clear hres
  have g1 := enters_of Tryz.func60 (P := Tryz.prog) (by kernel_rfl) rfl
  by_cases hl : a.length = b.length
  case neg =>
    have hl1 : ((a.length : Int) != (b.length : Int)) = true := by simp; omega
    have HR : Hid (res = false) := by (have h : res = false := by (rw [← HRES.out]; simp; intro h; exact hl (by rw [h]))); exact h
    clear hl
    go_enter Tryz.func59, Tryz.ntmps59
    go_wp2
    go_ret
    exact ⟨ret_bool HR.out.symm, Below.refl _ _⟩
  have hl1 : ((a.length : Int) != (b.length : Int)) = false := by simp [hl]
  have HL := Lib.hid hl; clear hl
  go_enter Tryz.func59, Tryz.ntmps59
  go_wp2
  clear hl1
  go_loopw [17] (fun i wr => Below w.heap.size w wr ∧ ∃ k : Nat, k ≤ a.length ∧ i = .int .i64 k ∧ ∀ j, j < k → a.getD j [] = b.getD j []) (fun i _ => a.length - (intOf i).toNat)
  case atStart => exact ⟨Below.refl _ _, 0, by omega, rfl, by simp⟩
  case round =>
    obtain ⟨hbr, k, hk, rfl, hinv⟩ := hrel
    have H := Lib.hid hinv; clear hinv
    by_cases hlt : k < a.length
    · have hlt2 : k < b.length := by have := HL.out; omega
      obtain ⟨b1, o1, rfl, x, c1, hx⟩ := EA.out k hlt
      obtain ⟨b2, o2, rfl, y, c2, hy⟩ := EB.out k hlt2
      rw [Nat.mul_one] at c1 c2
      have d1 := cell_up hbr c1
      have d2 := cell_up hbr c2
      have HC := Lib.hid (same1_any x y a[k] b[k] wr (hx.up up_int hbr) (hy.up up_int hbr))
      have HX := Lib.hid (getD_of_lt [] hlt)
      have HY := Lib.hid (getD_of_lt [] hlt2)
      obtain ⟨px, qx, rfl, _⟩ := hx.at
      obtain ⟨py, qy, rfl, _⟩ := hy.at
      clear hx hy c1 c2
      have HE : Hid (eqV a[k] b[k] = decide (a[k] = b[k])) := by exact rfl
      generalize eqV a[k] b[k] = eb at HC HE
      go_wp2_with fail
      refine HC.out.mono ?_
      rintro e w1 ⟨rfl, hb1⟩
      clear d1 d2
      cases eb with
      | true =>
        have HXY : Hid (a.getD k [] = b.getD k []) := by (have h : a.getD k [] = b.getD k [] := by (have h := HE.out; simp at h; rw [HX.out, HY.out, h])); exact h
        go_wp2_with fail
        go_roundw
        case rel => exact ⟨ext_trans hbr hb1, k + 1, by omega, by go_num, below_succ H.out HXY.out⟩
        case measure => simp [intOf]; omega
      | false =>
        have HR : Hid (res = false) := by (have h : res = false := by (rw [← HRES.out]; simp; intro h; subst h; have h := HE.out; simp at h)); exact h
        go_wp2_with fail
        go_ret
        exact ⟨ret_bool HR.out.symm, ext_trans hbr hb1⟩
    · have HR : Hid (res = true) := by (have h : res = true := by (rw [← HRES.out]; simp; exact list_ext_getD [] HL.out fun j hj => H.out j (by omega))); exact h
      go_wp2
      go_ret
      exact ⟨ret_bool HR.out.symm, hbr⟩

set_option maxRecDepth 100000 in
set_option maxHeartbeats 4000000 in
theorem same_any (a b : Tr) (vi vw vs vm vd vt ui uw us um ud ut : Value) (w : World) (ha : IsTr w a vi vw vs vm vd vt) (hb : IsTr w b ui uw us um ud ut) :
    Calls Tryz.prog 27 #[.agg (trC vi vw vs vm vd vt), .agg (trC ui uw us um ud ut)] w fun e w' => e = .returned (.bool (sameT a b)) ∧ Below w.heap.size w w' := by
  have HA := Lib.hid ha
  have HB := Lib.hid hb
  obtain ⟨h1, h2, h3, h4, h5, h6⟩ := ha
  obtain ⟨k1, k2, k3, k4, k5, k6⟩ := hb
  obtain ⟨_, _, rfl, _⟩ := h1.at
  obtain ⟨_, _, rfl, _⟩ := h2.at
  obtain ⟨_, _, rfl, _⟩ := h3.at
  obtain ⟨_, _, rfl, _⟩ := h4.at
  obtain ⟨_, _, rfl, _⟩ := h5.at
  obtain ⟨_, _, rfl, _⟩ := h6.at
  obtain ⟨_, _, rfl, _⟩ := k1.at
  obtain ⟨_, _, rfl, _⟩ := k2.at
  obtain ⟨_, _, rfl, _⟩ := k3.at
  obtain ⟨_, _, rfl, _⟩ := k4.at
  obtain ⟨_, _, rfl, _⟩ := k5.at
  obtain ⟨_, _, rfl, _⟩ := k6.at
  clear h1 h2 h3 h4 h5 h6 k1 k2 k3 k4 k5 k6
  have HV : Hid (sameT a b = (eqV a.inp b.inp && decide (a.word = b.word) && decide (a.states = b.states) && decide (a.msgs = b.msgs) && eqV a.dec b.dec && eqV a.times b.times)) := by exact rfl
  go_enter Tryz.func27, Tryz.ntmps27
  go_wp2_with fail
  refine calls_gen (fun W => Below w.heap.size w W ∧ (∃ c, W.heap[w.heap.size]? = some (.cells c 40) ∧ c = trC _ _ _ _ _ _) ∧ ∃ c, W.heap[w.heap.size + 1]? = some (.cells c 40) ∧ c = trC _ _ _ _ _ _) ⟨by go_grown, ⟨_, alloc_old _ (alloc_new _ _), rfl⟩, _, by simpa using alloc_new (w.alloc _) _, rfl⟩ (fun W0 hW0 => ?_)
  obtain ⟨hb0, ⟨_, hA0, rfl⟩, _, hB0, rfl⟩ := hW0
  have HA0 := Lib.hid hA0
  have HB0 := Lib.hid hB0
  clear hA0 hB0
  refine (slicesEqual_any _ _ a.inp b.inp W0 (HA.out.inp.up up_int hb0) (HB.out.inp.up up_int hb0)).mono ?_
  rintro e w1 ⟨rfl, hb1'⟩
  have hb1 := ext_trans hb0 hb1'
  generalize eqV a.inp b.inp = r0 at HV
  cases r0 with
  | false =>
    go_wp2_with fail
    go_ret
    exact ⟨ret_bool (by rw [HV.out]; simp), hb1⟩
  | true =>
  have hq1 : Below W0.heap.size W0 w1 := hb1'
  have s1 := cell_block (block_up hq1 HA0.out)
  have s2 := cell_block (block_up hq1 HB0.out)
  go_wp2_with fail
  clear s1 s2
  refine (equalRounds_any _ _ a.word b.word w1 (HA.out.word.up up_round hb1) (HB.out.word.up up_round hb1)).mono ?_
  rintro e w2 ⟨rfl, hb2'⟩
  have hb2 := ext_trans hb1 hb2'
  generalize decide (a.word = b.word) = r1 at HV
  cases r1 with
  | false =>
    go_wp2_with fail
    go_ret
    exact ⟨ret_bool (by rw [HV.out]; simp), hb2⟩
  | true =>
  have hq2 : Below W0.heap.size W0 w2 := (ext_trans hq1 hb2')
  have s1 := cell_block (block_up hq2 HA0.out)
  have s2 := cell_block (block_up hq2 HB0.out)
  go_wp2_with fail
  clear s1 s2
  refine (equalVecs_any _ _ a.states b.states w2 (HA.out.states.up up_ints hb2) (HB.out.states.up up_ints hb2)).mono ?_
  rintro e w3 ⟨rfl, hb3'⟩
  have hb3 := ext_trans hb2 hb3'
  generalize decide (a.states = b.states) = r2 at HV
  cases r2 with
  | false =>
    go_wp2_with fail
    go_ret
    exact ⟨ret_bool (by rw [HV.out]; simp), hb3⟩
  | true =>
  have hq3 : Below W0.heap.size W0 w3 := (ext_trans hq2 hb3')
  have s1 := cell_block (block_up hq3 HA0.out)
  have s2 := cell_block (block_up hq3 HB0.out)
  go_wp2_with fail
  clear s1 s2
  refine (equalMsgs_any _ _ a.msgs b.msgs w3 (HA.out.msgs.up up_msg hb3) (HB.out.msgs.up up_msg hb3)).mono ?_
  rintro e w4 ⟨rfl, hb4'⟩
  have hb4 := ext_trans hb3 hb4'
  generalize decide (a.msgs = b.msgs) = r3 at HV
  cases r3 with
  | false =>
    go_wp2_with fail
    go_ret
    exact ⟨ret_bool (by rw [HV.out]; simp), hb4⟩
  | true =>
  have hq4 : Below W0.heap.size W0 w4 := (ext_trans hq3 hb4')
  have s1 := cell_block (block_up hq4 HA0.out)
  have s2 := cell_block (block_up hq4 HB0.out)
  go_wp2_with fail
  clear s1 s2
  refine (slicesEqual_any _ _ a.dec b.dec w4 (HA.out.dec.up up_int hb4) (HB.out.dec.up up_int hb4)).mono ?_
  rintro e w5 ⟨rfl, hb5'⟩
  have hb5 := ext_trans hb4 hb5'
  generalize eqV a.dec b.dec = r4 at HV
  cases r4 with
  | false =>
    go_wp2_with fail
    go_ret
    exact ⟨ret_bool (by rw [HV.out]; simp), hb5⟩
  | true =>
  have hq5 : Below W0.heap.size W0 w5 := (ext_trans hq4 hb5')
  have s1 := cell_block (block_up hq5 HA0.out)
  have s2 := cell_block (block_up hq5 HB0.out)
  go_wp2_with fail
  clear s1 s2
  refine (slicesEqual_any _ _ a.times b.times w5 (HA.out.times.up up_int hb5) (HB.out.times.up up_int hb5)).mono ?_
  rintro e w6 ⟨rfl, hb6'⟩
  have hb6 := ext_trans hb5 hb6'
  generalize eqV a.times b.times = r5 at HV
  go_wp2_with fail
  go_ret
  exact ⟨ret_bool (by rw [HV.out]; simp), hb6⟩
end Go.Proofs.YtjmejfgkogjpaaaGreat

namespace Go.Proofs.YtjmejfgkogjpaaaGreat
open Go.RowKit Go Go.Shelf
attribute [local go_sem] Oper.semAt_some

set_option maxRecDepth 100000 in
set_option maxHeartbeats 2000000 in
theorem replay_any (m : Mac) (vf vy vt vo : Value) (t : Tr) (ui uw us um ud ut : Value) (w : World) (hf : IsVecs w vf m.first) (hy : IsV4 w vy m.syms) (ht : IsSteps w vt m.steps) (ho : IsV3 w vo m.out) (hT : IsTr w t ui uw us um ud ut) :
    Calls Tryz.prog 10 #[.agg (macC m vf vy vt vo), .agg (trC ui uw us um ud ut)] w fun e w' => e = .returned (.int .i64 (replayE m t)) ∧ Below w.heap.size w w' := by
  have HF := Lib.hid hf
  have HY := Lib.hid hy
  have HM := Lib.hid ht
  have HO := Lib.hid ho
  have HT := Lib.hid hT
  obtain ⟨pf, cf, rfl, _⟩ := hf.at
  obtain ⟨py, cy, rfl, _⟩ := hy.at
  obtain ⟨pt, ct, rfl, _⟩ := ht.at
  obtain ⟨po, co, rfl, _⟩ := ho.at
  obtain ⟨k1, k2, k3, k4, k5, k6⟩ := hT
  obtain ⟨q1, d1, rfl, _⟩ := k1.at
  obtain ⟨q2, d2, rfl, _⟩ := k2.at
  obtain ⟨q3, d3, rfl, _⟩ := k3.at
  obtain ⟨q4, d4, rfl, _⟩ := k4.at
  obtain ⟨q5, d5, rfl, _⟩ := k5.at
  obtain ⟨q6, d6, rfl, _⟩ := k6.at
  clear hf hy ht ho k1 k2 k3 k4 k5 k6
  have HV : Hid (replayE m t = if checkE m ≠ 0 then checkE m else if traceE t ≠ 0 then traceE t else if playE m t.inp t.word ≠ 0 then playE m t.inp t.word else if sameT (madeT m t.inp t.word) t then 0 else 18) := by exact rfl
  go_enter Tryz.func10, Tryz.ntmps10
  go_wp2_with fail
  refine calls_gen (fun W => Below w.heap.size w W ∧ W.heap[w.heap.size]? = some (.cells (macC m (.slice pf m.first.length cf) (.slice py m.syms.length cy) (.slice pt m.steps.length ct) (.slice po m.out.length co)) 35) ∧ W.heap[w.heap.size + 1]? = some (.cells (trC (.slice q1 t.inp.length d1) (.slice q2 t.word.length d2) (.slice q3 t.states.length d3) (.slice q4 t.msgs.length d4) (.slice q5 t.dec.length d5) (.slice q6 t.times.length d6)) 40)) ⟨by go_grown, alloc_old _ (alloc_new _ _), alloc2_new _ _ _⟩ (fun W0 hW0 => ?_)
  obtain ⟨hb0, hA0, hB0⟩ := hW0
  have HA0 := Lib.hid hA0
  have HB0 := Lib.hid hB0
  clear hA0 hB0
  refine (macCheck_any m _ _ _ _ W0 (HF.out.up up_ints hb0) (HY.out.up up_v3 hb0) (HM.out.up up_step hb0) (HO.out.up up_vecs hb0)).mono ?_
  rintro e w1 ⟨rfl, hb1'⟩
  have hb1 := ext_trans hb0 hb1'
  generalize checkE m = ec at HV
  by_cases hc : ec = 0
  case neg =>
    have hc' : (ec != 0) = true := by simpa using hc
    go_wp2_with fail
    go_ret
    exact ⟨ret_int (by rw [HV.out, if_pos hc]), hb1⟩
  subst hc
  have s2 := cell_block (block_up hb1' HB0.out)
  go_wp2_with fail
  clear s2
  refine (trCheck_any t _ _ _ _ _ _ w1 (HT.out.up hb1)).mono ?_
  rintro e w2 ⟨rfl, hb2'⟩
  have hb2 := ext_trans hb1 hb2'
  have hq2 := ext_trans hb1' hb2'
  generalize traceE t = et at HV
  by_cases hc : et = 0
  case neg =>
    have hc' : (et != 0) = true := by simpa using hc
    go_wp2_with fail
    go_ret
    exact ⟨ret_int (by rw [HV.out, if_neg (by simp), if_pos hc]), hb2⟩
  subst hc
  have s1 := cell_block (block_up hq2 HA0.out)
  have s2 := cell_block (block_up hq2 HB0.out)
  go_wp2_with fail
  clear s1 s2
  refine (simRun_any m _ _ _ _ _ _ t.inp t.word w2 (HF.out.up up_ints hb2) (HY.out.up up_v3 hb2) (HM.out.up up_step hb2) (HO.out.up up_vecs hb2) (HT.out.inp.up up_int hb2) (HT.out.word.up up_round hb2)).mono ?_
  rintro e w3 ⟨vi, vw, vs, vm, vd, vtt, rfl, hz, hnz, hb3'⟩
  have hb3 := ext_trans hb2 hb3'
  have hq3 := ext_trans hq2 hb3'
  by_cases hc : playE m t.inp t.word = 0
  case neg =>
    have h := hnz hc
    injection h with h
    injection h with e1 h
    injection h with e2 h
    injection h with e3 h
    injection h with e4 h
    injection h with e5 h
    injection h with e6 h
    subst e1 e2 e3 e4 e5 e6
    clear hz hnz
    generalize playE m t.inp t.word = ep at HV hc
    have hc' : (ep != 0) = true := by simpa using hc
    go_wp2_with fail
    go_ret
    exact ⟨ret_int (by rw [HV.out, if_neg (by simp), if_neg (by simp), if_pos hc]), ext_trans hb3 (by go_grown)⟩
  have hIs := hz hc
  rw [hc] at HV ⊢
  have HIS := Lib.hid hIs
  clear hz hnz hc
  obtain ⟨k1, k2, k3, k4, k5, k6⟩ := hIs
  obtain ⟨p1, c1, rfl, _⟩ := k1.at
  obtain ⟨p2, c2, rfl, _⟩ := k2.at
  obtain ⟨p3, c3, rfl, _⟩ := k3.at
  obtain ⟨p4, c4, rfl, _⟩ := k4.at
  obtain ⟨p5, c5, rfl, _⟩ := k5.at
  obtain ⟨p6, c6, rfl, _⟩ := k6.at
  clear k1 k2 k3 k4 k5 k6
  have s2 := cell_block (block_up hq3 HB0.out)
  have hlt : w.heap.size + 1 < w3.heap.size := block_lt (block_up hq3 HB0.out)
  go_wp2_with fail
  refine calls_gen (fun W => Below w3.heap.size w3 W) (by go_grown) (fun W4 hb4 => ?_)
  refine (same_any (madeT m t.inp t.word) t _ _ _ _ _ _ _ _ _ _ _ _ W4 (HIS.out.up hb4) (HT.out.up (ext_trans hb3 hb4))).mono ?_
  rintro e w5 ⟨rfl, hb5⟩
  have hb5' := ext_trans hb3 (ext_trans hb4 hb5)
  clear s2
  generalize sameT (madeT m t.inp t.word) t = sb at HV
  cases sb with
  | true =>
    go_wp2_with fail
    go_ret
    exact ⟨ret_int (by rw [HV.out]; simp), hb5'⟩
  | false =>
    go_wp2_with fail
    go_ret
    exact ⟨ret_int (by rw [HV.out]; simp), hb5'⟩
end Go.Proofs.YtjmejfgkogjpaaaGreat
