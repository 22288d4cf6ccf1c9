/-
  Parts of the proof, in order. Contract of the program's machine.hears. Conditions: the arguments read as a machine of the right shape, a place and the states of its processes. What follows for a machine whose check finds nothing. Plain: no program. It proves nothing of the program. Contracts of the program's package round: number, pairs (an iterator), Word. Conditions: the arguments read as a word of rounds. Laws for 'for .. := range f' over an iterator that makes memory between its rounds and leans on it: the caller's side and the shape of such an iterator's contract. It proves nothing of the program. Contracts of the program's simulate.places (an iterator). Conditions: the arguments read as a word of rounds and a number of at most five processes. Contracts of the library's slices.Index and slices.Contains at integers, and of the program's machine.run (an iterator). Conditions: the arguments read as a machine without errors, inputs and a word that fit it.
-/
import Derived.Test.YtjmejfgkogjpaaaGreatJ10
namespace Go.Proofs.YtjmejfgkogjpaaaGreat
open Go.RowKit Go Go.Shelf

def hC (f : Nat → Int) (q : Nat) : Array Value := ((List.range 5).map fun j => Value.int .i64 (if j < q then f j else 0)).toArray
theorem hC_size (f : Nat → Int) (q : Nat) : (hC f q).size = 5 := by simp [hC]
theorem hC_get (f : Nat → Int) (q j : Nat) (hj : j < 5) : (hC f q)[j]? = some (.int .i64 (if j < q then f j else 0)) := by simp [hC, hj]
theorem hC_set (f : Nat → Int) (q : Nat) (hq : q < 5) : (hC f q).setIfInBounds q (.int .i64 (f q)) = hC f (q + 1) := by
  apply Array.ext_getElem?
  intro j
  rw [Array.getElem?_setIfInBounds]
  by_cases hj : j < 5
  · rw [hC_get _ _ _ hj, hC_get _ _ _ hj]
    by_cases e : q = j
    · subst e; rw [if_pos rfl, if_pos (by rw [hC_size]; exact hj), if_pos (by omega)]
    · rw [if_neg e]
      by_cases h : j < q
      · rw [if_pos h, if_pos (by omega)]
      · rw [if_neg h, if_neg (by omega)]
  · have h1 : (hC f q)[j]? = none := by rw [Array.getElem?_eq_none]; rw [hC_size]; omega
    have h2 : (hC f (q + 1))[j]? = none := by rw [Array.getElem?_eq_none]; rw [hC_size]; omega
    rw [h1, h2, if_neg (by omega)]
theorem hC_zero (f : Nat → Int) : hC f 0 = #[.int .i64 0, .int .i64 0, .int .i64 0, .int .i64 0, .int .i64 0] := rfl
theorem hC_five (f : Nat → Int) : hC f 5 = #[.int .i64 (f 0), .int .i64 (f 1), .int .i64 (f 2), .int .i64 (f 3), .int .i64 (f 4)] := rfl
theorem hC_two {w : World} {B : Nat} {t : TypeId} {f : Nat → Int} {q : Nat} {fz : Nat × Nat} (hq : q < 5) (h : w.heap[B]? = some (.cells (hC f q) t fz)) (v : Value) : ((w.setCell ⟨B, q, none⟩ v).setCell ⟨B, q, none⟩ (.int .i64 (f q))).heap[B]? = some (.cells (hC f (q + 1)) t fz) := by
  rw [setCell_same (setCell_same h q v), Array.setIfInBounds_setIfInBounds, hC_set f q hq]
theorem arr_results (tmps : Array Value) (f : Func) (s : Nat) (hf : f.results = #[.cell s 60]) (B : Nat) (W : World) (x0 x1 x2 x3 x4 : Int) (ty : TypeId) (h1 : tmps[s]?.getD undef = .pointer (some ⟨B, 0, none⟩)) (hb : W.heap[B]? = some (.cells #[.int .i64 x0, .int .i64 x1, .int .i64 x2, .int .i64 x3, .int .i64 x4] ty)) :
    (results f tmps).run Tryz.prog W = .ok (.agg #[.int .i64 x0, .int .i64 x1, .int .i64 x2, .int .i64 x3, .int .i64 x4]) W := by
  have t1 := cell_block hb
  simp [results, hf, go_sem, h1, t1]

set_option maxRecDepth 100000 in
set_option maxHeartbeats 8000000 in
theorem hears_any (m : Mac) (pf : Option Addr) (nf cf : Nat) (vy : Value) (pt : Option Addr) (nt ct : Nat) (po : Option Addr) (no co : Nat) (k p n : Nat) (vn : Value) (now : List Int) (set : Int) (w : World)
    (hn : m.n = n) (hn5 : n ≤ 5) (hp : p < n) (hk : k < m.syms.length) (h1 : (m.syms.getD k []).length = n) (h2 : ∀ q, q < n → ((m.syms.getD k []).getD q []).length = n)
    (hl : now.length = n) (h3 : ∀ q, q < n → q ≠ p → 0 ≤ now.getD q 0 ∧ (now.getD q 0).toNat < (((m.syms.getD k []).getD q []).getD p []).length) (hy : IsV4 w vy m.syms) (hv : IsInts w vn now) :
    Calls Tryz.prog 123 #[.agg (macC m (.slice pf nf cf) vy (.slice pt nt ct) (.slice po no co)), .int .i64 k, .int .i64 p, vn, .int .i64 set] w fun e w' =>
      e = .returned (.agg #[.int .i64 (hearsF m k p now set 0), .int .i64 (hearsF m k p now set 1), .int .i64 (hearsF m k p now set 2), .int .i64 (hearsF m k p now set 3), .int .i64 (hearsF m k p now set 4)]) ∧ Below w.heap.size w w' := by
  obtain ⟨py, cy, rfl, ly1, ly2, ey⟩ := hy.at
  obtain ⟨pn, cn, rfl, ln1, ln2, en⟩ := hv.at
  have EY := Lib.hid ey
  have EN := Lib.hid en
  have H1 := Lib.hid h1
  have H2 := Lib.hid h2
  have H3 := Lib.hid h3
  have HN := Lib.hid hn
  have HL := Lib.hid hl
  clear hy hv ey en h1 h2 h3 hn hl
  have HF : Hid (∀ q, hearsF m k p now set q = if q = p then now.getD p 0 else if (q : Int) < m.n ∧ hasB set q = true then symS m k q p (now.getD q 0) else -1) := by (have h : ∀ q, hearsF m k p now set q = if q = p then now.getD p 0 else if (q : Int) < m.n ∧ hasB set q = true then symS m k q p (now.getD q 0) else -1 := fun q => rfl); exact h
  generalize hearsF m k p now set = f at HF
  go_enter Tryz.func123, Tryz.ntmps123
  go_wp2_with fail
  refine wp_gen (fun W => Below w.heap.size w W ∧ W.heap[w.heap.size]? = some (.cells (macC m (.slice pf nf cf) (.slice py m.syms.length cy) (.slice pt nt ct) (.slice po no co)) 35) ∧ W.heap[w.heap.size + 1]? = some (.cells (hC f 0) 60) ∧ W.heap[w.heap.size + 1 + 1]? = some (.cells (hC f 0) 60))
    ⟨by go_grown, alloc_old _ (alloc_old _ (alloc_new _ _)), alloc_old _ (alloc2_new _ _ _), alloc3_new _ _ _ _⟩ (fun W0 hW0 => ?_)
  obtain ⟨hb0, hM0, hR0, hO0⟩ := hW0
  go_loopw [13] (fun i wr => ∃ q : Nat, q ≤ 5 ∧ i = .int .i64 q ∧ Below w.heap.size w wr ∧ wr.heap[w.heap.size]? = some (.cells (macC m (.slice pf nf cf) (.slice py m.syms.length cy) (.slice pt nt ct) (.slice po no co)) 35) ∧ wr.heap[w.heap.size + 1]? = some (.cells (hC f 0) 60) ∧ wr.heap[w.heap.size + 1 + 1]? = some (.cells (hC f q) 60)) (fun i _ => 5 - (intOf i).toNat)
  case atStart => exact ⟨0, by omega, rfl, hb0, hM0, hR0, hO0⟩
  case round =>
    clear hb0 hM0 hR0 hO0
    obtain ⟨q, hq, rfl, hbr, hM, hR, hO⟩ := hrel
    by_cases hq5 : q < 5
    · have cq := cell_block hO q
      rw [hC_get f q q hq5, if_neg (by omega)] at cq
      have fq := frozen_block hO q
      have hs2 := block_lt hO
      have HM := Lib.hid hM
      have HR := Lib.hid hR
      have HO := Lib.hid hO
      have HBR := Lib.hid hbr
      clear hM hR hO
      have hcm := cell_block HM.out
      by_cases hqp : q = p
      · subst hqp
        obtain ⟨b2, o2, rfl, ⟨c2, _⟩⟩ := EN.out q (by have := HL.out; omega)
        rw [Nat.mul_one] at c2
        have d2 := cell_up hbr c2
        have hb2 := cell_lt d2
        have hb2' := cell_lt c2
        dsimp only at hb2 hb2'
        have hb3 : ¬ b2 = w.heap.size + 1 + 1 := by omega
        have HV : Hid (f q = now[q]'(by have := HL.out; omega)) := by (have h : f q = now[q]'(by have := HL.out; omega) := by (rw [HF.out q, if_pos rfl, getD_of_lt 0 (by have := HL.out; omega)])); exact h
        have hltn : q < now.length := by have := HL.out; omega
        generalize hx : now[q] = x at d2 HV
        have HFX := Lib.hid hx
        clear hx c2 hcm
        go_wp2_with fail
        go_roundw
        case rel =>
          refine ⟨q + 1, by omega, by go_num, (HBR.out.setCell (p := ⟨w.heap.size + 1 + 1, q, none⟩) (by dsimp only; omega) _).setCell (p := ⟨w.heap.size + 1 + 1, q, none⟩) (by dsimp only; omega) _, ?_, ?_, ?_⟩
          · exact setCell_other (setCell_other HM.out (by omega) _ _) (by omega) _ _
          · exact setCell_other (setCell_other HR.out (by omega) _ _) (by omega) _ _
          · rw [← HV.out]; exact hC_two hq5 HO.out _
        case measure => simp [intOf]; omega
      · have hqp' : ¬ (q : Int) = (p : Int) := by omega
        have hqpb : ((q : Int) == (p : Int)) = false := by simpa using hqp'
        have hdq : decide ((q : Int) < 5) = true := by simp; omega
        by_cases hqn : q < n
        · have hmn : (q : Int) < m.n := by have := HN.out; omega
          have hbit := hasB_and1' set q
          cases hb : hasB set q with
          | false =>
            have HV : Hid (f q = -1) := by (have h : f q = -1 := by (rw [HF.out q, if_neg hqp, if_neg (by rw [hb]; simp)])); exact h
            rw [hb] at hbit
            clear hb
            go_wp2_with fail
            go_roundw
            case rel =>
              refine ⟨q + 1, by omega, by go_num, HBR.out.setCell (p := ⟨w.heap.size + 1 + 1, q, none⟩) (by dsimp only; omega) _, setCell_other HM.out (by omega) _ _, setCell_other HR.out (by omega) _ _, ?_⟩
              rw [setCell_same HO.out, ← HV.out, hC_set f q hq5]
            case measure => simp [intOf]; omega
          | true =>
            rw [hb] at hbit
            have hm1 := H1.out
            have hm2 := H2.out q hqn
            have hm3 := H3.out q hqn hqp
            have hm2' := hm2
            rw [getD_of_lt [] hk] at hm1 hm2 hm3
            have hqs : q < m.syms[k].length := by omega
            rw [getD_of_lt [] hqs] at hm2 hm3
            have hps : p < m.syms[k][q].length := by omega
            rw [getD_of_lt [] hps] at hm3
            have hnl : q < now.length := by have := HL.out; omega
            have HNG := Lib.hid (getD_of_lt 0 hnl)
            rw [getD_of_lt 0 hnl] at hm3
            obtain ⟨b1, o1, rfl, x1, c1, hx1⟩ := EY.out k hk
            obtain ⟨p1, q1, rfl, l11, l12, e1⟩ := hx1.at
            obtain ⟨b2, o2, rfl, x2, c2, hx2⟩ := e1 q hqs
            obtain ⟨p2, q2, rfl, l21, l22, e2⟩ := hx2.at
            obtain ⟨b3, o3, rfl, x3, c3, hx3⟩ := e2 p hps
            obtain ⟨p3, q3, rfl, l31, l32, e3⟩ := hx3.at
            obtain ⟨b4, o4, rfl, c4, r4⟩ := e3 _ hm3.2
            obtain ⟨b5, o5, rfl, c5, r5⟩ := EN.out q hnl
            rw [Nat.mul_one] at c1 c2 c3 c4 c5
            have HV : Hid (f q = m.syms[k][q][p][(now[q]).toNat]'hm3.2) := by
              (have h : f q = m.syms[k][q][p][(now[q]).toNat]'hm3.2 := by (rw [HF.out q, if_neg hqp, if_pos ⟨hmn, hb⟩]; unfold symS; rw [getD_of_lt [] hk, getD_of_lt [] hqs, getD_of_lt [] hps, HNG.out, getD_of_lt 0 hm3.2])); exact h
            clear hb e1 e2 e3 hx1 hx2 hx3 hm2' r4 r5
            generalize m.syms[k][q][p][(now[q]).toNat] = sy at c4 HV
            obtain ⟨s, hs⟩ : ∃ s : Nat, now[q] = s := ⟨now[q].toNat, by omega⟩
            rw [hs] at c4 c5 hm3
            rw [Int.toNat_natCast] at c4 hm3
            generalize m.syms[k][q][p].length = l3 at c3 l31 l32 hm3
            generalize m.syms[k][q].length = l2 at c2 l21 l22 hps hm2
            generalize m.syms[k].length = l1 at c1 l11 l12 hqs hm1
            have hm3' := hm3.2
            clear hm1 hm2 hm3 hs HNG
            go_wp2_with fail
            clear cq fq hcm hbit
            obtain ⟨W1, hW1⟩ : ∃ W1, W1 = wr.setCell ⟨w.heap.size + 1 + 1, q, none⟩ (.int .i64 (-1)) := ⟨_, rfl⟩
            rw [← hW1]
            have HBW : Hid (Below w.heap.size w W1) := by (have h : Below w.heap.size w W1 := by (rw [hW1]; exact HBR.out.setCell (p := ⟨w.heap.size + 1 + 1, q, none⟩) (by dsimp only; omega) _)); exact h
            have HMW : Hid (W1.heap[w.heap.size]? = some (.cells (macC m (.slice pf nf cf) (.slice (some ⟨b1, o1, none⟩) m.syms.length cy) (.slice pt nt ct) (.slice po no co)) 35)) := by (have h : W1.heap[w.heap.size]? = some (.cells (macC m (.slice pf nf cf) (.slice (some ⟨b1, o1, none⟩) m.syms.length cy) (.slice pt nt ct) (.slice po no co)) 35) := by (rw [hW1]; exact setCell_other HM.out (by omega) _ _)); exact h
            have HRW : Hid (W1.heap[w.heap.size + 1]? = some (.cells (hC f 0) 60)) := by (have h : W1.heap[w.heap.size + 1]? = some (.cells (hC f 0) 60) := by (rw [hW1]; exact setCell_other HR.out (by omega) _ _)); exact h
            have HOW : Hid (W1.heap[w.heap.size + 1 + 1]? = some (.cells ((hC f q).setIfInBounds q (.int .i64 (-1))) 60)) := by (have h : W1.heap[w.heap.size + 1 + 1]? = some (.cells ((hC f q).setIfInBounds q (.int .i64 (-1))) 60) := by (rw [hW1]; exact setCell_same HO.out _ _)); exact h
            clear hW1 HM HR HO HBR hbr
            refine wp_region_each 19 [40, 41, 42, 43, 44, 45, 46, 47, 48, 49, 50, 51, 52, 53, 54, 55, 56, 57, 58] [MP.eq (.int .i64 (q : Int)),
              MP.eq (.pointer (some ⟨w.heap.size, 5, none⟩)),
              MP.eq (.slice (some ⟨b1, o1, none⟩) m.syms.length cy),
              MP.eq (.int .i64 (k : Int)),
              MP.eq (.pointer (some ⟨b1, o1 + k, none⟩)),
              MP.eq (.slice (some ⟨b2, o2, none⟩) l1 q1),
              MP.eq (.int .i64 (q : Int)),
              MP.eq (.pointer (some ⟨b2, o2 + q, none⟩)),
              MP.eq (.slice (some ⟨b3, o3, none⟩) l2 q2),
              MP.eq (.int .i64 (p : Int)),
              MP.eq (.pointer (some ⟨b3, o3 + p, none⟩)),
              MP.eq (.slice (some ⟨b4, o4, none⟩) l3 q3),
              MP.eq (.slice (some ⟨b5, o5, none⟩) now.length cn),
              MP.eq (.int .i64 (q : Int)),
              MP.eq (.pointer (some ⟨b5, o5 + q, none⟩)),
              MP.eq (.int .i64 (s : Int)),
              MP.eq (.pointer (some ⟨b4, o4 + s, none⟩)),
              MP.eq (.int .i64 sy),
              MP.eq (.pointer (some ⟨w.heap.size + 1 + 1, q, none⟩))] (by kernel_rfl) rfl (by decide) rfl (by kernel_rfl) ?step ?tail
            case step =>
              intro x W i o s F hi ho hs hB hdep hF
              have hcase : i = 0 ∨ i = 1 ∨ i = 2 ∨ i = 3 ∨ i = 4 ∨ i = 5 ∨ i = 6 ∨ i = 7 ∨ i = 8 ∨ i = 9 ∨ i = 10 ∨ i = 11 ∨ i = 12 ∨ i = 13 ∨ i = 14 ∨ i = 15 ∨ i = 16 ∨ i = 17 ∨ i = 18 := by omega
              rcases hcase with rfl | rfl | rfl | rfl | rfl | rfl | rfl | rfl | rfl | rfl | rfl | rfl | rfl | rfl | rfl | rfl | rfl | rfl | rfl
              · obtain rfl := Option.some.inj ho.symm
                obtain rfl := Option.some.inj hs.symm
                clear hdep hi ho hs
                simp only [setAll, setFrom, List.setIfInBounds_toArray, List.set_cons_succ, List.set_cons_zero, Nat.reduceAdd] at hF
                subst hF
                go_wp2_with fail
                exact EachK.mk _ (Below.refl _ _) rfl (by simp only [List.setIfInBounds_toArray, List.set_cons_succ, List.set_cons_zero])
              · obtain rfl := Option.some.inj ho.symm
                obtain rfl := Option.some.inj hs.symm
                clear hdep hi ho hs
                simp only [setAll, setFrom, List.setIfInBounds_toArray, List.set_cons_succ, List.set_cons_zero, Nat.reduceAdd] at hF
                subst hF
                go_wp2_with fail
                exact EachK.mk _ (Below.refl _ _) rfl (by simp only [List.setIfInBounds_toArray, List.set_cons_succ, List.set_cons_zero])
              · obtain rfl := Option.some.inj ho.symm
                obtain rfl := Option.some.inj hs.symm
                have d1 : x 1 = .pointer (some ⟨w.heap.size, 5, none⟩) := hdep ⟨1, .data⟩ (by simp) rfl
                clear hdep hi ho hs
                have t9 := cell_block (block_up hB HMW.out)
                simp only [setAll, setFrom, List.setIfInBounds_toArray, List.set_cons_succ, List.set_cons_zero, Nat.reduceAdd] at hF
                simp only [d1] at hF
                subst hF
                go_wp2_with fail
                exact EachK.mk _ (Below.refl _ _) rfl (by simp only [List.setIfInBounds_toArray, List.set_cons_succ, List.set_cons_zero])
              · obtain rfl := Option.some.inj ho.symm
                obtain rfl := Option.some.inj hs.symm
                clear hdep hi ho hs
                simp only [setAll, setFrom, List.setIfInBounds_toArray, List.set_cons_succ, List.set_cons_zero, Nat.reduceAdd] at hF
                subst hF
                go_wp2_with fail
                exact EachK.mk _ (Below.refl _ _) rfl (by simp only [List.setIfInBounds_toArray, List.set_cons_succ, List.set_cons_zero])
              · obtain rfl := Option.some.inj ho.symm
                obtain rfl := Option.some.inj hs.symm
                have d2 : x 2 = .slice (some ⟨b1, o1, none⟩) m.syms.length cy := hdep ⟨2, .data⟩ (by simp) rfl
                have d3 : x 3 = .int .i64 (k : Int) := hdep ⟨3, .data⟩ (by simp) rfl
                clear hdep hi ho hs
                simp only [setAll, setFrom, List.setIfInBounds_toArray, List.set_cons_succ, List.set_cons_zero, Nat.reduceAdd] at hF
                simp only [d2, d3] at hF
                subst hF
                go_wp2_with fail
                exact EachK.mk _ (Below.refl _ _) rfl (by simp only [List.setIfInBounds_toArray, List.set_cons_succ, List.set_cons_zero])
              · obtain rfl := Option.some.inj ho.symm
                obtain rfl := Option.some.inj hs.symm
                have d4 : x 4 = .pointer (some ⟨b1, o1 + k, none⟩) := hdep ⟨4, .data⟩ (by simp) rfl
                clear hdep hi ho hs
                have d9 := cell_up (ext_trans HBW.out hB) c1
                simp only [setAll, setFrom, List.setIfInBounds_toArray, List.set_cons_succ, List.set_cons_zero, Nat.reduceAdd] at hF
                simp only [d4] at hF
                subst hF
                go_wp2_with fail
                exact EachK.mk _ (Below.refl _ _) rfl (by simp only [List.setIfInBounds_toArray, List.set_cons_succ, List.set_cons_zero])
              · obtain rfl := Option.some.inj ho.symm
                obtain rfl := Option.some.inj hs.symm
                clear hdep hi ho hs
                simp only [setAll, setFrom, List.setIfInBounds_toArray, List.set_cons_succ, List.set_cons_zero, Nat.reduceAdd] at hF
                subst hF
                go_wp2_with fail
                exact EachK.mk _ (Below.refl _ _) rfl (by simp only [List.setIfInBounds_toArray, List.set_cons_succ, List.set_cons_zero])
              · obtain rfl := Option.some.inj ho.symm
                obtain rfl := Option.some.inj hs.symm
                have d5 : x 5 = .slice (some ⟨b2, o2, none⟩) l1 q1 := hdep ⟨5, .data⟩ (by simp) rfl
                have d6 : x 6 = .int .i64 (q : Int) := hdep ⟨6, .data⟩ (by simp) rfl
                clear hdep hi ho hs
                simp only [setAll, setFrom, List.setIfInBounds_toArray, List.set_cons_succ, List.set_cons_zero, Nat.reduceAdd] at hF
                simp only [d5, d6] at hF
                subst hF
                go_wp2_with fail
                exact EachK.mk _ (Below.refl _ _) rfl (by simp only [List.setIfInBounds_toArray, List.set_cons_succ, List.set_cons_zero])
              · obtain rfl := Option.some.inj ho.symm
                obtain rfl := Option.some.inj hs.symm
                have d7 : x 7 = .pointer (some ⟨b2, o2 + q, none⟩) := hdep ⟨7, .data⟩ (by simp) rfl
                clear hdep hi ho hs
                have d9 := cell_up (ext_trans HBW.out hB) c2
                simp only [setAll, setFrom, List.setIfInBounds_toArray, List.set_cons_succ, List.set_cons_zero, Nat.reduceAdd] at hF
                simp only [d7] at hF
                subst hF
                go_wp2_with fail
                exact EachK.mk _ (Below.refl _ _) rfl (by simp only [List.setIfInBounds_toArray, List.set_cons_succ, List.set_cons_zero])
              · obtain rfl := Option.some.inj ho.symm
                obtain rfl := Option.some.inj hs.symm
                clear hdep hi ho hs
                simp only [setAll, setFrom, List.setIfInBounds_toArray, List.set_cons_succ, List.set_cons_zero, Nat.reduceAdd] at hF
                subst hF
                go_wp2_with fail
                exact EachK.mk _ (Below.refl _ _) rfl (by simp only [List.setIfInBounds_toArray, List.set_cons_succ, List.set_cons_zero])
              · obtain rfl := Option.some.inj ho.symm
                obtain rfl := Option.some.inj hs.symm
                have d8 : x 8 = .slice (some ⟨b3, o3, none⟩) l2 q2 := hdep ⟨8, .data⟩ (by simp) rfl
                have d9 : x 9 = .int .i64 (p : Int) := hdep ⟨9, .data⟩ (by simp) rfl
                clear hdep hi ho hs
                simp only [setAll, setFrom, List.setIfInBounds_toArray, List.set_cons_succ, List.set_cons_zero, Nat.reduceAdd] at hF
                simp only [d8, d9] at hF
                subst hF
                go_wp2_with fail
                exact EachK.mk _ (Below.refl _ _) rfl (by simp only [List.setIfInBounds_toArray, List.set_cons_succ, List.set_cons_zero])
              · obtain rfl := Option.some.inj ho.symm
                obtain rfl := Option.some.inj hs.symm
                have d10 : x 10 = .pointer (some ⟨b3, o3 + p, none⟩) := hdep ⟨10, .data⟩ (by simp) rfl
                clear hdep hi ho hs
                have d9 := cell_up (ext_trans HBW.out hB) c3
                simp only [setAll, setFrom, List.setIfInBounds_toArray, List.set_cons_succ, List.set_cons_zero, Nat.reduceAdd] at hF
                simp only [d10] at hF
                subst hF
                go_wp2_with fail
                exact EachK.mk _ (Below.refl _ _) rfl (by simp only [List.setIfInBounds_toArray, List.set_cons_succ, List.set_cons_zero])
              · obtain rfl := Option.some.inj ho.symm
                obtain rfl := Option.some.inj hs.symm
                clear hdep hi ho hs
                simp only [setAll, setFrom, List.setIfInBounds_toArray, List.set_cons_succ, List.set_cons_zero, Nat.reduceAdd] at hF
                subst hF
                go_wp2_with fail
                exact EachK.mk _ (Below.refl _ _) rfl (by simp only [List.setIfInBounds_toArray, List.set_cons_succ, List.set_cons_zero])
              · obtain rfl := Option.some.inj ho.symm
                obtain rfl := Option.some.inj hs.symm
                clear hdep hi ho hs
                simp only [setAll, setFrom, List.setIfInBounds_toArray, List.set_cons_succ, List.set_cons_zero, Nat.reduceAdd] at hF
                subst hF
                go_wp2_with fail
                exact EachK.mk _ (Below.refl _ _) rfl (by simp only [List.setIfInBounds_toArray, List.set_cons_succ, List.set_cons_zero])
              · obtain rfl := Option.some.inj ho.symm
                obtain rfl := Option.some.inj hs.symm
                have d12 : x 12 = .slice (some ⟨b5, o5, none⟩) now.length cn := hdep ⟨12, .data⟩ (by simp) rfl
                have d13 : x 13 = .int .i64 (q : Int) := hdep ⟨13, .data⟩ (by simp) rfl
                clear hdep hi ho hs
                simp only [setAll, setFrom, List.setIfInBounds_toArray, List.set_cons_succ, List.set_cons_zero, Nat.reduceAdd] at hF
                simp only [d12, d13] at hF
                subst hF
                go_wp2_with fail
                exact EachK.mk _ (Below.refl _ _) rfl (by simp only [List.setIfInBounds_toArray, List.set_cons_succ, List.set_cons_zero])
              · obtain rfl := Option.some.inj ho.symm
                obtain rfl := Option.some.inj hs.symm
                have d14 : x 14 = .pointer (some ⟨b5, o5 + q, none⟩) := hdep ⟨14, .data⟩ (by simp) rfl
                clear hdep hi ho hs
                have d9 := cell_up (ext_trans HBW.out hB) c5
                simp only [setAll, setFrom, List.setIfInBounds_toArray, List.set_cons_succ, List.set_cons_zero, Nat.reduceAdd] at hF
                simp only [d14] at hF
                subst hF
                go_wp2_with fail
                exact EachK.mk _ (Below.refl _ _) rfl (by simp only [List.setIfInBounds_toArray, List.set_cons_succ, List.set_cons_zero])
              · obtain rfl := Option.some.inj ho.symm
                obtain rfl := Option.some.inj hs.symm
                have d11 : x 11 = .slice (some ⟨b4, o4, none⟩) l3 q3 := hdep ⟨11, .data⟩ (by simp) rfl
                have d15 : x 15 = .int .i64 (s : Int) := hdep ⟨15, .data⟩ (by simp) rfl
                clear hdep hi ho hs
                simp only [setAll, setFrom, List.setIfInBounds_toArray, List.set_cons_succ, List.set_cons_zero, Nat.reduceAdd] at hF
                simp only [d11, d15] at hF
                subst hF
                go_wp2_with fail
                exact EachK.mk _ (Below.refl _ _) rfl (by simp only [List.setIfInBounds_toArray, List.set_cons_succ, List.set_cons_zero])
              · obtain rfl := Option.some.inj ho.symm
                obtain rfl := Option.some.inj hs.symm
                have d16 : x 16 = .pointer (some ⟨b4, o4 + s, none⟩) := hdep ⟨16, .data⟩ (by simp) rfl
                clear hdep hi ho hs
                have d9 := cell_up (ext_trans HBW.out hB) c4
                simp only [setAll, setFrom, List.setIfInBounds_toArray, List.set_cons_succ, List.set_cons_zero, Nat.reduceAdd] at hF
                simp only [d16] at hF
                subst hF
                go_wp2_with fail
                exact EachK.mk _ (Below.refl _ _) rfl (by simp only [List.setIfInBounds_toArray, List.set_cons_succ, List.set_cons_zero])
              · obtain rfl := Option.some.inj ho.symm
                obtain rfl := Option.some.inj hs.symm
                have d0 : x 0 = .int .i64 (q : Int) := hdep ⟨0, .data⟩ (by simp) rfl
                clear hdep hi ho hs
                simp only [setAll, setFrom, List.setIfInBounds_toArray, List.set_cons_succ, List.set_cons_zero, Nat.reduceAdd] at hF
                simp only [d0] at hF
                subst hF
                go_wp2_with fail
                exact EachK.mk _ (Below.refl _ _) rfl (by simp only [List.setIfInBounds_toArray, List.set_cons_succ, List.set_cons_zero])
            case tail =>
              intro x W o F ho hB hall hF
              obtain rfl := Option.some.inj ho.symm
              have e17 : x 17 = .int .i64 sy := hall 17 (by omega)
              have e18 : x 18 = .pointer (some ⟨w.heap.size + 1 + 1, q, none⟩) := hall 18 (by omega)
              clear hall ho
              simp only [setAll, setFrom, List.setIfInBounds_toArray, List.set_cons_succ, List.set_cons_zero, Nat.reduceAdd] at hF
              simp only [e17, e18] at hF
              subst hF
              have hO2 := block_up hB HOW.out
              have cq := cell_block hO2 q
              have fq := frozen_block hO2 q
              rw [Array.getElem?_setIfInBounds_self_of_lt (by rw [hC_size]; exact hq5)] at cq
              have HO2 := Lib.hid hO2
              have HM2 := Lib.hid (block_up hB HMW.out)
              have HR2 := Lib.hid (block_up hB HRW.out)
              have HB2 := Lib.hid (ext_trans HBW.out hB)
              clear hO2
              go_wp2_with fail
              go_roundw
              case rel =>
                refine ⟨q + 1, by omega, by go_num, HB2.out.setCell (p := ⟨w.heap.size + 1 + 1, q, none⟩) (by dsimp only; omega) _, setCell_other HM2.out (by omega) _ _, setCell_other HR2.out (by omega) _ _, ?_⟩
                rw [setCell_same HO2.out, Array.setIfInBounds_setIfInBounds, ← HV.out, hC_set f q hq5]
              case measure => simp [intOf]; omega
        · have hmn : ¬ (q : Int) < m.n := by have := HN.out; omega
          have HV : Hid (f q = -1) := by (have h : f q = -1 := by (rw [HF.out q, if_neg hqp, if_neg (fun h => hmn h.1)])); exact h
          go_wp2_with fail
          go_roundw
          case rel =>
            refine ⟨q + 1, by omega, by go_num, HBR.out.setCell (p := ⟨w.heap.size + 1 + 1, q, none⟩) (by dsimp only; omega) _, setCell_other HM.out (by omega) _ _, setCell_other HR.out (by omega) _ _, ?_⟩
            rw [setCell_same HO.out, ← HV.out, hC_set f q hq5]
          case measure => simp [intOf]; omega
    · obtain rfl : q = 5 := by omega
      rw [hC_five] at hO
      rw [hC_zero] at hR
      have t1 := cell_block hO
      have t2 := cell_block hR
      have f2 := frozen_block hR
      have HO := Lib.hid hO
      have HR := Lib.hid hR
      have HBR := Lib.hid hbr
      clear hO hR hM
      go_wp2_with fail
      refine bodyPost_ret (v := .agg #[.int .i64 (f 0), .int .i64 (f 1), .int .i64 (f 2), .int .i64 (f 3), .int .i64 (f 4)]) (arr_results _ _ 10 Tryz.results123 (w.heap.size + 1) _ _ _ _ _ _ 60 rfl (by rw [setCell_same (setCell_same (setCell_same (setCell_same (setCell_same HR.out 0 _) 1 _) 2 _) 3 _) 4 _]; rfl)) rfl ?_
      exact ⟨rfl, ((((HBR.out.setCell (p := ⟨w.heap.size + 1, 0, none⟩) (by dsimp only; omega) _).setCell (p := ⟨w.heap.size + 1, 1, none⟩) (by dsimp only; omega) _).setCell (p := ⟨w.heap.size + 1, 2, none⟩) (by dsimp only; omega) _).setCell (p := ⟨w.heap.size + 1, 3, none⟩) (by dsimp only; omega) _).setCell (p := ⟨w.heap.size + 1, 4, none⟩) (by dsimp only; omega) _⟩
end Go.Proofs.YtjmejfgkogjpaaaGreat

namespace Go.Proofs.YtjmejfgkogjpaaaGreat

theorem orI3 (a b c : Int) : orI [a, b, c] = if a ≠ 0 then a else if b ≠ 0 then b else c := by
  unfold orI
  simp only [List.length_cons, List.length_nil, firstNZ, List.getD_cons_zero, List.getD_cons_succ]
  by_cases ha : a = 0 <;> by_cases hb : b = 0 <;> simp [ha, hb]
theorem orderI_eq (a b : St) : orderI a b = ordV (a.rd :: a.pr :: a.heard) (b.rd :: b.pr :: b.heard) := by
  unfold orderI
  rw [orI3, ordV_cons, ordV_cons]
theorem inB_iff {x lo hi : Int} : inB x lo hi = true ↔ lo ≤ x ∧ x ≤ hi := by unfold inB; simp
theorem getD_lt {α : Type} {l : List α} {i : Nat} (d : α) (h : i < l.length) : l.getD i d = l[i] := by simp [h]

structure Good (m : Mac) (n r : Nat) : Prop where
  hn : m.n = n
  n1 : 1 ≤ n
  n5 : n ≤ 5
  hr : m.rounds = r
  r6 : r ≤ 6
  ins : 1 ≤ m.ins ∧ m.ins ≤ 8
  outs : 1 ≤ m.outs ∧ m.outs ≤ 8
  fl : m.first.length = n
  fp : ∀ p, p < n → ((m.first.getD p []).length : Int) = m.ins
  ol : m.out.length = r + 1
  ok : ∀ k, k < r + 1 → (m.out.getD k []).length = n
  yl : m.syms.length = r
  yk : ∀ k, k < r → (m.syms.getD k []).length = n
  yp : ∀ k p, k < r → p < n → ((m.syms.getD k []).getD p []).length = n
  yq : ∀ k p q, k < r → p < n → q < n → (((m.syms.getD k []).getD p []).getD q []).length = if p = q then 0 else ((m.out.getD k []).getD p []).length
  fr : ∀ p v, p < n → v < (m.first.getD p []).length → -1 ≤ (m.first.getD p []).getD v 0 ∧ (m.first.getD p []).getD v 0 < (((m.out.getD 0 []).getD p []).length : Int)
  outr : ∀ k p s, k < r + 1 → p < n → s < ((m.out.getD k []).getD p []).length → -1 ≤ ((m.out.getD k []).getD p []).getD s 0 ∧ ((m.out.getD k []).getD p []).getD s 0 < m.outs
  symr : ∀ k p q s, k < r → p < n → q < n → s < (((m.syms.getD k []).getD p []).getD q []).length → 0 ≤ (((m.syms.getD k []).getD p []).getD q []).getD s 0 ∧ (((m.syms.getD k []).getD p []).getD q []).getD s 0 ≤ 1048576
  st : ∀ i, i < m.steps.length → 0 ≤ (m.steps.getD i default).rd ∧ (m.steps.getD i default).rd < r ∧ 0 ≤ (m.steps.getD i default).pr ∧ (m.steps.getD i default).pr < n ∧ 0 ≤ (m.steps.getD i default).to ∧ (m.steps.getD i default).to < outN m ((m.steps.getD i default).rd + 1) (m.steps.getD i default).pr
  len : m.steps.length ≤ 65536
  diff : ∀ i j (hi : i < m.steps.length) (hj : j < m.steps.length), i < j → m.steps[i].pl ≠ m.steps[j].pl

theorem steps_lt {l : List St} (h : ∀ i, 0 < i → i < l.length → orderI (l.getD (i - 1) default) (l.getD i default) < 0) : ∀ d i (hj : i + d + 1 < l.length), orderI (l.getD i default) (l.getD (i + d + 1) default) < 0 := by
  intro d
  induction d with
  | zero => intro i hj; have := h (i + 0 + 1) (by omega) hj; simpa using this
  | succ d ih =>
    intro i hj
    have h1 := ih i (by omega)
    have h2 := h (i + (d + 1) + 1) (by omega) hj
    rw [show i + (d + 1) + 1 - 1 = i + d + 1 by omega] at h2
    rw [orderI_eq] at h1 h2 ⊢
    exact ordV_trans h1 h2
theorem allB_iff {l : List Int} {lo hi : Int} (h : allB l lo hi = true) (i : Nat) (hi' : i < l.length) : lo ≤ l.getD i 0 ∧ l.getD i 0 ≤ hi := by
  unfold allB at h
  have h1 : anyLt l.length (fun i => !inB (l.getD i 0) lo hi) = false := by
    cases hh : anyLt l.length (fun i => !inB (l.getD i 0) lo hi) with
    | false => rfl
    | true => rw [hh] at h; cases h
  have := (anyLt_eq_false _ _).1 h1 i hi'
  exact inB_iff.1 (by simpa using this)

theorem not_anyLt {n : Nat} {p : Nat → Bool} (h : (!anyLt n p) = true) : ∀ k, k < n → p k = false := by
  refine (anyLt_eq_false _ _).1 ?_
  cases hh : anyLt n p with
  | false => rfl
  | true => rw [hh] at h; cases h
theorem checkE_good {m : Mac} (h : checkE m = 0) : ∃ n r, Good m n r := by
  unfold checkE at h
  split at h
  · cases h
  rename_i h1
  split at h
  · cases h
  rename_i h2
  split at h
  · cases h
  rename_i h3
  split at h
  · cases h
  rename_i h4
  have hh := firstNZ_all h
  have e1 : headE m = false := eq_false_of_ne_true h1
  unfold headE at e1
  simp only [Bool.or_eq_false_iff, Bool.not_eq_false'] at e1
  obtain ⟨⟨⟨a1, a2⟩, a3⟩, a4⟩ := e1
  rw [inB_iff] at a1 a2 a3 a4
  obtain ⟨n, hn⟩ : ∃ n : Nat, m.n = n := ⟨m.n.toNat, by omega⟩
  obtain ⟨r, hr⟩ : ∃ r : Nat, m.rounds = r := ⟨m.rounds.toNat, by omega⟩
  have e2 : shapedB m = true := by simpa using h2
  unfold shapedB at e2
  split at e2
  · cases e2
  rename_i b1
  split at e2
  · cases e2
  rename_i b2
  split at e2
  · cases e2
  rename_i b3
  have b2' := (anyLt_eq_false _ _).1 (eq_false_of_ne_true b2)
  have b3' := (anyLt_eq_false _ _).1 (eq_false_of_ne_true b3)
  have b4' := not_anyLt e2
  have fl : m.first.length = n := by omega
  have ol : m.out.length = r + 1 := by omega
  have yl : m.syms.length = r := by omega
  have ok : ∀ k, k < r + 1 → (m.out.getD k []).length = n := fun k hk => by
    have := b3' k (by omega)
    simp only [ne_eq, decide_eq_false_iff_not, Decidable.not_not] at this
    omega
  have yk : ∀ k, k < r → (m.syms.getD k []).length = n := fun k hk => by
    have := b4' k (by omega)
    unfold roundB at this
    simp only [Bool.or_eq_false_iff, ne_eq, decide_eq_false_iff_not, Decidable.not_not] at this
    omega
  have ys : ∀ k, k < r → ∀ p, p < n → sendB m.n (m.out.getD k []) (m.syms.getD k []) p = false := fun k hk p hp => by
    have := b4' k (by omega)
    unfold roundB at this
    simp only [Bool.or_eq_false_iff] at this
    exact (anyLt_eq_false _ _).1 this.2 p (by rw [yk k hk]; exact hp)
  have yp : ∀ k p, k < r → p < n → ((m.syms.getD k []).getD p []).length = n := fun k p hk hp => by
    have := ys k hk p hp
    unfold sendB at this
    simp only [Bool.or_eq_false_iff, ne_eq, decide_eq_false_iff_not, Decidable.not_not] at this
    omega
  have e4 : rangedB m = true := by simpa using h4
  unfold rangedB at e4
  split at e4
  · cases e4
  rename_i c1
  split at e4
  · cases e4
  rename_i c2
  have c1' := (anyLt_eq_false _ _).1 (eq_false_of_ne_true c1)
  have c2' := (anyLt_eq_false _ _).1 (eq_false_of_ne_true c2)
  have c3' := not_anyLt e4
  have hst : ∀ i, i < m.steps.length → stepE m (m.steps.getD i default) = 0 ∧ ¬ (0 < i ∧ 0 ≤ orderI (m.steps.getD (i - 1) default) (m.steps.getD i default)) := fun i hi => by
    have := hh i hi
    unfold stepsE at this
    split at this
    · rename_i q; exact absurd this q
    · rename_i q
      split at this
      · cases this
      · rename_i q2; exact ⟨by simpa using q, q2⟩
  refine ⟨n, r, ⟨hn, by omega, by omega, hr, by omega, a3, a4, fl, fun p hp => ?_, ol, ok, yl, yk, yp, fun k p q hk hp hq => ?_, fun p v hp hv => ?_, fun k p s hk hp hs => ?_, fun k p q s hk hp hq hs => ?_, fun i hi => ?_, by omega, fun i j hi hj hij => ?_⟩⟩
  · have := b2' p (by omega)
    simpa only [ne_eq, decide_eq_false_iff_not, Decidable.not_not] using this
  · have := ys k hk p hp
    unfold sendB at this
    simp only [Bool.or_eq_false_iff] at this
    have := (anyLt_eq_false _ _).1 this.2 q (by rw [yp k p hk hp]; exact hq)
    simpa only [ne_eq, decide_eq_false_iff_not, Decidable.not_not] using this
  · have := c1' p (by omega)
    have := allB_iff (by simpa only [Bool.not_eq_false'] using this) v hv
    omega
  · have := c2' k (by omega)
    have := (anyLt_eq_false _ _).1 this p (by rw [ok k hk]; exact hp)
    have := allB_iff (by simpa only [Bool.not_eq_false'] using this) s hs
    omega
  · have := c3' k (by omega)
    have := (anyLt_eq_false _ _).1 this p (by rw [yk k hk]; exact hp)
    have := (anyLt_eq_false _ _).1 this q (by rw [yp k p hk hp]; exact hq)
    have := allB_iff (by simpa only [Bool.not_eq_false'] using this) s hs
    omega
  · have := (hst i hi).1
    unfold stepE at this
    split at this
    · cases this
    · rename_i q
      have q1 : headBad m (m.steps.getD i default) = false := eq_false_of_ne_true q
      unfold headBad at q1
      simp only [Bool.or_eq_false_iff, Bool.not_eq_false'] at q1
      obtain ⟨⟨q2, q3⟩, q4⟩ := q1
      rw [inB_iff] at q2 q3 q4
      omega
  · have h5 := steps_lt (l := m.steps) (fun i h1 h2 => by have := (hst i h2).2; omega) (j - i - 1) i (by omega)
    rw [show i + (j - i - 1) + 1 = j by omega, getD_lt default hi, getD_lt default hj, orderI_eq] at h5
    intro e
    have e' : m.steps[i].rd :: m.steps[i].pr :: m.steps[i].heard = m.steps[j].rd :: m.steps[j].pr :: m.steps[j].heard := by
      unfold St.pl at e
      injection e with e1 e2 e3 e4 e5 e6 e7
      unfold St.heard
      rw [e1, e2, e3, e4, e5, e6, e7]
    rw [e', ordV_self] at h5
    omega

/-! ### states that a machine can be in -/
def Fits (m : Mac) (n k : Nat) (now : List Int) : Prop := now.length = n ∧ ∀ p, p < n → 0 ≤ now.getD p 0 ∧ now.getD p 0 < (((m.out.getD k []).getD p []).length : Int)
theorem stepTo_fits {m : Mac} {n r : Nat} (g : Good m n r) {x : Pl} {t : Int} {k p : Nat} (hk : x.rd = k) (hp : x.pr = p) (h : stepTo m x = some t) : 0 ≤ t ∧ t < (((m.out.getD (k + 1) []).getD p []).length : Int) := by
  unfold stepTo at h
  rw [Option.map_eq_some_iff] at h
  obtain ⟨s, hs, rfl⟩ := h
  have h1 := List.find?_some hs
  have h2 := List.mem_of_find?_eq_some hs
  obtain ⟨i, hi, rfl⟩ := List.getElem_of_mem h2
  have h3 := g.st i hi
  rw [getD_lt default hi] at h3
  simp only [decide_eq_true_eq] at h1
  rw [h1] at hk hp
  have e1 : m.steps[i].rd = k := hk
  have e2 : m.steps[i].pr = p := hp
  rw [e1, e2] at h3
  unfold outN at h3
  rw [show ((k : Int) + 1).toNat = k + 1 by omega, Int.toNat_natCast] at h3
  exact ⟨h3.2.2.2.2.1, h3.2.2.2.2.2⟩
theorem nextS_fits {m : Mac} {n r k : Nat} (g : Good m n r) {now x : List Int} {rd : Rd} (h : nextS m k now rd = some x) : Fits m n (k + 1) x := by
  unfold nextS at h
  split at h
  · cases h
  rename_i h1
  cases h
  have h1' := (anyLt_eq_false _ _).1 (eq_false_of_ne_true h1)
  have e : m.n.toNat = n := by rw [g.hn]; simp
  rw [e] at h1'
  refine ⟨by simp [e], fun p hp => ?_⟩
  have h2 := h1' p hp
  obtain ⟨t, ht⟩ : ∃ t, nextP m k now rd p = some t := by
    cases hh : nextP m k now rd p with
    | none => rw [hh] at h2; cases h2
    | some t => exact ⟨t, rfl⟩
  have e2 : ((List.range m.n.toNat).map fun p => (nextP m k now rd p).getD 0).getD p 0 = t := by
    simp [e, hp, ht]
  rw [e2]
  unfold nextP at ht
  exact stepTo_fits g (by rfl) (by rfl) ht
theorem firstS_fits {m : Mac} {n r : Nat} (g : Good m n r) {inputs : List Int} (hl : inputs.length = n) (hi : ∀ p, p < n → 0 ≤ inputs.getD p 0 ∧ inputs.getD p 0 < m.ins) (h : (firstS m inputs).contains (-1) = false) : Fits m n 0 (firstS m inputs) := by
  have e : m.n.toNat = n := by rw [g.hn]; simp
  refine ⟨by simp [firstS, e], fun p hp => ?_⟩
  have e2 : (firstS m inputs).getD p 0 = (m.first.getD p []).getD (inputs.getD p 0).toNat 0 := by
    simp [firstS, e, hp]
  have h1 := hi p hp
  have h2 := g.fp p hp
  have h3 := g.fr p (inputs.getD p 0).toNat hp (by omega)
  have h4 : (firstS m inputs).getD p 0 ≠ -1 := by
    intro hh
    have hlt : p < (firstS m inputs).length := by simp [firstS, e, hp]
    rw [getD_lt 0 hlt] at hh
    have : (firstS m inputs).contains (-1) = true := by
      rw [List.contains_iff_mem, ← hh]
      exact List.getElem_mem hlt
    rw [h] at this; cases this
  rw [e2] at h4 ⊢
  omega
theorem wordE_hear {n : Nat} {l : List Rd} (h : wordE n l = 0) {k : Nat} (hk : k < l.length) : roundE (l.getD k default) = 0 ∧ (l.getD k default).g.n = n := by
  unfold wordE at h
  split at h
  · cases h
  split at h
  · cases h
  have := firstNZ_all h k hk
  unfold wordRE at this
  split at this
  · rename_i q; exact absurd this q
  rename_i q
  split at this
  · cases this
  rename_i q2
  exact ⟨by simpa using q, by simpa using q2⟩
end Go.Proofs.YtjmejfgkogjpaaaGreat

namespace Go.Proofs.YtjmejfgkogjpaaaGreat
open Go.RowKit Go Go.Shelf
attribute [local go_sem] Oper.semAt_some

abbrev Rd.c (r : Rd) : Array Value := #[.int .i64 r.g.n, .int .i64 r.g.h0, .int .i64 r.g.h1, .int .i64 r.g.h2, .int .i64 r.g.h3, .int .i64 r.g.h4, .int .i64 r.f]
theorem roundE_ok {r : Rd} (h : roundE r = 0) : 0 ≤ r.f ∧ r.f < 32 := by
  unfold roundE at h
  split at h
  · rename_i h1; exact absurd h h1
  · exact pset_ok h
theorem cell_results (tmps : Array Value) (f : Func) (s : Nat) (hf : f.results = #[.cell s 45]) (B : Nat) (W : World) (x : Int) (ty : TypeId) (h1 : tmps[s]?.getD undef = .pointer (some ⟨B, 0, none⟩)) (hb : W.heap[B]? = some (.cells #[.int .i64 x] ty)) :
    (results f tmps).run Tryz.prog W = .ok (.int .i64 x) W := by
  have c := cell_block hb 0
  simp at c
  simp [results, hf, go_sem, h1, c]

set_option maxHeartbeats 400000 in
theorem number_any (n : Int) (w : World) :
    Calls Tryz.prog 78 #[.int .i64 n] w fun e w' => e = .returned (.int .i64 (if n < 1 ∨ 5 < n then 1 else 0)) ∧ w = w' := by
  go_enter Tryz.func78, Tryz.ntmps78
  go_wp2
  all_goals
    go_ret
    refine ⟨ret_int ?_, rfl⟩
    go_light
    grind

set_option maxHeartbeats 400000 in
theorem pairs_any (p : Option Addr) (len cap : Nat) (w : World) :
    Calls Tryz.prog 79 #[.slice p len cap] w fun e w' => e = .returned (.func (.func 108) #[] #[.pointer (some ⟨w.heap.size, 0, none⟩)]) ∧ w' = w.alloc (.cells #[.slice p len cap] 37) := by
  go_enter Tryz.func79, Tryz.ntmps79
  go_wp2
  go_ret
  exact ⟨rfl, rfl⟩

def encW (l : List Rd) (i : Nat) : Array Value := #[.int .i64 (beforeF l i), (l.getD i default).v]
theorem beforeF_succ {l : List Rd} {k : Nat} (h : k < l.length) : beforeF l (k + 1) = l[k].f := by
  unfold beforeF
  rw [if_neg (by omega), show k + 1 - 1 = k by omega, getD_of_lt default h]

set_option maxHeartbeats 2000000 in
theorem pairs1_seq (wd : World) (v : Value) (l : List Rd) (hv : IsWord wd v l) (w : World) (hb : Below wd.heap.size wd w) (Bx : Nat) (hx : w.cell? ⟨Bx, 0, none⟩ = some v) :
    SeqOwn Tryz.prog 108 #[.pointer (some ⟨Bx, 0, none⟩)] (fun i args => args = encW l i) l.length (fun k => k < wd.heap.size) w := by
  intro yl J Jx W hW hyl hJ hJx hY h0
  have hx1 := cell_up hW hx
  have hk0 : Keep wd.heap.size wd W := (Keep.of_below hb).trans (fun k hk => hW.block k (Nat.lt_of_lt_of_le hk hb.size))
  have hwdW : wd.heap.size ≤ W.heap.size := Nat.le_trans hb.size hW.size
  obtain ⟨pa, ca, rfl, la1, la2, ea⟩ := hv.at
  clear hv hx hW hb
  have EA := Lib.hid ea; clear ea
  have HJ := Lib.hid hJ; clear hJ
  have HJX := Lib.hid hJx; clear hJx
  have HY := Lib.hid hY; clear hY
  refine (callsIn_wide (n := 0)).1 ?_
  refine callsIn_of_wp Tryz.func108 rfl trivial ?_ rfl
  simp only [Tryz.ntmps108, List.size_toArray, List.length_cons, List.length_nil, Nat.reduceAdd, Nat.reduceSub, Array.replicate_succ, Array.replicate_zero, List.push_toArray, List.append_toArray, List.nil_append, List.cons_append]
  gi_wp2
  gi_loopw [3, 8] (fun b i wr => ∃ k : Nat, k ≤ l.length ∧ b = .int .i64 (beforeF l k) ∧ i = .int .i64 k ∧ Keep wd.heap.size wd wr ∧ W.heap.size ≤ wr.heap.size ∧ J k wr) (fun _ i _ => l.length - (intOf i).toNat)
  case atStart => exact ⟨0, by omega, rfl, rfl, hk0, Nat.le_refl _, h0⟩
  case round =>
    obtain ⟨k, hk, rfl, rfl, hkr, hsz, hj⟩ := hrel
    have HKR := Lib.hid hkr; clear hkr
    have HJR := Lib.hid hj; clear hj
    by_cases hlt : k < l.length
    · obtain ⟨b1, o1, rfl, ⟨c0, _⟩, ⟨c1, _⟩, ⟨c2, _⟩, ⟨c3, _⟩, ⟨c4, _⟩, ⟨c5, _⟩, ⟨c6, _⟩⟩ := EA.out k hlt
      have d0 := HKR.out.cell c0
      have d1 := HKR.out.cell c1
      have d2 := HKR.out.cell c2
      have d3 := HKR.out.cell c3
      have d4 := HKR.out.cell c4
      have d5 := HKR.out.cell c5
      have d6 := HKR.out.cell c6
      clear c0 c1 c2 c3 c4 c5 c6
      have hg := getD_of_lt default hlt
      have HBS := Lib.hid (beforeF_succ hlt)
      generalize l[k] = r at d0 d1 d2 d3 d4 d5 d6 hg HBS
      have hsz1 : W.heap.size ≤ (wr.alloc (.cells r.c 64)).heap.size := by simp; omega
      obtain ⟨fn, tmps, assign, body, hy, hR⟩ := HY.out k (wr.alloc (.cells r.c 64)) _ hlt rfl hsz1 (HJ.out _ _ _ HJR.out ((Below.refl _ _).alloc hsz _))
      unfold encW at hy
      rw [hg] at hy
      have HR := Lib.hid hR; clear hR hg
      generalize beforeF l k = bf at hy
      gi_wp2
      refine ⟨rfl, HR.out.mono ?_⟩
      rintro e W3 ⟨hown, hend⟩
      have hB3 : W3.heap[wr.heap.size]? = some (.cells r.c 64) := (hown.2 _ (.inr hsz) (by simp)).trans (alloc_new _ _)
      have hz3 : W.heap.size ≤ W3.heap.size := Nat.le_trans hsz1 hown.1
      have HK3 : Hid (Keep wd.heap.size wd W3) := by
        (have h : Keep wd.heap.size wd W3 := Keep.trans (HKR.out.alloc _) (fun j hj => hown.2 j (.inl hj) (by omega))); exact h
      have t1 := cell_block hB3
      clear hown hB3 d0 d1 d2 d3 d4 d5 d6
      rcases hend with ⟨rfl, hJ3⟩ | ⟨rfl, hJx3⟩
      · have HJ3 := Lib.hid hJ3; clear hJ3
        gi_wp2
        go_roundw
        case rel => exact ⟨k + 1, by omega, by rw [HBS.out], by go_num, HK3.out, hz3, HJ3.out⟩
        case measure => simp [intOf]; omega
      · gi_wp2
        refine bodyPost_ret (results_none rfl _ _ _) rfl ?_
        exact ⟨⟨_, rfl⟩, .inr ⟨_, by omega, hJx3⟩⟩
    · obtain rfl : k = l.length := by omega
      gi_wp2
      go_end0
      exact ⟨⟨_, rfl⟩, .inl HJR.out⟩

set_option maxRecDepth 100000 in
set_option maxHeartbeats 4000000 in
theorem word_any (n : Int) (v : Value) (l : List Rd) (w : World) (hv : IsWord w v l) :
    Calls Tryz.prog 42 #[.int .i64 n, v] w fun e w' => e = .returned (.int .i64 (wordE n l)) ∧ Below w.heap.size w w' := by
  have G := Lib.hid hv
  obtain ⟨pa, ca, rfl, la1, la2, _⟩ := hv.at
  clear hv
  have HV : Hid (wordE n l = if n < 1 ∨ 5 < n then 1 else if 1024 < l.length then 5 else firstNZ l.length (wordRE n l)) := by exact rfl
  refine calls_marks Tryz.func42 rfl ?_
  simp only [Tryz.ntmps42, List.size_toArray, List.length_cons, List.length_nil, Nat.reduceAdd, Nat.reduceSub, Array.replicate_succ, Array.replicate_zero, List.push_toArray, List.append_toArray, List.nil_append, List.cons_append]
  go_wp2_with fail
  refine (number_any _ _).mono ?_
  rintro e w1 ⟨rfl, rfl⟩
  by_cases hn : n < 1 ∨ 5 < n
  · have HV1 : Hid (wordE n l = 1) := by (have h : wordE n l = 1 := by (rw [HV.out, if_pos hn])); exact h
    rw [if_pos hn]
    go_wp2_with fail
    refine marks_ret0 (cell_results _ _ 4 rfl (w.heap.size + 1) _ 1 45 rfl (alloc2_new _ _ _)) ?_
    exact ⟨ret_int HV1.out.symm, by go_grown⟩
  rw [if_neg hn]
  by_cases hl : 1024 < l.length
  · have HV1 : Hid (wordE n l = 5) := by (have h : wordE n l = 5 := by (rw [HV.out, if_neg hn, if_pos hl])); exact h
    go_wp2_with fail
    refine marks_ret0 (cell_results _ _ 4 rfl (w.heap.size + 1) _ 5 45 rfl (alloc2_new _ _ _)) ?_
    exact ⟨ret_int HV1.out.symm, by go_grown⟩
  have HV1 : Hid (wordE n l = firstNZ l.length (wordRE n l)) := by (have h : wordE n l = firstNZ l.length (wordRE n l) := by (rw [HV.out, if_neg hn, if_neg hl])); exact h
  clear HV hn
  go_wp2_with fail
  refine (pairs_any _ _ _ _).mono ?_
  rintro e w1 ⟨rfl, rfl⟩
  go_wp2_with fail
  refine wp_gen (fun W => Below w.heap.size w W ∧ W.heap[w.heap.size]? = some (.cells #[.int .i64 n] 3) ∧ W.heap[w.heap.size + 1]? = some (.cells #[.int .i64 0] 45) ∧ W.heap[w.heap.size + 1 + 1]? = some (.cells #[.slice pa l.length ca] 37))
    ⟨by go_grown, alloc_old _ (alloc_old _ (alloc_new _ _)), alloc_old _ (alloc2_new _ _ _), alloc3_new _ _ _ _⟩ (fun W0 hW0 => ?_)
  obtain ⟨hb0, hN, hR0, hX⟩ := hW0
  have hseq := pairs1_seq w _ l G.out W0 hb0 (w.heap.size + 1 + 1) (by simp [cell_block hX])
  have hsz := block_lt hX
  refine wp_rangeOwn (gf := 108) (lb := #[.pointer (some ⟨w.heap.size + 1 + 1, 0, none⟩)]) rfl (enters_of Tryz.func108 (by kernel_rfl) rfl) hseq (Below.refl _ _) (fun k hk => Nat.lt_of_lt_of_le hk hb0.size) (fun i args h => by rw [h]; rfl)
    (fun i W => Below w.heap.size w W ∧ W.heap[w.heap.size]? = some (.cells #[.int .i64 n] 3) ∧ W.heap[w.heap.size + 1]? = some (.cells #[.int .i64 0] 45) ∧ ∀ j, j < i → wordRE n l j = 0)
    (fun c _ W => c = .ret ∧ Below w.heap.size w W ∧ W.heap[w.heap.size + 1]? = some (.cells #[.int .i64 (wordE n l)] 45))
    (fun i A A' h hb => ⟨h.1.trans (hb.mono (by omega)), (hb.block _ (by omega)).trans h.2.1, (hb.block _ (by omega)).trans h.2.2.1, h.2.2.2⟩)
    (fun c i A A' h hb => ⟨h.1, h.2.1.trans (hb.mono (by omega)), (hb.block _ (by omega)).trans h.2.2⟩) ⟨hb0, hN, hR0, fun j hj => by omega⟩ ?round ?done ?stop
  case round =>
    rintro yl q W args hq hl2 hlw rfl hI
    unfold encW
    have HRE : Hid (wordRE n l q = if roundE (l.getD q default) ≠ 0 then roundE (l.getD q default) else if (l.getD q default).g.n ≠ n then 22 else if !insideB (beforeF l q) (l.getD q default).f then 14 else 0) := by exact rfl
    have hbf : 0 ≤ beforeF l q ∧ beforeF l q < 32 := by
      unfold beforeF
      split
      · omega
      · have h1 := hI.2.2.2 (q - 1) (by omega)
        unfold wordRE at h1
        split at h1
        · rename_i h2; exact absurd h1 h2
        · rename_i h2; exact roundE_ok (by simpa using h2)
    generalize l.getD q default = r at HRE
    generalize beforeF l q = bf at HRE hbf
    have HI := Lib.hid hI; clear hI hseq
    gi_wp2
    refine ⟨Bod.of_below (fun k hk => hk.2) (by go_grown), fun W' => Below w.heap.size w W' ∧ W'.heap[w.heap.size]? = some (.cells #[.int .i64 n] 3) ∧ W'.heap[w.heap.size + 1]? = some (.cells #[.int .i64 0] 45) ∧ W'.heap[W.heap.size]? = some (.cells r.c 64), (Sta.below (w := w) (by omega)).and (Sta.cells.and (Sta.cells.and Sta.cells)), ⟨HI.out.1.alloc HI.out.1.size _, alloc_old _ HI.out.2.1, alloc_old _ HI.out.2.2.1, alloc_new _ _⟩, fun W2 h2 _ => ?_⟩
    obtain ⟨g1, g2, g3, g4⟩ := h2
    have t4 := cell_block g4
    have HG := Lib.hid (And.intro g1 (And.intro g2 (And.intro g3 g4)))
    have HINV := Lib.hid HI.out.2.2.2
    have hsW := block_lt g4
    clear g1 g2 g3 g4 HI hN hR0 hX
    gi_wp2
    refine ⟨trivial, rfl, callsIn_round ((roundCheck_any r _).mono ?_)⟩
    rintro e w3 ⟨rfl, hb3⟩
    have g1 := ext_trans HG.out.1 hb3
    have g2 := block_up hb3 HG.out.2.1
    have g3 := block_up hb3 HG.out.2.2.1
    have g4 := block_up hb3 HG.out.2.2.2
    have hs3 := hb3.size
    have HB3 : Hid (Bod W0.heap.size (fun k => (k < w.heap.size ∨ W0.heap.size + 2 ≤ k) ∧ k < W.heap.size) W2 w3) := by
      (have h : Bod W0.heap.size (fun k => (k < w.heap.size ∨ W0.heap.size + 2 ≤ k) ∧ k < W.heap.size) W2 w3 := Bod.of_below (fun k hk => by have := hk.2; omega) hb3); exact h
    have HERR : Hid (∀ x : Int, x = wordRE n l q → x ≠ 0 → Bod W0.heap.size (fun k => (k < w.heap.size ∨ W0.heap.size + 2 ≤ k) ∧ k < W.heap.size) W2 (w3.setCell ⟨w.heap.size + 1, 0, none⟩ (.int .i64 x)) ∧ (Below w.heap.size w (w3.setCell ⟨w.heap.size + 1, 0, none⟩ (.int .i64 x)) ∧ (w3.setCell ⟨w.heap.size + 1, 0, none⟩ (.int .i64 x)).heap[w.heap.size + 1]? = some (.cells #[.int .i64 (wordE n l)] 45))) := by
      have h : ∀ x : Int, x = wordRE n l q → x ≠ 0 → Bod W0.heap.size (fun k => (k < w.heap.size ∨ W0.heap.size + 2 ≤ k) ∧ k < W.heap.size) W2 (w3.setCell ⟨w.heap.size + 1, 0, none⟩ (.int .i64 x)) ∧ (Below w.heap.size w (w3.setCell ⟨w.heap.size + 1, 0, none⟩ (.int .i64 x)) ∧ (w3.setCell ⟨w.heap.size + 1, 0, none⟩ (.int .i64 x)).heap[w.heap.size + 1]? = some (.cells #[.int .i64 (wordE n l)] 45)) := by
        intro x hx hx0
        refine ⟨HB3.out.trans (Bod.setCell _ ⟨w.heap.size + 1, 0, none⟩ _ (fun h => by dsimp only at h; omega)), g1.setCell (p := ⟨w.heap.size + 1, 0, none⟩) (by dsimp only; omega) _, ?_⟩
        rw [setCell_same g3, HV1.out, ← firstNZ_hit q x hq HINV.out hx.symm hx0]; rfl
      exact h
    have c2 := cell_block g2 0
    have c3 := cell_block g3 0
    have f3 := frozen_block g3 0
    simp at c2 c3
    clear t4
    have t4 := cell_block g4
    have HG3 := Lib.hid (And.intro g1 (And.intro g2 (And.intro g3 g4)))
    clear g1 g2 g3 g4 HG hb3
    by_cases h1 : roundE r = 0
    case neg =>
      have h1' : (roundE r != 0) = true := by simpa using h1
      gi_wp2
      have hh := HERR.out _ (by rw [HRE.out, if_pos h1]) h1
      exact ⟨hh.1, rfl, hh.2⟩
    have hok := roundE_ok h1
    rw [h1]
    by_cases h2 : r.g.n = n
    case neg =>
      have h2' : (r.g.n != n) = true := by simpa using h2
      have HE : Hid (22 = wordRE n l q) := by (have h : 22 = wordRE n l q := by (rw [HRE.out, if_neg (by simpa using h1), if_pos h2])); exact h
      gi_wp2
      have hh := HERR.out _ HE.out (by decide)
      exact ⟨hh.1, rfl, hh.2⟩
    have h2' : (r.g.n != n) = false := by simpa using h2
    have HE : Hid (wordRE n l q = if !insideB bf r.f then 14 else 0) := by (have h : wordRE n l q = if !insideB bf r.f then 14 else 0 := by (rw [HRE.out, if_neg (by simpa using h1), if_neg (by simpa using h2)])); exact h
    have hbit := andNot_inside bf r.f hbf.1 hbf.2 hok.1 hok.2
    clear h1 h2 HRE
    cases hin : insideB bf r.f with
    | false =>
      rw [hin] at hbit
      have HE2 : Hid (14 = wordRE n l q) := by (have h : 14 = wordRE n l q := by (rw [HE.out, hin]; rfl)); exact h
      clear hin
      gi_wp2
      have hh := HERR.out _ HE2.out (by decide)
      exact ⟨hh.1, rfl, hh.2⟩
    | true =>
      rw [hin] at hbit
      have HE2 : Hid (wordRE n l q = 0) := by (have h : wordRE n l q = 0 := by (rw [HE.out, hin]; rfl)); exact h
      clear hin
      gi_wp2
      exact ⟨HB3.out, HG3.out.1, HG3.out.2.1, HG3.out.2.2.1, below_succ HINV.out HE2.out⟩
  case done =>
    intro D W hD hI hK
    obtain ⟨g1, g2, g3, g4⟩ := hI
    have HG := Lib.hid (And.intro g1 (And.intro g2 (And.intro g3 g4)))
    have c3 := cell_block g3 0
    have f3 := frozen_block g3 0
    simp at c3
    clear g1 g2 g3 g4 hseq hN hR0 hX
    go_wp2_with fail
    refine marks_ret (setCell_other (B := w.heap.size + 1) hK (by omega) _ _) (cell_results _ _ 4 rfl (w.heap.size + 1) _ 0 45 rfl ((World.putObj_heap_other (by omega)).trans (by rw [setCell_same HG.out.2.2.1]; rfl))) ?_
    exact ⟨ret_int (by rw [HV1.out, firstNZ_zero _ _ HG.out.2.2.2]), below_put (by omega) (HG.out.1.setCell (p := ⟨w.heap.size + 1, 0, none⟩) (by dsimp only; omega) _)⟩
  case stop =>
    rintro D c i W hD hi ⟨rfl, g1, g2⟩ hK
    have HG := Lib.hid (And.intro g1 g2)
    clear g1 g2 hseq hN hR0 hX
    go_wp2_with fail
    refine marks_ret hK (cell_results _ _ 4 rfl (w.heap.size + 1) _ (wordE n l) 45 rfl ((World.putObj_heap_other (by omega)).trans HG.out.2)) ?_
    exact ⟨rfl, below_put (by omega) HG.out.1⟩
end Go.Proofs.YtjmejfgkogjpaaaGreat

namespace Go.Proofs.YtjmejfgkogjpaaaGreat
open Go.RowKit Go Go.Shelf

/-- T' has what T has, and else new blocks alone. -/
def Wid (A A' : World) (T T' : Nat → Prop) : Prop := (∀ k, T k → T' k) ∧ ∀ k, T' k → T k ∨ (A.heap.size ≤ k ∧ k < A'.heap.size)
theorem Wid.refl (A A' : World) (T : Nat → Prop) : Wid A A' T T := ⟨fun _ h => h, fun _ h => .inl h⟩

/-- An iterator value: called, it hands out rounds 0, .., N-1 in turn (E tells of the arguments), till a round says 'no more'. It leans on the blocks of T, at first those of S; between two rounds it makes memory, which T may take in, and turns nothing that lay there. -/
def SeqMk (P : Program) (g : Nat) (lb : Array Value) (E : Nat → Array Value → (Nat → Prop) → World → Prop) (N : Nat) (S : Nat → Prop) (w : World) : Prop :=
  ∀ (l : Nat) (J Jx : Nat → (Nat → Prop) → World → Prop) (W : World), Below w.heap.size w W → l < W.heap.size →
    (∀ i T T' A A', J i T A → Below A.heap.size A A' → Wid A A' T T' → J i T' A') → (∀ i T T' A A', Jx i T A → Below A.heap.size A A' → Wid A A' T T' → Jx i T' A') →
    (∀ i T W1 args, i < N → E i args T W1 → J i T W1 → YieldAt Fence.wide 0 P l args W1 fun e W' =>
      W1.heap.size ≤ W'.heap.size ∧ (∀ k, T k → W'.heap[k]? = W1.heap[k]?) ∧ ((e = .returned (.bool true) ∧ J (i + 1) T W') ∨ (e = .returned (.bool false) ∧ Jx (i + 1) T W'))) →
    J 0 S W →
    Calls P g (#[.func (.yield l) #[] #[]] ++ lb) W fun e W' => (∃ v, e = .returned v) ∧ ∃ T, J N T W' ∨ ∃ i, i ≤ N ∧ Jx i T W'

/-- An iterator that makes nothing to lean on. -/
theorem SeqIx.mk {P : Program} {g : Nat} {lb : Array Value} {encs : Nat → Array Value} {N : Nat} {S : Nat → Prop} {w : World} (h : SeqIx P g lb encs N S w) : SeqMk P g lb (fun i args _ _ => args = encs i) N S w := by
  intro l J Jx W hW _ hJ hJx hY h0
  refine (h l (fun i => J i S) (fun i => Jx i S) W hW (fun i A A' hj hb => hJ i S S A A' hj hb (Wid.refl _ _ _)) (fun i A A' hj hb => hJx i S S A A' hj hb (Wid.refl _ _ _)) (fun i W1 hi hj => ?_) h0).mono ?_
  · obtain ⟨fn, tmps, assign, body, hy, hR⟩ := hY i S W1 _ hi rfl hj
    refine ⟨fn, tmps, assign, body, hy, hR.mono ?_⟩
    rintro e W' ⟨h1, h2, h3⟩
    rcases h3 with ⟨rfl, h3⟩ | ⟨rfl, h3⟩
    · exact .inl ⟨rfl, h3, h1, h2⟩
    · exact .inr ⟨rfl, h3⟩
  · rintro e W' ⟨h1, h2⟩
    exact ⟨h1, S, h2⟩

/-- 'for .. := range g { .. }' in a function's own body, over such an iterator. -/
theorem wp_rangeMk {P : Program} {g : Operand} {ps : Array Tmp} {assign body : Code} {Q : Exit → Act → World → Prop} {a : Act} {w : World}
    {gf : Nat} {lb : Array Value} (hg : a.eval g = .func (.func gf) #[] lb) (eg : ∀ args w, (callFunc gf args).run P w = .ok (.enter gf args) w)
    {E : Nat → Array Value → (Nat → Prop) → World → Prop} {N : Nat} {S : Nat → Prop} {w0 : World} (hseq : SeqMk P gf lb E N S w0) (hb0 : Below w0.heap.size w0 w) (hS : ∀ k, S k → k < w.heap.size) (hps : ∀ i args T W, E i args T W → args.size = ps.size)
    (I : Nat → (Nat → Prop) → World → Prop) (Ix : Code → Nat → (Nat → Prop) → World → Prop)
    (hI : ∀ i T T' A A', I i T A → Chg w.heap.size A A' → Wid A A' T T' → I i T' A') (hIx : ∀ c i T T' A A', Ix c i T A → Chg w.heap.size A A' → Wid A A' T T' → Ix c i T' A') (h0 : I 0 S w)
    (hround : ∀ l i T W args, i < N → w.heap.size < l → l < W.heap.size → ¬ T l → E i args T W → I i T W →
      assign.wpIn (Fence.wide.inRound l) 0 P (Exit.then (fun a1 W1 => Bod w.heap.size T W W1 ∧ ∃ Ax : World → Prop, Sta w.heap.size Ax ∧ Ax W1 ∧ ∀ W2, Ax W2 → (∃ r, W2.heap[l]? = some (.loop r)) → body.wpIn (Fence.wide.inRound l) 0 P (rpost w.heap.size T (fun i => I i T) (fun c i => Ix c i T) (i + 1) W2) a1 W2) (fun _ _ _ => False))
        { tmps := (ps.zip args).foldl (fun t (p, v) => t.setIfInBounds p v) a.tmps, defers := [] } W)
    (hdone : ∀ D T W, w.heap.size ≤ D → I N T W → W.heap[D]? = some (.deferred (some [])) → Q .normal { a with defers := markOf D :: a.defers } W)
    (hstop : ∀ D c i T W, w.heap.size ≤ D → i ≤ N → Ix c i T W → W.heap[D]? = some (.deferred (some [])) → c.wp P Q { a with defers := markOf D :: a.defers } W) :
    (Code.rangeFunc g ps assign body).wp P Q a w := by
  refine (wpIn_wide (n := 0)).1 (wpIn_rangeFunc ?_)
  intro fn _
  obtain ⟨rec, hrec⟩ : ∃ rec : Loop, rec = { state := .ready, pending := none, fn, tmps := a.tmps, params := ps, assign, body, defers := w.heap.size } := ⟨_, rfl⟩
  obtain ⟨W1, hW1⟩ : ∃ W1, (w.alloc (.deferred (some []))).alloc (.loop rec) = W1 := ⟨_, rfl⟩
  have hL1 : W1.heap[w.heap.size + 1]? = some (.loop rec) := by
    rw [← hW1]; have := alloc_new (w.alloc (.deferred (some []))) (.loop rec); rwa [World.size_alloc] at this
  have hK1 : W1.heap[w.heap.size]? = some (.deferred (some [])) := by rw [← hW1]; exact alloc_old _ (alloc_new w _)
  have hz1 : W1.heap.size = w.heap.size + 2 := by rw [← hW1]; simp
  have hwW1 : Below w.heap.size w W1 := by rw [← hW1]; exact ((Below.refl _ w).alloc (Nat.le_refl _) _).alloc (by simp) _
  have hS1 : ¬ S (w.heap.size + 1) := fun h => by have := hS _ h; omega
  refine ⟨w.heap.size + 1, [markOf w.heap.size], W1, { target := .fn (.func gf) lb, args := #[.func (.yield (w.heap.size + 1)) #[] #[]] }, W1, gf,
    #[.func (.yield (w.heap.size + 1)) #[] #[]] ++ lb, W1, ?_, ?_, fun _ _ => trivial, ?_, fun h => (by simp [Fence.wide] at h), ?_⟩
  · rw [← hW1, hrec]; exact run_enterLoop_outer _ _ _ _ _
  · simp only [resolve, hg]
    simp [go_sem]
  · simp [invoke, go_sem, eg]
  · refine (callsIn_wide (n := 0 - 1)).2 ?_
    refine (hseq (w.heap.size + 1)
      (fun i T W => I i T W ∧ W.heap[w.heap.size + 1]? = some (.loop rec) ∧ W.heap[w.heap.size]? = some (.deferred (some [])) ∧ ¬ T (w.heap.size + 1))
      (fun i T W => ∃ c, Ix c i T W ∧ W.heap[w.heap.size + 1]? = some (.loop { rec with state := .done, pending := some c }) ∧ W.heap[w.heap.size]? = some (.deferred (some [])))
      W1 (ext_trans hb0 hwW1) (by omega)
      (fun i T T' A A' h hb hw => ⟨hI i T T' A A' h.1 (.of_below hb) hw, block_up hb h.2.1, block_up hb h.2.2.1, fun ht => by
        rcases hw.2 _ ht with h1 | h1
        · exact h.2.2.2 h1
        · have := block_lt h.2.1; have := h1.1; omega⟩)
      (fun i T T' A A' h hb hw => by obtain ⟨c, h1, h2, h3⟩ := h; exact ⟨c, hIx c i T T' A A' h1 (.of_below hb) hw, block_up hb h2, block_up hb h3⟩)
      ?_ ⟨hI 0 S S _ _ h0 (.of_below hwW1) (Wid.refl _ _ _), hL1, hK1, hS1⟩).mono ?_
    · rintro i T W args hi hE ⟨hii, hl, hk, hT⟩
      refine round_of (B := w.heap.size) (S := T) (ps := ps) (assign := assign) (body := body) (tmps := a.tmps) (i := i) (I := fun i => I i T) (Ix := fun c i => Ix c i T) _ (by omega) hT (by rw [hrec]; simp) hl (hps i args T W hE) (hround _ i T W args hi (by omega) (block_lt hl) hT hE hii) ?_ ?_
      · intro W3 W4 _ hb4 hl4 hc hi3 hoth
        exact ⟨hb4.size, hb4.keep, .inl ⟨rfl, hI _ _ _ _ _ hi3 hc (Wid.refl _ _ _), hl4, hoth _ _ (Nat.le_refl _) (by omega) hk rfl, hT⟩⟩
      · intro c W3 W4 _ hb4 hl4 hc hi3 hoth
        exact ⟨hb4.size, hb4.keep, .inr ⟨rfl, c, hIx _ _ _ _ _ _ hi3 hc (Wid.refl _ _ _), hl4, hoth _ _ (Nat.le_refl _) (by omega) hk rfl⟩⟩
    · rintro e W2 ⟨⟨v, rfl⟩, T, (⟨hi, hl, hk, _⟩ | ⟨i, hin, c, hi, hl, hk⟩)⟩
      · exact ⟨none, _, by have := run_endLoop (P := P) hl (by rw [hrec]; simp); rw [this, hrec], hdone _ T _ (Nat.le_refl _) (hI _ _ _ _ _ hi (Chg.put _ hl (by omega) rfl) (Wid.refl _ _ _)) ((World.putObj_heap_other (by omega)).trans hk)⟩
      · exact ⟨some c, _, by have := run_endLoop (P := P) hl (by simp); rw [this], wpIn_wide.2 (hstop _ c i T _ (Nat.le_refl _) hin (hIx _ _ _ _ _ _ hi (Chg.put _ hl (by omega) rfl) (Wid.refl _ _ _)) ((World.putObj_heap_other (by omega)).trans hk))⟩

end Go.Proofs.YtjmejfgkogjpaaaGreat

namespace Go.Proofs.YtjmejfgkogjpaaaGreat
open Go.RowKit Go Go.Shelf
attribute [local go_sem] Oper.semAt_some

theorem placeAt_eq (n : Nat) (word : List Rd) (k p q : Nat) (hp : p < 5) (hq : q < 5) : placeAt n word (k * 25 + p * 5 + q) =
    if p < n ∧ q < n ∧ p ≠ q ∧ hasB ((word.getD k default).g.hear q) p = true then some (k, p, q) else none := by
  unfold placeAt
  rw [show (k * 25 + p * 5 + q) / 25 = k by omega, show (k * 25 + p * 5 + q) / 5 % 5 = p by omega, show (k * 25 + p * 5 + q) % 5 = q by omega]
theorem places_q (n : Nat) (word : List Rd) (k p : Nat) (hp : p < 5) (hn : n ≤ 5) : placesTo n word (k * 25 + p * 5 + n) = placesTo n word (k * 25 + (p + 1) * 5) := by
  unfold placesTo
  refine (filtR_skip (by omega) fun j h1 h2 => ?_).symm
  obtain ⟨q, rfl⟩ : ∃ q, j = k * 25 + p * 5 + q := ⟨j - (k * 25 + p * 5), by omega⟩
  rw [placeAt_eq n word k p q hp (by omega), if_neg (by omega)]
theorem places_p (n : Nat) (word : List Rd) (k : Nat) (hn : n ≤ 5) : placesTo n word (k * 25 + n * 5) = placesTo n word ((k + 1) * 25) := by
  unfold placesTo
  refine (filtR_skip (by omega) fun j h1 h2 => ?_).symm
  obtain ⟨p, q, hq, rfl⟩ : ∃ p q, q < 5 ∧ j = k * 25 + p * 5 + q := ⟨(j - k * 25) / 5, (j - k * 25) % 5, by omega, by omega⟩
  rw [placeAt_eq n word k p q (by omega) hq, if_neg (by omega)]
theorem places_skip {n : Nat} {word : List Rd} {k p q : Nat} (hp : p < 5) (hq : q < 5) (h : p = q ∨ hasB ((word.getD k default).g.hear q) p = false) : placesTo n word (k * 25 + p * 5 + (q + 1)) = placesTo n word (k * 25 + p * 5 + q) := by
  unfold placesTo
  rw [show k * 25 + p * 5 + (q + 1) = k * 25 + p * 5 + q + 1 by omega]
  refine filtR_none ?_
  rw [placeAt_eq n word k p q hp hq, if_neg]
  rintro ⟨_, _, h1, h2⟩
  rcases h with h | h
  · exact h1 h
  · rw [h] at h2; cases h2
theorem places_hit {n : Nat} {word : List Rd} {k p q : Nat} (hn : n ≤ 5) (hp : p < n) (hq : q < n) (hpq : p ≠ q) (h : hasB ((word.getD k default).g.hear q) p = true) :
    placesTo n word (k * 25 + p * 5 + (q + 1)) = placesTo n word (k * 25 + p * 5 + q) ++ [(k, p, q)] := by
  unfold placesTo
  rw [show k * 25 + p * 5 + (q + 1) = k * 25 + p * 5 + q + 1 by omega]
  refine filtR_some ?_
  rw [placeAt_eq n word k p q (by omega) (by omega), if_pos ⟨hp, hq, hpq, h⟩]
theorem places_at {n : Nat} {word : List Rd} {k p q : Nat} (hn : n ≤ 5) (hk : k < word.length) (hp : p < n) (hq : q < n) (hpq : p ≠ q) (h : hasB ((word.getD k default).g.hear q) p = true) :
    (placesL n word)[(placesTo n word (k * 25 + p * 5 + q)).length]? = some (k, p, q) := by
  unfold placesL placesTo
  refine filtR_at (by omega) ?_
  rw [placeAt_eq n word k p q (by omega) (by omega), if_pos ⟨hp, hq, hpq, h⟩]
theorem hear_cellR (r : Rd) (q : Nat) (hq : q < 5) (w : World) (B : Nat) (t : TypeId) (hw : w.heap[B]? = some (.cells r.c t)) : w.cell? ⟨B, 1 + q, none⟩ = some (.int .i64 (r.g.hear q)) := by
  have : q = 0 ∨ q = 1 ∨ q = 2 ∨ q = 3 ∨ q = 4 := by omega
  rcases this with h | h | h | h | h <;> subst h <;> simp [World.cell?, hw, Gr.hear]

set_option maxHeartbeats 400000 in
theorem places_any (n : Int) (p : Option Addr) (len cap : Nat) (w : World) :
    Calls Tryz.prog 56 #[.int .i64 n, .slice p len cap] w fun e w' => e = .returned (.func (.func 90) #[] #[.pointer (some ⟨w.heap.size + 1, 0, none⟩), .pointer (some ⟨w.heap.size, 0, none⟩)]) ∧ w' = (w.alloc (.cells #[.int .i64 n] 3)).alloc (.cells #[.slice p len cap] 37) := by
  go_enter Tryz.func56, Tryz.ntmps56
  go_wp2
  go_ret
  exact ⟨rfl, rfl⟩

def encP (x : Nat × Nat × Nat) : Array Value := #[.agg #[.int .i64 x.1, .int .i64 x.2.1, .int .i64 x.2.2, .string ⟨#[]⟩]]

/-- Between two rounds. -/
structure PI (wd : World) (By n : Nat) (J : Nat → (Nat → Prop) → World → Prop) (c : Nat) (T : Nat → Prop) (W : World) : Prop where
  sub : ∀ k, k < wd.heap.size ∨ k = By → T k
  keep : Keep wd.heap.size wd W
  nb : W.heap[By]? = some (.cells #[.int .i64 n] 3)
  j : J c T W
theorem PI.next {wd : World} {By n : Nat} {J : Nat → (Nat → Prop) → World → Prop} {c : Nat} {T : Nat → Prop} {W W' : World} (h : PI wd By n J c T W) (ho : ∀ k, T k → W'.heap[k]? = W.heap[k]?) (hj : J (c + 1) T W') : PI wd By n J (c + 1) T W' :=
  ⟨h.sub, h.keep.trans fun k hk => ho k (h.sub k (.inl hk)), (ho By (h.sub By (.inr rfl))).trans h.nb, hj⟩

set_option maxRecDepth 100000 in
set_option maxHeartbeats 4000000 in
theorem places1_seq (wd : World) (v : Value) (word : List Rd) (hv : IsWord wd v word) (n : Nat) (hn : n ≤ 5) (w : World) (hb : Below wd.heap.size wd w) (Bx By : Nat) (hx : w.cell? ⟨Bx, 0, none⟩ = some v) (hy : w.heap[By]? = some (.cells #[.int .i64 n] 3)) :
    SeqMk Tryz.prog 90 #[.pointer (some ⟨Bx, 0, none⟩), .pointer (some ⟨By, 0, none⟩)] (fun i args _ _ => args = encP ((placesL n word).getD i (0, 0, 0))) (placesL n word).length (fun k => k < wd.heap.size ∨ k = By) w := by
  intro yl J Jx W hW hyl hJ hJx hY h0
  have hx1 := cell_up hW hx
  have hk0 : Keep wd.heap.size wd W := (Keep.of_below hb).trans (fun k hk => hW.block k (Nat.lt_of_lt_of_le hk hb.size))
  have hy1 := block_up hW hy
  obtain ⟨pa, ca, rfl, la1, la2, ea⟩ := hv.at
  clear hv hx hW hb hy
  have EA := Lib.hid ea; clear ea
  have HJ := Lib.hid hJ; clear hJ
  have HJX := Lib.hid hJx; clear hJx
  have HY := Lib.hid hY; clear hY
  have HY1 := Lib.hid hy1; clear hy1
  refine (callsIn_wide (n := 0)).1 ?_
  refine callsIn_of_wp Tryz.func90 rfl trivial ?_ rfl
  simp only [Tryz.ntmps90, List.size_toArray, List.length_cons, List.length_nil, Nat.reduceAdd, Nat.reduceSub, Array.replicate_succ, Array.replicate_zero, List.push_toArray, List.append_toArray, List.nil_append, List.cons_append]
  gi_wp2
  gi_loopw [10] (fun i wr => ∃ k : Nat, k ≤ word.length ∧ i = .int .i64 k ∧ ∃ T, PI wd By n J (placesTo n word (k * 25)).length T wr) (fun i _ => word.length - (intOf i).toNat)
  case atStart => exact ⟨0, by omega, rfl, _, fun _ h => h, hk0, HY1.out, h0⟩
  case round =>
    obtain ⟨k, hk, rfl, T0, hpi⟩ := hrel
    have HPI := Lib.hid hpi; clear hpi
    by_cases hlt : k < word.length
    · obtain ⟨b1, o1, rfl, ⟨c0, _⟩, ⟨c1, _⟩, ⟨c2, _⟩, ⟨c3, _⟩, ⟨c4, _⟩, ⟨c5, _⟩, ⟨c6, _⟩⟩ := EA.out k hlt
      have d0 := HPI.out.keep.cell c0
      have d1 := HPI.out.keep.cell c1
      have d2 := HPI.out.keep.cell c2
      have d3 := HPI.out.keep.cell c3
      have d4 := HPI.out.keep.cell c4
      have d5 := HPI.out.keep.cell c5
      have d6 := HPI.out.keep.cell c6
      clear c0 c1 c2 c3 c4 c5 c6
      have HG := Lib.hid (getD_of_lt default hlt)
      generalize word[k] = r at d0 d1 d2 d3 d4 d5 d6 HG
      have cn := cell_block HPI.out.nb 0
      simp at cn
      have hby := block_lt HPI.out.nb
      gi_wp2
      clear d0 d1 d2 d3 d4 d5 d6 cn
      have hA : Below wr.heap.size wr (wr.alloc (.cells r.c 64)) := by go_grown
      have HP1 : Hid (PI wd By n J (placesTo n word (k * 25)).length (fun x => T0 x ∨ x = wr.heap.size) (wr.alloc (.cells r.c 64))) := by
        (have h : PI wd By n J (placesTo n word (k * 25)).length (fun x => T0 x ∨ x = wr.heap.size) (wr.alloc (.cells r.c 64)) := ⟨fun x hx => .inl (HPI.out.sub x hx), HPI.out.keep.alloc _, alloc_old _ HPI.out.nb, HJ.out _ _ _ _ _ HPI.out.j hA ⟨fun x hx => .inl hx, fun x hx => by rcases hx with hx | hx; exact .inl hx; exact .inr (by simp; omega)⟩⟩); exact h
      have HR1 := Lib.hid (alloc_new wr (.cells r.c 64))
      clear HPI hA
      obtain ⟨B5, hB5⟩ : ∃ B5, B5 = wr.heap.size := ⟨_, rfl⟩
      rw [← hB5] at HR1 HP1 ⊢
      obtain ⟨W0, hW0⟩ : ∃ W0 : World, W0 = wr.alloc (.cells r.c 64) := ⟨_, rfl⟩
      rw [← hW0] at HP1 HR1 ⊢
      clear hB5 hW0 hby
      clear wr
      gi_loopw [16] (fun i wr => ∃ p : Nat, p ≤ n ∧ i = .int .i64 p ∧ wr.heap[B5]? = some (.cells r.c 64) ∧ ∃ T, T B5 ∧ PI wd By n J (placesTo n word (k * 25 + p * 5)).length T wr) (fun i _ => n - (intOf i).toNat)
      case atStart => exact ⟨0, by omega, rfl, HR1.out, _, .inr rfl, HP1.out⟩
      case round =>
        clear HR1 HP1
        obtain ⟨p, hp, rfl, hr5, T1, hT1, hpi⟩ := hrel
        have HR5 := Lib.hid hr5; clear hr5
        have HPI := Lib.hid hpi; clear hpi
        have cn := cell_block HPI.out.nb 0
        simp at cn
        by_cases hpn : p < n
        · gi_wp2
          clear cn
          obtain ⟨W1, hW1⟩ : ∃ W1 : World, W1 = wr := ⟨_, rfl⟩
          rw [← hW1] at HPI HR5 ⊢
          clear hW1 wr
          gi_loopw [20] (fun i wr => ∃ q : Nat, q ≤ n ∧ i = .int .i64 q ∧ wr.heap[B5]? = some (.cells r.c 64) ∧ ∃ T, T B5 ∧ PI wd By n J (placesTo n word (k * 25 + p * 5 + q)).length T wr) (fun i _ => n - (intOf i).toNat)
          case atStart => exact ⟨0, by omega, rfl, HR5.out, T1, hT1, HPI.out⟩
          case round =>
            clear HR5 HPI
            obtain ⟨q, hq, rfl, hr5, T2, hT2, hpi⟩ := hrel
            have HR5 := Lib.hid hr5; clear hr5
            have HPI := Lib.hid hpi; clear hpi
            by_cases hqn : q < n
            · by_cases hpq : p = q
              · subst hpq
                gi_wp2
                refine ⟨fun _ h => (by cases h), ?_⟩
                gi_wp2
                go_roundw
                case rel => exact ⟨p + 1, by omega, by go_num, HR5.out, T2, hT2, by rw [places_skip (by omega) (by omega) (.inl rfl)]; exact HPI.out⟩
                case measure => simp [intOf]; omega
              · have hpq' : ((p : Int) != (q : Int)) = true := by simp; omega
                have ch := hear_cellR r q (by omega) wr B5 _ HR5.out
                have hbit := hasB_and1' (r.g.hear q) p
                have hq5 : q < 5 := by omega
                cases hb : hasB (r.g.hear q) p with
                | false =>
                  have HB : Hid (hasB ((word.getD k default).g.hear q) p = false) := by (have h : hasB ((word.getD k default).g.hear q) p = false := by (rw [HG.out]; exact hb)); exact h
                  rw [hb] at hbit
                  clear hb
                  generalize r.g.hear q = hv at ch hbit
                  gi_wp2
                  refine ⟨fun _ h => (by cases h), ?_⟩
                  gi_wp2
                  go_roundw
                  case rel => exact ⟨q + 1, by omega, by go_num, HR5.out, T2, hT2, by rw [places_skip (by omega) (by omega) (.inr HB.out)]; exact HPI.out⟩
                  case measure => simp [intOf]; omega
                | true =>
                  have HB : Hid (hasB ((word.getD k default).g.hear q) p = true) := by (have h : hasB ((word.getD k default).g.hear q) p = true := by (rw [HG.out]; exact hb)); exact h
                  rw [hb] at hbit
                  clear hb
                  generalize r.g.hear q = hv at ch hbit
                  have hat := places_at hn hlt hpn hqn hpq HB.out
                  have HHIT := Lib.hid (places_hit hn hpn hqn hpq HB.out)
                  obtain ⟨fn, tmps, assign, body, hy, hR⟩ := HY.out (placesTo n word (k * 25 + p * 5 + q)).length T2 wr _ (List.getElem?_eq_some_iff.1 hat).1 rfl HPI.out.j
                  have hen : encP ((placesL n word).getD (placesTo n word (k * 25 + p * 5 + q)).length (0, 0, 0)) = #[.agg #[.int .i64 k, .int .i64 p, .int .i64 q, .string ⟨#[]⟩]] := by rw [List.getD_eq_getElem?_getD, hat]; rfl
                  rw [hen] at hy
                  have HR := Lib.hid hR; clear hR hen
                  have hle := (List.getElem?_eq_some_iff.1 hat).1
                  clear hat
                  gi_wp2
                  refine ⟨rfl, HR.out.mono ?_⟩
                  rintro e W3 ⟨_, hown, (⟨rfl, hJ3⟩ | ⟨rfl, hJx3⟩)⟩
                  · have hr3 : W3.heap[B5]? = some (.cells r.c 64) := (hown B5 hT2).trans HR5.out
                    have hp3 := HPI.out.next hown hJ3
                    have H3 := Lib.hid (And.intro hr3 hp3)
                    clear hown hJ3 hr3 hp3 ch
                    gi_wp2
                    go_roundw
                    case rel => exact ⟨q + 1, by omega, by go_num, H3.out.1, T2, hT2, by rw [HHIT.out, List.length_append]; exact H3.out.2⟩
                    case measure => simp [intOf]; omega
                  · clear ch
                    gi_wp2
                    refine bodyPost_ret (results_none rfl _ _ _) rfl ?_
                    exact ⟨⟨_, rfl⟩, T2, .inr ⟨_, by omega, hJx3⟩⟩
            · obtain rfl : q = n := by omega
              gi_wp2
              go_roundw
              case rel => exact ⟨p + 1, by omega, by go_num, HR5.out, T2, hT2, by rw [← places_q q word k p (by omega) hn]; exact HPI.out⟩
              case measure => simp [intOf]; omega
        · obtain rfl : p = n := by omega
          gi_wp2
          go_roundw
          case rel => exact ⟨k + 1, by omega, by go_num, T1, by rw [← places_p p word k hn]; exact HPI.out⟩
          case measure => simp [intOf]; omega
    · obtain rfl : k = word.length := by omega
      gi_wp2
      go_end0
      exact ⟨⟨_, rfl⟩, T0, .inl HPI.out.j⟩
end Go.Proofs.YtjmejfgkogjpaaaGreat

namespace Go.Proofs.YtjmejfgkogjpaaaGreat
open Go.RowKit Go Go.Shelf
attribute [local go_sem] Oper.semAt_some

set_option maxHeartbeats 1000000 in
theorem indexInts_any (v : Value) (l : List Int) (x : Int) (w : World) (hv : IsInts w v l) :
    Calls Tryz.prog 138 #[v, .int .i64 x] w fun e w' => e = .returned (.int .i64 (firstIx l.length fun i => decide (x = l.getD i 0))) ∧ Below w.heap.size w w' := by
  obtain ⟨pa, ca, rfl, la1, la2, ea⟩ := hv.at
  have EA := Lib.hid ea
  clear hv ea
  generalize hr : (firstIx l.length fun i => decide (x = l.getD i 0)) = r
  have HR := Lib.hid hr
  clear hr
  go_enter Tryz.func138, Tryz.ntmps138
  go_wp2
  go_loop [8] (fun i => ∃ k : Nat, k ≤ l.length ∧ i = .int .i64 k ∧ ∀ j, j < k → decide (x = l.getD j 0) = false) (fun i => l.length - (intOf i).toNat)
  case atStart => exact ⟨0, by omega, rfl, by simp⟩
  case round =>
    obtain ⟨k, hk, rfl, hinv⟩ := hrel
    have H := Lib.hid hinv; clear hinv
    by_cases hlt : k < l.length
    · obtain ⟨b1, o1, rfl, h1⟩ := EA.out k hlt
      rw [Nat.mul_one] at h1
      have c1 := h1.1
      have HG := Lib.hid (getD_of_lt 0 hlt)
      clear h1
      generalize l[k] = y at c1 HG
      by_cases hxy : x = y
      · subst hxy
        go_wp2
        go_ret
        exact ⟨ret_int (by rw [← HR.out, firstIx_at _ k _ hlt H.out (by rw [HG.out]; simp)]), Below.refl _ _⟩
      · have hxy' : (x == y) = false := by simpa using hxy
        have HX : Hid (decide (x = l.getD k 0) = false) := by (have h : decide (x = l.getD k 0) = false := by (rw [HG.out]; simpa using hxy)); exact h
        clear hxy
        go_wp2
        go_round
        case rel => exact ⟨k + 1, by omega, by go_num, below_succ H.out HX.out⟩
        case measure => simp [intOf]; omega
    · go_wp2
      go_ret
      exact ⟨ret_int (by rw [← HR.out, firstIx_none]; intro j hj; exact H.out j (by omega)), Below.refl _ _⟩
theorem anyLt_contains (l : List Int) (x : Int) : (anyLt l.length fun i => decide (x = l.getD i 0)) = l.contains x := by
  rw [Bool.eq_iff_iff, anyLt_iff, List.contains_iff_mem]
  constructor
  · rintro ⟨k, hk, h⟩
    simp only [decide_eq_true_eq] at h
    rw [getD_of_lt 0 hk] at h
    rw [h]; exact List.getElem_mem hk
  · intro h
    obtain ⟨k, hk, rfl⟩ := List.getElem_of_mem h
    exact ⟨k, hk, by rw [getD_of_lt 0 hk]; simp⟩
set_option maxHeartbeats 1000000 in
theorem containsInts_any (v : Value) (l : List Int) (x : Int) (w : World) (hv : IsInts w v l) :
    Calls Tryz.prog 121 #[v, .int .i64 x] w fun e w' => e = .returned (.bool (l.contains x)) ∧ Below w.heap.size w w' := by
  have HC := Lib.hid (indexInts_any v l x w hv)
  have HA : Hid (l.contains x = decide (0 ≤ firstIx l.length fun i => decide (x = l.getD i 0))) := by (have h : l.contains x = decide (0 ≤ firstIx l.length fun i => decide (x = l.getD i 0)) := by (rw [firstIx_any, anyLt_contains])); exact h
  generalize (firstIx l.length fun i => decide (x = l.getD i 0)) = r at HC HA
  obtain ⟨pa, ca, rfl, _⟩ := hv.at
  clear hv
  go_enter Tryz.func121, Tryz.ntmps121
  go_wp2_with fail
  refine HC.out.mono ?_
  rintro e w1 ⟨rfl, hb1⟩
  go_wp2_with fail
  go_ret
  exact ⟨ret_bool HA.out.symm, hb1⟩

/-- cells of numbers -/
def intsC (l : List Int) : Array Value := (l.map (Value.int .i64)).toArray
def fC (n : Nat) (f : Nat → Int) (q : Nat) : Array Value := ((List.range n).map fun j => Value.int .i64 (if j < q then f j else 0)).toArray
theorem fC_size (n : Nat) (f : Nat → Int) (q : Nat) : (fC n f q).size = n := by simp [fC]
theorem fC_get (n : Nat) (f : Nat → Int) (q j : Nat) (hj : j < n) : (fC n f q)[j]? = some (.int .i64 (if j < q then f j else 0)) := by simp [fC, hj]
theorem fC_set (n : Nat) (f : Nat → Int) (q : Nat) (hq : q < n) : (fC n f q).setIfInBounds q (.int .i64 (f q)) = fC n f (q + 1) := by
  apply Array.ext_getElem?
  intro j
  rw [Array.getElem?_setIfInBounds]
  by_cases hj : j < n
  · rw [fC_get _ _ _ _ hj, fC_get _ _ _ _ hj]
    by_cases e : q = j
    · subst e; rw [if_pos rfl, if_pos (by rw [fC_size]; exact hj), if_pos (by omega)]
    · rw [if_neg e]
      by_cases h : j < q
      · rw [if_pos h, if_pos (by omega)]
      · rw [if_neg h, if_neg (by omega)]
  · have h1 : (fC n f q)[j]? = none := by rw [Array.getElem?_eq_none]; rw [fC_size]; omega
    have h2 : (fC n f (q + 1))[j]? = none := by rw [Array.getElem?_eq_none]; rw [fC_size]; omega
    rw [h1, h2, if_neg (by omega)]
theorem fC_all (n : Nat) (f : Nat → Int) : fC n f n = intsC ((List.range n).map f) := by
  unfold fC intsC
  rw [List.map_map]
  congr 1
  refine List.map_congr_left fun j hj => ?_
  rw [if_pos (List.mem_range.1 hj)]; rfl
theorem made_fC (f : Nat → Int) (n : Nat) : madeCells (Value.int .i64 0).cells n = fC n f 0 := by
  apply Array.ext
  · simp [madeCells, fC]
  · intro i h1 h2
    simp [madeCells, fC, Value.cells, Nat.mod_one]
theorem make_ints (f : Nat → Int) (n : Nat) (hn : n ≤ 256) (w : World) : (Instr.makeSlice 36 (.int .i64 (n : Int)) (.int .i64 (n : Int))).run Tryz.prog w = .ok (.slice (some ⟨w.heap.size, 0, none⟩) n n) (w.alloc (.cells (fC n f 0) 3)) := by
  have hinfo : (Tryz.prog.info? 3).map (fun i => (i.zero, i.size, i.bytes)) = some (some (.int .i64 0), 1, 8) := by kernel_rfl
  obtain ⟨i, hi, hz0, hz1, hz2⟩ := info_parts hinfo
  have := run_make (P := Tryz.prog) w 36 3 i (.int .i64 0) Tryz.underlying36 hi hz0 .i64 .i64 (n : Int) (n : Int) (by omega) (by omega) (by rw [hz2]; omega) (by omega)
  rw [this, hz1, Nat.mul_one]
  simp only [Int.toNat_natCast, made_fC f]
theorem now_ints {W : World} {B : Nat} {now : List Int} {n : Nat} (hl : now.length = n) (hn : n ≤ 256) (h : W.heap[B]? = some (.cells (intsC now) 3)) (hr : ∀ i, i < now.length → InR (now.getD i 0)) : IsInts W (.slice (some ⟨B, 0, none⟩) n n) now := by
  subst hl
  refine ⟨some ⟨B, 0, none⟩, now.length, rfl, ⟨Nat.le_refl _, by omega, fun e => by cases e⟩, by omega, fun i x hx => ⟨B, 0, rfl, ?_⟩⟩
  obtain ⟨hi, rfl⟩ := List.getElem?_eq_some_iff.1 hx
  refine ⟨?_, ?_⟩
  · rw [cell_block h, Nat.zero_add, Nat.mul_one]
    simp [intsC, hi]
  · have := hr i hi
    rwa [getD_of_lt 0 hi] at this

set_option maxRecDepth 100000 in
set_option maxHeartbeats 400000 in
theorem run_any (m : Mac) (pf : Option Addr) (nf cf : Nat) (py : Option Addr) (ny cy : Nat) (pt : Option Addr) (nt ct : Nat) (po : Option Addr) (no co : Nat) (pi : Option Addr) (ni ci : Nat) (pw : Option Addr) (nw cw : Nat) (w : World) :
    Calls Tryz.prog 89 #[.agg (macC m (.slice pf nf cf) (.slice py ny cy) (.slice pt nt ct) (.slice po no co)), .slice pi ni ci, .slice pw nw cw] w fun e w' => e = .returned (.func (.func 120) #[] #[.pointer (some ⟨w.heap.size, 0, none⟩), .pointer (some ⟨w.heap.size + 1, 0, none⟩), .pointer (some ⟨w.heap.size + 1 + 1, 0, none⟩)]) ∧
      w' = ((w.alloc (.cells (macC m (.slice pf nf cf) (.slice py ny cy) (.slice pt nt ct) (.slice po no co)) 35)).alloc (.cells #[.slice pi ni ci] 36)).alloc (.cells #[.slice pw nw cw] 37) := by
  go_enter Tryz.func89, Tryz.ntmps89
  go_wp2
  go_ret
  exact ⟨rfl, rfl⟩
end Go.Proofs.YtjmejfgkogjpaaaGreat
