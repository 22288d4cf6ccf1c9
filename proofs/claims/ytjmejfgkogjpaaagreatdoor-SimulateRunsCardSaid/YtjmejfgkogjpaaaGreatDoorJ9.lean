/-
  Parts of the proof, in order. Contract of the reference's Hears of machines. Conditions: the arguments read as a machine of the right shape, a place, the states of its processes and a graph. Contract of the reference's Run of machines. Conditions: the arguments read as a machine, inputs and a word that pass their checks. Contracts of the library's slices.Equal at rounds and messages, slices.EqualFunc at lists, and of the program's simulate.same. Conditions: the arguments read as traces. Contracts of the reference's Check and Compare of graphs and rounds. Contracts of the reference's Word, Few and Same of words. Conditions: the arguments read as words. Contract of the reference's Play of machines. Conditions: the arguments read as a machine, inputs and a word.
-/
import Derived.Test.YtjmejfgkogjpaaaGreatDoorJ8
namespace Go.Proofs.YtjmejfgkogjpaaaGreatDoor
open Go.RowKit Go Go.Shelf

theorem alloc4_new (w : World) (a b c d : Obj) : ((((w.alloc a).alloc b).alloc c).alloc d).heap[w.heap.size + 1 + 1 + 1]? = some d := by simpa using alloc_new (((w.alloc a).alloc b).alloc c) d
theorem hC_put {f fl : Nat → Int} {p : Nat} (hp : p < 5) (h : ∀ j, j ≠ p → fl j = f j) : (hC fl 5).setIfInBounds p (.int .i64 (f p)) = hC f 5 := by
  rw [hC_five, hC_five]
  rcases (show p = 0 ∨ p = 1 ∨ p = 2 ∨ p = 3 ∨ p = 4 by omega) with rfl | rfl | rfl | rfl | rfl
  · rw [h 1 (by decide), h 2 (by decide), h 3 (by decide), h 4 (by decide)]; rfl
  · rw [h 0 (by decide), h 2 (by decide), h 3 (by decide), h 4 (by decide)]; rfl
  · rw [h 0 (by decide), h 1 (by decide), h 3 (by decide), h 4 (by decide)]; rfl
  · rw [h 0 (by decide), h 1 (by decide), h 2 (by decide), h 4 (by decide)]; rfl
  · rw [h 0 (by decide), h 1 (by decide), h 2 (by decide), h 3 (by decide)]; rfl

set_option maxRecDepth 100000 in
set_option maxHeartbeats 8000000 in
theorem rhears_any (m : Mac) (pf : Option Addr) (nf cf : Nat) (vy : Value) (pt : Option Addr) (nt ct : Nat) (po : Option Addr) (no co : Nat) (k p n : Nat) (vn : Value) (now : List Int) (g : Gr) (w : World)
    (hn : m.n = n) (hn5 : n ≤ 5) (hp : p < n) (hk : k < m.syms.length) (h1 : (m.syms.getD k []).length = n) (h2 : ∀ q, q < n → ((m.syms.getD k []).getD q []).length = n)
    (hl : now.length = n) (h3 : ∀ q, q < n → q ≠ p → 0 ≤ now.getD q 0 ∧ (now.getD q 0).toNat < (((m.syms.getD k []).getD q []).getD p []).length) (hset : 0 ≤ g.hear p ∧ g.hear p < 32) (hy : IsV4 w vy m.syms) (hv : IsInts w vn now) :
    Calls Tryz.prog 96 #[.agg (macC m (.slice pf nf cf) vy (.slice pt nt ct) (.slice po no co)), .int .i64 k, .int .i64 p, vn, g.v] w fun e w' =>
      e = .returned (arrV (hearsF m k p now (g.hear p) 0) (hearsF m k p now (g.hear p) 1) (hearsF m k p now (g.hear p) 2) (hearsF m k p now (g.hear p) 3) (hearsF m k p now (g.hear p) 4)) ∧ Below w.heap.size w w' := by
  obtain ⟨py, cy, rfl, ly1, ly2, ey⟩ := hy.at
  obtain ⟨pn, cn, rfl, ln1, ln2, en⟩ := hv.at
  have EY := Lib.hid ey
  have EN := Lib.hid en
  have H1 := Lib.hid h1
  have H2 := Lib.hid h2
  have H3 := Lib.hid h3
  have HN := Lib.hid hn
  have HL := Lib.hid hl
  clear hy hv ey en h1 h2 h3 hn hl
  obtain ⟨set, hse⟩ : ∃ set, g.hear p = set := ⟨_, rfl⟩
  rw [hse] at hset ⊢
  have HSE := Lib.hid hse
  clear hse
  obtain ⟨hset0, hset1⟩ := hset
  have HF : Hid (∀ q, hearsF m k p now set q = if q = p then now.getD p 0 else if (q : Int) < m.n ∧ hasB set q = true then symS m k q p (now.getD q 0) else -1) := by (have h : ∀ q, hearsF m k p now set q = if q = p then now.getD p 0 else if (q : Int) < m.n ∧ hasB set q = true then symS m k q p (now.getD q 0) else -1 := fun q => rfl); exact h
  generalize hearsF m k p now set = f at HF
  obtain ⟨fl, hfl⟩ : ∃ fl : Nat → Int, ∀ j, fl j = if j = p then -1 else f j := ⟨_, fun _ => rfl⟩
  have HFL := Lib.hid hfl
  clear hfl
  go_enter Tryz.func96, Tryz.ntmps96
  go_wp2_with fail
  refine wp_gen (fun W => Below w.heap.size w W ∧ W.heap[w.heap.size]? = some (.cells (macC m (.slice pf nf cf) (.slice py m.syms.length cy) (.slice pt nt ct) (.slice po no co)) 27) ∧ W.heap[w.heap.size + 1]? = some (.cells #[.int .i64 g.n, .int .i64 g.h0, .int .i64 g.h1, .int .i64 g.h2, .int .i64 g.h3, .int .i64 g.h4] 47) ∧ W.heap[w.heap.size + 1 + 1]? = some (.cells (hC fl 0) 45) ∧ W.heap[w.heap.size + 1 + 1 + 1]? = some (.cells (hC fl 0) 45))
    ⟨by go_grown, alloc_old _ (alloc_old _ (alloc_old _ (alloc_new _ _))), alloc_old _ (alloc_old _ (alloc2_new _ _ _)), alloc_old _ (alloc3_new _ _ _ _), alloc4_new _ _ _ _ _⟩ (fun W0 hW0 => ?_)
  obtain ⟨hb0, hM0, hG0, hR0, hO0⟩ := hW0
  go_loopw [12] (fun i wr => ∃ q : Nat, q ≤ 5 ∧ i = .int .i64 q ∧ Below w.heap.size w wr ∧ wr.heap[w.heap.size]? = some (.cells (macC m (.slice pf nf cf) (.slice py m.syms.length cy) (.slice pt nt ct) (.slice po no co)) 27) ∧ wr.heap[w.heap.size + 1]? = some (.cells #[.int .i64 g.n, .int .i64 g.h0, .int .i64 g.h1, .int .i64 g.h2, .int .i64 g.h3, .int .i64 g.h4] 47) ∧ wr.heap[w.heap.size + 1 + 1]? = some (.cells (hC fl 0) 45) ∧ wr.heap[w.heap.size + 1 + 1 + 1]? = some (.cells (hC fl q) 45)) (fun i _ => 5 - (intOf i).toNat)
  case atStart => exact ⟨0, by omega, rfl, hb0, hM0, hG0, hR0, hO0⟩
  case round =>
    clear hb0 hM0 hG0 hR0 hO0
    obtain ⟨q, hq, rfl, hbr, hM, hG, hR, hO⟩ := hrel
    by_cases hq5 : q < 5
    · have cq := cell_block hO q
      rw [hC_get fl q q hq5, if_neg (by omega)] at cq
      have fq := frozen_block hO q
      have hs2 := block_lt hO
      have HM := Lib.hid hM
      have HG := Lib.hid hG
      have HR := Lib.hid hR
      have HO := Lib.hid hO
      have HBR := Lib.hid hbr
      clear hM hG hR hO
      have hcm := cell_block HM.out
      have hcg : wr.cell? ⟨w.heap.size + 1, 1 + p, none⟩ = some (.int .i64 set) := by rw [← HSE.out]; exact hear_cell g p (by omega) wr _ HG.out
      have hdq : decide ((q : Int) < 5) = true := by simp; omega
      have hp5 : (p : Int) < 5 := by omega
      by_cases hqn : q < n
      · have hmn : (q : Int) < m.n := by have := HN.out; omega
        by_cases hqp : q = p
        · have HV : Hid (fl q = -1) := by (have h : fl q = -1 := by (rw [HFL.out q, if_pos hqp])); exact h
          have hqpb : ((q : Int) != (p : Int)) = false := by simp; omega
          clear hqp
          go_wp2_with fail
          go_roundw
          case rel =>
            refine ⟨q + 1, by omega, by go_num, (HBR.out.setCell (p := ⟨w.heap.size + 1 + 1 + 1, q, none⟩) (by dsimp only; omega) _), setCell_other HM.out (by omega) _ _, setCell_other HG.out (by omega) _ _, setCell_other HR.out (by omega) _ _, ?_⟩
            rw [setCell_same HO.out, ← HV.out, hC_set fl q hq5]
          case measure => simp [intOf]; omega
        have hqpb : ((q : Int) != (p : Int)) = true := by simp; omega
        cases hb : hasB set q with
        | false =>
          have HV : Hid (fl q = -1) := by (have h : fl q = -1 := by (rw [HFL.out q, if_neg hqp, HF.out q, if_neg hqp, if_neg (by rw [hb]; simp)])); exact h
          go_wp2_with fail
          refine (rhas_any _ q (by omega) (by omega) (by omega) _).mono ?_
          rintro e w9 ⟨rfl, rfl⟩
          rw [hb]
          go_wp2_with fail
          go_roundw
          case rel =>
            refine ⟨q + 1, by omega, by go_num, (HBR.out.setCell (p := ⟨w.heap.size + 1 + 1 + 1, q, none⟩) (by dsimp only; omega) _), setCell_other HM.out (by omega) _ _, setCell_other HG.out (by omega) _ _, setCell_other HR.out (by omega) _ _, ?_⟩
            rw [setCell_same HO.out, ← HV.out, hC_set fl q hq5]
          case measure => simp [intOf]; omega
        | true =>
          have hm1 := H1.out
          have hm2 := H2.out q hqn
          have hm3 := H3.out q hqn hqp
          have hm2' := hm2
          rw [getD_of_lt [] hk] at hm1 hm2 hm3
          have hqs : q < m.syms[k].length := by omega
          rw [getD_of_lt [] hqs] at hm2 hm3
          have hps : p < m.syms[k][q].length := by omega
          rw [getD_of_lt [] hps] at hm3
          have hnl : q < now.length := by have := HL.out; omega
          have HNG := Lib.hid (getD_of_lt 0 hnl)
          rw [getD_of_lt 0 hnl] at hm3
          obtain ⟨b1, o1, rfl, x1, c1, hx1⟩ := EY.out k hk
          obtain ⟨p1, q1, rfl, l11, l12, e1⟩ := hx1.at
          obtain ⟨b2, o2, rfl, x2, c2, hx2⟩ := e1 q hqs
          obtain ⟨p2, q2, rfl, l21, l22, e2⟩ := hx2.at
          obtain ⟨b3, o3, rfl, x3, c3, hx3⟩ := e2 p hps
          obtain ⟨p3, q3, rfl, l31, l32, e3⟩ := hx3.at
          obtain ⟨b4, o4, rfl, c4, r4⟩ := e3 _ hm3.2
          obtain ⟨b5, o5, rfl, c5, r5⟩ := EN.out q hnl
          rw [Nat.mul_one] at c1 c2 c3 c4 c5
          have HV : Hid (fl q = m.syms[k][q][p][(now[q]).toNat]'hm3.2) := by
            (have h : fl q = m.syms[k][q][p][(now[q]).toNat]'hm3.2 := by (rw [HFL.out q, if_neg hqp, HF.out q, if_neg hqp, if_pos ⟨hmn, hb⟩]; unfold symS; rw [getD_of_lt [] hk, getD_of_lt [] hqs, getD_of_lt [] hps, HNG.out, getD_of_lt 0 hm3.2])); exact h
          clear e1 e2 e3 hx1 hx2 hx3 hm2' r4 r5
          generalize m.syms[k][q][p][(now[q]).toNat] = sy at c4 HV
          obtain ⟨s, hs⟩ : ∃ s : Nat, now[q] = s := ⟨now[q].toNat, by omega⟩
          rw [hs] at c4 c5 hm3
          rw [Int.toNat_natCast] at c4 hm3
          generalize m.syms[k][q][p].length = l3 at c3 l31 l32 hm3
          generalize m.syms[k][q].length = l2 at c2 l21 l22 hps hm2
          generalize m.syms[k].length = l1 at c1 l11 l12 hqs hm1
          have hm3' := hm3.2
          clear hm1 hm2 hm3 hs HNG
          go_wp2_with fail
          refine (rhas_any _ q (by omega) (by omega) (by omega) _).mono ?_
          rintro e w9 ⟨rfl, rfl⟩
          rw [hb]
          clear hb
          go_wp2_with fail
          clear cq fq hcm hcg
          obtain ⟨W1, hW1⟩ : ∃ W1, W1 = wr.setCell ⟨w.heap.size + 1 + 1 + 1, q, none⟩ (.int .i64 (-1)) := ⟨_, rfl⟩
          rw [← hW1]
          have HI1 : Hid (Below w.heap.size w W1 ∧ W1.heap[w.heap.size]? = some (.cells (macC m (.slice pf nf cf) (.slice (some ⟨b1, o1, none⟩) m.syms.length cy) (.slice pt nt ct) (.slice po no co)) 27) ∧ W1.heap[w.heap.size + 1]? = some (.cells #[.int .i64 g.n, .int .i64 g.h0, .int .i64 g.h1, .int .i64 g.h2, .int .i64 g.h3, .int .i64 g.h4] 47) ∧ W1.heap[w.heap.size + 1 + 1]? = some (.cells (hC fl 0) 45) ∧ W1.heap[w.heap.size + 1 + 1 + 1]? = some (.cells ((hC fl q).setIfInBounds q (.int .i64 (-1))) 45)) := by
            have h : Below w.heap.size w W1 ∧ W1.heap[w.heap.size]? = some (.cells (macC m (.slice pf nf cf) (.slice (some ⟨b1, o1, none⟩) m.syms.length cy) (.slice pt nt ct) (.slice po no co)) 27) ∧ W1.heap[w.heap.size + 1]? = some (.cells #[.int .i64 g.n, .int .i64 g.h0, .int .i64 g.h1, .int .i64 g.h2, .int .i64 g.h3, .int .i64 g.h4] 47) ∧ W1.heap[w.heap.size + 1 + 1]? = some (.cells (hC fl 0) 45) ∧ W1.heap[w.heap.size + 1 + 1 + 1]? = some (.cells ((hC fl q).setIfInBounds q (.int .i64 (-1))) 45) := by
              rw [hW1]
              exact ⟨(HBR.out.setCell (p := ⟨w.heap.size + 1 + 1 + 1, q, none⟩) (by dsimp only; omega) _), setCell_other HM.out (by omega) _ _, setCell_other HG.out (by omega) _ _, setCell_other HR.out (by omega) _ _, setCell_same HO.out _ _⟩
            exact h
          have HBW := Lib.hid HI1.out.1
          have HMW := Lib.hid HI1.out.2.1
          clear hW1 HM HG HR HO HBR hbr
          refine wp_region_each 19 [36, 37, 38, 39, 40, 41, 42, 43, 44, 45, 46, 47, 48, 49, 50, 51, 52, 53, 54] [MP.eq (.int .i64 (q : Int)),
            MP.eq (.pointer (some ⟨w.heap.size, 5, none⟩)),
            MP.eq (.slice (some ⟨b1, o1, none⟩) m.syms.length cy),
            MP.eq (.int .i64 (k : Int)),
            MP.eq (.pointer (some ⟨b1, o1 + k, none⟩)),
            MP.eq (.slice (some ⟨b2, o2, none⟩) l1 q1),
            MP.eq (.int .i64 (q : Int)),
            MP.eq (.pointer (some ⟨b2, o2 + q, none⟩)),
            MP.eq (.slice (some ⟨b3, o3, none⟩) l2 q2),
            MP.eq (.int .i64 (p : Int)),
            MP.eq (.pointer (some ⟨b3, o3 + p, none⟩)),
            MP.eq (.slice (some ⟨b4, o4, none⟩) l3 q3),
            MP.eq (.slice (some ⟨b5, o5, none⟩) now.length cn),
            MP.eq (.int .i64 (q : Int)),
            MP.eq (.pointer (some ⟨b5, o5 + q, none⟩)),
            MP.eq (.int .i64 (s : Int)),
            MP.eq (.pointer (some ⟨b4, o4 + s, none⟩)),
            MP.eq (.int .i64 sy),
            MP.eq (.pointer (some ⟨w.heap.size + 1 + 1 + 1, q, none⟩))] (by kernel_rfl) rfl (by decide) rfl (by kernel_rfl) ?step ?tail
          case step =>
            intro x W i o s F hi ho hs hB hdep hF
            have hcase : i = 0 ∨ i = 1 ∨ i = 2 ∨ i = 3 ∨ i = 4 ∨ i = 5 ∨ i = 6 ∨ i = 7 ∨ i = 8 ∨ i = 9 ∨ i = 10 ∨ i = 11 ∨ i = 12 ∨ i = 13 ∨ i = 14 ∨ i = 15 ∨ i = 16 ∨ i = 17 ∨ i = 18 := by omega
            rcases hcase with rfl | rfl | rfl | rfl | rfl | rfl | rfl | rfl | rfl | rfl | rfl | rfl | rfl | rfl | rfl | rfl | rfl | rfl | rfl
            · obtain rfl := Option.some.inj ho.symm
              obtain rfl := Option.some.inj hs.symm
              clear hdep hi ho hs
              simp only [setAll, setFrom, List.setIfInBounds_toArray, List.set_cons_succ, List.set_cons_zero, Nat.reduceAdd] at hF
              subst hF
              go_wp2_with fail
              exact EachK.mk _ (Below.refl _ _) rfl (by simp only [List.setIfInBounds_toArray, List.set_cons_succ, List.set_cons_zero])
            · obtain rfl := Option.some.inj ho.symm
              obtain rfl := Option.some.inj hs.symm
              clear hdep hi ho hs
              simp only [setAll, setFrom, List.setIfInBounds_toArray, List.set_cons_succ, List.set_cons_zero, Nat.reduceAdd] at hF
              subst hF
              go_wp2_with fail
              exact EachK.mk _ (Below.refl _ _) rfl (by simp only [List.setIfInBounds_toArray, List.set_cons_succ, List.set_cons_zero])
            · obtain rfl := Option.some.inj ho.symm
              obtain rfl := Option.some.inj hs.symm
              have d1 : x 1 = .pointer (some ⟨w.heap.size, 5, none⟩) := hdep ⟨1, .data⟩ (by simp) rfl
              clear hdep hi ho hs
              have t9 := cell_block (block_up hB HMW.out)
              simp only [setAll, setFrom, List.setIfInBounds_toArray, List.set_cons_succ, List.set_cons_zero, Nat.reduceAdd] at hF
              simp only [d1] at hF
              subst hF
              go_wp2_with fail
              exact EachK.mk _ (Below.refl _ _) rfl (by simp only [List.setIfInBounds_toArray, List.set_cons_succ, List.set_cons_zero])
            · obtain rfl := Option.some.inj ho.symm
              obtain rfl := Option.some.inj hs.symm
              clear hdep hi ho hs
              simp only [setAll, setFrom, List.setIfInBounds_toArray, List.set_cons_succ, List.set_cons_zero, Nat.reduceAdd] at hF
              subst hF
              go_wp2_with fail
              exact EachK.mk _ (Below.refl _ _) rfl (by simp only [List.setIfInBounds_toArray, List.set_cons_succ, List.set_cons_zero])
            · obtain rfl := Option.some.inj ho.symm
              obtain rfl := Option.some.inj hs.symm
              have d2 : x 2 = .slice (some ⟨b1, o1, none⟩) m.syms.length cy := hdep ⟨2, .data⟩ (by simp) rfl
              have d3 : x 3 = .int .i64 (k : Int) := hdep ⟨3, .data⟩ (by simp) rfl
              clear hdep hi ho hs
              simp only [setAll, setFrom, List.setIfInBounds_toArray, List.set_cons_succ, List.set_cons_zero, Nat.reduceAdd] at hF
              simp only [d2, d3] at hF
              subst hF
              go_wp2_with fail
              exact EachK.mk _ (Below.refl _ _) rfl (by simp only [List.setIfInBounds_toArray, List.set_cons_succ, List.set_cons_zero])
            · obtain rfl := Option.some.inj ho.symm
              obtain rfl := Option.some.inj hs.symm
              have d4 : x 4 = .pointer (some ⟨b1, o1 + k, none⟩) := hdep ⟨4, .data⟩ (by simp) rfl
              clear hdep hi ho hs
              have d9 := cell_up (ext_trans HBW.out hB) c1
              simp only [setAll, setFrom, List.setIfInBounds_toArray, List.set_cons_succ, List.set_cons_zero, Nat.reduceAdd] at hF
              simp only [d4] at hF
              subst hF
              go_wp2_with fail
              exact EachK.mk _ (Below.refl _ _) rfl (by simp only [List.setIfInBounds_toArray, List.set_cons_succ, List.set_cons_zero])
            · obtain rfl := Option.some.inj ho.symm
              obtain rfl := Option.some.inj hs.symm
              clear hdep hi ho hs
              simp only [setAll, setFrom, List.setIfInBounds_toArray, List.set_cons_succ, List.set_cons_zero, Nat.reduceAdd] at hF
              subst hF
              go_wp2_with fail
              exact EachK.mk _ (Below.refl _ _) rfl (by simp only [List.setIfInBounds_toArray, List.set_cons_succ, List.set_cons_zero])
            · obtain rfl := Option.some.inj ho.symm
              obtain rfl := Option.some.inj hs.symm
              have d5 : x 5 = .slice (some ⟨b2, o2, none⟩) l1 q1 := hdep ⟨5, .data⟩ (by simp) rfl
              have d6 : x 6 = .int .i64 (q : Int) := hdep ⟨6, .data⟩ (by simp) rfl
              clear hdep hi ho hs
              simp only [setAll, setFrom, List.setIfInBounds_toArray, List.set_cons_succ, List.set_cons_zero, Nat.reduceAdd] at hF
              simp only [d5, d6] at hF
              subst hF
              go_wp2_with fail
              exact EachK.mk _ (Below.refl _ _) rfl (by simp only [List.setIfInBounds_toArray, List.set_cons_succ, List.set_cons_zero])
            · obtain rfl := Option.some.inj ho.symm
              obtain rfl := Option.some.inj hs.symm
              have d7 : x 7 = .pointer (some ⟨b2, o2 + q, none⟩) := hdep ⟨7, .data⟩ (by simp) rfl
              clear hdep hi ho hs
              have d9 := cell_up (ext_trans HBW.out hB) c2
              simp only [setAll, setFrom, List.setIfInBounds_toArray, List.set_cons_succ, List.set_cons_zero, Nat.reduceAdd] at hF
              simp only [d7] at hF
              subst hF
              go_wp2_with fail
              exact EachK.mk _ (Below.refl _ _) rfl (by simp only [List.setIfInBounds_toArray, List.set_cons_succ, List.set_cons_zero])
            · obtain rfl := Option.some.inj ho.symm
              obtain rfl := Option.some.inj hs.symm
              clear hdep hi ho hs
              simp only [setAll, setFrom, List.setIfInBounds_toArray, List.set_cons_succ, List.set_cons_zero, Nat.reduceAdd] at hF
              subst hF
              go_wp2_with fail
              exact EachK.mk _ (Below.refl _ _) rfl (by simp only [List.setIfInBounds_toArray, List.set_cons_succ, List.set_cons_zero])
            · obtain rfl := Option.some.inj ho.symm
              obtain rfl := Option.some.inj hs.symm
              have d8 : x 8 = .slice (some ⟨b3, o3, none⟩) l2 q2 := hdep ⟨8, .data⟩ (by simp) rfl
              have d9 : x 9 = .int .i64 (p : Int) := hdep ⟨9, .data⟩ (by simp) rfl
              clear hdep hi ho hs
              simp only [setAll, setFrom, List.setIfInBounds_toArray, List.set_cons_succ, List.set_cons_zero, Nat.reduceAdd] at hF
              simp only [d8, d9] at hF
              subst hF
              go_wp2_with fail
              exact EachK.mk _ (Below.refl _ _) rfl (by simp only [List.setIfInBounds_toArray, List.set_cons_succ, List.set_cons_zero])
            · obtain rfl := Option.some.inj ho.symm
              obtain rfl := Option.some.inj hs.symm
              have d10 : x 10 = .pointer (some ⟨b3, o3 + p, none⟩) := hdep ⟨10, .data⟩ (by simp) rfl
              clear hdep hi ho hs
              have d9 := cell_up (ext_trans HBW.out hB) c3
              simp only [setAll, setFrom, List.setIfInBounds_toArray, List.set_cons_succ, List.set_cons_zero, Nat.reduceAdd] at hF
              simp only [d10] at hF
              subst hF
              go_wp2_with fail
              exact EachK.mk _ (Below.refl _ _) rfl (by simp only [List.setIfInBounds_toArray, List.set_cons_succ, List.set_cons_zero])
            · obtain rfl := Option.some.inj ho.symm
              obtain rfl := Option.some.inj hs.symm
              clear hdep hi ho hs
              simp only [setAll, setFrom, List.setIfInBounds_toArray, List.set_cons_succ, List.set_cons_zero, Nat.reduceAdd] at hF
              subst hF
              go_wp2_with fail
              exact EachK.mk _ (Below.refl _ _) rfl (by simp only [List.setIfInBounds_toArray, List.set_cons_succ, List.set_cons_zero])
            · obtain rfl := Option.some.inj ho.symm
              obtain rfl := Option.some.inj hs.symm
              clear hdep hi ho hs
              simp only [setAll, setFrom, List.setIfInBounds_toArray, List.set_cons_succ, List.set_cons_zero, Nat.reduceAdd] at hF
              subst hF
              go_wp2_with fail
              exact EachK.mk _ (Below.refl _ _) rfl (by simp only [List.setIfInBounds_toArray, List.set_cons_succ, List.set_cons_zero])
            · obtain rfl := Option.some.inj ho.symm
              obtain rfl := Option.some.inj hs.symm
              have d12 : x 12 = .slice (some ⟨b5, o5, none⟩) now.length cn := hdep ⟨12, .data⟩ (by simp) rfl
              have d13 : x 13 = .int .i64 (q : Int) := hdep ⟨13, .data⟩ (by simp) rfl
              clear hdep hi ho hs
              simp only [setAll, setFrom, List.setIfInBounds_toArray, List.set_cons_succ, List.set_cons_zero, Nat.reduceAdd] at hF
              simp only [d12, d13] at hF
              subst hF
              go_wp2_with fail
              exact EachK.mk _ (Below.refl _ _) rfl (by simp only [List.setIfInBounds_toArray, List.set_cons_succ, List.set_cons_zero])
            · obtain rfl := Option.some.inj ho.symm
              obtain rfl := Option.some.inj hs.symm
              have d14 : x 14 = .pointer (some ⟨b5, o5 + q, none⟩) := hdep ⟨14, .data⟩ (by simp) rfl
              clear hdep hi ho hs
              have d9 := cell_up (ext_trans HBW.out hB) c5
              simp only [setAll, setFrom, List.setIfInBounds_toArray, List.set_cons_succ, List.set_cons_zero, Nat.reduceAdd] at hF
              simp only [d14] at hF
              subst hF
              go_wp2_with fail
              exact EachK.mk _ (Below.refl _ _) rfl (by simp only [List.setIfInBounds_toArray, List.set_cons_succ, List.set_cons_zero])
            · obtain rfl := Option.some.inj ho.symm
              obtain rfl := Option.some.inj hs.symm
              have d11 : x 11 = .slice (some ⟨b4, o4, none⟩) l3 q3 := hdep ⟨11, .data⟩ (by simp) rfl
              have d15 : x 15 = .int .i64 (s : Int) := hdep ⟨15, .data⟩ (by simp) rfl
              clear hdep hi ho hs
              simp only [setAll, setFrom, List.setIfInBounds_toArray, List.set_cons_succ, List.set_cons_zero, Nat.reduceAdd] at hF
              simp only [d11, d15] at hF
              subst hF
              go_wp2_with fail
              exact EachK.mk _ (Below.refl _ _) rfl (by simp only [List.setIfInBounds_toArray, List.set_cons_succ, List.set_cons_zero])
            · obtain rfl := Option.some.inj ho.symm
              obtain rfl := Option.some.inj hs.symm
              have d16 : x 16 = .pointer (some ⟨b4, o4 + s, none⟩) := hdep ⟨16, .data⟩ (by simp) rfl
              clear hdep hi ho hs
              have d9 := cell_up (ext_trans HBW.out hB) c4
              simp only [setAll, setFrom, List.setIfInBounds_toArray, List.set_cons_succ, List.set_cons_zero, Nat.reduceAdd] at hF
              simp only [d16] at hF
              subst hF
              go_wp2_with fail
              exact EachK.mk _ (Below.refl _ _) rfl (by simp only [List.setIfInBounds_toArray, List.set_cons_succ, List.set_cons_zero])
            · obtain rfl := Option.some.inj ho.symm
              obtain rfl := Option.some.inj hs.symm
              have d0 : x 0 = .int .i64 (q : Int) := hdep ⟨0, .data⟩ (by simp) rfl
              clear hdep hi ho hs
              simp only [setAll, setFrom, List.setIfInBounds_toArray, List.set_cons_succ, List.set_cons_zero, Nat.reduceAdd] at hF
              simp only [d0] at hF
              subst hF
              go_wp2_with fail
              exact EachK.mk _ (Below.refl _ _) rfl (by simp only [List.setIfInBounds_toArray, List.set_cons_succ, List.set_cons_zero])
          case tail =>
            intro x W o F ho hB hall hF
            obtain rfl := Option.some.inj ho.symm
            have e17 : x 17 = .int .i64 sy := hall 17 (by omega)
            have e18 : x 18 = .pointer (some ⟨w.heap.size + 1 + 1 + 1, q, none⟩) := hall 18 (by omega)
            clear hall ho
            simp only [setAll, setFrom, List.setIfInBounds_toArray, List.set_cons_succ, List.set_cons_zero, Nat.reduceAdd] at hF
            simp only [e17, e18] at hF
            subst hF
            have hO2 := block_up hB HI1.out.2.2.2.2
            have cq := cell_block hO2 q
            have fq := frozen_block hO2 q
            rw [Array.getElem?_setIfInBounds_self_of_lt (by rw [hC_size]; exact hq5)] at cq
            have HO2 := Lib.hid hO2
            have HM2 := Lib.hid (block_up hB HMW.out)
            have HG2 := Lib.hid (block_up hB HI1.out.2.2.1)
            have HR2 := Lib.hid (block_up hB HI1.out.2.2.2.1)
            have HB2 := Lib.hid (ext_trans HBW.out hB)
            clear hO2
            go_wp2_with fail
            go_roundw
            case rel =>
              refine ⟨q + 1, by omega, by go_num, HB2.out.setCell (p := ⟨w.heap.size + 1 + 1 + 1, q, none⟩) (by dsimp only; omega) _, setCell_other HM2.out (by omega) _ _, setCell_other HG2.out (by omega) _ _, setCell_other HR2.out (by omega) _ _, ?_⟩
              rw [setCell_same HO2.out, Array.setIfInBounds_setIfInBounds, ← HV.out, hC_set fl q hq5]
            case measure => simp [intOf]; omega
      · have hmn : ¬ (q : Int) < m.n := by have := HN.out; omega
        have hmd : decide ((q : Int) < m.n) = false := decide_eq_false hmn
        have HV : Hid (fl q = -1) := by (have h : fl q = -1 := by (rw [HFL.out q, if_neg (by omega), HF.out q, if_neg (by omega), if_neg (fun h => hmn h.1)])); exact h
        go_wp2_with fail
        go_roundw
        case rel =>
          refine ⟨q + 1, by omega, by go_num, (HBR.out.setCell (p := ⟨w.heap.size + 1 + 1 + 1, q, none⟩) (by dsimp only; omega) _), setCell_other HM.out (by omega) _ _, setCell_other HG.out (by omega) _ _, setCell_other HR.out (by omega) _ _, ?_⟩
          rw [setCell_same HO.out, ← HV.out, hC_set fl q hq5]
        case measure => simp [intOf]; omega
    · have HQ5 : Hid (q = 5) := by (have h : q = 5 := by omega); exact h
      have hq5' : ¬ (q : Int) < 5 := by omega
      obtain ⟨b2, o2, rfl, ⟨c2, _⟩⟩ := EN.out p (by have := HL.out; omega)
      rw [Nat.mul_one] at c2
      have d2 := cell_up hbr c2
      have hb2' := cell_lt c2
      dsimp only at hb2'
      have hltn : p < now.length := by have := HL.out; omega
      have hltn' : (p : Int) < (now.length : Int) := by omega
      have HV : Hid (f p = now[p]) := by (have h : f p = now[p] := by (rw [HF.out p, if_pos rfl, getD_of_lt 0 hltn])); exact h
      generalize now[p] = x at d2 HV
      clear c2
      have cq := cell_block hO p
      rw [hC_get fl q p (by omega)] at cq
      have fq := frozen_block hO p
      have HR := Lib.hid hR
      have HO := Lib.hid hO
      have HBR := Lib.hid hbr
      have hs2 := block_lt hO
      have hp5 : (p : Int) < 5 := by omega
      clear hM hG hR hO
      go_upto_region 9 with fail
      refine wp_gen (fun W => Below w.heap.size w W ∧ W.heap[w.heap.size + 1 + 1]? = some (.cells (hC fl 0) 45) ∧ W.heap[w.heap.size + 1 + 1 + 1]? = some (.cells (hC f 5) 45)) ⟨HBR.out.setCell (p := ⟨w.heap.size + 1 + 1 + 1, p, none⟩) (by dsimp only; omega) _, setCell_other HR.out (by omega) _ _, ?_⟩ (fun W9 hW9 => ?_)
      · have hO5 := HO.out
        rw [HQ5.out] at hO5
        rw [setCell_same hO5, ← HV.out, hC_put (f := f) (by omega) (fun j hj => by rw [HFL.out j, if_neg hj])]
      obtain ⟨hb9, hR9, hO9⟩ := hW9
      rw [hC_five] at hO9
      rw [hC_zero] at hR9
      have t1 := cell_block hO9
      have t2 := cell_block hR9
      have f2 := frozen_block hR9
      have HR9 := Lib.hid hR9
      have HB9 := Lib.hid hb9
      clear hO9 hR9 cq fq d2 hq5'
      go_wp2_with fail
      refine bodyPost_ret (v := arrV (f 0) (f 1) (f 2) (f 3) (f 4)) (arr_results _ _ 10 Tryz.results96 (w.heap.size + 1 + 1) _ _ _ _ _ _ 45 rfl (by rw [setCell_same (setCell_same (setCell_same (setCell_same (setCell_same HR9.out 0 _) 1 _) 2 _) 3 _) 4 _]; rfl)) rfl ?_
      exact ⟨rfl, ((((HB9.out.setCell (p := ⟨w.heap.size + 1 + 1, 0, none⟩) (by dsimp only; omega) _).setCell (p := ⟨w.heap.size + 1 + 1, 1, none⟩) (by dsimp only; omega) _).setCell (p := ⟨w.heap.size + 1 + 1, 2, none⟩) (by dsimp only; omega) _).setCell (p := ⟨w.heap.size + 1 + 1, 3, none⟩) (by dsimp only; omega) _).setCell (p := ⟨w.heap.size + 1 + 1, 4, none⟩) (by dsimp only; omega) _⟩
end Go.Proofs.YtjmejfgkogjpaaaGreatDoor

namespace Go.Proofs.YtjmejfgkogjpaaaGreatDoor
open Go.RowKit Go Go.Shelf

set_option maxRecDepth 100000 in
set_option maxHeartbeats 8000000 in
theorem rrun_any (m : Mac) (n r : Nat) (hgood : Good m n r) (vf vy vt vo vi vw : Value) (inputs : List Int) (word : List Rd) (w : World) (hf : IsVecs w vf m.first) (hy : IsV4 w vy m.syms) (ht : IsSteps w vt m.steps) (ho : IsV3 w vo m.out) (hi : IsInts w vi inputs) (hw : IsWord w vw word)
    (hil : inputs.length = n) (hir : ∀ p, p < n → 0 ≤ inputs.getD p 0 ∧ inputs.getD p 0 < m.ins) (hwl : word.length = r) (hwe : wordE m.n word = 0) :
    Calls Tryz.prog 52 #[.agg (macC m vf vy vt vo), vi, vw] w fun e w' => RunR (runL m inputs word) r w e w' := by
  have HF := Lib.hid hf
  have HY := Lib.hid hy
  have HT := Lib.hid ht
  have HO := Lib.hid ho
  have HGD := Lib.hid hgood
  have HIL := Lib.hid hil
  have HIR := Lib.hid hir
  have HWL := Lib.hid hwl
  have HWE := Lib.hid hwe
  obtain ⟨pf, cf, rfl, lf1, lf2, ef⟩ := hf.at
  obtain ⟨py, cy, rfl, _⟩ := hy.at
  obtain ⟨pt, ct, rfl, _⟩ := ht.at
  obtain ⟨po, co, rfl, _⟩ := ho.at
  obtain ⟨pi, ci, rfl, li1, li2, ei⟩ := hi.at
  obtain ⟨pw, cw, rfl, lw1, lw2, ew⟩ := hw.at
  have EF := Lib.hid ef
  have EI := Lib.hid ei
  have EW := Lib.hid ew
  have HLEN := Lib.hid (out_len ho)
  have hn5 := hgood.n5
  have hn1 := hgood.n1
  clear hf hy ht ho hi hw hgood hil hir hwl hwe ef ei ew
  obtain ⟨RL, hRL⟩ : ∃ RL, runL m inputs word = RL := ⟨_, rfl⟩
  rw [hRL]
  have HRL := Lib.hid hRL
  clear hRL
  obtain ⟨fs, hfs⟩ : ∃ fs, firstS m inputs = fs := ⟨_, rfl⟩
  have HFS := Lib.hid hfs
  have HFL : Hid (fs.length = n) := by (have h : fs.length = n := by (rw [← hfs]; unfold firstS; rw [HGD.out.hn]; simp)); exact h
  clear hfs
  obtain ⟨i1, hj0, hj1, hj2, hj3⟩ := info_parts Tryz.infoInt
  go_enter Tryz.func52, Tryz.ntmps52
  go_wp2_with fail
  refine wp_gen (fun W => Below w.heap.size w W ∧ W.heap[w.heap.size]? = some (.cells (macC m (.slice pf m.first.length cf) (.slice py m.syms.length cy) (.slice pt m.steps.length ct) (.slice po m.out.length co)) 27)) ⟨by go_grown, alloc_new _ _⟩ (fun W0 hW0 => ?_)
  obtain ⟨hb0, hM⟩ := hW0
  have HM := Lib.hid hM
  have hlm := block_lt hM
  have hw0 := hb0.size
  clear hM
  go_loopw [8, 9] (fun v i wr => ∃ p : Nat, p ≤ n ∧ i = .int .i64 p ∧ Below W0.heap.size W0 wr ∧ OwnT wr W0.heap.size 3 1 v p ((fs.take p).map (Value.int .i64)) ∧ ∀ j, j < p → 0 ≤ fs.getD j 0) (fun _ i _ => n - (intOf i).toNat)
  case atStart => exact ⟨0, by omega, rfl, Below.refl _ _, OwnT.nil _ _ _ _, by simp⟩
  case round =>
    obtain ⟨p, hp, rfl, hbr, hrow, hinv⟩ := hrel
    have H := Lib.hid hinv
    have HROW0 := Lib.hid hrow
    obtain ⟨ad, cd, rfl⟩ := hrow.slice
    clear hrow hinv
    have hbw := ext_trans hb0 hbr
    have hwr0 := hbr.size
    by_cases hpn : p < n
    · have hpm : (p : Int) < m.n := by rw [HGD.out.hn]; omega
      have hpf : p < fs.length := by rw [HFL.out]; exact hpn
      have hpff : p < m.first.length := by rw [HGD.out.fl]; exact hpn
      have hpi : p < inputs.length := by rw [HIL.out]; exact hpn
      have hpff' : (p : Int) < (m.first.length : Int) := by omega
      have hpi' : (p : Int) < (inputs.length : Int) := by omega
      have hxr := HIR.out p hpn
      obtain ⟨bf, of, rfl, uf, cfe, hfe⟩ := EF.out p hpff
      obtain ⟨prr, cr, rfl, lr1, lr2, er⟩ := hfe.at
      obtain ⟨bi, oi, rfl, cie, hie9⟩ := EI.out p hpi
      rw [Nat.mul_one] at cfe cie
      rw [getD_of_lt 0 hpi] at hxr
      obtain ⟨xN, hxN⟩ : ∃ xN : Nat, inputs[p] = xN := ⟨inputs[p].toNat, by omega⟩
      rw [hxN] at hxr cie
      have hrl := HGD.out.fp p hpn
      rw [getD_of_lt [] hpff] at hrl
      have hxl : xN < m.first[p].length := by omega
      obtain ⟨br, orr, rfl, cye, hye9⟩ := er xN hxl
      rw [Nat.mul_one] at cye
      have HYF : Hid (fs.getD p 0 = m.first[p][xN]) := by
        have h : fs.getD p 0 = m.first[p][xN] := by
          rw [← HFS.out]
          unfold firstS
          rw [HGD.out.hn, Int.toNat_natCast, List.getD_eq_getElem?_getD, List.getElem?_map, List.getElem?_range hpn]
          simp only [Option.map_some, Option.getD_some]
          rw [getD_of_lt [] hpff, getD_of_lt 0 hpi, hxN, Int.toNat_natCast, getD_of_lt 0 hxl]
        exact h
      have HYR := Lib.hid (HGD.out.fr p xN hpn (by rw [getD_of_lt [] hpff]; exact hxl))
      rw [getD_of_lt [] hpff, getD_of_lt 0 hxl] at HYR
      have hxl' : (xN : Int) < (m.first[p].length : Int) := by omega
      have HCF : Hid (bf < W0.heap.size ∧ wr.cell? ⟨bf, of + p, none⟩ = _) := Lib.hid ⟨by have := cell_lt cfe; dsimp only at this; omega, cell_up hbw cfe⟩
      have HCI : Hid (bi < W0.heap.size ∧ wr.cell? ⟨bi, oi + p, none⟩ = _) := Lib.hid ⟨by have := cell_lt cie; dsimp only at this; omega, cell_up hbw cie⟩
      have HCY : Hid (br < W0.heap.size ∧ wr.cell? ⟨br, orr + xN, none⟩ = _) := Lib.hid ⟨by have := cell_lt cye; dsimp only at this; omega, cell_up hbw cye⟩
      clear hie9 hye9 cfe cie cye er hfe hrl hxr hxN
      generalize m.first[p][xN] = y at HCY HYF HYR
      generalize m.first[p].length = lr at HCF lr1 lr2 hxl' hxl
      have HYF' := HYF
      have HNONE : Hid (y < 0 → RL = []) := by
        have h : y < 0 → RL = [] := fun hy0 => by
          rw [← HRL.out]
          refine runL_nil ?_
          have e1 : fs.getD p 0 = -1 := by have := HYR.out; have := HYF.out; omega
          rw [HFS.out, List.contains_iff_mem, ← e1, getD_of_lt 0 hpf]
          exact List.getElem_mem hpf
        exact h
      obtain ⟨dl, hdl⟩ : ∃ dl, (fs.take p).map (Value.int .i64) = dl := ⟨_, rfl⟩
      have HROW := Lib.hid (hdl ▸ HROW0.out)
      have HDL := Lib.hid hdl
      have HMr := Lib.hid (block_up hbr HM.out)
      have HNO : Hid (∀ k, k < W0.heap.size → (Value.slice ad p cd).ownBlock ≠ some k) := by
        have h : ∀ k, k < W0.heap.size → (Value.slice ad p cd).ownBlock ≠ some k := fun k hk e => by have := (HROW.out.lt k e).1; omega
        exact h
      have t1 := cell_block HMr.out
      clear hdl
      go_wp2_with fail
      clear t1
      refine wp_region_core3 15 [21, 22, 23, 24, 25, 26, 27, 28, 29, 30, 31, 32, 33, 34, 8] [some (.slice ad p cd),
        some (.pointer (some ⟨w.heap.size, 4, none⟩)),
        some (.slice (some ⟨bf, of, none⟩) m.first.length cf),
        some (.int .i64 (p : Int)),
        some (.pointer (some ⟨bf, of + p, none⟩)),
        some (.slice (some ⟨br, orr, none⟩) lr cr),
        some (.slice (some ⟨bi, oi, none⟩) inputs.length ci),
        some (.int .i64 (p : Int)),
        some (.pointer (some ⟨bi, oi + p, none⟩)),
        some (.int .i64 (xN : Int)),
        some (.pointer (some ⟨br, orr + xN, none⟩)),
        some (.int .i64 y),
        none,
        none,
        none] (COne W0 wr W0.heap.size (.slice ad p cd) p dl (.int .i64 y)) (by kernel_rfl) rfl (by decide) rfl (by kernel_rfl) (fun _ => ⟨hbr.drew, Nat.le_refl _, fun _ _ h _ => h, HROW.out, nofun, nofun⟩) ?step ?tail
      case step =>
        intro x W D i o s F hi ho hs hD hun0 hcl hdep hv hcore hF
        have hcase : i = 0 ∨ i = 1 ∨ i = 2 ∨ i = 3 ∨ i = 4 ∨ i = 5 ∨ i = 6 ∨ i = 7 ∨ i = 8 ∨ i = 9 ∨ i = 10 ∨ i = 11 ∨ i = 12 ∨ i = 13 ∨ i = 14 := by omega
        rcases hcase with rfl | rfl | rfl | rfl | rfl | rfl | rfl | rfl | rfl | rfl | rfl | rfl | rfl | rfl | rfl
        · have hun := hun0 _ _ hs hD
          obtain rfl := Option.some.inj ho.symm
          obtain rfl := Option.some.inj hs.symm
          clear hdep hi hv
          have hn14 : D 14 = false := by
            cases h : D 14 with
            | false => rfl
            | true => exact absurd (hcl 14 _ rfl h ⟨0, .phase⟩ (by simp) rfl) (by rw [hD]; decide)
          have e8 : F.getD 8 undef = .slice ad p cd := by (rw [hF]; exact (setAll_getD (by decide) (i := 14) rfl (Nat.le_of_ble_eq_true (by kernel_rfl))).trans (hun0 14 8 rfl hn14))
          clear hn14
          clear hun0 hcl
          clear hF hun
          have e8' := (show F[8]?.getD undef = F.getD 8 undef by simp only [Array.getD_eq_getD_getElem?]).trans e8
          have HD := Lib.hid hD
          have HCORE := Lib.hid hcore
          clear hD hcore
          refine core_move (.tmp 8) rfl rfl ?_
          refine CoreK.mk (F.getD 8 undef) (fun c hc => e8.trans (Option.some.inj hc)) ?_ rfl
          exact ⟨HCORE.out.old, HCORE.out.size, HCORE.out.kept, HCORE.out.rd, HCORE.out.s12, HCORE.out.a14⟩
        · have hun := hun0 _ _ hs hD
          obtain rfl := Option.some.inj ho.symm
          obtain rfl := Option.some.inj hs.symm
          clear hdep hi hv
          have e3 : F.getD 3 undef = .pointer (some ⟨w.heap.size, 0, none⟩) := by (rw [hF, setAll_getD_ne (by decide)]; rfl)
          clear hun0 hcl
          clear hF hun
          have e3' := (show F[3]?.getD undef = F.getD 3 undef by simp only [Array.getD_eq_getD_getElem?]).trans e3
          have HD := Lib.hid hD
          have HCORE := Lib.hid hcore
          clear hD hcore
          go_wp2_with fail
          refine CoreK.mk _ (fun c hc => Option.some.inj hc) ?_ rfl
          exact ⟨HCORE.out.old, HCORE.out.size, HCORE.out.kept, HCORE.out.rd, HCORE.out.s12, HCORE.out.a14⟩
        · have hun := hun0 _ _ hs hD
          obtain rfl := Option.some.inj ho.symm
          obtain rfl := Option.some.inj hs.symm
          have g1 := hdep ⟨1, .data⟩ (by simp) rfl
          have d1 : x 1 = .pointer (some ⟨w.heap.size, 4, none⟩) := hv 1 _ (by omega) g1 rfl
          clear hdep hi hv
          have e22 : F.getD 22 undef = .pointer (some ⟨w.heap.size, 4, none⟩) := by (rw [← d1, hF]; exact setAll_getD (by decide) (i := 1) rfl (Nat.le_of_ble_eq_true (by kernel_rfl)))
          clear hun0 hcl
          clear hF hun d1
          have t := cell_block (hcore.kept _ _ HMr.out (HNO.out _ (by omega)))
          have e22' := (show F[22]?.getD undef = F.getD 22 undef by simp only [Array.getD_eq_getD_getElem?]).trans e22
          have HD := Lib.hid hD
          have HCORE := Lib.hid hcore
          clear hD hcore
          clear g1
          go_wp2_with fail
          refine CoreK.mk _ (fun c hc => Option.some.inj hc) ?_ rfl
          exact ⟨HCORE.out.old, HCORE.out.size, HCORE.out.kept, HCORE.out.rd, HCORE.out.s12, HCORE.out.a14⟩
        · have hun := hun0 _ _ hs hD
          obtain rfl := Option.some.inj ho.symm
          obtain rfl := Option.some.inj hs.symm
          clear hdep hi hv
          have e9 : F.getD 9 undef = .int .i64 (p : Int) := by (rw [hF, setAll_getD_ne (by decide)]; rfl)
          clear hun0 hcl
          clear hF hun
          have e9' := (show F[9]?.getD undef = F.getD 9 undef by simp only [Array.getD_eq_getD_getElem?]).trans e9
          have HD := Lib.hid hD
          have HCORE := Lib.hid hcore
          clear hD hcore
          refine core_move (.tmp 9) rfl rfl ?_
          refine CoreK.mk (F.getD 9 undef) (fun c hc => e9.trans (Option.some.inj hc)) ?_ rfl
          exact ⟨HCORE.out.old, HCORE.out.size, HCORE.out.kept, HCORE.out.rd, HCORE.out.s12, HCORE.out.a14⟩
        · have hun := hun0 _ _ hs hD
          obtain rfl := Option.some.inj ho.symm
          obtain rfl := Option.some.inj hs.symm
          have g2 := hdep ⟨2, .data⟩ (by simp) rfl
          have d2 : x 2 = .slice (some ⟨bf, of, none⟩) m.first.length cf := hv 2 _ (by omega) g2 rfl
          have g3 := hdep ⟨3, .data⟩ (by simp) rfl
          have d3 : x 3 = .int .i64 (p : Int) := hv 3 _ (by omega) g3 rfl
          clear hdep hi hv
          have e23 : F.getD 23 undef = .slice (some ⟨bf, of, none⟩) m.first.length cf := by (rw [← d2, hF]; exact setAll_getD (by decide) (i := 2) rfl (Nat.le_of_ble_eq_true (by kernel_rfl)))
          have e24 : F.getD 24 undef = .int .i64 (p : Int) := by (rw [← d3, hF]; exact setAll_getD (by decide) (i := 3) rfl (Nat.le_of_ble_eq_true (by kernel_rfl)))
          clear hun0 hcl
          clear hF hun d2 d3
          have e23' := (show F[23]?.getD undef = F.getD 23 undef by simp only [Array.getD_eq_getD_getElem?]).trans e23
          have e24' := (show F[24]?.getD undef = F.getD 24 undef by simp only [Array.getD_eq_getD_getElem?]).trans e24
          have HD := Lib.hid hD
          have HCORE := Lib.hid hcore
          clear hD hcore
          clear g2
          clear g3
          go_wp2_with fail
          refine CoreK.mk _ (fun c hc => Option.some.inj hc) ?_ rfl
          exact ⟨HCORE.out.old, HCORE.out.size, HCORE.out.kept, HCORE.out.rd, HCORE.out.s12, HCORE.out.a14⟩
        · have hun := hun0 _ _ hs hD
          obtain rfl := Option.some.inj ho.symm
          obtain rfl := Option.some.inj hs.symm
          have g4 := hdep ⟨4, .data⟩ (by simp) rfl
          have d4 : x 4 = .pointer (some ⟨bf, of + p, none⟩) := hv 4 _ (by omega) g4 rfl
          clear hdep hi hv
          have e25 : F.getD 25 undef = .pointer (some ⟨bf, of + p, none⟩) := by (rw [← d4, hF]; exact setAll_getD (by decide) (i := 4) rfl (Nat.le_of_ble_eq_true (by kernel_rfl)))
          clear hun0 hcl
          clear hF hun d4
          have t := cell_kept hcore.kept HNO.out HCF.out
          have e25' := (show F[25]?.getD undef = F.getD 25 undef by simp only [Array.getD_eq_getD_getElem?]).trans e25
          have HD := Lib.hid hD
          have HCORE := Lib.hid hcore
          clear hD hcore
          clear g4
          go_wp2_with fail
          refine CoreK.mk _ (fun c hc => Option.some.inj hc) ?_ rfl
          exact ⟨HCORE.out.old, HCORE.out.size, HCORE.out.kept, HCORE.out.rd, HCORE.out.s12, HCORE.out.a14⟩
        · have hun := hun0 _ _ hs hD
          obtain rfl := Option.some.inj ho.symm
          obtain rfl := Option.some.inj hs.symm
          clear hdep hi hv
          have e1 : F.getD 1 undef = .slice (some ⟨bi, oi, none⟩) inputs.length ci := by (rw [hF, setAll_getD_ne (by decide)]; rfl)
          clear hun0 hcl
          clear hF hun
          have e1' := (show F[1]?.getD undef = F.getD 1 undef by simp only [Array.getD_eq_getD_getElem?]).trans e1
          have HD := Lib.hid hD
          have HCORE := Lib.hid hcore
          clear hD hcore
          refine core_move (.tmp 1) rfl rfl ?_
          refine CoreK.mk (F.getD 1 undef) (fun c hc => e1.trans (Option.some.inj hc)) ?_ rfl
          exact ⟨HCORE.out.old, HCORE.out.size, HCORE.out.kept, HCORE.out.rd, HCORE.out.s12, HCORE.out.a14⟩
        · have hun := hun0 _ _ hs hD
          obtain rfl := Option.some.inj ho.symm
          obtain rfl := Option.some.inj hs.symm
          clear hdep hi hv
          have e9 : F.getD 9 undef = .int .i64 (p : Int) := by (rw [hF, setAll_getD_ne (by decide)]; rfl)
          clear hun0 hcl
          clear hF hun
          have e9' := (show F[9]?.getD undef = F.getD 9 undef by simp only [Array.getD_eq_getD_getElem?]).trans e9
          have HD := Lib.hid hD
          have HCORE := Lib.hid hcore
          clear hD hcore
          refine core_move (.tmp 9) rfl rfl ?_
          refine CoreK.mk (F.getD 9 undef) (fun c hc => e9.trans (Option.some.inj hc)) ?_ rfl
          exact ⟨HCORE.out.old, HCORE.out.size, HCORE.out.kept, HCORE.out.rd, HCORE.out.s12, HCORE.out.a14⟩
        · have hun := hun0 _ _ hs hD
          obtain rfl := Option.some.inj ho.symm
          obtain rfl := Option.some.inj hs.symm
          have g6 := hdep ⟨6, .data⟩ (by simp) rfl
          have d6 : x 6 = .slice (some ⟨bi, oi, none⟩) inputs.length ci := hv 6 _ (by omega) g6 rfl
          have g7 := hdep ⟨7, .data⟩ (by simp) rfl
          have d7 : x 7 = .int .i64 (p : Int) := hv 7 _ (by omega) g7 rfl
          clear hdep hi hv
          have e27 : F.getD 27 undef = .slice (some ⟨bi, oi, none⟩) inputs.length ci := by (rw [← d6, hF]; exact setAll_getD (by decide) (i := 6) rfl (Nat.le_of_ble_eq_true (by kernel_rfl)))
          have e28 : F.getD 28 undef = .int .i64 (p : Int) := by (rw [← d7, hF]; exact setAll_getD (by decide) (i := 7) rfl (Nat.le_of_ble_eq_true (by kernel_rfl)))
          clear hun0 hcl
          clear hF hun d6 d7
          have e27' := (show F[27]?.getD undef = F.getD 27 undef by simp only [Array.getD_eq_getD_getElem?]).trans e27
          have e28' := (show F[28]?.getD undef = F.getD 28 undef by simp only [Array.getD_eq_getD_getElem?]).trans e28
          have HD := Lib.hid hD
          have HCORE := Lib.hid hcore
          clear hD hcore
          clear g6
          clear g7
          go_wp2_with fail
          refine CoreK.mk _ (fun c hc => Option.some.inj hc) ?_ rfl
          exact ⟨HCORE.out.old, HCORE.out.size, HCORE.out.kept, HCORE.out.rd, HCORE.out.s12, HCORE.out.a14⟩
        · have hun := hun0 _ _ hs hD
          obtain rfl := Option.some.inj ho.symm
          obtain rfl := Option.some.inj hs.symm
          have g8 := hdep ⟨8, .data⟩ (by simp) rfl
          have d8 : x 8 = .pointer (some ⟨bi, oi + p, none⟩) := hv 8 _ (by omega) g8 rfl
          clear hdep hi hv
          have e29 : F.getD 29 undef = .pointer (some ⟨bi, oi + p, none⟩) := by (rw [← d8, hF]; exact setAll_getD (by decide) (i := 8) rfl (Nat.le_of_ble_eq_true (by kernel_rfl)))
          clear hun0 hcl
          clear hF hun d8
          have t := cell_kept hcore.kept HNO.out HCI.out
          have e29' := (show F[29]?.getD undef = F.getD 29 undef by simp only [Array.getD_eq_getD_getElem?]).trans e29
          have HD := Lib.hid hD
          have HCORE := Lib.hid hcore
          clear hD hcore
          clear g8
          go_wp2_with fail
          refine CoreK.mk _ (fun c hc => Option.some.inj hc) ?_ rfl
          exact ⟨HCORE.out.old, HCORE.out.size, HCORE.out.kept, HCORE.out.rd, HCORE.out.s12, HCORE.out.a14⟩
        · have hun := hun0 _ _ hs hD
          obtain rfl := Option.some.inj ho.symm
          obtain rfl := Option.some.inj hs.symm
          have g5 := hdep ⟨5, .data⟩ (by simp) rfl
          have d5 : x 5 = .slice (some ⟨br, orr, none⟩) lr cr := hv 5 _ (by omega) g5 rfl
          have g9 := hdep ⟨9, .data⟩ (by simp) rfl
          have d9 : x 9 = .int .i64 (xN : Int) := hv 9 _ (by omega) g9 rfl
          clear hdep hi hv
          have e26 : F.getD 26 undef = .slice (some ⟨br, orr, none⟩) lr cr := by (rw [← d5, hF]; exact setAll_getD (by decide) (i := 5) rfl (Nat.le_of_ble_eq_true (by kernel_rfl)))
          have e30 : F.getD 30 undef = .int .i64 (xN : Int) := by (rw [← d9, hF]; exact setAll_getD (by decide) (i := 9) rfl (Nat.le_of_ble_eq_true (by kernel_rfl)))
          clear hun0 hcl
          clear hF hun d5 d9
          have e26' := (show F[26]?.getD undef = F.getD 26 undef by simp only [Array.getD_eq_getD_getElem?]).trans e26
          have e30' := (show F[30]?.getD undef = F.getD 30 undef by simp only [Array.getD_eq_getD_getElem?]).trans e30
          have HD := Lib.hid hD
          have HCORE := Lib.hid hcore
          clear hD hcore
          clear g5
          clear g9
          go_wp2_with fail
          refine CoreK.mk _ (fun c hc => Option.some.inj hc) ?_ rfl
          exact ⟨HCORE.out.old, HCORE.out.size, HCORE.out.kept, HCORE.out.rd, HCORE.out.s12, HCORE.out.a14⟩
        · have hun := hun0 _ _ hs hD
          obtain rfl := Option.some.inj ho.symm
          obtain rfl := Option.some.inj hs.symm
          have g10 := hdep ⟨10, .data⟩ (by simp) rfl
          have d10 : x 10 = .pointer (some ⟨br, orr + xN, none⟩) := hv 10 _ (by omega) g10 rfl
          clear hdep hi hv
          have e31 : F.getD 31 undef = .pointer (some ⟨br, orr + xN, none⟩) := by (rw [← d10, hF]; exact setAll_getD (by decide) (i := 10) rfl (Nat.le_of_ble_eq_true (by kernel_rfl)))
          clear hun0 hcl
          clear hF hun d10
          have t := cell_kept hcore.kept HNO.out HCY.out
          have e31' := (show F[31]?.getD undef = F.getD 31 undef by simp only [Array.getD_eq_getD_getElem?]).trans e31
          have HD := Lib.hid hD
          have HCORE := Lib.hid hcore
          clear hD hcore
          clear g10
          go_wp2_with fail
          refine CoreK.mk _ (fun c hc => Option.some.inj hc) ?_ rfl
          exact ⟨HCORE.out.old, HCORE.out.size, HCORE.out.kept, HCORE.out.rd, HCORE.out.s12, HCORE.out.a14⟩
        · have hun := hun0 _ _ hs hD
          obtain rfl := Option.some.inj ho.symm
          obtain rfl := Option.some.inj hs.symm
          have g11 := hdep ⟨11, .data⟩ (by simp) rfl
          have d11 : x 11 = .int .i64 y := hv 11 _ (by omega) g11 rfl
          clear hdep hi hv
          have e32 : F.getD 32 undef = .int .i64 y := by (rw [← d11, hF]; exact setAll_getD (by decide) (i := 11) rfl (Nat.le_of_ble_eq_true (by kernel_rfl)))
          clear hun0 hcl
          clear hF hun d11
          have e32' := (show F[32]?.getD undef = F.getD 32 undef by simp only [Array.getD_eq_getD_getElem?]).trans e32
          have HD := Lib.hid hD
          have HCORE := Lib.hid hcore
          clear hD hcore
          clear g11
          go_wp2_with fail
          refine CoreK.mk _ (fun c hc => by cases hc) ?_ rfl
          exact HCORE.out.build
        · have hun := hun0 _ _ hs hD
          obtain rfl := Option.some.inj ho.symm
          obtain rfl := Option.some.inj hs.symm
          have g0 := hdep ⟨0, .data⟩ (by simp) rfl
          have d0 : x 0 = .slice ad p cd := hv 0 _ (by omega) g0 rfl
          have g12 := hdep ⟨12, .data⟩ (by simp) rfl
          clear hdep hi hv
          have e21 : F.getD 21 undef = .slice ad p cd := by (rw [← d0, hF]; exact setAll_getD (by decide) (i := 0) rfl (Nat.le_of_ble_eq_true (by kernel_rfl)))
          have e33 : F.getD 33 undef = x 12 := by (rw [hF]; exact setAll_getD (by decide) (i := 12) rfl (Nat.le_of_ble_eq_true (by kernel_rfl)))
          clear hun0 hcl
          clear hF hun d0
          obtain ⟨gb, qx, hgb, _⟩ := hcore.s12 g12 hD
          rw [qx] at e33
          have hrow := hcore.rd
          rw [hD] at hrow
          have HROW4 : Hid (OwnT W W0.heap.size 3 1 (.slice ad p cd) p _) := Lib.hid hrow
          have hnews : ∀ j u', [Value.int .i64 y][j]? = some u' → W.cell? (Addr.add ⟨gb, 0, none⟩ j) = some u' := fun j u' hj => by
            have e1 : (Addr.add ⟨gb, 0, none⟩ j) = ⟨gb, j, none⟩ := by unfold Addr.add; split <;> simp_all
            rw [e1, cell_block hgb]
            simpa using hj
          have HNEWS := Lib.hid hnews
          have hbs := hcore.size
          clear hnews hrow hgb qx
          have e21' := (show F[21]?.getD undef = F.getD 21 undef by simp only [Array.getD_eq_getD_getElem?]).trans e21
          have e33' := (show F[33]?.getD undef = F.getD 33 undef by simp only [Array.getD_eq_getD_getElem?]).trans e33
          have HD := Lib.hid hD
          have HCORE := Lib.hid hcore
          clear hD hcore
          clear g0
          clear g12
          refine wpList_append_T W rfl (.tmp 21) (.tmp 33) 28 rfl W0.heap.size 3 i1 _ 1 8 Tryz.underlying28 hj0 hj1 hj2 hj3 rfl (by decide) _ p _ e21 HROW4.out ⟨gb, 0, none⟩ 1 1 [.int .i64 y] e33 rfl HNEWS.out (by simp [Value.oneCell']) (by unfold maxLen; omega) (by omega) (by omega) ?_
          intro v' w3 hown3 hgrow3 hwh3
          refine CoreK.mk v' (fun c hc => by cases hc) ?_ rfl
          exact HCORE.out.app HD.out hown3 hgrow3 (by omega)
        · have hun := hun0 _ _ hs hD
          obtain rfl := Option.some.inj ho.symm
          obtain rfl := Option.some.inj hs.symm
          have g13 := hdep ⟨13, .data⟩ (by simp) rfl
          clear hdep hi hv
          have e34 : F.getD 34 undef = x 13 := by (rw [hF]; exact setAll_getD (by decide) (i := 13) rfl (Nat.le_of_ble_eq_true (by kernel_rfl)))
          clear hun0 hcl
          clear hF hun
          have hr := hcore.rd
          rw [g13] at hr
          obtain ⟨ag, cg, qg⟩ := hr.slice
          have qg' : x 13 = .slice ag (p + 1) cg := qg
          rw [qg'] at e34
          have HG := Lib.hid (And.intro qg' g13)
          clear hr qg qg'
          have e34' := (show F[34]?.getD undef = F.getD 34 undef by simp only [Array.getD_eq_getD_getElem?]).trans e34
          have HD := Lib.hid hD
          have HCORE := Lib.hid hcore
          clear hD hcore
          clear g13
          go_wp2_with fail
          refine CoreK.mk _ (fun c hc => by cases hc) ?_ rfl
          exact ⟨HCORE.out.old, HCORE.out.size, HCORE.out.kept, HCORE.out.rd, HCORE.out.s12, fun _ => ⟨HG.out.2, HG.out.1.symm⟩⟩
      case tail =>
        intro x W' D F hall hv hcore hF
        have x0 := hv 0 _ (by omega) rfl
        have x1 := hv 1 _ (by omega) rfl
        have x2 := hv 2 _ (by omega) rfl
        have x3 := hv 3 _ (by omega) rfl
        have x4 := hv 4 _ (by omega) rfl
        have x5 := hv 5 _ (by omega) rfl
        have x6 := hv 6 _ (by omega) rfl
        have x7 := hv 7 _ (by omega) rfl
        have x8 := hv 8 _ (by omega) rfl
        have x9 := hv 9 _ (by omega) rfl
        have x10 := hv 10 _ (by omega) rfl
        have x11 := hv 11 _ (by omega) rfl
        have hrd := hcore.rd
        rw [hall 13 (by omega)] at hrd
        have x14 := (hcore.a14 (hall 14 (by omega))).2
        have hrd2 : OwnT W' W0.heap.size 3 1 (x 13) (p + 1) ((fs.take (p + 1)).map (Value.int .i64)) := by
          rw [tk_ints hpf, HYF.out, HDL.out]; exact hrd
        have HB' : Hid (Below W0.heap.size W0 W') := by
          have h : Below W0.heap.size W0 W' := hcore.old
          exact h
        have hlast : ∃ g c, x 13 = .slice (some ⟨g, 0, none⟩) (p + 1) c ∧ W'.cell? ⟨g, p, none⟩ = some (.int .i64 y) := hrd2.cell p _ (by rw [List.getElem?_map, List.getElem?_take_of_lt (by omega), List.getElem?_eq_getElem hpf, ← getD_of_lt 0 hpf, HYF.out]; rfl)
        obtain ⟨g9, c9, q9, hc9⟩ := hlast
        rw [q9] at x14 hrd2
        have HRD := Lib.hid hrd2
        simp only [setAll, setFrom, List.setIfInBounds_toArray, List.set_cons_succ, List.set_cons_zero, Nat.reduceAdd, x0, x1, x2, x3, x4, x5, x6, x7, x8, x9, x10, x11, x14, q9] at hF
        generalize x 12 = y12 at hF
        subst hF
        clear hv hall hcore hrd hrd2 x14 q9 x0 x1 x2 x3 x4 x5 x6 x7 x8 x9 x10 x11
        have hpp : (p : Int) < ((p + 1 : Nat) : Int) := by omega
        have hpp' : (p : Int) < (p : Int) + 1 := by omega
        by_cases hy0 : y < 0
        · go_wp2_with fail
          go_ret2
          exact RunR.bad (by rw [HNONE.out hy0]; simp) (ext_trans hb0 HB'.out)
        · go_wp2_with fail
          go_roundw
          case rel => exact ⟨p + 1, by omega, by go_num, HB'.out, HRD.out, below_succ H.out (by rw [HYF'.out]; omega)⟩
          case measure => simp [intOf]; omega
    · have hpm : ¬ (p : Int) < m.n := by rw [HGD.out.hn]; omega
      have HPN : Hid (p = n) := by (have h : p = n := by omega); exact h
      have HNC : Hid (RL[0]? = some fs) := by
        have h : RL[0]? = some fs := by
          rw [← HRL.out, ← HFS.out]
          refine runL_first fun hc => ?_
          rw [HFS.out, List.contains_iff_mem] at hc
          obtain ⟨j, hj, e⟩ := List.getElem_of_mem hc
          have h1 := H.out j (by rw [HPN.out, ← HFL.out]; exact hj)
          rw [getD_of_lt 0 hj, e] at h1
          simp at h1
        exact h
      have t1 := cell_block (block_up hbr HM.out)
      go_wp2_with fail
      clear t1
      refine wp_gen (fun W => RunI W0 RL n 0 (.slice ad p cd) (.slice (some ⟨wr.heap.size, 0, none⟩) 1 1) W) ?_ (fun W1 hW1 => ?_)
      · have hA : Below wr.heap.size wr (wr.alloc (.cells #[.slice ad p cd] 28)) := by go_grown
        refine ⟨ext_trans hbr hA, (List.getElem?_eq_some_iff.1 HNC.out).1, [.slice ad p cd], rfl, ⟨rfl, .inr ⟨_, 1, _, (0, 0), rfl, hwr0, alloc_new _ _, fun i _ hh => by have := hh.2; simp at this, Nat.le_refl _, by unfold maxLen; omega, rfl, rfl⟩⟩, fun j hj => ?_, rfl⟩
        obtain rfl : j = 0 := by simp at hj; omega
        have h1 := HROW0.out.up hA
        rw [List.take_of_length_le (by rw [HFL.out, HPN.out]; exact Nat.le_refl _)] at h1
        rw [List.getD_eq_getElem?_getD, HNC.out, ← HPN.out]
        exact h1
      have HW1 := Lib.hid hW1
      clear hW1 hbr hbw hpn hpm H HROW0 hwr0
      obtain ⟨i2, hi0, hi1, hi2, hi3⟩ := info_parts Tryz.infoInts
      have hr6 := HGD.out.r6
      go_loopw [8, 10, 11] (fun vn vo i wr => ∃ k : Nat, k ≤ r ∧ i = .int .i64 k ∧ RunI W0 RL n k vn vo wr) (fun _ _ i _ => r - (intOf i).toNat)
      case atStart => exact ⟨0, by omega, rfl, HW1.out⟩
      case round =>
        obtain ⟨k, hk, rfl, hri⟩ := hrel
        rename World => Wk
        have HI := Lib.hid hri
        obtain ⟨an, cn, rfl⟩ := hri.now.slice
        obtain ⟨ao, cc, rfl⟩ := hri.out
        clear hri
        have hbw := ext_trans hb0 HI.out.kept
        have hsw := hbw.size
        by_cases hkr : k < r
        · have hkm : (k : Int) < m.rounds := by rw [HGD.out.hr]; omega
          have hkw : k < word.length := by rw [HWL.out]; exact hkr
          have hkw' : (k : Int) < (word.length : Int) := by omega
          obtain ⟨x, hx⟩ : ∃ x, RL[k]? = some x := ⟨RL[k]'HI.out.lt, List.getElem?_eq_getElem HI.out.lt⟩
          have hfit := runL_fits HGD.out (word := word) HIL.out HIR.out k x (by rw [HRL.out]; exact hx)
          have hnx := runL_next (m := m) (inputs := inputs) (word := word) (k := k) (x := x) (by rw [HRL.out]; exact hx) hkw
          rw [HRL.out] at hnx
          have HNX := Lib.hid hnx
          have HFIT := Lib.hid hfit
          have HXI : Hid (IsInts Wk (.slice an n cn) x) := by
            have h : IsInts Wk (.slice an n cn) x := by
              have h1 := HI.out.now
              rw [List.getD_eq_getElem?_getD, hx] at h1
              have h2 : OwnT Wk W0.heap.size 3 1 (.slice an n cn) x.length (x.map (Value.int .i64)) := by rw [hfit.1]; exact h1
              refine own_ints h2 (fun z hz => ?_) (by rw [hfit.1]; omega)
              obtain ⟨j, hj, rfl⟩ := List.getElem_of_mem hz
              have h3 := fits_in hfit (fun q _ => HLEN.out k q) j hj
              rwa [getD_of_lt 0 hj] at h3
            exact h
          have HHO := Lib.hid (fun q (hq : q < 5) => hear_ok HWE.out hkw (p := q) hq)
          obtain ⟨bw, ow, rfl, ⟨⟨c0, _⟩, ⟨c1, _⟩, ⟨c2, _⟩, ⟨c3, _⟩, ⟨c4, _⟩, ⟨c5, _⟩, ⟨c6, _⟩⟩⟩ := EW.out k hkw
          generalize word[k] = rd at c0 c1 c2 c3 c4 c5 HNX HHO
          obtain ⟨nx, hnxl⟩ : ∃ nx, (List.range n).map (fun p => (nextP m k x rd p).getD 0) = nx := ⟨_, rfl⟩
          have HNL := Lib.hid hnxl
          clear hfit hnx hx hnxl
          have t1 := cell_block (block_up HI.out.kept HM.out)
          go_wp2_with fail
          clear t1
          go_loopw [12, 13] (fun v i wr' => Below Wk.heap.size Wk wr' ∧ ∃ p : Nat, p ≤ n ∧ i = .int .i64 p ∧ OwnT wr' Wk.heap.size 3 1 v p ((nx.take p).map (Value.int .i64)) ∧ ∀ j, j < p → (nextP m k x rd j).isNone = false) (fun _ i _ => n - (intOf i).toNat)
          case atStart => exact ⟨Below.refl _ _, 0, by omega, rfl, OwnT.nil _ _ _ _, by simp⟩
          case round =>
            obtain ⟨hbr, p, hp, rfl, hrow, hinv⟩ := hrel
            have H := Lib.hid hinv
            have HROW := Lib.hid hrow
            obtain ⟨ax, cx, rfl⟩ := hrow.slice
            clear hrow hinv
            have hbw2 := ext_trans hbw hbr
            have hkp := ext_trans HI.out.kept hbr
            have hsz2 := hbr.size
            by_cases hpn : p < n
            · have hpm : (p : Int) < m.n := by rw [HGD.out.hn]; omega
              obtain ⟨f, hf⟩ : ∃ f, hearsF m k p x (rd.g.hear p) = f := ⟨_, rfl⟩
              have HC1 := Lib.hid (show ∀ y : ExtW wr, Calls Tryz.prog 96 #[.agg (macC m (.slice pf m.first.length cf) (.slice py m.syms.length cy) (.slice pt m.steps.length ct) (.slice po m.out.length co)), .int .i64 k, .int .i64 p, .slice an n cn, rd.g.v] y.val fun e w'' => e = .returned (arrV (f 0) (f 1) (f 2) (f 3) (f 4)) ∧ ∃ z : ExtW wr, w'' = z.val from fun y => by
                rw [← hf]
                exact Calls.ext_of (rhears_any m _ _ _ _ _ _ _ _ _ _ k p n _ x rd.g y.val HGD.out.hn hn5 hpn (by rw [HGD.out.yl]; exact hkr) (HGD.out.yk k hkr) (fun q hq => HGD.out.yp k q hkr hq) HFIT.out.1 (fun q hq hqp => by
                  have h1 := HFIT.out.2 q hq
                  have h2 := HGD.out.yq k q p hkr hq hpn
                  rw [if_neg hqp] at h2
                  omega) (HHO.out p (by omega)) (HY.out.up up_v3 (ext_trans hbw2 y.ext)) (HXI.out.up up_int (ext_trans hbr y.ext))))
              obtain ⟨to, hto⟩ : ∃ to, (stepTo m ⟨k, p, f 0, f 1, f 2, f 3, f 4⟩).getD (-1) = to := ⟨_, rfl⟩
              have HC2 := Lib.hid (show ∀ y : ExtW wr, Calls Tryz.prog 95 #[.agg (macC m (.slice pf m.first.length cf) (.slice py m.syms.length cy) (.slice pt m.steps.length ct) (.slice po m.out.length co)), .int .i64 k, .int .i64 p, arrV (f 0) (f 1) (f 2) (f 3) (f 4)] y.val fun e w'' => e = .returned (.int .i64 to) ∧ ∃ z : ExtW wr, w'' = z.val from fun y => by
                rw [← hto]
                exact Calls.ext_of (rfind_any m _ _ _ _ k p (f 0) (f 1) (f 2) (f 3) (f 4) y.val (HF.out.up up_ints (ext_trans hbw2 y.ext)) (HY.out.up up_v3 (ext_trans hbw2 y.ext)) (HT.out.up up_step (ext_trans hbw2 y.ext)) (HO.out.up up_vecs (ext_trans hbw2 y.ext))))
              have HTO : Hid ((nextP m k x rd p).getD (-1) = to) := by
                have h : (nextP m k x rd p).getD (-1) = to := by rw [← hto, ← hf]; rfl
                exact h
              have HFT : Hid (∀ t, nextP m k x rd p = some t → 0 ≤ t ∧ t < (((m.out.getD (k + 1) []).getD p []).length : Int)) := by
                have h : ∀ t, nextP m k x rd p = some t → 0 ≤ t ∧ t < (((m.out.getD (k + 1) []).getD p []).length : Int) := fun t ht => stepTo_fits HGD.out (x := hearsP m k p x (rd.g.hear p)) rfl rfl ht
                exact h
              clear hf hto
              have t1 := cell_block (block_up hkp HM.out)
              have q1 : ∀ y : ExtW wr, ∀ o, y.val.cell? ⟨w.heap.size, o, none⟩ = _ := fun y => cell_block (block_up (ext_trans hkp y.ext) HM.out)
              have g0 : ∀ y : ExtW wr, y.val.cell? ⟨bw, ow + k * 7, none⟩ = _ := fun y => y.cell (cell_up hbw2 c0)
              have g1 : ∀ y : ExtW wr, y.val.cell? ⟨bw, ow + k * 7 + 1, none⟩ = _ := fun y => y.cell (cell_up hbw2 c1)
              have g2 : ∀ y : ExtW wr, y.val.cell? ⟨bw, ow + k * 7 + 2, none⟩ = _ := fun y => y.cell (cell_up hbw2 c2)
              have g3 : ∀ y : ExtW wr, y.val.cell? ⟨bw, ow + k * 7 + 3, none⟩ = _ := fun y => y.cell (cell_up hbw2 c3)
              have g4 : ∀ y : ExtW wr, y.val.cell? ⟨bw, ow + k * 7 + 4, none⟩ = _ := fun y => y.cell (cell_up hbw2 c4)
              have g5 : ∀ y : ExtW wr, y.val.cell? ⟨bw, ow + k * 7 + 5, none⟩ = _ := fun y => y.cell (cell_up hbw2 c5)
              go_wp2_with fail
              refine wp_region_quiet_ext (by kernel_rfl) (by kernel_rfl) ?_
              repeat (go_big_quiet_step (first | (go_at_call 96; with_reducible exact HC1.out _) | (go_at_call 95; with_reducible exact HC2.out _)))
              refine wpQuiet_nil ?_
              intro _ hw'
              obtain ⟨xq, hw''⟩ := hw'
              subst hw''
              clear t1 q1 g0 g1 g2 g3 g4 g5 HC1 HC2
              cases hnp : nextP m k x rd p with
              | none =>
                have ht1 : to = -1 := by rw [← HTO.out, hnp]; rfl
                subst ht1
                have HBAD : Hid (RL.length = k + 1) := by
                  have h : RL.length = k + 1 := HNX.out.2 (by
                    unfold nextS
                    rw [if_pos (anyLt_at (k := p) (by rw [HGD.out.hn, Int.toNat_natCast]; exact hpn) (by rw [hnp]; rfl))])
                  exact h
                clear hnp
                go_wp2_with fail
                go_ret2
                exact RunR.bad (by rw [HBAD.out]; omega) (ext_trans hbw2 xq.ext)
              | some t =>
                have ht1 : to = t := by rw [← HTO.out, hnp]; rfl
                subst ht1
                have HT0 := Lib.hid (HFT.out to hnp)
                have ht0 : ¬ to < 0 := by have := HT0.out; omega
                have HSN : Hid ((nx.take (p + 1)).map (Value.int .i64) = (nx.take p).map (Value.int .i64) ++ [.int .i64 to]) := by
                  have h : (nx.take (p + 1)).map (Value.int .i64) = (nx.take p).map (Value.int .i64) ++ [.int .i64 to] := by
                    have hl : p < nx.length := by rw [← HNL.out]; simpa using hpn
                    rw [tk_ints hl, getD_of_lt 0 hl]
                    have : nx[p] = to := by
                      have h1 : nx[p]? = some to := by
                        rw [← HNL.out, List.getElem?_map, List.getElem?_range hpn]
                        simp [hnp]
                      rw [List.getElem?_eq_getElem hl] at h1
                      exact Option.some.inj h1
                    rw [this]
                  exact h
                have HNN : Hid ((nextP m k x rd p).isNone = false) := by (have h : (nextP m k x rd p).isNone = false := by (rw [hnp]; rfl)); exact h
                clear hnp
                have hbq := ext_trans hbr xq.ext
                have hA : Below xq.val.heap.size xq.val (xq.val.alloc (.cells #[.int .i64 to] 3)) := by go_grown
                obtain ⟨nl, hnl⟩ : ∃ nl, (nx.take p).map (Value.int .i64) = nl := ⟨_, rfl⟩
                have HOWN := Lib.hid (hnl ▸ HROW.out.up (ext_trans xq.ext hA))
                rw [hnl] at HSN
                clear hnl
                have hnews : ∀ j u', [Value.int .i64 to][j]? = some u' → (xq.val.alloc (.cells #[.int .i64 to] 3)).cell? (Addr.add ⟨xq.val.heap.size, 0, none⟩ j) = some u' := fun j u' hj => by
                  have e1 : (Addr.add ⟨xq.val.heap.size, 0, none⟩ j) = ⟨xq.val.heap.size, j, none⟩ := by unfold Addr.add; split <;> simp_all
                  rw [e1, cell_block (alloc_new xq.val _)]
                  simpa using hj
                have HNEWS := Lib.hid hnews
                clear hnews
                have hsq := hbq.size
                go_wp2_with (at_builtin; (refine wpList_append_T _ rfl (.tmp 70) (.tmp 72) 28 rfl Wk.heap.size 3 i1 _ 1 8 Tryz.underlying28 hj0 hj1 hj2 hj3 rfl (by decide) _ p _ rfl HOWN.out ⟨xq.val.heap.size, 0, none⟩ 1 1 [.int .i64 to] rfl rfl HNEWS.out (by simp [Value.oneCell']) (by unfold maxLen; omega) (by omega) (by simp; omega) ?_; intro v' w3 hown3 hgrow3 hwh3; obtain ⟨av', cv', rfl⟩ := hown3.slice))
                go_roundw
                case rel => exact ⟨Below.grown (hbq.alloc hsq _) hgrow3 (by simp; omega) (fun g hg => (HROW.out.lt g hg).1), p + 1, by omega, by go_num, by rw [HSN.out]; exact hown3, below_succ H.out HNN.out⟩
                case measure => simp [intOf]; omega
            · have hpm : ¬ (p : Int) < m.n := by rw [HGD.out.hn]; omega
              have HPN2 : Hid (p = n) := by (have h : p = n := by omega); exact h
              have HNS : Hid (RL[k + 1]? = some nx) := by
                have h : RL[k + 1]? = some nx := HNX.out.1 nx (by
                  unfold nextS
                  rw [if_neg (by rw [anyLt_none (fun j hj => H.out j (by rw [HGD.out.hn, Int.toNat_natCast] at hj; omega))]; simp), HGD.out.hn, Int.toNat_natCast, HNL.out])
                exact h
              obtain ⟨xs, hx1, hx2, hx3, _⟩ := HI.out.row
              have HX1 := Lib.hid (And.intro hx1 (And.intro hx2 hx3))
              have hA : Below wr.heap.size wr (wr.alloc (.cells #[.slice ax p cx] 28)) := by go_grown
              have HOWN := Lib.hid (hx2.up (ext_trans hbr hA))
              have HNR : Hid (OwnT wr Wk.heap.size 3 1 (.slice ax p cx) n ((RL.getD (k + 1) []).map (Value.int .i64))) := by
                have h : OwnT wr Wk.heap.size 3 1 (.slice ax p cx) n ((RL.getD (k + 1) []).map (Value.int .i64)) := by
                  have h1 := HROW.out
                  rw [List.take_of_length_le (by rw [← HNL.out]; simp; omega)] at h1
                  rw [List.getD_eq_getElem?_getD, HNS.out]
                  have e := HPN2.out
                  subst e
                  exact h1
                exact h
              have hnews : ∀ j u', [Value.slice ax p cx][j]? = some u' → (wr.alloc (.cells #[.slice ax p cx] 28)).cell? (Addr.add ⟨wr.heap.size, 0, none⟩ j) = some u' := fun j u' hj => by
                have e1 : (Addr.add ⟨wr.heap.size, 0, none⟩ j) = ⟨wr.heap.size, j, none⟩ := by unfold Addr.add; split <;> simp_all
                rw [e1, cell_block (alloc_new wr _)]
                simpa using hj
              have HNEWS := Lib.hid hnews
              have hskp := hkp.size
              have t1 := cell_block (block_up hkp HM.out)
              clear hnews hx1 hx2 hx3
              go_wp2_with (at_builtin; (refine wpList_append_T _ rfl (.tmp 74) (.tmp 76) 22 rfl W0.heap.size 28 i2 _ 1 24 Tryz.underlying22 hi0 hi1 hi2 hi3 rfl (by decide) _ (k + 1) _ rfl HOWN.out ⟨wr.heap.size, 0, none⟩ 1 1 [.slice ax p cx] rfl rfl HNEWS.out (by simp [Value.oneCell']) (by unfold maxLen; omega) (by omega) (by simp; omega) ?_; intro v' w3 hown3 hgrow3 hwh3; obtain ⟨av', cv', rfl⟩ := hown3.slice))
              go_roundw
              case rel => exact ⟨k + 1, by omega, by go_num, RunI.snoc HI.out.kept HX1.out.1 HX1.out.2.1 HX1.out.2.2 hbr HNR.out (List.getElem?_eq_some_iff.1 HNS.out).1 hA hown3 hgrow3⟩
              case measure => simp [intOf]; omega
        · have hkm : ¬ (k : Int) < m.rounds := by rw [HGD.out.hr]; omega
          have HKR : Hid (k = r) := by (have h : k = r := by omega); exact h
          have t1 := cell_block (block_up HI.out.kept HM.out)
          go_wp2_with fail
          go_ret2
          have hle := runL_le m inputs word
          rw [HRL.out, HWL.out] at hle
          have hlt := HI.out.lt
          have hRlen : RL.length = r + 1 := by have := HKR.out; omega
          refine RunR.good hRlen (HI.out.vecs (by rw [hRlen, HKR.out]) (fun z hz => ?_) (by omega) (by omega)) hbw
          obtain ⟨j, hj, rfl⟩ := List.getElem_of_mem hz
          have hfit := runL_fits HGD.out (word := word) HIL.out HIR.out j RL[j] (by rw [HRL.out]; exact List.getElem?_eq_getElem hj)
          exact ⟨hfit.1, fits_in hfit (fun q _ => HLEN.out j q)⟩
end Go.Proofs.YtjmejfgkogjpaaaGreatDoor

namespace Go.Proofs.YtjmejfgkogjpaaaGreatDoor
open Go.RowKit Go Go.Shelf

theorem neq_rd (a b : Rd) (w : World) : (binOp .neq 49 a.v b.v).run Tryz.prog w = .ok (.bool (!decide (a = b))) w := by
  rw [run_neq_struct, eqIn_rd 9996]; rfl
abbrev Msg.v (m : Msg) : Value := .agg m.c
theorem bytes_toList (a b : ByteArray) : (a.toList == b.toList) = decide (a = b) := by
  rw [ByteArray.toList_eq, ByteArray.toList_eq]
  obtain ⟨⟨x⟩⟩ := a
  obtain ⟨⟨y⟩⟩ := b
  by_cases h : x = y <;> simp [h]
theorem eqIn_msg (d : Nat) (a b : Msg) (w : World) : (Op.equalIn (d + 2) 65 a.v b.v).run Tryz.prog w = .ok (decide (a = b)) w := by
  have hS : Tryz.prog.underlying 65 = some (.struct (Tryz.prog.fieldsOf 65)) := by kernel_rfl
  have hp : Tryz.prog.stoodInHeld 65 = false := by kernel_rfl
  rw [run_equalIn_struct w (d + 1) 65 _ _ hS hp]
  have ag := Tryz.isAgg3
  have ah := Tryz.isAgg9
  have u3 := Tryz.underlying3
  have u9 := Tryz.underlying9
  simp only [Program.fieldsOf, Tryz.underlying65]
  simp [Op.eqFields, part, ag, ah, run_equalIn_int w d 3 _ .i64 _ _ u3, run_equalIn_string w d 9 _ _ u9]
  obtain ⟨n, k, h0, h1⟩ := a
  obtain ⟨m, l, g0, g1⟩ := b
  by_cases hn : n = m
  case neg => simp [hn]
  by_cases hk : k = l
  case neg => simp [hn, hk]
  by_cases hh : h0 = g0
  case neg => simp [hn, hk, hh]
  have hb := bytes_toList h1 g1
  by_cases hs : h1 = g1
  · simp [hn, hk, hh, hs]
  · have hb2 : ¬ h1.toList = g1.toList := by simpa [hs] using hb
    simp [hn, hk, hh, hs, hb2]
theorem neq_msg (a b : Msg) (w : World) : (binOp .neq 65 a.v b.v).run Tryz.prog w = .ok (.bool (!decide (a = b))) w := by
  rw [run_neq_struct, eqIn_msg 9998]; rfl
theorem list_ext_getD {α : Type} [DecidableEq α] {a b : List α} (d : α) (hl : a.length = b.length) (h : ∀ j, j < a.length → a.getD j d = b.getD j d) : a = b :=
  List.ext_getElem hl fun i h1 h2 => by
    have := h i h1
    rwa [getD_of_lt d h1, getD_of_lt d h2] at this

set_option maxRecDepth 100000 in
set_option maxHeartbeats 2000000 in
theorem equalRounds_any (va vb : Value) (a b : List Rd) (w : World) (ha : IsWord w va a) (hb : IsWord w vb b) :
    Calls Tryz.prog 75 #[va, vb] w fun e w' => e = .returned (.bool (decide (a = b))) ∧ Below w.heap.size w w' := by
  obtain ⟨pa, ca, rfl, la1, la2, ea⟩ := ha.at
  obtain ⟨pb, cb, rfl, lb1, lb2, eb⟩ := hb.at
  clear ha hb
  have EA := Lib.hid ea; clear ea
  have EB := Lib.hid eb; clear eb
  generalize hres : decide (a = b) = res
  have HRES := Lib.hid hres
  clear hres
  by_cases hl : a.length = b.length
  case neg =>
    have hl1 : ((a.length : Int) != (b.length : Int)) = true := by simp; omega
    have HR : Hid (res = false) := by (have h : res = false := by (rw [← HRES.out]; simp; intro h; exact hl (by rw [h]))); exact h
    clear hl
    go_enter Tryz.func75, Tryz.ntmps75
    go_wp2
    go_ret
    exact ⟨ret_bool HR.out.symm, Below.refl _ _⟩
  have hl1 : ((a.length : Int) != (b.length : Int)) = false := by simp [hl]
  have HL := Lib.hid hl; clear hl
  go_enter Tryz.func75, Tryz.ntmps75
  go_wp2
  clear hl1
  go_loopw [13] (fun i wr => Below w.heap.size w wr ∧ ∃ k : Nat, k ≤ a.length ∧ i = .int .i64 k ∧ ∀ j, j < k → a.getD j default = b.getD j default) (fun i _ => a.length - (intOf i).toNat)
  case atStart => exact ⟨Below.refl _ _, 0, by omega, rfl, by simp⟩
  case round =>
    obtain ⟨hbr, k, hk, rfl, hinv⟩ := hrel
    have H := Lib.hid hinv; clear hinv
    by_cases hlt : k < a.length
    · have hlt2 : k < b.length := by have := HL.out; omega
      obtain ⟨b1, o1, rfl, ⟨c0, r0⟩, ⟨c1, r1⟩, ⟨c2, r2⟩, ⟨c3, r3⟩, ⟨c4, r4⟩, ⟨c5, r5⟩, ⟨c6, r6⟩⟩ := EA.out k hlt
      obtain ⟨b2, o2, rfl, ⟨e0, s0⟩, ⟨e1, s1⟩, ⟨e2, s2⟩, ⟨e3, s3⟩, ⟨e4, s4⟩, ⟨e5, s5⟩, ⟨e6, s6⟩⟩ := EB.out k hlt2
      have c0' : ∀ y : ExtW wr, y.val.cell? ⟨b1, o1 + k * 7, none⟩ = _ := fun y => y.cell (cell_up hbr c0)
      have c1' : ∀ y : ExtW wr, y.val.cell? ⟨b1, o1 + k * 7 + 1, none⟩ = _ := fun y => y.cell (cell_up hbr c1)
      have c2' : ∀ y : ExtW wr, y.val.cell? ⟨b1, o1 + k * 7 + 2, none⟩ = _ := fun y => y.cell (cell_up hbr c2)
      have c3' : ∀ y : ExtW wr, y.val.cell? ⟨b1, o1 + k * 7 + 3, none⟩ = _ := fun y => y.cell (cell_up hbr c3)
      have c4' : ∀ y : ExtW wr, y.val.cell? ⟨b1, o1 + k * 7 + 4, none⟩ = _ := fun y => y.cell (cell_up hbr c4)
      have c5' : ∀ y : ExtW wr, y.val.cell? ⟨b1, o1 + k * 7 + 5, none⟩ = _ := fun y => y.cell (cell_up hbr c5)
      have c6' : ∀ y : ExtW wr, y.val.cell? ⟨b1, o1 + k * 7 + 6, none⟩ = _ := fun y => y.cell (cell_up hbr c6)
      have e0' : ∀ y : ExtW wr, y.val.cell? ⟨b2, o2 + k * 7, none⟩ = _ := fun y => y.cell (cell_up hbr e0)
      have e1' : ∀ y : ExtW wr, y.val.cell? ⟨b2, o2 + k * 7 + 1, none⟩ = _ := fun y => y.cell (cell_up hbr e1)
      have e2' : ∀ y : ExtW wr, y.val.cell? ⟨b2, o2 + k * 7 + 2, none⟩ = _ := fun y => y.cell (cell_up hbr e2)
      have e3' : ∀ y : ExtW wr, y.val.cell? ⟨b2, o2 + k * 7 + 3, none⟩ = _ := fun y => y.cell (cell_up hbr e3)
      have e4' : ∀ y : ExtW wr, y.val.cell? ⟨b2, o2 + k * 7 + 4, none⟩ = _ := fun y => y.cell (cell_up hbr e4)
      have e5' : ∀ y : ExtW wr, y.val.cell? ⟨b2, o2 + k * 7 + 5, none⟩ = _ := fun y => y.cell (cell_up hbr e5)
      have e6' : ∀ y : ExtW wr, y.val.cell? ⟨b2, o2 + k * 7 + 6, none⟩ = _ := fun y => y.cell (cell_up hbr e6)
      have HX := Lib.hid (getD_of_lt default hlt)
      have HY := Lib.hid (getD_of_lt default hlt2)
      clear c0 r0 e0 s0 c1 r1 e1 s1 c2 r2 e2 s2 c3 r3 e3 s3 c4 r4 e4 s4 c5 r5 e5 s5 c6 r6 e6 s6
      generalize a[k] = x at c0' c1' c2' c3' c4' c5' c6' HX
      generalize b[k] = y at e0' e1' e2' e3' e4' e5' e6' HY
      have hne := fun w => neq_rd x y w
      go_wp2
      by_cases hxy : x = y
      · have hd : decide (x = y) = true := by simpa using hxy
        have HXY : Hid (a.getD k default = b.getD k default) := by (have h : a.getD k default = b.getD k default := by (rw [HX.out, HY.out, hxy])); exact h
        rw [hd] at hne
        clear hxy hd
        refine wp_region_quiet_ext (by kernel_rfl) (by kernel_rfl) ?_
        repeat (go_big_quiet_step (fail))
        refine wpQuiet_nil ?_
        intro _ hw'
        obtain ⟨xq, hw''⟩ := hw'
        subst hw''
        clear c0' c1' c2' c3' c4' c5' c6' e0' e1' e2' e3' e4' e5' e6' hne
        go_wp2
        go_roundw
        case rel => exact ⟨ext_trans hbr xq.ext, k + 1, by omega, by go_num, below_succ H.out HXY.out⟩
        case measure => simp [intOf]; omega
      · have hd : decide (x = y) = false := by simpa using hxy
        have HR : Hid (res = false) := by (have h : res = false := by (rw [← HRES.out]; simp; intro h; subst h; rw [HX.out] at HY; exact hxy HY.out)); exact h
        rw [hd] at hne
        clear hxy hd
        refine wp_region_quiet_ext (by kernel_rfl) (by kernel_rfl) ?_
        repeat (go_big_quiet_step (fail))
        refine wpQuiet_nil ?_
        intro _ hw'
        obtain ⟨xq, hw''⟩ := hw'
        subst hw''
        clear c0' c1' c2' c3' c4' c5' c6' e0' e1' e2' e3' e4' e5' e6' hne
        go_wp2
        go_ret
        exact ⟨ret_bool HR.out.symm, ext_trans hbr xq.ext⟩
    · have HR : Hid (res = true) := by (have h : res = true := by (rw [← HRES.out]; simp; exact list_ext_getD default HL.out fun j hj => H.out j (by omega))); exact h
      go_wp2
      go_ret
      exact ⟨ret_bool HR.out.symm, hbr⟩

set_option maxRecDepth 100000 in
set_option maxHeartbeats 2000000 in
theorem equalMsgs_any (va vb : Value) (a b : List Msg) (w : World) (ha : IsMsgs w va a) (hb : IsMsgs w vb b) :
    Calls Tryz.prog 78 #[va, vb] w fun e w' => e = .returned (.bool (decide (a = b))) ∧ Below w.heap.size w w' := by
  obtain ⟨pa, ca, rfl, la1, la2, ea⟩ := ha.at
  obtain ⟨pb, cb, rfl, lb1, lb2, eb⟩ := hb.at
  clear ha hb
  have EA := Lib.hid ea; clear ea
  have EB := Lib.hid eb; clear eb
  generalize hres : decide (a = b) = res
  have HRES := Lib.hid hres
  clear hres
  by_cases hl : a.length = b.length
  case neg =>
    have hl1 : ((a.length : Int) != (b.length : Int)) = true := by simp; omega
    have HR : Hid (res = false) := by (have h : res = false := by (rw [← HRES.out]; simp; intro h; exact hl (by rw [h]))); exact h
    clear hl
    go_enter Tryz.func78, Tryz.ntmps78
    go_wp2
    go_ret
    exact ⟨ret_bool HR.out.symm, Below.refl _ _⟩
  have hl1 : ((a.length : Int) != (b.length : Int)) = false := by simp [hl]
  have HL := Lib.hid hl; clear hl
  go_enter Tryz.func78, Tryz.ntmps78
  go_wp2
  clear hl1
  go_loopw [13] (fun i wr => Below w.heap.size w wr ∧ ∃ k : Nat, k ≤ a.length ∧ i = .int .i64 k ∧ ∀ j, j < k → a.getD j default = b.getD j default) (fun i _ => a.length - (intOf i).toNat)
  case atStart => exact ⟨Below.refl _ _, 0, by omega, rfl, by simp⟩
  case round =>
    obtain ⟨hbr, k, hk, rfl, hinv⟩ := hrel
    have H := Lib.hid hinv; clear hinv
    by_cases hlt : k < a.length
    · have hlt2 : k < b.length := by have := HL.out; omega
      obtain ⟨b1, o1, rfl, ⟨c0, r0⟩, ⟨c1, r1⟩, ⟨c2, r2⟩, c3, r3⟩ := EA.out k hlt
      obtain ⟨b2, o2, rfl, ⟨e0, s0⟩, ⟨e1, s1⟩, ⟨e2, s2⟩, e3, s3⟩ := EB.out k hlt2
      have c0' : ∀ y : ExtW wr, y.val.cell? ⟨b1, o1 + k * 4, none⟩ = _ := fun y => y.cell (cell_up hbr c0)
      have c1' : ∀ y : ExtW wr, y.val.cell? ⟨b1, o1 + k * 4 + 1, none⟩ = _ := fun y => y.cell (cell_up hbr c1)
      have c2' : ∀ y : ExtW wr, y.val.cell? ⟨b1, o1 + k * 4 + 2, none⟩ = _ := fun y => y.cell (cell_up hbr c2)
      have c3' : ∀ y : ExtW wr, y.val.cell? ⟨b1, o1 + k * 4 + 3, none⟩ = _ := fun y => y.cell (cell_up hbr c3)
      have e0' : ∀ y : ExtW wr, y.val.cell? ⟨b2, o2 + k * 4, none⟩ = _ := fun y => y.cell (cell_up hbr e0)
      have e1' : ∀ y : ExtW wr, y.val.cell? ⟨b2, o2 + k * 4 + 1, none⟩ = _ := fun y => y.cell (cell_up hbr e1)
      have e2' : ∀ y : ExtW wr, y.val.cell? ⟨b2, o2 + k * 4 + 2, none⟩ = _ := fun y => y.cell (cell_up hbr e2)
      have e3' : ∀ y : ExtW wr, y.val.cell? ⟨b2, o2 + k * 4 + 3, none⟩ = _ := fun y => y.cell (cell_up hbr e3)
      have HX := Lib.hid (getD_of_lt default hlt)
      have HY := Lib.hid (getD_of_lt default hlt2)
      clear c0 r0 e0 s0 c1 r1 e1 s1 c2 r2 e2 s2 c3 r3 e3 s3
      generalize a[k] = x at c0' c1' c2' c3' HX
      generalize b[k] = y at e0' e1' e2' e3' HY
      have hne := fun w => neq_msg x y w
      go_wp2
      by_cases hxy : x = y
      · have hd : decide (x = y) = true := by simpa using hxy
        have HXY : Hid (a.getD k default = b.getD k default) := by (have h : a.getD k default = b.getD k default := by (rw [HX.out, HY.out, hxy])); exact h
        rw [hd] at hne
        clear hxy hd
        refine wp_region_quiet_ext (by kernel_rfl) (by kernel_rfl) ?_
        repeat (go_big_quiet_step (fail))
        refine wpQuiet_nil ?_
        intro _ hw'
        obtain ⟨xq, hw''⟩ := hw'
        subst hw''
        clear c0' c1' c2' c3' e0' e1' e2' e3' hne
        go_wp2
        go_roundw
        case rel => exact ⟨ext_trans hbr xq.ext, k + 1, by omega, by go_num, below_succ H.out HXY.out⟩
        case measure => simp [intOf]; omega
      · have hd : decide (x = y) = false := by simpa using hxy
        have HR : Hid (res = false) := by (have h : res = false := by (rw [← HRES.out]; simp; intro h; subst h; rw [HX.out] at HY; exact hxy HY.out)); exact h
        rw [hd] at hne
        clear hxy hd
        refine wp_region_quiet_ext (by kernel_rfl) (by kernel_rfl) ?_
        repeat (go_big_quiet_step (fail))
        refine wpQuiet_nil ?_
        intro _ hw'
        obtain ⟨xq, hw''⟩ := hw'
        subst hw''
        clear c0' c1' c2' c3' e0' e1' e2' e3' hne
        go_wp2
        go_ret
        exact ⟨ret_bool HR.out.symm, ext_trans hbr xq.ext⟩
    · have HR : Hid (res = true) := by (have h : res = true := by (rw [← HRES.out]; simp; exact list_ext_getD default HL.out fun j hj => H.out j (by omega))); exact h
      go_wp2
      go_ret
      exact ⟨ret_bool HR.out.symm, hbr⟩

set_option maxHeartbeats 400000 in
theorem same1_any (vx vy : Value) (x y : List Int) (w : World) (hx : IsInts w vx x) (hy : IsInts w vy y) :
    Calls Tryz.prog 77 #[vx, vy] w fun e w' => e = .returned (.bool (eqV x y)) ∧ Below w.heap.size w w' := by
  have HC := Lib.hid (slicesEqual_any vx vy x y w hx hy)
  obtain ⟨_, _, rfl, _⟩ := hx.at
  obtain ⟨_, _, rfl, _⟩ := hy.at
  clear hx hy
  go_enter Tryz.func77, Tryz.ntmps77
  go_wp2_with fail
  refine HC.out.mono ?_
  rintro e w1 ⟨rfl, hb1⟩
  go_wp2_with fail
  go_ret
  exact ⟨rfl, hb1⟩

set_option maxRecDepth 100000 in
set_option maxHeartbeats 2000000 in
theorem equalVecs_any (va vb : Value) (a b : List (List Int)) (w : World) (ha : IsVecs w va a) (hb : IsVecs w vb b) :
    Calls Tryz.prog 76 #[va, vb, .func (.func 77) #[] #[]] w fun e w' => e = .returned (.bool (decide (a = b))) ∧ Below w.heap.size w w' := by
  obtain ⟨pa, ca, rfl, la1, la2, ea⟩ := ha.at
  obtain ⟨pb, cb, rfl, lb1, lb2, eb⟩ := hb.at
  clear ha hb
  have EA := Lib.hid ea; clear ea
  have EB := Lib.hid eb; clear eb
  generalize hres : decide (a = b) = res
  have HRES := Lib.hid hres
  clear hres
  have g1 := enters_of Tryz.func77 (P := Tryz.prog) (by kernel_rfl) rfl
  by_cases hl : a.length = b.length
  case neg =>
    have hl1 : ((a.length : Int) != (b.length : Int)) = true := by simp; omega
    have HR : Hid (res = false) := by (have h : res = false := by (rw [← HRES.out]; simp; intro h; exact hl (by rw [h]))); exact h
    clear hl
    go_enter Tryz.func76, Tryz.ntmps76
    go_wp2
    go_ret
    exact ⟨ret_bool HR.out.symm, Below.refl _ _⟩
  have hl1 : ((a.length : Int) != (b.length : Int)) = false := by simp [hl]
  have HL := Lib.hid hl; clear hl
  go_enter Tryz.func76, Tryz.ntmps76
  go_wp2
  clear hl1
  go_loopw [17] (fun i wr => Below w.heap.size w wr ∧ ∃ k : Nat, k ≤ a.length ∧ i = .int .i64 k ∧ ∀ j, j < k → a.getD j [] = b.getD j []) (fun i _ => a.length - (intOf i).toNat)
  case atStart => exact ⟨Below.refl _ _, 0, by omega, rfl, by simp⟩
  case round =>
    obtain ⟨hbr, k, hk, rfl, hinv⟩ := hrel
    have H := Lib.hid hinv; clear hinv
    by_cases hlt : k < a.length
    · have hlt2 : k < b.length := by have := HL.out; omega
      obtain ⟨b1, o1, rfl, x, c1, hx⟩ := EA.out k hlt
      obtain ⟨b2, o2, rfl, y, c2, hy⟩ := EB.out k hlt2
      rw [Nat.mul_one] at c1 c2
      have d1 := cell_up hbr c1
      have d2 := cell_up hbr c2
      have HC := Lib.hid (same1_any x y a[k] b[k] wr (hx.up up_int hbr) (hy.up up_int hbr))
      have HX := Lib.hid (getD_of_lt [] hlt)
      have HY := Lib.hid (getD_of_lt [] hlt2)
      obtain ⟨px, qx, rfl, _⟩ := hx.at
      obtain ⟨py, qy, rfl, _⟩ := hy.at
      clear hx hy c1 c2
      have HE : Hid (eqV a[k] b[k] = decide (a[k] = b[k])) := by exact rfl
      generalize eqV a[k] b[k] = eb at HC HE
      go_wp2_with fail
      refine HC.out.mono ?_
      rintro e w1 ⟨rfl, hb1⟩
      clear d1 d2
      cases eb with
      | true =>
        have HXY : Hid (a.getD k [] = b.getD k []) := by (have h : a.getD k [] = b.getD k [] := by (have h := HE.out; simp at h; rw [HX.out, HY.out, h])); exact h
        go_wp2_with fail
        go_roundw
        case rel => exact ⟨ext_trans hbr hb1, k + 1, by omega, by go_num, below_succ H.out HXY.out⟩
        case measure => simp [intOf]; omega
      | false =>
        have HR : Hid (res = false) := by (have h : res = false := by (rw [← HRES.out]; simp; intro h; subst h; have h := HE.out; simp at h)); exact h
        go_wp2_with fail
        go_ret
        exact ⟨ret_bool HR.out.symm, ext_trans hbr hb1⟩
    · have HR : Hid (res = true) := by (have h : res = true := by (rw [← HRES.out]; simp; exact list_ext_getD [] HL.out fun j hj => H.out j (by omega))); exact h
      go_wp2
      go_ret
      exact ⟨ret_bool HR.out.symm, hbr⟩

set_option maxRecDepth 100000 in
set_option maxHeartbeats 4000000 in
theorem same_any (a b : Tr) (vi vw vs vm vd vt ui uw us um ud ut : Value) (w : World) (ha : IsTr w a vi vw vs vm vd vt) (hb : IsTr w b ui uw us um ud ut) :
    Calls Tryz.prog 41 #[.agg (trC vi vw vs vm vd vt), .agg (trC ui uw us um ud ut)] w fun e w' => e = .returned (.bool (sameT a b)) ∧ Below w.heap.size w w' := by
  have HA := Lib.hid ha
  have HB := Lib.hid hb
  obtain ⟨h1, h2, h3, h4, h5, h6⟩ := ha
  obtain ⟨k1, k2, k3, k4, k5, k6⟩ := hb
  obtain ⟨_, _, rfl, _⟩ := h1.at
  obtain ⟨_, _, rfl, _⟩ := h2.at
  obtain ⟨_, _, rfl, _⟩ := h3.at
  obtain ⟨_, _, rfl, _⟩ := h4.at
  obtain ⟨_, _, rfl, _⟩ := h5.at
  obtain ⟨_, _, rfl, _⟩ := h6.at
  obtain ⟨_, _, rfl, _⟩ := k1.at
  obtain ⟨_, _, rfl, _⟩ := k2.at
  obtain ⟨_, _, rfl, _⟩ := k3.at
  obtain ⟨_, _, rfl, _⟩ := k4.at
  obtain ⟨_, _, rfl, _⟩ := k5.at
  obtain ⟨_, _, rfl, _⟩ := k6.at
  clear h1 h2 h3 h4 h5 h6 k1 k2 k3 k4 k5 k6
  have HV : Hid (sameT a b = (eqV a.inp b.inp && decide (a.word = b.word) && decide (a.states = b.states) && decide (a.msgs = b.msgs) && eqV a.dec b.dec && eqV a.times b.times)) := by exact rfl
  go_enter Tryz.func41, Tryz.ntmps41
  go_wp2_with fail
  refine calls_gen (fun W => Below w.heap.size w W ∧ (∃ c, W.heap[w.heap.size]? = some (.cells c 35) ∧ c = trC _ _ _ _ _ _) ∧ ∃ c, W.heap[w.heap.size + 1]? = some (.cells c 35) ∧ c = trC _ _ _ _ _ _) ⟨by go_grown, ⟨_, alloc_old _ (alloc_new _ _), rfl⟩, _, by simpa using alloc_new (w.alloc _) _, rfl⟩ (fun W0 hW0 => ?_)
  obtain ⟨hb0, ⟨_, hA0, rfl⟩, _, hB0, rfl⟩ := hW0
  have HA0 := Lib.hid hA0
  have HB0 := Lib.hid hB0
  clear hA0 hB0
  refine (slicesEqual_any _ _ a.inp b.inp W0 (HA.out.inp.up up_int hb0) (HB.out.inp.up up_int hb0)).mono ?_
  rintro e w1 ⟨rfl, hb1'⟩
  have hb1 := ext_trans hb0 hb1'
  generalize eqV a.inp b.inp = r0 at HV
  cases r0 with
  | false =>
    go_wp2_with fail
    go_ret
    exact ⟨ret_bool (by rw [HV.out]; simp), hb1⟩
  | true =>
  have hq1 : Below W0.heap.size W0 w1 := hb1'
  have s1 := cell_block (block_up hq1 HA0.out)
  have s2 := cell_block (block_up hq1 HB0.out)
  go_wp2_with fail
  clear s1 s2
  refine (equalRounds_any _ _ a.word b.word w1 (HA.out.word.up up_round hb1) (HB.out.word.up up_round hb1)).mono ?_
  rintro e w2 ⟨rfl, hb2'⟩
  have hb2 := ext_trans hb1 hb2'
  generalize decide (a.word = b.word) = r1 at HV
  cases r1 with
  | false =>
    go_wp2_with fail
    go_ret
    exact ⟨ret_bool (by rw [HV.out]; simp), hb2⟩
  | true =>
  have hq2 : Below W0.heap.size W0 w2 := (ext_trans hq1 hb2')
  have s1 := cell_block (block_up hq2 HA0.out)
  have s2 := cell_block (block_up hq2 HB0.out)
  go_wp2_with fail
  clear s1 s2
  refine (equalVecs_any _ _ a.states b.states w2 (HA.out.states.up up_ints hb2) (HB.out.states.up up_ints hb2)).mono ?_
  rintro e w3 ⟨rfl, hb3'⟩
  have hb3 := ext_trans hb2 hb3'
  generalize decide (a.states = b.states) = r2 at HV
  cases r2 with
  | false =>
    go_wp2_with fail
    go_ret
    exact ⟨ret_bool (by rw [HV.out]; simp), hb3⟩
  | true =>
  have hq3 : Below W0.heap.size W0 w3 := (ext_trans hq2 hb3')
  have s1 := cell_block (block_up hq3 HA0.out)
  have s2 := cell_block (block_up hq3 HB0.out)
  go_wp2_with fail
  clear s1 s2
  refine (equalMsgs_any _ _ a.msgs b.msgs w3 (HA.out.msgs.up up_msg hb3) (HB.out.msgs.up up_msg hb3)).mono ?_
  rintro e w4 ⟨rfl, hb4'⟩
  have hb4 := ext_trans hb3 hb4'
  generalize decide (a.msgs = b.msgs) = r3 at HV
  cases r3 with
  | false =>
    go_wp2_with fail
    go_ret
    exact ⟨ret_bool (by rw [HV.out]; simp), hb4⟩
  | true =>
  have hq4 : Below W0.heap.size W0 w4 := (ext_trans hq3 hb4')
  have s1 := cell_block (block_up hq4 HA0.out)
  have s2 := cell_block (block_up hq4 HB0.out)
  go_wp2_with fail
  clear s1 s2
  refine (slicesEqual_any _ _ a.dec b.dec w4 (HA.out.dec.up up_int hb4) (HB.out.dec.up up_int hb4)).mono ?_
  rintro e w5 ⟨rfl, hb5'⟩
  have hb5 := ext_trans hb4 hb5'
  generalize eqV a.dec b.dec = r4 at HV
  cases r4 with
  | false =>
    go_wp2_with fail
    go_ret
    exact ⟨ret_bool (by rw [HV.out]; simp), hb5⟩
  | true =>
  have hq5 : Below W0.heap.size W0 w5 := (ext_trans hq4 hb5')
  have s1 := cell_block (block_up hq5 HA0.out)
  have s2 := cell_block (block_up hq5 HB0.out)
  go_wp2_with fail
  clear s1 s2
  refine (slicesEqual_any _ _ a.times b.times w5 (HA.out.times.up up_int hb5) (HB.out.times.up up_int hb5)).mono ?_
  rintro e w6 ⟨rfl, hb6'⟩
  have hb6 := ext_trans hb5 hb6'
  generalize eqV a.times b.times = r5 at HV
  go_wp2_with fail
  go_ret
  exact ⟨ret_bool (by rw [HV.out]; simp), hb6⟩
end Go.Proofs.YtjmejfgkogjpaaaGreatDoor

namespace Go.Proofs.YtjmejfgkogjpaaaGreatDoor
open Go.RowKit Go Go.Shelf

abbrev Gr.c (g : Gr) : Array Value := #[.int .i64 g.n, .int .i64 g.h0, .int .i64 g.h1, .int .i64 g.h2, .int .i64 g.h3, .int .i64 g.h4]

set_option maxRecDepth 100000 in
set_option maxHeartbeats 1000000 in
theorem rgraphCheck_any (g : Gr) (w : World) :
    Calls Tryz.prog 118 #[g.v] w fun e w' => e = .returned (.int .i64 (graphE g)) ∧ Below w.heap.size w w' := by
  by_cases hn : g.n < 1 ∨ 5 < g.n
  · have H : Hid (graphE g = 2) := by (have h : graphE g = 2 := by (unfold graphE; rw [if_pos hn])); exact h
    rcases hn with hn | hn
    · go_enter Tryz.func118, Tryz.ntmps118
      go_wp2
      go_ret; exact ⟨ret_int H.out.symm, by go_grown⟩
    · have hn' : ¬ g.n < 1 := by omega
      go_enter Tryz.func118, Tryz.ntmps118
      go_wp2
      go_ret; exact ⟨ret_int H.out.symm, by go_grown⟩
  have hn1 : 1 ≤ g.n := by omega
  have hn2 : g.n ≤ 5 := by omega
  have HE : Hid (graphE g = firstNZ 5 fun p => hearE g.n (g.hear p) p) := by (have h : graphE g = firstNZ 5 fun p => hearE g.n (g.hear p) p := by (unfold graphE; rw [if_neg hn])); exact h
  clear hn
  have hn3 : ¬ g.n < 1 := by omega
  have hn4 : ¬ 5 < g.n := by omega
  go_enter Tryz.func118, Tryz.ntmps118
  go_wp2
  refine wp_gen (fun W => Below w.heap.size w W ∧ W.heap[w.heap.size]? = some (.cells g.c 47)) ⟨by go_grown, alloc_new _ _⟩ (fun W0 hW0 => ?_)
  obtain ⟨hb0, hA⟩ := hW0
  have HA := Lib.hid hA
  have t1 := cell_block hA 0
  simp at t1
  clear hA
  go_loop [3] (fun i => ∃ k : Nat, k ≤ 5 ∧ i = .int .i64 k ∧ ∀ j, j < k → hearE g.n (g.hear j) j = 0) (fun i => 5 - (intOf i).toNat)
  case atStart => exact ⟨0, by omega, rfl, by simp⟩
  case round =>
    obtain ⟨k, hk, rfl, hinv⟩ := hrel
    have H := Lib.hid hinv; clear hinv
    by_cases hlt : k < 5
    · have hx := hear_cell g k hlt W0 _ HA.out
      obtain ⟨x, hxx⟩ : ∃ x, x = g.hear k := ⟨_, rfl⟩
      rw [← hxx] at hx
      have HX := Lib.hid hxx; clear hxx
      obtain ⟨m, hm⟩ : ∃ m : Nat, g.n = m := ⟨g.n.toNat, by omega⟩
      have hp := pow2_bd m (by omega)
      have HC := Lib.hid (fun w => rfull_any m (by omega) w)
      have HV : Hid (hearE g.n x k = if (m : Int) ≤ k then (if x ≠ 0 then 3 else 0) else if x < 0 ∨ 2 ^ m - 1 < x then 2 else if hasB x k then 0 else 3) := by
        have h : hearE g.n x k = if (m : Int) ≤ k then (if x ≠ 0 then 3 else 0) else if x < 0 ∨ 2 ^ m - 1 < x then 2 else if hasB x k then 0 else 3 := by
          unfold hearE; rw [hm, Int.toNat_natCast]
        exact h
      rw [hm] at t1
      rw [hm] at hn1 hn2
      have HM := Lib.hid hm
      generalize (2 : Int) ^ m = y at hp HC HV
      clear hm hn3 hn4
      by_cases hmk : (m : Int) ≤ k
      · go_wp2
        · go_ret
          refine ⟨ret_int ?_, hb0⟩
          rw [HE.out]
          go_light
          refine firstNZ_hit k _ hlt H.out ?_ (by decide)
          rw [← HX.out, HV.out]
          grind
        · go_round
          case rel =>
            refine ⟨k + 1, by omega, by go_num, below_succ H.out ?_⟩
            go_light
            rw [← HX.out, HV.out]
            grind
          case measure => simp [intOf]; omega
      · by_cases hxx : x < 0 ∨ y - 1 < x
        · have hq : ∀ z, z = 2 → z = graphE g := fun z hz => by
            subst hz
            rw [HE.out]
            refine firstNZ_hit k _ hlt H.out ?_ (by decide)
            rw [← HX.out, HV.out, if_neg hmk, if_pos hxx]
          have HQ := Lib.hid hq; clear hq
          rcases hxx with hxx | hxx
          · go_wp2
            go_ret
            exact ⟨ret_int (HQ.out _ rfl), hb0⟩
          · have hx0 : ¬ x < 0 := by omega
            go_wp2_with (go_at_call 130; refine (HC.out _).mono ?_; rintro e w' ⟨rfl, rfl⟩)
            go_ret
            exact ⟨ret_int (HQ.out _ rfl), hb0⟩
        · have hx0 : ¬ x < 0 := by omega
          have hx1 : ¬ y - 1 < x := by omega
          have HC2 := Lib.hid (fun w => rhas_any x k (by omega) (by omega) (by omega) w)
          cases hb : hasB x k with
          | true =>
            rw [hb] at HC2 HV
            have HXX := Lib.hid hxx
            clear hb hxx
            go_wp2_with (first | (go_at_call 130; refine (HC.out _).mono ?_; rintro e w' ⟨rfl, rfl⟩) | (go_at_call 97; refine (HC2.out _).mono ?_; rintro e w' ⟨rfl, rfl⟩))
            go_round
            case rel =>
              refine ⟨k + 1, by omega, by go_num, below_succ H.out ?_⟩
              rw [← HX.out, HV.out, if_neg (by omega), if_neg (by omega)]; rfl
            case measure => simp [intOf]; omega
          | false =>
            rw [hb] at HC2 HV
            have HXX := Lib.hid hxx
            clear hb hxx
            go_wp2_with (first | (go_at_call 130; refine (HC.out _).mono ?_; rintro e w' ⟨rfl, rfl⟩) | (go_at_call 97; refine (HC2.out _).mono ?_; rintro e w' ⟨rfl, rfl⟩))
            go_ret
            refine ⟨ret_int ?_, hb0⟩
            rw [HE.out]
            refine firstNZ_hit k _ hlt H.out ?_ (by decide)
            rw [← HX.out, HV.out, if_neg (by omega), if_neg (by omega)]; rfl
    · go_wp2
      go_ret; exact ⟨ret_int (by rw [HE.out, firstNZ_zero]; intro j hj; exact H.out j (by omega)), hb0⟩

theorem graphC_lt {a b : Gr} (h : a.n < b.n) : graphC a b = -1 := by unfold graphC cmpI; grind
theorem graphC_gt {a b : Gr} (h : b.n < a.n) : graphC a b = 1 := by unfold graphC cmpI; grind
theorem graphC_eq {a b : Gr} (h : a.n = b.n) : graphC a b = firstNZ 5 fun p => cmpI (a.hear p) (b.hear p) := by unfold graphC; rw [h, cmpI_self]; simp

set_option maxHeartbeats 1000000 in
theorem rroundCheck_any (r : Rd) (w : World) :
    Calls Tryz.prog 93 #[r.v] w fun e w' => e = .returned (.int .i64 (roundE r)) ∧ Below w.heap.size w w' := by
  obtain ⟨⟨n, h0, h1, h2, h3, h4⟩, f⟩ := r
  go_enter Tryz.func93, Tryz.ntmps93
  go_wp2_with (first
    | (go_at_call 118; refine (rgraphCheck_any ⟨_, _, _, _, _, _⟩ _).mono ?_; rintro e w1 ⟨rfl, hb⟩; obtain ⟨hc, hf⟩ := bcell hb)
    | (go_at_call 119; refine (rsetCheck_any _ _ _).mono ?_; rintro e w2 ⟨rfl, rfl⟩))
  all_goals
    go_ret
    refine ⟨ret_int ?_, ?_⟩
    · go_light
      unfold roundE
      grind
    · exact ext_trans (by go_grown) hb

end Go.Proofs.YtjmejfgkogjpaaaGreatDoor

namespace Go.Proofs.YtjmejfgkogjpaaaGreatDoor
open Go.RowKit Go Go.Shelf
attribute [local go_sem] Oper.semAt_some

theorem hasB_zero (p : Nat) : hasB 0 p = false := by simp [hasB]
theorem insideB_zero (f : Int) : insideB 0 f = true := by
  unfold insideB
  rw [anyLt_false]
  · rfl
  · intro j _
    rw [hasB_zero]; rfl
theorem roundE_f {r : Rd} (h : roundE r = 0) : 0 ≤ r.f ∧ r.f < 32 := by
  unfold roundE at h
  split at h
  · rename_i h1; exact absurd h h1
  · exact pset_ok h

set_option maxHeartbeats 400000 in
theorem rfewWord_any (v : Value) (l : List Rd) (w : World) (hv : IsWord w v l) :
    Calls Tryz.prog 5 #[v] w fun e w' => e = .returned (.bool (decide (l.length ≤ 12))) ∧ w = w' := by
  obtain ⟨pa, ca, rfl, la1, la2, _⟩ := hv.at
  clear hv
  go_enter Tryz.func5, Tryz.ntmps5
  go_wp2
  go_ret
  refine ⟨ret_bool ?_, rfl⟩
  simp
  try omega

set_option maxRecDepth 100000 in
set_option maxHeartbeats 2000000 in
theorem rsameWord_any (va vb : Value) (a b : List Rd) (w : World) (ha : IsWord w va a) (hb : IsWord w vb b) :
    Calls Tryz.prog 25 #[va, vb] w fun e w' => e = .returned (.bool (decide (a = b))) ∧ Below w.heap.size w w' := by
  obtain ⟨pa, ca, rfl, la1, la2, ea⟩ := ha.at
  obtain ⟨pb, cb, rfl, lb1, lb2, eb⟩ := hb.at
  clear ha hb
  have EA := Lib.hid ea; clear ea
  have EB := Lib.hid eb; clear eb
  generalize hres : decide (a = b) = res
  have HRES := Lib.hid hres
  clear hres
  by_cases hl : a.length = b.length
  case neg =>
    have hl1 : ((a.length : Int) != (b.length : Int)) = true := by simp; omega
    have HR : Hid (res = false) := by (have h : res = false := by (rw [← HRES.out]; simp; intro h; exact hl (by rw [h]))); exact h
    clear hl
    go_enter Tryz.func25, Tryz.ntmps25
    go_wp2
    go_ret
    exact ⟨ret_bool HR.out.symm, Below.refl _ _⟩
  have hl1 : ((a.length : Int) != (b.length : Int)) = false := by simp [hl]
  have HL := Lib.hid hl; clear hl
  go_enter Tryz.func25, Tryz.ntmps25
  go_wp2
  clear hl1
  go_loopw [5] (fun i wr => Below w.heap.size w wr ∧ ∃ k : Nat, k ≤ a.length ∧ i = .int .i64 k ∧ ∀ j, j < k → a.getD j default = b.getD j default) (fun i _ => a.length - (intOf i).toNat)
  case atStart => exact ⟨Below.refl _ _, 0, by omega, rfl, by simp⟩
  case round =>
    obtain ⟨hbr, k, hk, rfl, hinv⟩ := hrel
    have H := Lib.hid hinv; clear hinv
    by_cases hlt : k < a.length
    · have hlt2 : k < b.length := by have := HL.out; omega
      obtain ⟨b1, o1, rfl, ⟨c0, r0⟩, ⟨c1, r1⟩, ⟨c2, r2⟩, ⟨c3, r3⟩, ⟨c4, r4⟩, ⟨c5, r5⟩, ⟨c6, r6⟩⟩ := EA.out k hlt
      obtain ⟨b2, o2, rfl, ⟨e0, s0⟩, ⟨e1, s1⟩, ⟨e2, s2⟩, ⟨e3, s3⟩, ⟨e4, s4⟩, ⟨e5, s5⟩, ⟨e6, s6⟩⟩ := EB.out k hlt2
      have c0' : ∀ y : ExtW wr, y.val.cell? ⟨b1, o1 + k * 7, none⟩ = _ := fun y => y.cell (cell_up hbr c0)
      have c1' : ∀ y : ExtW wr, y.val.cell? ⟨b1, o1 + k * 7 + 1, none⟩ = _ := fun y => y.cell (cell_up hbr c1)
      have c2' : ∀ y : ExtW wr, y.val.cell? ⟨b1, o1 + k * 7 + 2, none⟩ = _ := fun y => y.cell (cell_up hbr c2)
      have c3' : ∀ y : ExtW wr, y.val.cell? ⟨b1, o1 + k * 7 + 3, none⟩ = _ := fun y => y.cell (cell_up hbr c3)
      have c4' : ∀ y : ExtW wr, y.val.cell? ⟨b1, o1 + k * 7 + 4, none⟩ = _ := fun y => y.cell (cell_up hbr c4)
      have c5' : ∀ y : ExtW wr, y.val.cell? ⟨b1, o1 + k * 7 + 5, none⟩ = _ := fun y => y.cell (cell_up hbr c5)
      have c6' : ∀ y : ExtW wr, y.val.cell? ⟨b1, o1 + k * 7 + 6, none⟩ = _ := fun y => y.cell (cell_up hbr c6)
      have e0' : ∀ y : ExtW wr, y.val.cell? ⟨b2, o2 + k * 7, none⟩ = _ := fun y => y.cell (cell_up hbr e0)
      have e1' : ∀ y : ExtW wr, y.val.cell? ⟨b2, o2 + k * 7 + 1, none⟩ = _ := fun y => y.cell (cell_up hbr e1)
      have e2' : ∀ y : ExtW wr, y.val.cell? ⟨b2, o2 + k * 7 + 2, none⟩ = _ := fun y => y.cell (cell_up hbr e2)
      have e3' : ∀ y : ExtW wr, y.val.cell? ⟨b2, o2 + k * 7 + 3, none⟩ = _ := fun y => y.cell (cell_up hbr e3)
      have e4' : ∀ y : ExtW wr, y.val.cell? ⟨b2, o2 + k * 7 + 4, none⟩ = _ := fun y => y.cell (cell_up hbr e4)
      have e5' : ∀ y : ExtW wr, y.val.cell? ⟨b2, o2 + k * 7 + 5, none⟩ = _ := fun y => y.cell (cell_up hbr e5)
      have e6' : ∀ y : ExtW wr, y.val.cell? ⟨b2, o2 + k * 7 + 6, none⟩ = _ := fun y => y.cell (cell_up hbr e6)
      have HX := Lib.hid (getD_of_lt default hlt)
      have HY := Lib.hid (getD_of_lt default hlt2)
      clear c0 r0 e0 s0 c1 r1 e1 s1 c2 r2 e2 s2 c3 r3 e3 s3 c4 r4 e4 s4 c5 r5 e5 s5 c6 r6 e6 s6
      generalize a[k] = x at c0' c1' c2' c3' c4' c5' c6' HX
      generalize b[k] = y at e0' e1' e2' e3' e4' e5' e6' HY
      have hne := fun w => neq_rd x y w
      go_wp2
      by_cases hxy : x = y
      · have hd : decide (x = y) = true := by simpa using hxy
        have HXY : Hid (a.getD k default = b.getD k default) := by (have h : a.getD k default = b.getD k default := by (rw [HX.out, HY.out, hxy])); exact h
        rw [hd] at hne
        clear hxy hd
        refine wp_region_quiet_ext (by kernel_rfl) (by kernel_rfl) ?_
        repeat (go_big_quiet_step (fail))
        refine wpQuiet_nil ?_
        intro _ hw'
        obtain ⟨xq, hw''⟩ := hw'
        subst hw''
        clear c0' c1' c2' c3' c4' c5' c6' e0' e1' e2' e3' e4' e5' e6' hne
        go_wp2
        go_roundw
        case rel => exact ⟨ext_trans hbr xq.ext, k + 1, by omega, by go_num, below_succ H.out HXY.out⟩
        case measure => simp [intOf]; omega
      · have hd : decide (x = y) = false := by simpa using hxy
        have HR : Hid (res = false) := by (have h : res = false := by (rw [← HRES.out]; simp; intro h; subst h; rw [HX.out] at HY; exact hxy HY.out)); exact h
        rw [hd] at hne
        clear hxy hd
        refine wp_region_quiet_ext (by kernel_rfl) (by kernel_rfl) ?_
        repeat (go_big_quiet_step (fail))
        refine wpQuiet_nil ?_
        intro _ hw'
        obtain ⟨xq, hw''⟩ := hw'
        subst hw''
        clear c0' c1' c2' c3' c4' c5' c6' e0' e1' e2' e3' e4' e5' e6' hne
        go_wp2
        go_ret
        exact ⟨ret_bool HR.out.symm, ext_trans hbr xq.ext⟩
    · have HR : Hid (res = true) := by (have h : res = true := by (rw [← HRES.out]; simp; exact list_ext_getD default HL.out fun j hj => H.out j (by omega))); exact h
      go_wp2
      go_ret
      exact ⟨ret_bool HR.out.symm, hbr⟩

set_option maxRecDepth 100000 in
set_option maxHeartbeats 4000000 in
theorem rword_any (n : Int) (v : Value) (l : List Rd) (w : World) (hv : IsWord w v l) :
    Calls Tryz.prog 51 #[.int .i64 n, v] w fun e w' => e = .returned (.int .i64 (wordE n l)) ∧ Below w.heap.size w w' := by
  obtain ⟨pa, ca, rfl, la1, la2, ea⟩ := hv.at
  have EA := Lib.hid ea
  clear hv ea
  have HV : Hid (wordE n l = if n < 1 ∨ 5 < n then 1 else if 1024 < l.length then 5 else firstNZ l.length (wordRE n l)) := by exact rfl
  go_enter Tryz.func51, Tryz.ntmps51
  go_wp2_with fail
  refine (rprocs_any _ _).mono ?_
  rintro e w1 ⟨rfl, rfl⟩
  by_cases hn : n < 1 ∨ 5 < n
  · have hp : procsE n = 1 := by unfold procsE; rw [if_pos hn]
    rw [hp]
    have HN := Lib.hid hn
    clear hp hn
    go_wp2_with fail
    go_ret
    exact ⟨ret_int (by rw [HV.out, if_pos HN.out]), Below.refl _ _⟩
  have hp : procsE n = 0 := by unfold procsE; rw [if_neg hn]
  rw [hp]
  rw [if_neg hn] at HV
  clear hp hn
  by_cases hl : 1024 < l.length
  · go_wp2_with fail
    go_ret
    exact ⟨ret_int (by rw [HV.out, if_pos hl]), Below.refl _ _⟩
  rw [if_neg hl] at HV
  go_wp2_with fail
  go_loopw [6] (fun i wr => Below w.heap.size w wr ∧ ∃ k : Nat, k ≤ l.length ∧ i = .int .i64 k ∧ ∀ j, j < k → wordRE n l j = 0) (fun i _ => l.length - (intOf i).toNat)
  case atStart => exact ⟨Below.refl _ _, 0, by omega, rfl, by simp⟩
  case round =>
    obtain ⟨hbr, k, hk, rfl, hinv⟩ := hrel
    have H := Lib.hid hinv
    clear hinv
    by_cases hlt : k < l.length
    · obtain ⟨b1, o1, rfl, ⟨c0, r0⟩, ⟨c1, r1⟩, ⟨c2, r2⟩, ⟨c3, r3⟩, ⟨c4, r4⟩, ⟨c5, r5⟩, ⟨c6, r6⟩⟩ := EA.out k hlt
      have HG := Lib.hid (getD_of_lt default hlt)
      have C0 := Lib.hid c0
      have C6 := Lib.hid c6
      have d0 := cell_up hbr c0
      have d1 := cell_up hbr c1
      have d2 := cell_up hbr c2
      have d3 := cell_up hbr c3
      have d4 := cell_up hbr c4
      have d5 := cell_up hbr c5
      have d6 := cell_up hbr c6
      clear c0 c1 c2 c3 c4 c5 c6 r0 r1 r2 r3 r4 r5 r6
      have HO : Hid (wordRE n l k = if roundE l[k] ≠ 0 then roundE l[k] else if l[k].g.n ≠ n then 22 else if !insideB (beforeF l k) l[k].f then 14 else 0) := by
        (have h : wordRE n l k = if roundE l[k] ≠ 0 then roundE l[k] else if l[k].g.n ≠ n then 22 else if !insideB (beforeF l k) l[k].f then 14 else 0 := by (unfold wordRE; rw [getD_of_lt default hlt])); exact h
      generalize hx : l[k] = x at C0 C6 d0 d1 d2 d3 d4 d5 d6 HO HG
      clear hx
      go_wp2_with fail
      refine (rroundCheck_any x wr).mono ?_
      rintro e w2 ⟨rfl, hb2⟩
      have hbr2 := ext_trans hbr hb2
      clear d0 d1 d2 d3 d4 d5 d6
      by_cases hev : roundE x = 0
      case neg =>
        have HEV := Lib.hid hev
        have HO' := Lib.hid (if_pos hev ▸ HO.out)
        generalize hev2 : roundE x = ev at hev HO
        have hev' : (ev != 0) = true := by simpa using hev
        go_wp2_with fail
        go_ret
        exact ⟨ret_int (by rw [HV.out, ← firstNZ_hit k ev hlt H.out (by rw [HO.out, if_pos hev]) hev]), hbr2⟩
      have HXF := Lib.hid (roundE_f hev)
      rw [hev] at HO ⊢
      have HO2 : Hid (wordRE n l k = if x.g.n ≠ n then 22 else if !insideB (beforeF l k) x.f then 14 else 0) := by
        (have h : wordRE n l k = if x.g.n ≠ n then 22 else if !insideB (beforeF l k) x.f then 14 else 0 := by (rw [HO.out, if_neg (by simp)])); exact h
      have HEX := Lib.hid hev
      clear HO hev
      have d0 := cell_up hbr2 C0.out
      by_cases hgn : x.g.n = n
      case neg =>
        have hgn' : (x.g.n != n) = true := by simpa using hgn
        go_wp2_with fail
        go_ret
        exact ⟨ret_int (by rw [HV.out, ← firstNZ_hit k 22 hlt H.out (by rw [HO2.out, if_pos hgn]) (by decide)]), hbr2⟩
      have hgn' : (x.g.n != n) = false := by simpa using hgn
      rw [if_neg (by simpa using hgn)] at HO2
      clear hgn
      go_wp2_with fail
      clear hgn' d0
      by_cases hk0 : k = 0
      · have HO5 : Hid (wordRE n l k = 0) := by (have h : wordRE n l k = 0 := by (rw [HO2.out]; unfold beforeF; rw [if_pos hk0, insideB_zero]; rfl)); exact h
        have hd : decide ((0 : Int) < (k : Int)) = false := by simp; omega
        have hd2 : decide (0 < k) = false := by simp; omega
        clear HO2 hk0
        refine wp_region_quiet_ext (by kernel_rfl) (by kernel_rfl) ?_
        repeat (go_big_quiet_step (fail))
        refine wpQuiet_nil ?_
        intro _ hw'
        obtain ⟨xr, hw''⟩ := hw'
        subst hw''
        clear hd hd2
        go_wp2_with fail
        go_roundw
        case rel => exact ⟨ext_trans hbr2 xr.ext, k + 1, by omega, by go_num, below_succ H.out HO5.out⟩
        case measure => simp [intOf]; omega
      · obtain ⟨j, hj⟩ : ∃ j, k = j + 1 := ⟨k - 1, by omega⟩
        have hjl : j < l.length := by omega
        have hjl' : (j : Int) < (l.length : Int) := by omega
        have hkl' : (k : Int) < (l.length : Int) := by omega
        have HJ := Lib.hid hj
        obtain ⟨b2, o2, e2, _, _, _, _, _, _, ⟨a6, _⟩⟩ := EA.out j hjl
        obtain ⟨rfl, rfl⟩ : b1 = b2 ∧ o1 = o2 := by simpa using e2
        clear e2
        have hyf : 0 ≤ l[j].f ∧ l[j].f < 32 := by
          have h1 := H.out j (by omega)
          unfold wordRE at h1
          rw [getD_of_lt default hjl] at h1
          refine roundE_f ?_
          by_cases h2 : roundE l[j] = 0
          · exact h2
          · rw [if_pos h2] at h1; exact absurd h1 h2
        have HO3 : Hid (wordRE n l k = if !insideB l[j].f x.f then 14 else 0) := by
          (have h : wordRE n l k = if !insideB l[j].f x.f then 14 else 0 := by (rw [HO2.out]; unfold beforeF; rw [if_neg hk0, show k - 1 = j by omega, getD_of_lt default hjl])); exact h
        generalize hsj : l[j].f = yf at a6 hyf HO3
        clear hsj
        have hd : decide ((0 : Int) < (k : Int)) = true := by simp; omega
        have hd2 : 0 < k := by omega
        clear HO2 hk0 hj
        have hw1 : IntKind.i64.wrap ((k : Int) - 1) = (j : Int) := by rw [HJ.out]; rw [IntWalk.i64_in _ (by omega)]; omega
        have q1 : ∀ y : ExtW w2, y.val.cell? ⟨b1, o1 + j * 7 + 6, none⟩ = _ := fun y => y.cell (cell_up hbr2 a6)
        have q2 : ∀ y : ExtW w2, y.val.cell? ⟨b1, o1 + k * 7 + 6, none⟩ = _ := fun y => y.cell (cell_up hbr2 C6.out)
        have HCALL := Lib.hid (show ∀ y : ExtW w2, Calls Tryz.prog 94 #[.int .i64 yf, .int .i64 x.f] y.val fun e w'' => e = .returned (.bool (insideB yf x.f)) ∧ ∃ p : ExtW w2, w'' = p.val from fun y => Calls.ext_of ((rinside_any yf x.f (by omega) (by have := HXF.out; omega) _).mono fun _ _ h => ⟨h.1, h.2 ▸ Below.refl _ _⟩))
        generalize insideB yf x.f = ib at HCALL HO3
        clear a6
        refine wp_region_quiet_ext (by kernel_rfl) (by kernel_rfl) ?_
        repeat (go_big_quiet_step ((go_at_call 94; exact HCALL.out _)))
        refine wpQuiet_nil ?_
        intro _ hw'
        obtain ⟨xr, hw''⟩ := hw'
        subst hw''
        clear q1 q2 hd hd2
        have hWX := ext_trans hbr2 xr.ext
        cases ib with
        | false =>
          go_wp2_with fail
          go_ret
          exact ⟨ret_int (by rw [HV.out, ← firstNZ_hit k 14 hlt H.out (by rw [HO3.out]; rfl) (by decide)]), hWX⟩
        | true =>
          go_wp2_with fail
          go_roundw
          case rel => exact ⟨hWX, k + 1, by omega, by go_num, below_succ H.out (by rw [HO3.out]; rfl)⟩
          case measure => simp [intOf]; omega
    · go_wp2_with fail
      go_ret
      exact ⟨ret_int (by rw [HV.out, firstNZ_zero]; intro j hj; exact H.out j (by omega)), hbr⟩
end Go.Proofs.YtjmejfgkogjpaaaGreatDoor

namespace Go.Proofs.YtjmejfgkogjpaaaGreatDoor
open Go.RowKit Go Go.Shelf

/-- what the reference's Play hands back -/
def PlayR (m : Mac) (inputs : List Int) (word : List Rd) (w : World) (e : Ending) (w' : World) : Prop :=
  ∃ v, e = .returned (.tuple #[v, .int .i64 (playE m inputs word)]) ∧ (playE m inputs word = 0 → IsVecs w' v (runL m inputs word)) ∧ (playE m inputs word ≠ 0 → v = .slice none 0 0) ∧ Below w.heap.size w w'
theorem PlayR.bad {m : Mac} {inputs : List Int} {word : List Rd} {w w' : World} {c : Int} (h : playE m inputs word = c) (hc : c ≠ 0) (hb : Below w.heap.size w w') : PlayR m inputs word w (.returned (.tuple #[.slice none 0 0, .int .i64 c])) w' := ⟨_, by rw [h], fun e => absurd (h.symm.trans e) hc, fun _ => rfl, hb⟩

set_option maxRecDepth 100000 in
set_option maxHeartbeats 4000000 in
theorem rplay_any (m : Mac) (vf vy vt vo vi vw : Value) (inputs : List Int) (word : List Rd) (w : World) (hf : IsVecs w vf m.first) (hy : IsV4 w vy m.syms) (ht : IsSteps w vt m.steps) (ho : IsV3 w vo m.out) (hi : IsInts w vi inputs) (hw : IsWord w vw word) :
    Calls Tryz.prog 22 #[.agg (macC m vf vy vt vo), vi, vw] w fun e w' => PlayR m inputs word w e w' := by
  have HF := Lib.hid hf
  have HY := Lib.hid hy
  have HT := Lib.hid ht
  have HO := Lib.hid ho
  have HI := Lib.hid hi
  have HW := Lib.hid hw
  obtain ⟨pf, cf, rfl, _⟩ := hf.at
  obtain ⟨py, cy, rfl, _⟩ := hy.at
  obtain ⟨pt, ct, rfl, _⟩ := ht.at
  obtain ⟨po, co, rfl, _⟩ := ho.at
  obtain ⟨pi, ci, rfl, li1, li2, _⟩ := hi.at
  obtain ⟨pw, cw, rfl, lw1, lw2, _⟩ := hw.at
  clear hf hy ht ho hi hw
  have HV : Hid (playE m inputs word = if checkE m ≠ 0 then checkE m else if (inputs.length : Int) ≠ m.n then 15 else if !allB inputs 0 (m.ins - 1) then 2 else if wordE m.n word ≠ 0 then wordE m.n word else if (word.length : Int) ≠ m.rounds then 15 else if ((runL m inputs word).length : Int) ≠ m.rounds + 1 then 20 else 0) := by exact rfl
  go_enter Tryz.func22, Tryz.ntmps22
  go_wp2_with fail
  refine calls_gen (fun W => Below w.heap.size w W ∧ W.heap[w.heap.size]? = some (.cells (macC m (.slice pf m.first.length cf) (.slice py m.syms.length cy) (.slice pt m.steps.length ct) (.slice po m.out.length co)) 27)) ⟨by go_grown, alloc_new _ _⟩ (fun W0 hW0 => ?_)
  obtain ⟨hb0, hA0⟩ := hW0
  have HA0 := Lib.hid hA0
  clear hA0
  refine (rmacCheck_any m _ _ _ _ W0 (HF.out.up up_ints hb0) (HY.out.up up_v3 hb0) (HT.out.up up_step hb0) (HO.out.up up_vecs hb0)).mono ?_
  rintro e w1 ⟨rfl, hb1'⟩
  have hb1 := ext_trans hb0 hb1'
  by_cases hc : checkE m = 0
  case neg =>
    generalize checkE m = ec at HV hc
    have hc' : (ec != 0) = true := by simpa using hc
    go_wp2_with fail
    go_ret2
    exact PlayR.bad (by rw [HV.out, if_pos hc]) hc hb1
  obtain ⟨n, r, hgood⟩ := checkE_good hc
  have HGD := Lib.hid hgood
  have hins := hgood.ins
  rw [hc] at HV ⊢
  clear hc hgood
  have s1 := cell_block (block_up hb1' HA0.out)
  by_cases h1 : (inputs.length : Int) = m.n
  case neg =>
    have h1' : ((inputs.length : Int) != m.n) = true := by simpa using h1
    go_wp2_with fail
    go_ret2
    exact PlayR.bad (by rw [HV.out, if_neg (by simp), if_pos h1]) (by decide) hb1
  have h1' : ((inputs.length : Int) != m.n) = false := by simpa using h1
  rw [if_neg (by simp), if_neg (by simpa using h1)] at HV
  have HL1 := Lib.hid h1
  clear h1
  have hwi : IntKind.i64.wrap (m.ins - 1) = m.ins - 1 := IntWalk.i64_in _ (by omega)
  go_wp2_with fail
  clear h1'
  refine (rnumbers_any _ inputs _ _ _ (HI.out.up up_int hb1)).mono ?_
  rintro e w2 ⟨rfl, rfl⟩
  cases h2 : allB inputs 0 (m.ins - 1) with
  | false =>
    rw [h2] at HV
    clear h2
    go_wp2_with fail
    go_ret2
    exact PlayR.bad (by rw [HV.out]; rfl) (by decide) hb1
  | true =>
  rw [h2] at HV
  have HAB := Lib.hid h2
  clear h2
  go_wp2_with fail
  refine (rword_any m.n _ word w1 (HW.out.up up_round hb1)).mono ?_
  rintro e w3 ⟨rfl, hb3'⟩
  have hb3 := ext_trans hb1 hb3'
  clear s1
  by_cases h3 : wordE m.n word = 0
  case neg =>
    generalize wordE m.n word = ew at HV h3
    have h3' : (ew != 0) = true := by simpa using h3
    go_wp2_with fail
    go_ret2
    exact PlayR.bad (by rw [HV.out, if_neg (by simp), if_pos h3]) h3 hb3
  have HWE := Lib.hid h3
  rw [h3] at HV ⊢
  rw [if_neg (by simp), if_neg (by simp)] at HV
  clear h3
  have s3 := cell_block (block_up (ext_trans hb1' hb3') HA0.out)
  by_cases h4 : (word.length : Int) = m.rounds
  case neg =>
    have h4' : ((word.length : Int) != m.rounds) = true := by simpa using h4
    go_wp2_with fail
    go_ret2
    exact PlayR.bad (by rw [HV.out, if_pos h4]) (by decide) hb3
  have h4' : ((word.length : Int) != m.rounds) = false := by simpa using h4
  rw [if_neg (by simpa using h4)] at HV
  have HL4 := Lib.hid h4
  clear h4
  go_wp2_with fail
  clear s3 h4'
  refine (rrun_any m n r HGD.out _ _ _ _ _ _ inputs word w3 (HF.out.up up_ints hb3) (HY.out.up up_v3 hb3) (HT.out.up up_step hb3) (HO.out.up up_vecs hb3) (HI.out.up up_int hb3) (HW.out.up up_round hb3) (by have := HL1.out; have := HGD.out.hn; omega) ?_ (by have := HL4.out; have := HGD.out.hr; omega) HWE.out).mono ?_
  · intro p hp
    have hl : p < inputs.length := by have := HL1.out; have := HGD.out.hn; omega
    have h := HAB.out
    unfold allB at h
    rw [Bool.not_eq_true', anyLt_eq_false] at h
    have h5 := h p hl
    have h6 : inB (inputs.getD p 0) 0 (m.ins - 1) = true := by
      cases hb : inB (inputs.getD p 0) 0 (m.ins - 1) with
      | true => rfl
      | false => rw [hb] at h5; cases h5
    have h7 := inB_true h6
    omega
  rintro e w4 ⟨v, rfl, hv1, hv2, hb4'⟩
  have hb4 := ext_trans hb3 hb4'
  by_cases h5 : (runL m inputs word).length = r + 1
  · have hv := hv1 h5
    have hp : playE m inputs word = 0 := by rw [HV.out, if_neg (by have := HGD.out.hr; omega)]
    obtain ⟨av, cv, rfl, _⟩ := hv.at
    rw [if_pos h5]
    have HR := Lib.hid (And.intro hv hp)
    clear hv1 hv2 hv hp h5
    go_wp2_with fail
    go_ret2
    exact ⟨_, by rw [HR.out.2]; rfl, fun _ => HR.out.1, fun h => absurd HR.out.2 h, hb4⟩
  · obtain rfl := hv2 h5
    have hp : playE m inputs word = 20 := by rw [HV.out, if_pos (by have := HGD.out.hr; omega)]
    rw [if_neg h5]
    have HR := Lib.hid hp
    clear hv1 hv2 hp h5
    go_wp2_with fail
    go_ret2
    exact PlayR.bad HR.out (by decide) hb4
end Go.Proofs.YtjmejfgkogjpaaaGreatDoor
