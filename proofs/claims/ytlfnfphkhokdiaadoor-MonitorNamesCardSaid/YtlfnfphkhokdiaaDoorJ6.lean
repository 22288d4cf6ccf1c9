/-
  Parts of the proof, in order. Contract of the law's awake. No conditions. The walk of MonitorNames: it returns true. Conditions: the variable words reads as the five names.
-/
import Derived.Test.YtlfnfphkhokdiaaDoorJ5
namespace Go.Proofs.YtlfnfphkhokdiaaDoor
open Go.RowKit Go Go.Shelf

theorem word1 {w : World} {b : Nat} {x y : Int} {t : TypeId} (h : w.heap[b]? = some (.cells #[.int .i64 2, .int .i64 x, .int .i64 y, .int .i64 0, .int .i64 0, .int .i64 0, .int .i64 0] t)) (hx : InR x) (hy : InR y) : IsWord w (.slice (some ⟨b, 0, none⟩) 1 1) [exG x y] :=
  isSl_of (l := [exG x y]) (by simp) (by omega) fun i v hv => by
    match i, hv with
    | 0, hv => cases hv; exact round_at h x y hx hy rfl rfl rfl rfl rfl rfl rfl

set_option maxRecDepth 100000 in
set_option maxHeartbeats 8000000 in
theorem lawake_any (w : World) :
    Calls Tryd.prog 6 #[] w fun e w' => e = .returned (.bool true) ∧ Below w.heap.size w w' := by
  go_enter Tryd.func6, Tryd.ntmps6
  go_wp2_with fail
  refine (lexample_any w).mono ?_
  rintro e w1 ⟨vc, vs, rfl, hc, hs, hb1⟩
  have HC := Lib.hid hc
  have HS := Lib.hid hs
  obtain ⟨pc, cc, rfl, _⟩ := hc
  obtain ⟨ps, cs, rfl, _⟩ := hs
  go_wp2_with fail
  refine (lgraph_any 1 3 w1).mono ?_
  rintro e w2 ⟨rfl, hb2⟩
  have hb2' := ext_trans hb1 hb2
  go_wp2_with fail
  refine calls_gen (fun W => Below w2.heap.size w2 W ∧ W.heap[w2.heap.size]? = some (Obj.cells (#[.int .i64 2, .int .i64 1, .int .i64 3, .int .i64 0, .int .i64 0, .int .i64 0, .int .i64 0]) 44) ∧ W.heap[w2.heap.size + 1]? = some (Obj.cells (pbC exP (.slice pc exP.t.cases.length cc) (.slice ps exP.a.states.length cs)) 38) ∧ W.heap[w2.heap.size + 1 + 1]? = some (Obj.cells (#[.int .i64 0, .int .i64 1]) 3) ∧ W.heap[w2.heap.size + 1 + 1 + 1]? = some (Obj.cells (#[.int .i64 0, .int .i64 0]) 3) ∧ W.heap[w2.heap.size + 1 + 1 + 1 + 1]? = some (Obj.cells (#[.int .i64 0, .int .i64 1]) 3) ∧ W.heap[w2.heap.size + 1 + 1 + 1 + 1 + 1]? = some (Obj.cells (#[.int .i64 0, .int .i64 1]) 3) ∧ W.heap[w2.heap.size + 1 + 1 + 1 + 1 + 1 + 1]? = some (Obj.cells (#[.int .i64 0, .int .i64 1]) 3) ∧ W.heap[w2.heap.size + 1 + 1 + 1 + 1 + 1 + 1 + 1]? = some (Obj.cells (#[.int .i64 0, .int .i64 (-1)]) 3) ∧ W.heap[w2.heap.size + 1 + 1 + 1 + 1 + 1 + 1 + 1 + 1]? = some (Obj.cells (#[.int .i64 0, .int .i64 0]) 3) ∧ W.heap[w2.heap.size + 1 + 1 + 1 + 1 + 1 + 1 + 1 + 1 + 1]? = some (Obj.cells (#[.int .i64 1, .int .i64 1]) 3) ∧ W.heap[w2.heap.size + 1 + 1 + 1 + 1 + 1 + 1 + 1 + 1 + 1 + 1]? = some (Obj.cells (#[.int .i64 0, .int .i64 1]) 3) ∧ W.heap[w2.heap.size + 1 + 1 + 1 + 1 + 1 + 1 + 1 + 1 + 1 + 1 + 1]? = some (Obj.cells (#[.int .i64 0, .int .i64 0]) 3)) ⟨by go_grown, alloc_old _ (alloc_old _ (alloc_old _ (alloc_old _ (alloc_old _ (alloc_old _ (alloc_old _ (alloc_old _ (alloc_old _ (alloc_old _ (alloc_old _ (alloc_new _ _))))))))))), alloc_old _ (alloc_old _ (alloc_old _ (alloc_old _ (alloc_old _ (alloc_old _ (alloc_old _ (alloc_old _ (alloc_old _ (alloc_old _ (by simpa using alloc_new (w2.alloc _) _)))))))))), alloc_old _ (alloc_old _ (alloc_old _ (alloc_old _ (alloc_old _ (alloc_old _ (alloc_old _ (alloc_old _ (alloc_old _ (by simpa using alloc_new ((w2.alloc _).alloc _) _))))))))), alloc_old _ (alloc_old _ (alloc_old _ (alloc_old _ (alloc_old _ (alloc_old _ (alloc_old _ (alloc_old _ (by simpa using alloc_new (((w2.alloc _).alloc _).alloc _) _)))))))), alloc_old _ (alloc_old _ (alloc_old _ (alloc_old _ (alloc_old _ (alloc_old _ (alloc_old _ (by simpa using alloc_new ((((w2.alloc _).alloc _).alloc _).alloc _) _))))))), alloc_old _ (alloc_old _ (alloc_old _ (alloc_old _ (alloc_old _ (alloc_old _ (by simpa using alloc_new (((((w2.alloc _).alloc _).alloc _).alloc _).alloc _) _)))))), alloc_old _ (alloc_old _ (alloc_old _ (alloc_old _ (alloc_old _ (by simpa using alloc_new ((((((w2.alloc _).alloc _).alloc _).alloc _).alloc _).alloc _) _))))), alloc_old _ (alloc_old _ (alloc_old _ (alloc_old _ (by simpa using alloc_new (((((((w2.alloc _).alloc _).alloc _).alloc _).alloc _).alloc _).alloc _) _)))), alloc_old _ (alloc_old _ (alloc_old _ (by simpa using alloc_new ((((((((w2.alloc _).alloc _).alloc _).alloc _).alloc _).alloc _).alloc _).alloc _) _))), alloc_old _ (alloc_old _ (by simpa using alloc_new (((((((((w2.alloc _).alloc _).alloc _).alloc _).alloc _).alloc _).alloc _).alloc _).alloc _) _)), alloc_old _ (by simpa using alloc_new ((((((((((w2.alloc _).alloc _).alloc _).alloc _).alloc _).alloc _).alloc _).alloc _).alloc _).alloc _) _), by simpa using alloc_new (((((((((((w2.alloc _).alloc _).alloc _).alloc _).alloc _).alloc _).alloc _).alloc _).alloc _).alloc _).alloc _) _⟩ (fun V hV => ?_)
  obtain ⟨hbV, a0, a1, a2, a3, a4, a5, a6, a7, a8, a9, a10, a11⟩ := hV
  have HV := Lib.hid (And.intro a0 (And.intro a1 (And.intro a2 (And.intro a3 (And.intro a4 (And.intro a5 (And.intro a6 (And.intro a7 (And.intro a8 (And.intro a9 (And.intro a10 a11)))))))))))
  clear a0 a1 a2 a3 a4 a5 a6 a7 a8 a9 a10 a11
  refine (lgraph_any 3 2 V).mono ?_
  rintro e w3 ⟨rfl, hb3⟩
  go_wp2_with fail
  refine wp_gen (fun W => Below w3.heap.size w3 W ∧ W.heap[w3.heap.size]? = some (Obj.cells (#[.int .i64 2, .int .i64 3, .int .i64 2, .int .i64 0, .int .i64 0, .int .i64 0, .int .i64 0]) 44) ∧ W.heap[w3.heap.size + 1]? = some (Obj.cells (#[.int .i64 0, .int .i64 1]) 3) ∧ W.heap[w3.heap.size + 1 + 1]? = some (Obj.cells (#[.int .i64 0, .int .i64 0]) 3) ∧ W.heap[w3.heap.size + 1 + 1 + 1]? = some (Obj.cells (#[.slice (some ⟨w2.heap.size + 1 + 1, 0, none⟩) 2 2, .slice (some ⟨w2.heap.size + 1 + 1 + 1, 0, none⟩) 2 2, .slice (some ⟨w2.heap.size, 0, none⟩) 1 1, .int .i64 0, .int .i64 (-1), .slice (some ⟨w2.heap.size + 1 + 1 + 1 + 1, 0, none⟩) 2 2, .slice (some ⟨w2.heap.size + 1 + 1 + 1 + 1 + 1, 0, none⟩) 2 2, .slice (some ⟨w2.heap.size, 0, none⟩) 1 1, .int .i64 3, .int .i64 1, .slice (some ⟨w2.heap.size + 1 + 1 + 1 + 1 + 1 + 1, 0, none⟩) 2 2, .slice (some ⟨w2.heap.size + 1 + 1 + 1 + 1 + 1 + 1 + 1, 0, none⟩) 2 2, .slice (some ⟨w2.heap.size, 0, none⟩) 1 1, .int .i64 2, .int .i64 1, .slice (some ⟨w2.heap.size + 1 + 1 + 1 + 1 + 1 + 1 + 1 + 1, 0, none⟩) 2 2, .slice (some ⟨w2.heap.size + 1 + 1 + 1 + 1 + 1 + 1 + 1 + 1 + 1, 0, none⟩) 2 2, .slice (some ⟨w2.heap.size, 0, none⟩) 1 1, .int .i64 3, .int .i64 0, .slice (some ⟨w2.heap.size + 1 + 1 + 1 + 1 + 1 + 1 + 1 + 1 + 1 + 1, 0, none⟩) 2 2, .slice (some ⟨w2.heap.size + 1 + 1 + 1 + 1 + 1 + 1 + 1 + 1 + 1 + 1 + 1, 0, none⟩) 2 2, .slice (some ⟨w3.heap.size, 0, none⟩) 1 1, .int .i64 1, .int .i64 (-1), .slice (some ⟨w3.heap.size + 1, 0, none⟩) 2 2, .slice (some ⟨w3.heap.size + 1 + 1, 0, none⟩) 2 2, .slice none 0 0, .int .i64 1, .int .i64 (-1)]) 48)) ⟨by go_grown, alloc_old _ (alloc_old _ (alloc_old _ (alloc_new _ _))), alloc_old _ (alloc_old _ (by simpa using alloc_new (w3.alloc _) _)), alloc_old _ (by simpa using alloc_new ((w3.alloc _).alloc _) _), by simpa using alloc_new (((w3.alloc _).alloc _).alloc _) _⟩ (fun W5 hW5 => ?_)
  obtain ⟨hb5, b0, b1, b2, b3⟩ := hW5
  have hb35 := ext_trans hb3 hb5
  have hW := ext_trans (ext_trans hb2' hbV) hb35
  have h1 := ext_trans (ext_trans hb2 hbV) hb35
  obtain ⟨a0, a1, a2, a3, a4, a5, a6, a7, a8, a9, a10, a11⟩ := HV.out
  replace a0 := block_up hb35 a0
  replace a1 := block_up hb35 a1
  replace a2 := block_up hb35 a2
  replace a3 := block_up hb35 a3
  replace a4 := block_up hb35 a4
  replace a5 := block_up hb35 a5
  replace a6 := block_up hb35 a6
  replace a7 := block_up hb35 a7
  replace a8 := block_up hb35 a8
  replace a9 := block_up hb35 a9
  replace a10 := block_up hb35 a10
  replace a11 := block_up hb35 a11
  have HB := Lib.hid (And.intro a0 (And.intro a1 (And.intro a2 (And.intro a3 (And.intro a4 (And.intro a5 (And.intro a6 (And.intro a7 (And.intro a8 (And.intro a9 (And.intro a10 (And.intro a11 (And.intro b0 (And.intro b1 (And.intro b2 b3)))))))))))))))
  have G1 := Lib.hid (HC.out.up up_case h1)
  have G2 := Lib.hid (HS.out.up up_moves h1)
  clear a0 a1 a2 a3 a4 a5 a6 a7 a8 a9 a10 a11 b0 b1 b2 b3 hb1 hb2 hb3 hb5 hbV hb35 hb2' h1 HV HC HS
  go_loopw [37] (fun i wr => Below W5.heap.size W5 wr ∧ ∃ k : Nat, k ≤ 6 ∧ i = .int .i64 k) (fun i _ => 6 - (intOf i).toNat)
  case atStart => exact ⟨Below.refl _ _, 0, by omega, rfl⟩
  case round =>
    obtain ⟨hbr, k, hk, rfl⟩ := hrel
    obtain ⟨a0, a1, a2, a3, a4, a5, a6, a7, a8, a9, a10, a11, b0, b1, b2, b3⟩ := HB.out
    have hbw := ext_trans hW hbr
    have t1 := cell_block (block_up hbr a1)
    have t2 := cell_block (block_up hbr b3)
    have hz1 := block_lt (block_up hbr a1)
    have hz2 := block_lt (block_up hbr b3)
    clear a0 a1 a2 a3 a4 a5 a6 a7 a8 a9 a10 a11 b0 b1 b2 b3
    have hk' : k = 0 ∨ k = 1 ∨ k = 2 ∨ k = 3 ∨ k = 4 ∨ k = 5 ∨ k = 6 := by omega
    rcases hk' with rfl | rfl | rfl | rfl | rfl | rfl | rfl
    · go_wp2_with fail
      refine calls_gen (fun W => Below wr.heap.size wr W ∧ W.heap[wr.heap.size]? = some (Obj.cells #[.slice (some ⟨w2.heap.size + 1 + 1, 0, none⟩) 2 2, .slice (some ⟨w2.heap.size + 1 + 1 + 1, 0, none⟩) 2 2, .slice (some ⟨w2.heap.size, 0, none⟩) 1 1, .int .i64 0, .int .i64 (-1)] 48)) ⟨by go_grown, alloc_new _ _⟩ (fun X hX => ?_)
      obtain ⟨hbx, hE⟩ := hX
      have hbX := ext_trans hbr hbx
      obtain ⟨a0, a1, a2, a3, a4, a5, a6, a7, a8, a9, a10, a11, b0, b1, b2, b3⟩ := HB.out
      refine (blame_any exP _ _ _ [0, 1] _ [exG 1 3] _ [0, 0] X (G1.out.up up_case hbX) (G2.out.up up_moves hbX) (ints2 (block_up hbX a2) (inR_small (by omega) (by omega)) (inR_small (by omega) (by omega))) (word1 (block_up hbX a0) (inR_small (by omega) (by omega)) (inR_small (by omega) (by omega))) (ints2 (block_up hbX a3) (inR_small (by omega) (by omega)) (inR_small (by omega) (by omega))) (by decide)).mono ?_
      rintro e w6 ⟨rfl, hb6⟩
      rw [show blameR exP [0, 1] [exG 1 3] [0, 0] = (0, -1, 0) by decide +kernel]
      have t3 := cell_block (block_up hb6 hE)
      clear a0 a1 a2 a3 a4 a5 a6 a7 a8 a9 a10 a11 b0 b1 b2 b3 t1 t2 hE
      go_wp2_with fail
      go_roundw
      case rel => exact ⟨ext_trans hbX hb6, 1, by omega, by go_num⟩
      case measure => simp [intOf]
    · go_wp2_with fail
      refine calls_gen (fun W => Below wr.heap.size wr W ∧ W.heap[wr.heap.size]? = some (Obj.cells #[.slice (some ⟨w2.heap.size + 1 + 1 + 1 + 1, 0, none⟩) 2 2, .slice (some ⟨w2.heap.size + 1 + 1 + 1 + 1 + 1, 0, none⟩) 2 2, .slice (some ⟨w2.heap.size, 0, none⟩) 1 1, .int .i64 3, .int .i64 1] 48)) ⟨by go_grown, alloc_new _ _⟩ (fun X hX => ?_)
      obtain ⟨hbx, hE⟩ := hX
      have hbX := ext_trans hbr hbx
      obtain ⟨a0, a1, a2, a3, a4, a5, a6, a7, a8, a9, a10, a11, b0, b1, b2, b3⟩ := HB.out
      refine (blame_any exP _ _ _ [0, 1] _ [exG 1 3] _ [0, 1] X (G1.out.up up_case hbX) (G2.out.up up_moves hbX) (ints2 (block_up hbX a4) (inR_small (by omega) (by omega)) (inR_small (by omega) (by omega))) (word1 (block_up hbX a0) (inR_small (by omega) (by omega)) (inR_small (by omega) (by omega))) (ints2 (block_up hbX a5) (inR_small (by omega) (by omega)) (inR_small (by omega) (by omega))) (by decide)).mono ?_
      rintro e w6 ⟨rfl, hb6⟩
      rw [show blameR exP [0, 1] [exG 1 3] [0, 1] = (3, 1, 0) by decide +kernel]
      have t3 := cell_block (block_up hb6 hE)
      clear a0 a1 a2 a3 a4 a5 a6 a7 a8 a9 a10 a11 b0 b1 b2 b3 t1 t2 hE
      go_wp2_with fail
      go_roundw
      case rel => exact ⟨ext_trans hbX hb6, 2, by omega, by go_num⟩
      case measure => simp [intOf]
    · go_wp2_with fail
      refine calls_gen (fun W => Below wr.heap.size wr W ∧ W.heap[wr.heap.size]? = some (Obj.cells #[.slice (some ⟨w2.heap.size + 1 + 1 + 1 + 1 + 1 + 1, 0, none⟩) 2 2, .slice (some ⟨w2.heap.size + 1 + 1 + 1 + 1 + 1 + 1 + 1, 0, none⟩) 2 2, .slice (some ⟨w2.heap.size, 0, none⟩) 1 1, .int .i64 2, .int .i64 1] 48)) ⟨by go_grown, alloc_new _ _⟩ (fun X hX => ?_)
      obtain ⟨hbx, hE⟩ := hX
      have hbX := ext_trans hbr hbx
      obtain ⟨a0, a1, a2, a3, a4, a5, a6, a7, a8, a9, a10, a11, b0, b1, b2, b3⟩ := HB.out
      refine (blame_any exP _ _ _ [0, 1] _ [exG 1 3] _ [0, -1] X (G1.out.up up_case hbX) (G2.out.up up_moves hbX) (ints2 (block_up hbX a6) (inR_small (by omega) (by omega)) (inR_small (by omega) (by omega))) (word1 (block_up hbX a0) (inR_small (by omega) (by omega)) (inR_small (by omega) (by omega))) (ints2 (block_up hbX a7) (inR_small (by omega) (by omega)) (inR_small (by omega) (by omega))) (by decide)).mono ?_
      rintro e w6 ⟨rfl, hb6⟩
      rw [show blameR exP [0, 1] [exG 1 3] [0, -1] = (2, 1, 0) by decide +kernel]
      have t3 := cell_block (block_up hb6 hE)
      clear a0 a1 a2 a3 a4 a5 a6 a7 a8 a9 a10 a11 b0 b1 b2 b3 t1 t2 hE
      go_wp2_with fail
      go_roundw
      case rel => exact ⟨ext_trans hbX hb6, 3, by omega, by go_num⟩
      case measure => simp [intOf]
    · go_wp2_with fail
      refine calls_gen (fun W => Below wr.heap.size wr W ∧ W.heap[wr.heap.size]? = some (Obj.cells #[.slice (some ⟨w2.heap.size + 1 + 1 + 1 + 1 + 1 + 1 + 1 + 1, 0, none⟩) 2 2, .slice (some ⟨w2.heap.size + 1 + 1 + 1 + 1 + 1 + 1 + 1 + 1 + 1, 0, none⟩) 2 2, .slice (some ⟨w2.heap.size, 0, none⟩) 1 1, .int .i64 3, .int .i64 0] 48)) ⟨by go_grown, alloc_new _ _⟩ (fun X hX => ?_)
      obtain ⟨hbx, hE⟩ := hX
      have hbX := ext_trans hbr hbx
      obtain ⟨a0, a1, a2, a3, a4, a5, a6, a7, a8, a9, a10, a11, b0, b1, b2, b3⟩ := HB.out
      refine (blame_any exP _ _ _ [0, 0] _ [exG 1 3] _ [1, 1] X (G1.out.up up_case hbX) (G2.out.up up_moves hbX) (ints2 (block_up hbX a8) (inR_small (by omega) (by omega)) (inR_small (by omega) (by omega))) (word1 (block_up hbX a0) (inR_small (by omega) (by omega)) (inR_small (by omega) (by omega))) (ints2 (block_up hbX a9) (inR_small (by omega) (by omega)) (inR_small (by omega) (by omega))) (by decide)).mono ?_
      rintro e w6 ⟨rfl, hb6⟩
      rw [show blameR exP [0, 0] [exG 1 3] [1, 1] = (3, 0, 0) by decide +kernel]
      have t3 := cell_block (block_up hb6 hE)
      clear a0 a1 a2 a3 a4 a5 a6 a7 a8 a9 a10 a11 b0 b1 b2 b3 t1 t2 hE
      go_wp2_with fail
      go_roundw
      case rel => exact ⟨ext_trans hbX hb6, 4, by omega, by go_num⟩
      case measure => simp [intOf]
    · go_wp2_with fail
      refine calls_gen (fun W => Below wr.heap.size wr W ∧ W.heap[wr.heap.size]? = some (Obj.cells #[.slice (some ⟨w2.heap.size + 1 + 1 + 1 + 1 + 1 + 1 + 1 + 1 + 1 + 1, 0, none⟩) 2 2, .slice (some ⟨w2.heap.size + 1 + 1 + 1 + 1 + 1 + 1 + 1 + 1 + 1 + 1 + 1, 0, none⟩) 2 2, .slice (some ⟨w3.heap.size, 0, none⟩) 1 1, .int .i64 1, .int .i64 (-1)] 48)) ⟨by go_grown, alloc_new _ _⟩ (fun X hX => ?_)
      obtain ⟨hbx, hE⟩ := hX
      have hbX := ext_trans hbr hbx
      obtain ⟨a0, a1, a2, a3, a4, a5, a6, a7, a8, a9, a10, a11, b0, b1, b2, b3⟩ := HB.out
      refine (blame_any exP _ _ _ [0, 1] _ [exG 3 2] _ [0, 0] X (G1.out.up up_case hbX) (G2.out.up up_moves hbX) (ints2 (block_up hbX a10) (inR_small (by omega) (by omega)) (inR_small (by omega) (by omega))) (word1 (block_up hbX b0) (inR_small (by omega) (by omega)) (inR_small (by omega) (by omega))) (ints2 (block_up hbX a11) (inR_small (by omega) (by omega)) (inR_small (by omega) (by omega))) (by decide)).mono ?_
      rintro e w6 ⟨rfl, hb6⟩
      rw [show blameR exP [0, 1] [exG 3 2] [0, 0] = (1, -1, 0) by decide +kernel]
      have t3 := cell_block (block_up hb6 hE)
      clear a0 a1 a2 a3 a4 a5 a6 a7 a8 a9 a10 a11 b0 b1 b2 b3 t1 t2 hE
      go_wp2_with fail
      go_roundw
      case rel => exact ⟨ext_trans hbX hb6, 5, by omega, by go_num⟩
      case measure => simp [intOf]
    · go_wp2_with fail
      refine calls_gen (fun W => Below wr.heap.size wr W ∧ W.heap[wr.heap.size]? = some (Obj.cells #[.slice (some ⟨w3.heap.size + 1, 0, none⟩) 2 2, .slice (some ⟨w3.heap.size + 1 + 1, 0, none⟩) 2 2, .slice none 0 0, .int .i64 1, .int .i64 (-1)] 48)) ⟨by go_grown, alloc_new _ _⟩ (fun X hX => ?_)
      obtain ⟨hbx, hE⟩ := hX
      have hbX := ext_trans hbr hbx
      obtain ⟨a0, a1, a2, a3, a4, a5, a6, a7, a8, a9, a10, a11, b0, b1, b2, b3⟩ := HB.out
      refine (blame_any exP _ _ _ [0, 1] _ [] _ [0, 0] X (G1.out.up up_case hbX) (G2.out.up up_moves hbX) (ints2 (block_up hbX b1) (inR_small (by omega) (by omega)) (inR_small (by omega) (by omega))) isSl_nil (ints2 (block_up hbX b2) (inR_small (by omega) (by omega)) (inR_small (by omega) (by omega))) (by decide)).mono ?_
      rintro e w6 ⟨rfl, hb6⟩
      rw [show blameR exP [0, 1] [] [0, 0] = (1, -1, 0) by decide +kernel]
      have t3 := cell_block (block_up hb6 hE)
      clear a0 a1 a2 a3 a4 a5 a6 a7 a8 a9 a10 a11 b0 b1 b2 b3 t1 t2 hE
      go_wp2_with fail
      go_roundw
      case rel => exact ⟨ext_trans hbX hb6, 6, by omega, by go_num⟩
      case measure => simp [intOf]
    · go_wp2_with fail
      go_ret
      exact ⟨rfl, hbw⟩
end Go.Proofs.YtlfnfphkhokdiaaDoor

namespace Go.Proofs.YtlfnfphkhokdiaaDoor
open Go.RowKit Go Go.Shelf

def nm (k : Nat) : ByteArray := match k with
  | 0 => ⟨#[110, 111, 110, 101]⟩
  | 1 => ⟨#[115, 99, 104, 101, 100, 117, 108, 101]⟩
  | 2 => ⟨#[117, 110, 100, 101, 99, 105, 100, 101, 100]⟩
  | 3 => ⟨#[111, 117, 116, 112, 117, 116]⟩
  | _ => ⟨#[116, 114, 97, 99, 101]⟩
def WordsAt (w : World) : Prop := ∀ i, i < 5 → w.cell? ⟨0, i, none⟩ = some (.string (nm i))
theorem WordsAt.up {w w' : World} (h : WordsAt w) (hb : Below w.heap.size w w') : WordsAt w' := fun i hi => cell_up hb (h i hi)

set_option maxHeartbeats 1000000 in
theorem word_out (k : Int) (hk : k < 0 ∨ 5 ≤ k) (w : World) : Calls Tryd.prog 4 #[.int .i64 k] w fun e w' => e = .returned (.tuple #[.string ⟨#[]⟩, .int .i64 1]) ∧ w = w' := by
  rcases hk with hk | hk
  · go_enter Tryd.func4, Tryd.ntmps4
    go_wp2
    go_ret2
    exact ⟨rfl, rfl⟩
  · have hk0 : ¬ k < 0 := by omega
    go_enter Tryd.func4, Tryd.ntmps4
    go_wp2
    go_ret2
    exact ⟨rfl, rfl⟩
set_option maxHeartbeats 1000000 in
theorem word_in (k : Nat) (hk : k < 5) (w : World) (hg : WordsAt w) : Calls Tryd.prog 4 #[.int .i64 k] w fun e w' => e = .returned (.tuple #[.string (nm k), .int .i64 0]) ∧ w = w' := by
  have c := hg k hk
  generalize nm k = s at c
  clear hg
  go_enter Tryd.func4, Tryd.ntmps4
  go_wp2
  go_ret2
  exact ⟨rfl, rfl⟩
set_option maxHeartbeats 1000000 in
theorem rword_out (k : Int) (hk : k < 0 ∨ 5 ≤ k) (w : World) : Calls Tryd.prog 5 #[.int .i64 k] w fun e w' => e = .returned (.tuple #[.string ⟨#[]⟩, .int .i64 1]) ∧ Below w.heap.size w w' := by
  rcases hk with hk | hk
  · go_enter Tryd.func5, Tryd.ntmps5
    go_wp2
    go_ret2
    exact ⟨rfl, Below.refl _ _⟩
  · have hk0 : ¬ k < 0 := by omega
    go_enter Tryd.func5, Tryd.ntmps5
    go_wp2
    go_ret2
    exact ⟨rfl, Below.refl _ _⟩
set_option maxHeartbeats 1000000 in
theorem rword_in (k : Nat) (hk : k < 5) (w : World) : Calls Tryd.prog 5 #[.int .i64 k] w fun e w' => e = .returned (.tuple #[.string (nm k), .int .i64 0]) ∧ Below w.heap.size w w' := by
  have : k = 0 ∨ k = 1 ∨ k = 2 ∨ k = 3 ∨ k = 4 := by omega
  rcases this with rfl | rfl | rfl | rfl | rfl
  all_goals
    go_enter Tryd.func5, Tryd.ntmps5
    go_wp2
    go_ret2
    exact ⟨rfl, by go_grown⟩

set_option maxRecDepth 100000 in
set_option maxHeartbeats 2000000 in
theorem lnames_any (k j : Int) (w : World) (hg : WordsAt w) : Calls Tryd.prog 3 #[.int .i64 k, .int .i64 j] w fun e w' => e = .returned (.bool true) ∧ Below w.heap.size w w' := by
  have HG := Lib.hid hg; clear hg
  by_cases hk : k < 0 ∨ 5 ≤ k
  · have HJ : Hid (∃ s e, ∀ W, Below w.heap.size w W → Calls Tryd.prog 4 #[.int .i64 j] W fun e' w' => e' = .returned (.tuple #[.string s, .int .i64 e]) ∧ W = w') := by
      have h : ∃ s e, ∀ W, Below w.heap.size w W → Calls Tryd.prog 4 #[.int .i64 j] W fun e' w' => e' = .returned (.tuple #[.string s, .int .i64 e]) ∧ W = w' := by
        by_cases hj : j < 0 ∨ 5 ≤ j
        · exact ⟨_, _, fun W _ => word_out j hj W⟩
        · obtain ⟨n, rfl⟩ : ∃ n : Nat, j = n := ⟨j.toNat, by omega⟩
          exact ⟨_, _, fun W hb => word_in n (by omega) W (HG.out.up hb)⟩
      exact h
    obtain ⟨s, e, hj⟩ := HJ.out
    have HJ2 := Lib.hid hj
    have HK := Lib.hid hk
    clear hj hk HJ
    go_enter Tryd.func3, Tryd.ntmps3
    go_wp2_with fail
    refine (word_out k HK.out _).mono ?_
    rintro e1 w1 ⟨rfl, rfl⟩
    go_wp2_with fail
    refine (rword_out k HK.out _).mono ?_
    rintro e1 w2 ⟨rfl, hb2⟩
    go_wp2_with fail
    refine (HJ2.out _ hb2).mono ?_
    rintro e1 w3 ⟨rfl, rfl⟩
    go_wp2_with fail
    refine (lawake_any _).mono ?_
    rintro e1 w4 ⟨rfl, hb4⟩
    go_wp2_with fail
    go_ret
    exact ⟨rfl, ext_trans hb2 hb4⟩
  obtain ⟨n, rfl⟩ : ∃ n : Nat, k = n := ⟨k.toNat, by omega⟩
  have hn : n < 5 := by omega
  clear hk
  by_cases hj : j < 0 ∨ 5 ≤ j
  · have HJ := Lib.hid hj
    have HC1 := Lib.hid (word_in n hn)
    have HC2 := Lib.hid (rword_in n hn)
    clear hj
    generalize nm n = s at HC1 HC2
    go_enter Tryd.func3, Tryd.ntmps3
    go_wp2_with fail
    refine (HC1.out _ HG.out).mono ?_
    rintro e1 w1 ⟨rfl, rfl⟩
    go_wp2_with fail
    refine (HC2.out _).mono ?_
    rintro e1 w2 ⟨rfl, hb2⟩
    go_wp2_with fail
    refine (word_out j HJ.out _).mono ?_
    rintro e1 w3 ⟨rfl, rfl⟩
    go_wp2_with fail
    refine (lawake_any _).mono ?_
    rintro e1 w4 ⟨rfl, hb4⟩
    go_wp2_with fail
    go_ret
    exact ⟨rfl, ext_trans hb2 hb4⟩
  obtain ⟨m, rfl⟩ : ∃ m : Nat, j = m := ⟨j.toNat, by omega⟩
  have hm : m < 5 := by omega
  clear hj
  have hn' : n = 0 ∨ n = 1 ∨ n = 2 ∨ n = 3 ∨ n = 4 := by omega
  have hm' : m = 0 ∨ m = 1 ∨ m = 2 ∨ m = 3 ∨ m = 4 := by omega
  have HC1 := Lib.hid (word_in n hn)
  have HC2 := Lib.hid (rword_in n hn)
  have HC3 := Lib.hid (word_in m hm)
  clear hn hm
  rcases hn' with rfl | rfl | rfl | rfl | rfl <;> rcases hm' with rfl | rfl | rfl | rfl | rfl
  all_goals
    go_enter Tryd.func3, Tryd.ntmps3
    go_wp2_with fail
    refine (HC1.out _ HG.out).mono ?_
    rintro e1 w1 ⟨rfl, rfl⟩
    go_wp2_with fail
    refine (HC2.out _).mono ?_
    rintro e1 w2 ⟨rfl, hb2⟩
    go_wp2_with fail
    refine (HC3.out _ (HG.out.up hb2)).mono ?_
    rintro e1 w3 ⟨rfl, rfl⟩
    simp only [nm]
    go_wp2_with fail
    refine (lawake_any _).mono ?_
    rintro e1 w4 ⟨rfl, hb4⟩
    go_wp2_with fail
    go_ret
    exact ⟨rfl, ext_trans hb2 hb4⟩
end Go.Proofs.YtlfnfphkhokdiaaDoor
