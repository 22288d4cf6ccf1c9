/-
  Parts of the proof, in order. Contract of the law's awake. No conditions. Contracts of the reference's functions on tasks: Order, Has, vector, Index, Vectors. Conditions: the arguments read as lists. Contracts of the reference's functions on tasks: Index, Vectors, one, Check. Conditions: the arguments read as a task. Contract of the reference's function 'one' on a case of a task. Conditions: the arguments read as a task. Contracts of the reference's Check, fewVectors and Few of tasks. Conditions: the arguments read as a task. Contracts of the reference's functions on sets, graphs and rounds. Conditions: sets are not negative where Has is asked; numbers of processes are small. Contracts of the reference's Check and Compare of graphs and rounds. Contracts of the reference's Moves and move of adversaries. Conditions: the arguments read as an adversary.
-/
import Derived.Test.YtjmejfgkogjpaaaGreatJ8
namespace Go.Proofs.YtjmejfgkogjpaaaGreat
open Go.RowKit Go Go.Shelf

theorem word1 {w : World} {b : Nat} {x y : Int} {t : TypeId} (h : w.heap[b]? = some (.cells #[.int .i64 2, .int .i64 x, .int .i64 y, .int .i64 0, .int .i64 0, .int .i64 0, .int .i64 0] t)) (hx : InR x) (hy : InR y) : IsWord w (.slice (some ⟨b, 0, none⟩) 1 1) [exG x y] :=
  isSl_of (l := [exG x y]) (by simp) (by omega) fun i v hv => by
    match i, hv with
    | 0, hv => cases hv; exact round_at h x y hx hy rfl rfl rfl rfl rfl rfl rfl

set_option maxRecDepth 100000 in
set_option maxHeartbeats 8000000 in
theorem lawake_any (w : World) :
    Calls Tryz.prog 7 #[] w fun e w' => e = .returned (.bool true) ∧ Below w.heap.size w w' := by
  go_enter Tryz.func7, Tryz.ntmps7
  go_wp2_with fail
  refine (lexample_any w).mono ?_
  rintro e w1 ⟨vc, vs, rfl, hc, hs, hb1⟩
  have HC := Lib.hid hc
  have HS := Lib.hid hs
  obtain ⟨pc, cc, rfl, _⟩ := hc
  obtain ⟨ps, cs, rfl, _⟩ := hs
  go_wp2_with fail
  refine (lgraph_any 1 3 w1).mono ?_
  rintro e w2 ⟨rfl, hb2⟩
  have hb2' := ext_trans hb1 hb2
  go_wp2_with fail
  refine calls_gen (fun W => Below w2.heap.size w2 W ∧ W.heap[w2.heap.size]? = some (Obj.cells (#[.int .i64 2, .int .i64 1, .int .i64 3, .int .i64 0, .int .i64 0, .int .i64 0, .int .i64 0]) 64) ∧ W.heap[w2.heap.size + 1]? = some (Obj.cells (pbC exP (.slice pc exP.t.cases.length cc) (.slice ps exP.a.states.length cs)) 29) ∧ W.heap[w2.heap.size + 1 + 1]? = some (Obj.cells (#[.int .i64 0, .int .i64 1]) 3) ∧ W.heap[w2.heap.size + 1 + 1 + 1]? = some (Obj.cells (#[.int .i64 0, .int .i64 0]) 3) ∧ W.heap[w2.heap.size + 1 + 1 + 1 + 1]? = some (Obj.cells (#[.int .i64 0, .int .i64 1]) 3) ∧ W.heap[w2.heap.size + 1 + 1 + 1 + 1 + 1]? = some (Obj.cells (#[.int .i64 0, .int .i64 1]) 3) ∧ W.heap[w2.heap.size + 1 + 1 + 1 + 1 + 1 + 1]? = some (Obj.cells (#[.int .i64 0, .int .i64 1]) 3) ∧ W.heap[w2.heap.size + 1 + 1 + 1 + 1 + 1 + 1 + 1]? = some (Obj.cells (#[.int .i64 0, .int .i64 (-1)]) 3) ∧ W.heap[w2.heap.size + 1 + 1 + 1 + 1 + 1 + 1 + 1 + 1]? = some (Obj.cells (#[.int .i64 0, .int .i64 0]) 3) ∧ W.heap[w2.heap.size + 1 + 1 + 1 + 1 + 1 + 1 + 1 + 1 + 1]? = some (Obj.cells (#[.int .i64 1, .int .i64 1]) 3) ∧ W.heap[w2.heap.size + 1 + 1 + 1 + 1 + 1 + 1 + 1 + 1 + 1 + 1]? = some (Obj.cells (#[.int .i64 0, .int .i64 1]) 3) ∧ W.heap[w2.heap.size + 1 + 1 + 1 + 1 + 1 + 1 + 1 + 1 + 1 + 1 + 1]? = some (Obj.cells (#[.int .i64 0, .int .i64 0]) 3)) ⟨by go_grown, alloc_old _ (alloc_old _ (alloc_old _ (alloc_old _ (alloc_old _ (alloc_old _ (alloc_old _ (alloc_old _ (alloc_old _ (alloc_old _ (alloc_old _ (alloc_new _ _))))))))))), alloc_old _ (alloc_old _ (alloc_old _ (alloc_old _ (alloc_old _ (alloc_old _ (alloc_old _ (alloc_old _ (alloc_old _ (alloc_old _ (by simpa using alloc_new (w2.alloc _) _)))))))))), alloc_old _ (alloc_old _ (alloc_old _ (alloc_old _ (alloc_old _ (alloc_old _ (alloc_old _ (alloc_old _ (alloc_old _ (by simpa using alloc_new ((w2.alloc _).alloc _) _))))))))), alloc_old _ (alloc_old _ (alloc_old _ (alloc_old _ (alloc_old _ (alloc_old _ (alloc_old _ (alloc_old _ (by simpa using alloc_new (((w2.alloc _).alloc _).alloc _) _)))))))), alloc_old _ (alloc_old _ (alloc_old _ (alloc_old _ (alloc_old _ (alloc_old _ (alloc_old _ (by simpa using alloc_new ((((w2.alloc _).alloc _).alloc _).alloc _) _))))))), alloc_old _ (alloc_old _ (alloc_old _ (alloc_old _ (alloc_old _ (alloc_old _ (by simpa using alloc_new (((((w2.alloc _).alloc _).alloc _).alloc _).alloc _) _)))))), alloc_old _ (alloc_old _ (alloc_old _ (alloc_old _ (alloc_old _ (by simpa using alloc_new ((((((w2.alloc _).alloc _).alloc _).alloc _).alloc _).alloc _) _))))), alloc_old _ (alloc_old _ (alloc_old _ (alloc_old _ (by simpa using alloc_new (((((((w2.alloc _).alloc _).alloc _).alloc _).alloc _).alloc _).alloc _) _)))), alloc_old _ (alloc_old _ (alloc_old _ (by simpa using alloc_new ((((((((w2.alloc _).alloc _).alloc _).alloc _).alloc _).alloc _).alloc _).alloc _) _))), alloc_old _ (alloc_old _ (by simpa using alloc_new (((((((((w2.alloc _).alloc _).alloc _).alloc _).alloc _).alloc _).alloc _).alloc _).alloc _) _)), alloc_old _ (by simpa using alloc_new ((((((((((w2.alloc _).alloc _).alloc _).alloc _).alloc _).alloc _).alloc _).alloc _).alloc _).alloc _) _), by simpa using alloc_new (((((((((((w2.alloc _).alloc _).alloc _).alloc _).alloc _).alloc _).alloc _).alloc _).alloc _).alloc _).alloc _) _⟩ (fun V hV => ?_)
  obtain ⟨hbV, a0, a1, a2, a3, a4, a5, a6, a7, a8, a9, a10, a11⟩ := hV
  have HV := Lib.hid (And.intro a0 (And.intro a1 (And.intro a2 (And.intro a3 (And.intro a4 (And.intro a5 (And.intro a6 (And.intro a7 (And.intro a8 (And.intro a9 (And.intro a10 a11)))))))))))
  clear a0 a1 a2 a3 a4 a5 a6 a7 a8 a9 a10 a11
  refine (lgraph_any 3 2 V).mono ?_
  rintro e w3 ⟨rfl, hb3⟩
  go_wp2_with fail
  refine wp_gen (fun W => Below w3.heap.size w3 W ∧ W.heap[w3.heap.size]? = some (Obj.cells (#[.int .i64 2, .int .i64 3, .int .i64 2, .int .i64 0, .int .i64 0, .int .i64 0, .int .i64 0]) 64) ∧ W.heap[w3.heap.size + 1]? = some (Obj.cells (#[.int .i64 0, .int .i64 1]) 3) ∧ W.heap[w3.heap.size + 1 + 1]? = some (Obj.cells (#[.int .i64 0, .int .i64 0]) 3) ∧ W.heap[w3.heap.size + 1 + 1 + 1]? = some (Obj.cells (#[.slice (some ⟨w2.heap.size + 1 + 1, 0, none⟩) 2 2, .slice (some ⟨w2.heap.size + 1 + 1 + 1, 0, none⟩) 2 2, .slice (some ⟨w2.heap.size, 0, none⟩) 1 1, .int .i64 0, .int .i64 (-1), .slice (some ⟨w2.heap.size + 1 + 1 + 1 + 1, 0, none⟩) 2 2, .slice (some ⟨w2.heap.size + 1 + 1 + 1 + 1 + 1, 0, none⟩) 2 2, .slice (some ⟨w2.heap.size, 0, none⟩) 1 1, .int .i64 3, .int .i64 1, .slice (some ⟨w2.heap.size + 1 + 1 + 1 + 1 + 1 + 1, 0, none⟩) 2 2, .slice (some ⟨w2.heap.size + 1 + 1 + 1 + 1 + 1 + 1 + 1, 0, none⟩) 2 2, .slice (some ⟨w2.heap.size, 0, none⟩) 1 1, .int .i64 2, .int .i64 1, .slice (some ⟨w2.heap.size + 1 + 1 + 1 + 1 + 1 + 1 + 1 + 1, 0, none⟩) 2 2, .slice (some ⟨w2.heap.size + 1 + 1 + 1 + 1 + 1 + 1 + 1 + 1 + 1, 0, none⟩) 2 2, .slice (some ⟨w2.heap.size, 0, none⟩) 1 1, .int .i64 3, .int .i64 0, .slice (some ⟨w2.heap.size + 1 + 1 + 1 + 1 + 1 + 1 + 1 + 1 + 1 + 1, 0, none⟩) 2 2, .slice (some ⟨w2.heap.size + 1 + 1 + 1 + 1 + 1 + 1 + 1 + 1 + 1 + 1 + 1, 0, none⟩) 2 2, .slice (some ⟨w3.heap.size, 0, none⟩) 1 1, .int .i64 1, .int .i64 (-1), .slice (some ⟨w3.heap.size + 1, 0, none⟩) 2 2, .slice (some ⟨w3.heap.size + 1 + 1, 0, none⟩) 2 2, .slice none 0 0, .int .i64 1, .int .i64 (-1)]) 66)) ⟨by go_grown, alloc_old _ (alloc_old _ (alloc_old _ (alloc_new _ _))), alloc_old _ (alloc_old _ (by simpa using alloc_new (w3.alloc _) _)), alloc_old _ (by simpa using alloc_new ((w3.alloc _).alloc _) _), by simpa using alloc_new (((w3.alloc _).alloc _).alloc _) _⟩ (fun W5 hW5 => ?_)
  obtain ⟨hb5, b0, b1, b2, b3⟩ := hW5
  have hb35 := ext_trans hb3 hb5
  have hW := ext_trans (ext_trans hb2' hbV) hb35
  have h1 := ext_trans (ext_trans hb2 hbV) hb35
  obtain ⟨a0, a1, a2, a3, a4, a5, a6, a7, a8, a9, a10, a11⟩ := HV.out
  replace a0 := block_up hb35 a0
  replace a1 := block_up hb35 a1
  replace a2 := block_up hb35 a2
  replace a3 := block_up hb35 a3
  replace a4 := block_up hb35 a4
  replace a5 := block_up hb35 a5
  replace a6 := block_up hb35 a6
  replace a7 := block_up hb35 a7
  replace a8 := block_up hb35 a8
  replace a9 := block_up hb35 a9
  replace a10 := block_up hb35 a10
  replace a11 := block_up hb35 a11
  have HB := Lib.hid (And.intro a0 (And.intro a1 (And.intro a2 (And.intro a3 (And.intro a4 (And.intro a5 (And.intro a6 (And.intro a7 (And.intro a8 (And.intro a9 (And.intro a10 (And.intro a11 (And.intro b0 (And.intro b1 (And.intro b2 b3)))))))))))))))
  have G1 := Lib.hid (HC.out.up up_case h1)
  have G2 := Lib.hid (HS.out.up up_moves h1)
  clear a0 a1 a2 a3 a4 a5 a6 a7 a8 a9 a10 a11 b0 b1 b2 b3 hb1 hb2 hb3 hb5 hbV hb35 hb2' h1 HV HC HS
  go_loopw [37] (fun i wr => Below W5.heap.size W5 wr ∧ ∃ k : Nat, k ≤ 6 ∧ i = .int .i64 k) (fun i _ => 6 - (intOf i).toNat)
  case atStart => exact ⟨Below.refl _ _, 0, by omega, rfl⟩
  case round =>
    obtain ⟨hbr, k, hk, rfl⟩ := hrel
    obtain ⟨a0, a1, a2, a3, a4, a5, a6, a7, a8, a9, a10, a11, b0, b1, b2, b3⟩ := HB.out
    have hbw := ext_trans hW hbr
    have t1 := cell_block (block_up hbr a1)
    have t2 := cell_block (block_up hbr b3)
    have hz1 := block_lt (block_up hbr a1)
    have hz2 := block_lt (block_up hbr b3)
    clear a0 a1 a2 a3 a4 a5 a6 a7 a8 a9 a10 a11 b0 b1 b2 b3
    have hk' : k = 0 ∨ k = 1 ∨ k = 2 ∨ k = 3 ∨ k = 4 ∨ k = 5 ∨ k = 6 := by omega
    rcases hk' with rfl | rfl | rfl | rfl | rfl | rfl | rfl
    · go_wp2_with fail
      refine calls_gen (fun W => Below wr.heap.size wr W ∧ W.heap[wr.heap.size]? = some (Obj.cells #[.slice (some ⟨w2.heap.size + 1 + 1, 0, none⟩) 2 2, .slice (some ⟨w2.heap.size + 1 + 1 + 1, 0, none⟩) 2 2, .slice (some ⟨w2.heap.size, 0, none⟩) 1 1, .int .i64 0, .int .i64 (-1)] 66)) ⟨by go_grown, alloc_new _ _⟩ (fun X hX => ?_)
      obtain ⟨hbx, hE⟩ := hX
      have hbX := ext_trans hbr hbx
      obtain ⟨a0, a1, a2, a3, a4, a5, a6, a7, a8, a9, a10, a11, b0, b1, b2, b3⟩ := HB.out
      refine (blame_any exP _ _ _ [0, 1] _ [exG 1 3] _ [0, 0] X (G1.out.up up_case hbX) (G2.out.up up_moves hbX) (ints2 (block_up hbX a2) (inR_small (by omega) (by omega)) (inR_small (by omega) (by omega))) (word1 (block_up hbX a0) (inR_small (by omega) (by omega)) (inR_small (by omega) (by omega))) (ints2 (block_up hbX a3) (inR_small (by omega) (by omega)) (inR_small (by omega) (by omega))) (by decide)).mono ?_
      rintro e w6 ⟨rfl, hb6⟩
      rw [show blameR exP [0, 1] [exG 1 3] [0, 0] = (0, -1, 0) by decide +kernel]
      have t3 := cell_block (block_up hb6 hE)
      clear a0 a1 a2 a3 a4 a5 a6 a7 a8 a9 a10 a11 b0 b1 b2 b3 t1 t2 hE
      go_wp2_with fail
      go_roundw
      case rel => exact ⟨ext_trans hbX hb6, 1, by omega, by go_num⟩
      case measure => simp [intOf]
    · go_wp2_with fail
      refine calls_gen (fun W => Below wr.heap.size wr W ∧ W.heap[wr.heap.size]? = some (Obj.cells #[.slice (some ⟨w2.heap.size + 1 + 1 + 1 + 1, 0, none⟩) 2 2, .slice (some ⟨w2.heap.size + 1 + 1 + 1 + 1 + 1, 0, none⟩) 2 2, .slice (some ⟨w2.heap.size, 0, none⟩) 1 1, .int .i64 3, .int .i64 1] 66)) ⟨by go_grown, alloc_new _ _⟩ (fun X hX => ?_)
      obtain ⟨hbx, hE⟩ := hX
      have hbX := ext_trans hbr hbx
      obtain ⟨a0, a1, a2, a3, a4, a5, a6, a7, a8, a9, a10, a11, b0, b1, b2, b3⟩ := HB.out
      refine (blame_any exP _ _ _ [0, 1] _ [exG 1 3] _ [0, 1] X (G1.out.up up_case hbX) (G2.out.up up_moves hbX) (ints2 (block_up hbX a4) (inR_small (by omega) (by omega)) (inR_small (by omega) (by omega))) (word1 (block_up hbX a0) (inR_small (by omega) (by omega)) (inR_small (by omega) (by omega))) (ints2 (block_up hbX a5) (inR_small (by omega) (by omega)) (inR_small (by omega) (by omega))) (by decide)).mono ?_
      rintro e w6 ⟨rfl, hb6⟩
      rw [show blameR exP [0, 1] [exG 1 3] [0, 1] = (3, 1, 0) by decide +kernel]
      have t3 := cell_block (block_up hb6 hE)
      clear a0 a1 a2 a3 a4 a5 a6 a7 a8 a9 a10 a11 b0 b1 b2 b3 t1 t2 hE
      go_wp2_with fail
      go_roundw
      case rel => exact ⟨ext_trans hbX hb6, 2, by omega, by go_num⟩
      case measure => simp [intOf]
    · go_wp2_with fail
      refine calls_gen (fun W => Below wr.heap.size wr W ∧ W.heap[wr.heap.size]? = some (Obj.cells #[.slice (some ⟨w2.heap.size + 1 + 1 + 1 + 1 + 1 + 1, 0, none⟩) 2 2, .slice (some ⟨w2.heap.size + 1 + 1 + 1 + 1 + 1 + 1 + 1, 0, none⟩) 2 2, .slice (some ⟨w2.heap.size, 0, none⟩) 1 1, .int .i64 2, .int .i64 1] 66)) ⟨by go_grown, alloc_new _ _⟩ (fun X hX => ?_)
      obtain ⟨hbx, hE⟩ := hX
      have hbX := ext_trans hbr hbx
      obtain ⟨a0, a1, a2, a3, a4, a5, a6, a7, a8, a9, a10, a11, b0, b1, b2, b3⟩ := HB.out
      refine (blame_any exP _ _ _ [0, 1] _ [exG 1 3] _ [0, -1] X (G1.out.up up_case hbX) (G2.out.up up_moves hbX) (ints2 (block_up hbX a6) (inR_small (by omega) (by omega)) (inR_small (by omega) (by omega))) (word1 (block_up hbX a0) (inR_small (by omega) (by omega)) (inR_small (by omega) (by omega))) (ints2 (block_up hbX a7) (inR_small (by omega) (by omega)) (inR_small (by omega) (by omega))) (by decide)).mono ?_
      rintro e w6 ⟨rfl, hb6⟩
      rw [show blameR exP [0, 1] [exG 1 3] [0, -1] = (2, 1, 0) by decide +kernel]
      have t3 := cell_block (block_up hb6 hE)
      clear a0 a1 a2 a3 a4 a5 a6 a7 a8 a9 a10 a11 b0 b1 b2 b3 t1 t2 hE
      go_wp2_with fail
      go_roundw
      case rel => exact ⟨ext_trans hbX hb6, 3, by omega, by go_num⟩
      case measure => simp [intOf]
    · go_wp2_with fail
      refine calls_gen (fun W => Below wr.heap.size wr W ∧ W.heap[wr.heap.size]? = some (Obj.cells #[.slice (some ⟨w2.heap.size + 1 + 1 + 1 + 1 + 1 + 1 + 1 + 1, 0, none⟩) 2 2, .slice (some ⟨w2.heap.size + 1 + 1 + 1 + 1 + 1 + 1 + 1 + 1 + 1, 0, none⟩) 2 2, .slice (some ⟨w2.heap.size, 0, none⟩) 1 1, .int .i64 3, .int .i64 0] 66)) ⟨by go_grown, alloc_new _ _⟩ (fun X hX => ?_)
      obtain ⟨hbx, hE⟩ := hX
      have hbX := ext_trans hbr hbx
      obtain ⟨a0, a1, a2, a3, a4, a5, a6, a7, a8, a9, a10, a11, b0, b1, b2, b3⟩ := HB.out
      refine (blame_any exP _ _ _ [0, 0] _ [exG 1 3] _ [1, 1] X (G1.out.up up_case hbX) (G2.out.up up_moves hbX) (ints2 (block_up hbX a8) (inR_small (by omega) (by omega)) (inR_small (by omega) (by omega))) (word1 (block_up hbX a0) (inR_small (by omega) (by omega)) (inR_small (by omega) (by omega))) (ints2 (block_up hbX a9) (inR_small (by omega) (by omega)) (inR_small (by omega) (by omega))) (by decide)).mono ?_
      rintro e w6 ⟨rfl, hb6⟩
      rw [show blameR exP [0, 0] [exG 1 3] [1, 1] = (3, 0, 0) by decide +kernel]
      have t3 := cell_block (block_up hb6 hE)
      clear a0 a1 a2 a3 a4 a5 a6 a7 a8 a9 a10 a11 b0 b1 b2 b3 t1 t2 hE
      go_wp2_with fail
      go_roundw
      case rel => exact ⟨ext_trans hbX hb6, 4, by omega, by go_num⟩
      case measure => simp [intOf]
    · go_wp2_with fail
      refine calls_gen (fun W => Below wr.heap.size wr W ∧ W.heap[wr.heap.size]? = some (Obj.cells #[.slice (some ⟨w2.heap.size + 1 + 1 + 1 + 1 + 1 + 1 + 1 + 1 + 1 + 1, 0, none⟩) 2 2, .slice (some ⟨w2.heap.size + 1 + 1 + 1 + 1 + 1 + 1 + 1 + 1 + 1 + 1 + 1, 0, none⟩) 2 2, .slice (some ⟨w3.heap.size, 0, none⟩) 1 1, .int .i64 1, .int .i64 (-1)] 66)) ⟨by go_grown, alloc_new _ _⟩ (fun X hX => ?_)
      obtain ⟨hbx, hE⟩ := hX
      have hbX := ext_trans hbr hbx
      obtain ⟨a0, a1, a2, a3, a4, a5, a6, a7, a8, a9, a10, a11, b0, b1, b2, b3⟩ := HB.out
      refine (blame_any exP _ _ _ [0, 1] _ [exG 3 2] _ [0, 0] X (G1.out.up up_case hbX) (G2.out.up up_moves hbX) (ints2 (block_up hbX a10) (inR_small (by omega) (by omega)) (inR_small (by omega) (by omega))) (word1 (block_up hbX b0) (inR_small (by omega) (by omega)) (inR_small (by omega) (by omega))) (ints2 (block_up hbX a11) (inR_small (by omega) (by omega)) (inR_small (by omega) (by omega))) (by decide)).mono ?_
      rintro e w6 ⟨rfl, hb6⟩
      rw [show blameR exP [0, 1] [exG 3 2] [0, 0] = (1, -1, 0) by decide +kernel]
      have t3 := cell_block (block_up hb6 hE)
      clear a0 a1 a2 a3 a4 a5 a6 a7 a8 a9 a10 a11 b0 b1 b2 b3 t1 t2 hE
      go_wp2_with fail
      go_roundw
      case rel => exact ⟨ext_trans hbX hb6, 5, by omega, by go_num⟩
      case measure => simp [intOf]
    · go_wp2_with fail
      refine calls_gen (fun W => Below wr.heap.size wr W ∧ W.heap[wr.heap.size]? = some (Obj.cells #[.slice (some ⟨w3.heap.size + 1, 0, none⟩) 2 2, .slice (some ⟨w3.heap.size + 1 + 1, 0, none⟩) 2 2, .slice none 0 0, .int .i64 1, .int .i64 (-1)] 66)) ⟨by go_grown, alloc_new _ _⟩ (fun X hX => ?_)
      obtain ⟨hbx, hE⟩ := hX
      have hbX := ext_trans hbr hbx
      obtain ⟨a0, a1, a2, a3, a4, a5, a6, a7, a8, a9, a10, a11, b0, b1, b2, b3⟩ := HB.out
      refine (blame_any exP _ _ _ [0, 1] _ [] _ [0, 0] X (G1.out.up up_case hbX) (G2.out.up up_moves hbX) (ints2 (block_up hbX b1) (inR_small (by omega) (by omega)) (inR_small (by omega) (by omega))) isSl_nil (ints2 (block_up hbX b2) (inR_small (by omega) (by omega)) (inR_small (by omega) (by omega))) (by decide)).mono ?_
      rintro e w6 ⟨rfl, hb6⟩
      rw [show blameR exP [0, 1] [] [0, 0] = (1, -1, 0) by decide +kernel]
      have t3 := cell_block (block_up hb6 hE)
      clear a0 a1 a2 a3 a4 a5 a6 a7 a8 a9 a10 a11 b0 b1 b2 b3 t1 t2 hE
      go_wp2_with fail
      go_roundw
      case rel => exact ⟨ext_trans hbX hb6, 6, by omega, by go_num⟩
      case measure => simp [intOf]
    · go_wp2_with fail
      go_ret
      exact ⟨rfl, hbw⟩
end Go.Proofs.YtjmejfgkogjpaaaGreat

namespace Go.Proofs.YtjmejfgkogjpaaaGreat
open Go.RowKit Go Go.Shelf

set_option maxRecDepth 100000 in
set_option maxHeartbeats 1000000 in
theorem rorder_any (va vb : Value) (a b : List Int) (w : World) (ha : IsInts w va a) (hb : IsInts w vb b) :
    Calls Tryz.prog 95 #[va, vb] w fun e w' => e = .returned (.int .i64 (ordV a b)) ∧ Below w.heap.size w w' := by
  obtain ⟨pa, ca, rfl, la1, la2, ea⟩ := ha.at
  obtain ⟨pb, cb, rfl, lb1, lb2, eb⟩ := hb.at
  clear ha hb
  have EA := Lib.hid ea; clear ea
  have EB := Lib.hid eb; clear eb
  go_enter Tryz.func95, Tryz.ntmps95
  go_wp2
  go_loopw [5] (fun i wr => Below w.heap.size w wr ∧ ∃ k : Nat, k ≤ a.length ∧ k ≤ b.length ∧ i = .int .i64 k ∧ ordV a b = ordV (a.drop k) (b.drop k)) (fun i _ => a.length - (intOf i).toNat)
  case atStart => exact ⟨Below.refl _ _, 0, by omega, by omega, rfl, by simp⟩
  case round =>
    obtain ⟨hbr, k, hk, hk2, rfl, hinv⟩ := hrel
    have H := Lib.hid hinv; clear hinv
    by_cases hlt : k < a.length
    · by_cases hlt2 : k < b.length
      · obtain ⟨b1, o1, rfl, h1⟩ := EA.out k hlt
        obtain ⟨x, hx⟩ : ∃ x, x = a[k] := ⟨_, rfl⟩
        rw [← hx, Nat.mul_one] at h1
        obtain ⟨b2, o2, rfl, h2⟩ := EB.out k hlt2
        obtain ⟨y, hy⟩ : ∃ y, y = b[k] := ⟨_, rfl⟩
        rw [← hy, Nat.mul_one] at h2
        have c1 : ∀ n, (wr.drewN n).cell? ⟨b1, o1 + k, none⟩ = some (.int .i64 x) := fun n => cell_up hbr h1.1
        have c2 : ∀ n, (wr.drewN n).cell? ⟨b2, o2 + k, none⟩ = some (.int .i64 y) := fun n => cell_up hbr h2.1
        have HS := ordV_step hlt hlt2 H.out
        rw [← hx, ← hy] at HS
        have HS' := Lib.hid HS
        clear HS hx hy h1 h2
        rcases Int.lt_trichotomy x y with hn | hn | hn
        · go_wp2
          go_quiet (fail)
          go_wp2
          go_ret
          refine ⟨ret_int ?_, below_drewN hbr _⟩
          rw [HS'.out]; unfold cmpI; grind
        · have h1 : ¬ x < y := by omega
          have h2 : ¬ y < x := by omega
          have HN := Lib.hid hn
          clear hn
          go_wp2
          go_quiet (fail)
          go_wp2
          have c3 : ∀ m n, ((wr.drewN m).drewN n).cell? ⟨b1, o1 + k, none⟩ = some (.int .i64 x) := fun m n => c1 m
          have c4 : ∀ m n, ((wr.drewN m).drewN n).cell? ⟨b2, o2 + k, none⟩ = some (.int .i64 y) := fun m n => c2 m
          go_quiet (fail)
          go_wp2
          go_roundw
          case rel =>
            refine ⟨below_drewN hbr _, k + 1, by omega, by omega, by go_num, ?_⟩
            rw [HS'.out, if_pos]
            rw [HN.out, cmpI]
            simp
          case measure => simp [intOf]; omega
        · have h1 : ¬ x < y := by omega
          go_wp2
          go_quiet (fail)
          go_wp2
          have c3 : ∀ m n, ((wr.drewN m).drewN n).cell? ⟨b1, o1 + k, none⟩ = some (.int .i64 x) := fun m n => c1 m
          have c4 : ∀ m n, ((wr.drewN m).drewN n).cell? ⟨b2, o2 + k, none⟩ = some (.int .i64 y) := fun m n => c2 m
          go_quiet (fail)
          go_wp2
          go_ret
          refine ⟨ret_int ?_, below_drewN (below_drewN hbr _) _⟩
          rw [HS'.out]; unfold cmpI; grind
      · have HR : Hid (ordV a b = 1) := by
          have h : ordV a b = 1 := by rw [H.out, drop_cons hlt, List.drop_of_length_le (l := b) (by omega)]; rfl
          exact h
        have h3 : ¬ a.length < b.length := by omega
        have h4 : b.length < a.length := by omega
        go_wp2
        go_ret
        exact ⟨ret_int HR.out.symm, hbr⟩
    · have HR : Hid (ordV a b = if a.length < b.length then -1 else 0) := by
        have h : ordV a b = if a.length < b.length then -1 else 0 := by
          rw [H.out, List.drop_of_length_le (by omega), ordV_nil_left, List.length_drop]
          grind
        exact h
      have h3 : ¬ b.length < a.length := by omega
      by_cases h4 : a.length < b.length
      · go_wp2
        go_ret
        refine ⟨ret_int ?_, hbr⟩
        rw [HR.out, if_pos h4]
      · go_wp2
        go_ret
        refine ⟨ret_int ?_, hbr⟩
        rw [HR.out, if_neg (by omega)]

theorem ordV_eq_zero (a b : List Int) : (ordV a b == 0) = eqV a b := by
  unfold eqV
  by_cases h : a = b
  · subst h; simp [ordV_self]
  · simp [h]
    intro h1; exact h (ordV_zero h1)

set_option maxHeartbeats 1000000 in
theorem rvhas_any (vl vv : Value) (l : List (List Int)) (v : List Int) (w : World) (hl : IsVecs w vl l) (hv : IsInts w vv v) :
    Calls Tryz.prog 96 #[vl, vv] w fun e w' => e = .returned (.bool (hasV l v)) ∧ Below w.heap.size w w' := by
  obtain ⟨pa, ca, rfl, la1, la2, ea⟩ := hl.at
  have HV := Lib.hid hv
  obtain ⟨pv, cv, rfl, _⟩ := hv
  clear hl
  have EA := Lib.hid ea; clear ea
  have HD : Hid (hasV l v = anyLt l.length fun i => eqV (l.getD i []) v) := by exact rfl
  go_enter Tryz.func96, Tryz.ntmps96
  go_wp2
  go_loopw [5] (fun i wr => Below w.heap.size w wr ∧ ∃ k : Nat, k ≤ l.length ∧ i = .int .i64 k ∧ ∀ j, j < k → eqV (l.getD j []) v = false) (fun i _ => l.length - (intOf i).toNat)
  case atStart => exact ⟨Below.refl _ _, 0, by omega, rfl, by simp⟩
  case round =>
    obtain ⟨hbr, k, hk, rfl, hinv⟩ := hrel
    have H := Lib.hid hinv; clear hinv
    by_cases hlt : k < l.length
    · obtain ⟨b1, o1, rfl, x, cx, hx⟩ := EA.out k hlt
      rw [Nat.mul_one] at cx
      have c1 := cell_up hbr cx
      have HX := Lib.hid (hx.up up_int hbr)
      obtain ⟨px, qx, rfl, _⟩ := hx
      have he := ordV_eq_zero l[k] v
      rw [show eqV l[k] v = eqV (l.getD k []) v by rw [getD_of_lt [] hlt]] at he
      have HC := Lib.hid (rorder_any _ _ l[k] v wr HX.out (HV.out.up up_int hbr))
      clear cx
      generalize ordV l[k] v = r at he HC
      cases hp : eqV (l.getD k []) v with
      | true =>
        rw [hp] at he
        have HP := Lib.hid hp; clear hp
        go_wp2_with fail
        refine HC.out.mono ?_
        rintro e w1 ⟨rfl, hb1⟩
        go_wp2_with fail
        go_ret
        exact ⟨ret_bool (by rw [HD.out, anyLt_true _ k _ hlt HP.out]), ext_trans hbr hb1⟩
      | false =>
        rw [hp] at he
        have HP := Lib.hid hp; clear hp
        go_wp2_with fail
        refine HC.out.mono ?_
        rintro e w1 ⟨rfl, hb1⟩
        go_wp2_with fail
        go_roundw
        case rel => exact ⟨ext_trans hbr hb1, k + 1, by omega, by go_num, below_succ H.out HP.out⟩
        case measure => simp [intOf]; omega
    · go_wp2
      go_ret
      exact ⟨ret_bool (by rw [HD.out, anyLt_false]; intro j hj; exact H.out j (by omega)), hbr⟩

set_option maxHeartbeats 1000000 in
theorem rvector_any (v : Value) (l : List Int) (n most : Int) (w : World) (hv : IsInts w v l) :
    Calls Tryz.prog 94 #[v, .int .i64 n, .int .i64 most] w fun e w' => e = .returned (.int .i64 (vectorE l n most)) ∧ w = w' := by
  obtain ⟨pa, ca, rfl, la1, la2, ea⟩ := hv.at
  clear hv
  have EA := Lib.hid ea; clear ea
  by_cases hl : (l.length : Int) = n
  · have HV : Hid (vectorE l n most = if anyLt l.length (fun i => decide (l.getD i 0 < 0) || decide (most ≤ l.getD i 0)) then 2 else 0) := by
      have h : vectorE l n most = if anyLt l.length (fun i => decide (l.getD i 0 < 0) || decide (most ≤ l.getD i 0)) then 2 else 0 := by unfold vectorE; rw [if_neg (by simpa using hl)]
      exact h
    subst hl
    go_enter Tryz.func94, Tryz.ntmps94
    go_wp2
    go_loop [7] (fun i => ∃ k : Nat, k ≤ l.length ∧ i = .int .i64 k ∧ ∀ j, j < k → (decide (l.getD j 0 < 0) || decide (most ≤ l.getD j 0)) = false) (fun i => l.length - (intOf i).toNat)
    case atStart => exact ⟨0, by omega, rfl, by simp⟩
    case round =>
      obtain ⟨k, hk, rfl, hinv⟩ := hrel
      have H := Lib.hid hinv; clear hinv
      by_cases hlt : k < l.length
      · obtain ⟨b1, o1, rfl, h1⟩ := EA.out k hlt
        have HX := Lib.hid (getD_of_lt 0 hlt)
        rw [Nat.mul_one] at h1
        have c1 := h1.1
        generalize l[k] = x at c1 HX
        clear h1
        go_wp2
        all_goals first
          | (go_ret
             refine ⟨ret_int ?_, rfl⟩
             rw [HV.out, anyLt_true _ k _ hlt (by rw [HX.out]; go_light; simp; omega)]
             rfl)
          | (go_round
             case rel =>
               refine ⟨k + 1, by omega, by go_num, below_succ H.out ?_⟩
               rw [HX.out]
               go_light
               simp; omega
             case measure => simp [intOf]; omega)
      · go_wp2
        go_ret
        exact ⟨ret_int (by rw [HV.out, anyLt_false]; rfl; intro j hj; exact H.out j (by omega)), rfl⟩
  · have HV : Hid (vectorE l n most = 15) := by (have h : vectorE l n most = 15 := by (unfold vectorE; rw [if_pos hl])); exact h
    have hl1 : ((l.length : Int) != n) = true := by simpa using hl
    clear hl
    go_enter Tryz.func94, Tryz.ntmps94
    go_wp2
    go_ret
    exact ⟨ret_int HV.out.symm, rfl⟩
end Go.Proofs.YtjmejfgkogjpaaaGreat

namespace Go.Proofs.YtjmejfgkogjpaaaGreat
open Go.RowKit Go Go.Shelf

def findI (t : Tk) (inp : List Int) : Int := firstIx t.cases.length fun i => eqV (t.cases.getD i default).inp inp

end Go.Proofs.YtjmejfgkogjpaaaGreat

namespace Go.Proofs.YtjmejfgkogjpaaaGreat
open Go.RowKit Go Go.Shelf

theorem vectorsE_few {t : Tk} {c : Cs} (h : c.out.length < 1 ∨ 1024 < c.out.length) : vectorsE t c = 5 := by unfold vectorsE; rw [if_pos h]
theorem vectorsE_out {t : Tk} {c : Cs} (h : ¬ (c.out.length < 1 ∨ 1024 < c.out.length)) (k : Nat) (e : Int) (hk : k < c.out.length) (hj : ∀ j, j < k → outE t c j = 0) (he : outE t c k = e) (h0 : e ≠ 0) : e = vectorsE t c := by
  unfold vectorsE
  rw [if_neg h, ← firstNZ_hit k e hk hj he h0, if_pos h0]
theorem vectorsE_calm {t : Tk} {c : Cs} (h : ¬ (c.out.length < 1 ∨ 1024 < c.out.length)) (ho : ∀ j, j < c.out.length → outE t c j = 0) : vectorsE t c = firstNZ c.calm.length (calmE c) := by
  unfold vectorsE
  rw [if_neg h, firstNZ_zero _ _ ho]
  simp
theorem outE_succ {t : Tk} {c : Cs} {j : Nat} (hj : j + 1 < c.out.length) (h1 : vectorE c.out[j+1] t.n t.outs = 0) : outE t c (j + 1) = if 0 ≤ ordV (c.out[j]'(by omega)) c.out[j+1] then 14 else 0 := by
  unfold outE unordB
  rw [getD_of_lt [] hj, h1, Nat.add_sub_cancel, getD_of_lt [] (show j < c.out.length by omega)]
  simp
theorem outE_zero {t : Tk} {c : Cs} (hj : 0 < c.out.length) (h1 : vectorE c.out[0] t.n t.outs = 0) : outE t c 0 = 0 := by
  unfold outE unordB
  rw [getD_of_lt [] hj, h1]
  simp
theorem calmE_succ {c : Cs} {j : Nat} (hj : j + 1 < c.calm.length) (h1 : hasV c.out c.calm[j+1] = true) : calmE c (j + 1) = if 0 ≤ ordV (c.calm[j]'(by omega)) c.calm[j+1] then 14 else 0 := by
  unfold calmE unordB
  rw [getD_of_lt [] hj, h1, Nat.add_sub_cancel, getD_of_lt [] (show j < c.calm.length by omega)]
  simp
theorem calmE_zero {c : Cs} (hj : 0 < c.calm.length) (h1 : hasV c.out c.calm[0] = true) : calmE c 0 = 0 := by
  unfold calmE unordB
  rw [getD_of_lt [] hj, h1]
  simp
theorem calmE_no {c : Cs} {k : Nat} (hk : k < c.calm.length) (h1 : hasV c.out c.calm[k] = false) : calmE c k = 6 := by
  unfold calmE
  rw [getD_of_lt [] hk, h1]
  simp

set_option maxRecDepth 100000 in
set_option maxHeartbeats 8000000 in
theorem rone_any (t : Tk) (vc : Value) (k : Nat) (hlt : k < t.cases.length) (w : World) (hv : IsCases w vc t.cases) :
    Calls Tryz.prog 62 #[.agg #[.int .i64 t.n, .int .i64 t.ins, .int .i64 t.outs, vc], .int .i64 k] w fun e w' => e = .returned (.int .i64 (caseE t k)) ∧ Below w.heap.size w w' := by
  obtain ⟨pc, cc, rfl, l1, m1, e1⟩ := hv.at
  clear hv
  have E := Lib.hid e1; clear e1
  obtain ⟨b1, o1, rfl, ⟨x0, cx0, hx0⟩, ⟨x1, cx1, hx1⟩, ⟨x2, cx2, hx2⟩⟩ := E.out k hlt
  have HX0 := Lib.hid hx0
  have HX1 := Lib.hid hx1
  have HX2 := Lib.hid hx2
  obtain ⟨p1, q1, rfl, u1, v1, E1⟩ := hx1.at
  obtain ⟨p2, q2, rfl, u2, v2, E2⟩ := hx2.at
  obtain ⟨p0, q0, rfl, _⟩ := hx0
  have HE1 := Lib.hid E1
  have HE2 := Lib.hid E2
  clear hx1 hx2 E1 E2
  have HO : Hid (caseE t k = if vectorE t.cases[k].inp t.n t.ins ≠ 0 then vectorE t.cases[k].inp t.n t.ins else if 0 < k ∧ 0 ≤ ordV (t.cases.getD (k - 1) default).inp t.cases[k].inp then 14 else vectorsE t t.cases[k]) := by
    have h : caseE t k = if vectorE t.cases[k].inp t.n t.ins ≠ 0 then vectorE t.cases[k].inp t.n t.ins else if 0 < k ∧ 0 ≤ ordV (t.cases.getD (k - 1) default).inp t.cases[k].inp then 14 else vectorsE t t.cases[k] := by unfold caseE; rw [getD_of_lt default hlt]
    exact h
  have hlb : b1 < w.heap.size := cell_lt cx0
  have hlb' : b1 < w.heap.size + 1 := by omega
  go_enter Tryz.func62, Tryz.ntmps62
  go_wp2_with fail
  refine calls_gen (fun V => Below w.heap.size w V ∧ V.heap[w.heap.size]? = some (.cells #[.int .i64 t.n, .int .i64 t.ins, .int .i64 t.outs, .slice (some ⟨b1, o1, none⟩) t.cases.length cc] 24) ∧ V.heap[w.heap.size + 1]? = some (.cells #[.slice p0 t.cases[k].inp.length q0, .slice p1 t.cases[k].out.length q1, .slice p2 t.cases[k].calm.length q2] 83)) ⟨by go_grown, alloc_old _ (alloc_new _ _), by simpa using alloc_new (w.alloc _) _⟩ (fun V hV => ?_)
  obtain ⟨hbV, hT, hC⟩ := hV
  have HT := Lib.hid hT
  have HC := Lib.hid hC
  have t1 := cell_block hT
  have t2 := cell_block hC
  clear hT hC cx1 cx2
  refine (rvector_any _ _ _ _ _ (HX0.out.up up_int hbV)).mono ?_
  rintro e V' ⟨rfl, rfl⟩
  generalize vectorE t.cases[k].inp t.n t.ins = ev at HO
  by_cases hev : ev = 0
  case neg =>
    have hev' : (ev != 0) = true := by simpa using hev
    go_wp2_with fail
    go_ret
    exact ⟨ret_int (by rw [HO.out, if_pos hev]), hbV⟩
  subst hev
  go_wp2_with fail
  clear t1 t2
  by_cases hk0 : k = 0
  case' pos =>
    have HO2 : Hid (caseE t k = vectorsE t t.cases[k]) := by (have h : caseE t k = vectorsE t t.cases[k] := by (rw [HO.out, if_neg (by simp), if_neg (by omega)])); exact h
    have hd : decide ((0 : Int) < (k : Int)) = false := decide_eq_false (by omega)
    have hd2 : decide (0 < k) = false := decide_eq_false (by omega)
    clear HO hk0 cx0
    refine wp_region_quiet_ext (by kernel_rfl) (by kernel_rfl) ?_
    repeat (go_big_quiet_step (fail))
    refine wpQuiet_nil ?_
    intro _ hw'
    obtain ⟨xq, hw''⟩ := hw'
    subst hw''
    clear hd hd2
  case' neg =>
    obtain ⟨j, hj⟩ : ∃ j, k = j + 1 := ⟨k - 1, by omega⟩
    have hjl : j < t.cases.length := by omega
    have HJ := Lib.hid hj
    obtain ⟨b2, o2, e2, ⟨y0, cy0, hy0⟩, _⟩ := E.out j hjl
    obtain ⟨rfl, rfl⟩ : b1 = b2 ∧ o1 = o2 := by simpa using e2
    clear e2
    have hd : decide ((0 : Int) < (k : Int)) = true := decide_eq_true (by omega)
    have hd2 : 0 < k := by omega
    have HO1 : Hid (caseE t k = if 0 ≤ ordV t.cases[j].inp t.cases[k].inp then 14 else vectorsE t t.cases[k]) := by
      have h : caseE t k = if 0 ≤ ordV t.cases[j].inp t.cases[k].inp then 14 else vectorsE t t.cases[k] := by
        rw [HO.out, if_neg (by simp)]
        have e : k - 1 = j := by omega
        rw [e, getD_of_lt default hjl]
        grind
      exact h
    clear HO hk0 hj
    have hw1 : IntKind.i64.wrap ((k : Int) - 1) = (j : Int) := by rw [HJ.out]; rw [IntWalk.i64_in _ (by omega)]; omega
    have r1 : ∀ x : ExtW V, ∀ o, x.val.cell? ⟨w.heap.size, o, none⟩ = _ := fun x => cell_block (block_up x.ext HT.out)
    have r2 : ∀ x : ExtW V, ∀ o, x.val.cell? ⟨w.heap.size + 1, o, none⟩ = _ := fun x => cell_block (block_up x.ext HC.out)
    have r3 : ∀ x : ExtW V, x.val.cell? ⟨b1, o1 + j * 3, none⟩ = some y0 := fun x => x.cell (cell_up hbV cy0)
    have HCALL := Lib.hid (fun x : ExtW V => Calls.ext_of (rorder_any _ _ _ _ x.val (hy0.up up_int (ext_trans hbV x.ext)) (HX0.out.up up_int (ext_trans hbV x.ext))))
    clear hy0 cy0 cx0
    generalize ordV t.cases[j].inp t.cases[k].inp = oo at HCALL HO1
    refine wp_region_quiet_ext (by kernel_rfl) (by kernel_rfl) ?_
    repeat (go_big_quiet_step ((go_at_call 95; exact HCALL.out _)))
    refine wpQuiet_nil ?_
    intro _ hw'
    obtain ⟨xq, hw''⟩ := hw'
    subst hw''
    clear r1 r2 r3 hd hd2 hw1
    by_cases hoo : 0 ≤ oo
    · go_wp2_with fail
      go_ret
      exact ⟨ret_int (by rw [HO1.out, if_pos hoo]), ext_trans hbV xq.ext⟩
    have HO2 : Hid (caseE t k = vectorsE t t.cases[k]) := by (have h : caseE t k = vectorsE t t.cases[k] := by (rw [HO1.out, if_neg hoo])); exact h
    clear HO1 HJ HCALL
  all_goals
    have hbX := ext_trans hbV xq.ext
    have hb5 := hbX
    have hT5 := block_up xq.ext HT.out
    have hC5 := block_up xq.ext HC.out
    clear hbX HT HC
    generalize xq.val = W5 at hb5 hT5 hC5 ⊢
    clear xq hbV
    have HT := Lib.hid hT5
    have HC := Lib.hid hC5
    have t1 := cell_block hT5
    have t2 := cell_block hC5
    clear hT5 hC5
    by_cases hou : t.cases[k].out.length < 1 ∨ 1024 < t.cases[k].out.length
    · have HR := Lib.hid (vectorsE_few (t := t) hou)
      rcases hou with hou | hou
      · go_wp2_with fail
        go_ret
        exact ⟨ret_int (by rw [HO2.out, HR.out]), hb5⟩
      · have hou' : ¬ t.cases[k].out.length < 1 := by omega
        go_wp2_with fail
        go_ret
        exact ⟨ret_int (by rw [HO2.out, HR.out]), hb5⟩
    have HOU := Lib.hid hou
    have ho1 : ¬ t.cases[k].out.length < 1 := by omega
    have ho2 : ¬ 1024 < t.cases[k].out.length := by omega
    clear hou
    go_wp2_with fail
    clear t1 t2 ho1 ho2
    go_loopw [7] (fun i wr => Below W5.heap.size W5 wr ∧ ∃ m : Nat, m ≤ t.cases[k].out.length ∧ i = .int .i64 m ∧ ∀ j, j < m → outE t t.cases[k] j = 0) (fun i _ => t.cases[k].out.length - (intOf i).toNat)
    case atStart => exact ⟨Below.refl _ _, 0, by omega, rfl, by simp⟩
    case round =>
      obtain ⟨hbr5, m, hm, rfl, hinv⟩ := hrel
      have HM := Lib.hid hinv; clear hinv
      have hbr := ext_trans hb5 hbr5
      have t1 := cell_block (block_up hbr5 HT.out)
      have t2 := cell_block (block_up hbr5 HC.out)
      by_cases hml : m < t.cases[k].out.length
      · obtain ⟨b3, o3, rfl, y, cy, hy⟩ := HE1.out m hml
        rw [Nat.mul_one] at cy
        have HY := Lib.hid hy
        go_wp2_with fail
        clear t1 t2
        have r1 : ∀ x : ExtW wr, ∀ o, x.val.cell? ⟨w.heap.size, o, none⟩ = _ := fun x => cell_block (block_up (ext_trans hbr5 x.ext) HT.out)
        have r2 : ∀ x : ExtW wr, ∀ o, x.val.cell? ⟨w.heap.size + 1, o, none⟩ = _ := fun x => cell_block (block_up (ext_trans hbr5 x.ext) HC.out)
        have r3 : ∀ x : ExtW wr, x.val.cell? ⟨b3, o3 + m, none⟩ = some y := fun x => x.cell (cell_up hbr cy)
        have HCALL := Lib.hid (fun x : ExtW wr => Calls.ext_of ((rvector_any _ _ t.n t.outs x.val (HY.out.up up_int (ext_trans hbr x.ext))).mono (fun _ _ ⟨h1, h2⟩ => ⟨h1, h2 ▸ Below.refl _ _⟩)))
        have HZ := Lib.hid (fun (h : vectorE t.cases[k].out[m] t.n t.outs ≠ 0) => show outE t t.cases[k] m = vectorE t.cases[k].out[m] t.n t.outs by unfold outE; rw [getD_of_lt [] hml, if_pos h])
        generalize hge : vectorE t.cases[k].out[m] t.n t.outs = em at HCALL HZ
        have HGE := Lib.hid hge; clear hge hy
        have cyy := cy
        clear cy
        refine wp_region_quiet_ext (by kernel_rfl) (by kernel_rfl) ?_
        repeat (go_big_quiet_step ((go_at_call 94; exact HCALL.out _)))
        refine wpQuiet_nil ?_
        intro _ hw'
        obtain ⟨xs, hw''⟩ := hw'
        subst hw''
        clear r1 r2 r3 HCALL
        have hbr6 := ext_trans hbr5 xs.ext
        have hbrw := ext_trans hbr xs.ext
        by_cases hem : em = 0
        case neg =>
          have hem' : (em != 0) = true := by simpa using hem
          go_wp2_with fail
          go_ret
          exact ⟨ret_int (by rw [HO2.out]; exact vectorsE_out HOU.out m em hml HM.out (HZ.out hem) hem), hbrw⟩
        subst hem
        go_wp2_with fail
        by_cases hm0 : m = 0
        · subst hm0
          have HOE := Lib.hid (outE_zero hml HGE.out)
          refine wp_region_quiet_ext (by kernel_rfl) (by kernel_rfl) ?_
          repeat (go_big_quiet_step (fail))
          refine wpQuiet_nil ?_
          intro _ hw'
          obtain ⟨xt, hw''⟩ := hw'
          subst hw''
          go_wp2_with fail
          go_roundw
          case rel => exact ⟨ext_trans hbr6 xt.ext, 1, by omega, by go_num, below_succ HM.out HOE.out⟩
          case measure => simp [intOf]; omega
        · obtain ⟨j, rfl⟩ : ∃ j, m = j + 1 := ⟨m - 1, by omega⟩
          have HOE := Lib.hid (outE_succ hml HGE.out)
          obtain ⟨b4, o4, e4, z, cz, hz⟩ := HE1.out j (by omega)
          obtain ⟨rfl, rfl⟩ : b3 = b4 ∧ o3 = o4 := by simpa using e4
          rw [Nat.mul_one] at cz
          have r1 : ∀ x : ExtW xs.val, ∀ o, x.val.cell? ⟨w.heap.size, o, none⟩ = _ := fun x => cell_block (block_up (ext_trans hbr6 x.ext) HT.out)
          have r2 : ∀ x : ExtW xs.val, ∀ o, x.val.cell? ⟨w.heap.size + 1, o, none⟩ = _ := fun x => cell_block (block_up (ext_trans hbr6 x.ext) HC.out)
          have r3 : ∀ x : ExtW xs.val, x.val.cell? ⟨b3, o3 + (j + 1), none⟩ = some y := fun x => x.cell (cell_up hbrw cyy)
          have r4 : ∀ x : ExtW xs.val, x.val.cell? ⟨b3, o3 + j, none⟩ = some z := fun x => x.cell (cell_up hbrw cz)
          have HCALL := Lib.hid (fun x : ExtW xs.val => Calls.ext_of (rorder_any _ _ _ _ x.val (hz.up up_int (ext_trans hbrw x.ext)) (HY.out.up up_int (ext_trans hbrw x.ext))))
          have hwj : IntKind.i64.wrap (j : Int) = (j : Int) := IntWalk.i64_in _ (by omega)
          have hj0 : decide ((0 : Int) < (j : Int) + 1) = true := decide_eq_true (by omega)
          have hj1 : (0 : Int) ≤ (j : Int) + 1 := by omega
          have hj2 : (j : Int) + 1 < (t.cases[k].out.length : Int) := by omega
          have hj3 : ((j : Int) + 1).toNat = j + 1 := by omega
          generalize ordV t.cases[k].out[j] t.cases[k].out[j + 1] = oo at HCALL HOE
          clear e4 hz cz cyy hm0
          refine wp_region_quiet_ext (by kernel_rfl) (by kernel_rfl) ?_
          repeat (go_big_quiet_step ((go_at_call 95; exact HCALL.out _)))
          refine wpQuiet_nil ?_
          intro _ hw'
          obtain ⟨xt, hw''⟩ := hw'
          subst hw''
          clear r1 r2 r3 r4 hwj hj0 hj1 hj2 hj3
          by_cases hoo : 0 ≤ oo
          · go_wp2_with fail
            go_ret
            exact ⟨ret_int (by rw [HO2.out]; exact vectorsE_out HOU.out (j + 1) 14 hml HM.out (by rw [HOE.out, if_pos hoo]) (by decide)), ext_trans hbrw xt.ext⟩
          · go_wp2_with fail
            go_roundw
            case rel => exact ⟨ext_trans hbr6 xt.ext, j + 1 + 1, by omega, by go_num, below_succ HM.out (by rw [HOE.out, if_neg (by omega)])⟩
            case measure => simp [intOf]; omega
      · have HO3 := Lib.hid (HO2.out.trans (vectorsE_calm HOU.out (fun j hj => HM.out j (by omega))))
        go_wp2_with fail
        clear t1 t2
        go_loopw [9] (fun i ws => Below wr.heap.size wr ws ∧ ∃ q : Nat, q ≤ t.cases[k].calm.length ∧ i = .int .i64 q ∧ ∀ j, j < q → calmE t.cases[k] j = 0) (fun i _ => t.cases[k].calm.length - (intOf i).toNat)
        case atStart => exact ⟨Below.refl _ _, 0, by omega, rfl, by simp⟩
        case round =>
          obtain ⟨hbs0, q, hq, rfl, hinv⟩ := hrel
          have HQ := Lib.hid hinv; clear hinv
          have hbs5 := ext_trans hbr5 hbs0
          have hbs := ext_trans hbr hbs0
          rename World => ws
          have t2 := cell_block (block_up hbs5 HC.out)
          by_cases hql : q < t.cases[k].calm.length
          · obtain ⟨b6, o6, rfl, y, cy, hy⟩ := HE2.out q hql
            rw [Nat.mul_one] at cy
            have HY := Lib.hid hy
            go_wp2_with fail
            clear t2
            have r2 : ∀ x : ExtW ws, ∀ o, x.val.cell? ⟨w.heap.size + 1, o, none⟩ = _ := fun x => cell_block (block_up (ext_trans hbs5 x.ext) HC.out)
            have r3 : ∀ x : ExtW ws, x.val.cell? ⟨b6, o6 + q, none⟩ = some y := fun x => x.cell (cell_up hbs cy)
            have HCALL := Lib.hid (fun x : ExtW ws => Calls.ext_of (rvhas_any _ _ t.cases[k].out _ x.val (HX1.out.up up_ints (ext_trans hbs x.ext)) (HY.out.up up_int (ext_trans hbs x.ext))))
            cases hge : hasV t.cases[k].out t.cases[k].calm[q] with
            | false =>
              rw [hge] at HCALL
              have HZ := Lib.hid (calmE_no hql hge)
              clear hge hy cy
              refine wp_region_quiet_ext (by kernel_rfl) (by kernel_rfl) ?_
              repeat (go_big_quiet_step ((go_at_call 96; exact HCALL.out _)))
              refine wpQuiet_nil ?_
              intro _ hw'
              obtain ⟨xu, hw''⟩ := hw'
              subst hw''
              clear r2 r3 HCALL
              go_wp2_with fail
              go_ret
              exact ⟨ret_int (by rw [HO3.out]; exact firstNZ_hit q 6 hql HQ.out HZ.out (by decide)), ext_trans hbs xu.ext⟩
            | true =>
              rw [hge] at HCALL
              have HGE := Lib.hid hge
              clear hge hy
              have cyy := cy
              clear cy
              refine wp_region_quiet_ext (by kernel_rfl) (by kernel_rfl) ?_
              repeat (go_big_quiet_step ((go_at_call 96; exact HCALL.out _)))
              refine wpQuiet_nil ?_
              intro _ hw'
              obtain ⟨xs, hw''⟩ := hw'
              subst hw''
              clear r2 r3 HCALL
              have hbs6 := ext_trans hbs0 xs.ext
              have hbs6' := ext_trans hbs5 xs.ext
              have hbsw := ext_trans hbs xs.ext
              go_wp2_with fail
              by_cases hm0 : q = 0
              · subst hm0
                have HOE := Lib.hid (calmE_zero hql HGE.out)
                refine wp_region_quiet_ext (by kernel_rfl) (by kernel_rfl) ?_
                repeat (go_big_quiet_step (fail))
                refine wpQuiet_nil ?_
                intro _ hw'
                obtain ⟨xt, hw''⟩ := hw'
                subst hw''
                go_wp2_with fail
                go_roundw
                case rel => exact ⟨ext_trans hbs6 xt.ext, 1, by omega, by go_num, below_succ HQ.out HOE.out⟩
                case measure => simp [intOf]; omega
              · obtain ⟨j, rfl⟩ : ∃ j, q = j + 1 := ⟨q - 1, by omega⟩
                have HOE := Lib.hid (calmE_succ hql HGE.out)
                obtain ⟨b4, o4, e4, z, cz, hz⟩ := HE2.out j (by omega)
                obtain ⟨rfl, rfl⟩ : b6 = b4 ∧ o6 = o4 := by simpa using e4
                rw [Nat.mul_one] at cz
                have r2 : ∀ x : ExtW xs.val, ∀ o, x.val.cell? ⟨w.heap.size + 1, o, none⟩ = _ := fun x => cell_block (block_up (ext_trans hbs6' x.ext) HC.out)
                have r3 : ∀ x : ExtW xs.val, x.val.cell? ⟨b6, o6 + (j + 1), none⟩ = some y := fun x => x.cell (cell_up hbsw cyy)
                have r4 : ∀ x : ExtW xs.val, x.val.cell? ⟨b6, o6 + j, none⟩ = some z := fun x => x.cell (cell_up hbsw cz)
                have HCALL := Lib.hid (fun x : ExtW xs.val => Calls.ext_of (rorder_any _ _ _ _ x.val (hz.up up_int (ext_trans hbsw x.ext)) (HY.out.up up_int (ext_trans hbsw x.ext))))
                have hwj : IntKind.i64.wrap (j : Int) = (j : Int) := IntWalk.i64_in _ (by omega)
                have hj0 : decide ((0 : Int) < (j : Int) + 1) = true := decide_eq_true (by omega)
                have hj1 : (0 : Int) ≤ (j : Int) + 1 := by omega
                have hj2 : (j : Int) + 1 < (t.cases[k].calm.length : Int) := by omega
                have hj3 : ((j : Int) + 1).toNat = j + 1 := by omega
                generalize ordV t.cases[k].calm[j] t.cases[k].calm[j + 1] = oo at HCALL HOE
                clear e4 hz cz cyy hm0
                refine wp_region_quiet_ext (by kernel_rfl) (by kernel_rfl) ?_
                repeat (go_big_quiet_step ((go_at_call 95; exact HCALL.out _)))
                refine wpQuiet_nil ?_
                intro _ hw'
                obtain ⟨xt, hw''⟩ := hw'
                subst hw''
                clear r2 r3 r4 hwj hj0 hj1 hj2 hj3
                by_cases hoo : 0 ≤ oo
                · go_wp2_with fail
                  go_ret
                  exact ⟨ret_int (by rw [HO3.out]; exact firstNZ_hit (j + 1) 14 hql HQ.out (by rw [HOE.out, if_pos hoo]) (by decide)), ext_trans hbsw xt.ext⟩
                · go_wp2_with fail
                  go_roundw
                  case rel => exact ⟨ext_trans hbs6 xt.ext, j + 1 + 1, by omega, by go_num, below_succ HQ.out (by rw [HOE.out, if_neg (by omega)])⟩
                  case measure => simp [intOf]; omega
          · go_wp2_with fail
            go_ret
            exact ⟨ret_int (by rw [HO3.out, firstNZ_zero]; intro j hj; exact HQ.out j (by omega)), hbs⟩
end Go.Proofs.YtjmejfgkogjpaaaGreat

namespace Go.Proofs.YtjmejfgkogjpaaaGreat
open Go.RowKit Go Go.Shelf

set_option maxRecDepth 100000 in
set_option maxHeartbeats 4000000 in
theorem rtaskCheck_any (t : Tk) (vc : Value) (w : World) (hv : IsCases w vc t.cases) :
    Calls Tryz.prog 30 #[.agg #[.int .i64 t.n, .int .i64 t.ins, .int .i64 t.outs, vc]] w fun e w' => e = .returned (.int .i64 (taskE t)) ∧ Below w.heap.size w w' := by
  have G := Lib.hid hv
  obtain ⟨pc, cc, rfl, l1, m1, _⟩ := hv.at
  clear hv
  by_cases c0 : t.n < 1
  · have HR : Hid (taskE t = 2) := by (have h : taskE t = 2 := by (unfold taskE; rw [if_pos (by omega)])); exact h
    go_enter Tryz.func30, Tryz.ntmps30
    go_wp2
    go_ret
    exact ⟨ret_int HR.out.symm, by go_grown⟩
  by_cases c1 : 5 < t.n
  · have HR : Hid (taskE t = 2) := by (have h : taskE t = 2 := by (unfold taskE; rw [if_pos (by omega)])); exact h
    go_enter Tryz.func30, Tryz.ntmps30
    go_wp2
    go_ret
    exact ⟨ret_int HR.out.symm, by go_grown⟩
  by_cases c2 : t.ins < 1
  · have HR : Hid (taskE t = 2) := by (have h : taskE t = 2 := by (unfold taskE; rw [if_pos (by omega)])); exact h
    go_enter Tryz.func30, Tryz.ntmps30
    go_wp2
    go_ret
    exact ⟨ret_int HR.out.symm, by go_grown⟩
  by_cases c3 : 8 < t.ins
  · have HR : Hid (taskE t = 2) := by (have h : taskE t = 2 := by (unfold taskE; rw [if_pos (by omega)])); exact h
    go_enter Tryz.func30, Tryz.ntmps30
    go_wp2
    go_ret
    exact ⟨ret_int HR.out.symm, by go_grown⟩
  by_cases c4 : t.outs < 1
  · have HR : Hid (taskE t = 2) := by (have h : taskE t = 2 := by (unfold taskE; rw [if_pos (by omega)])); exact h
    go_enter Tryz.func30, Tryz.ntmps30
    go_wp2
    go_ret
    exact ⟨ret_int HR.out.symm, by go_grown⟩
  by_cases c5 : 8 < t.outs
  · have HR : Hid (taskE t = 2) := by (have h : taskE t = 2 := by (unfold taskE; rw [if_pos (by omega)])); exact h
    go_enter Tryz.func30, Tryz.ntmps30
    go_wp2
    go_ret
    exact ⟨ret_int HR.out.symm, by go_grown⟩
  by_cases d0 : t.cases.length < 1
  · have HR : Hid (taskE t = 5) := by (have h : taskE t = 5 := by (unfold taskE; rw [if_neg (by omega), if_pos (by omega)])); exact h
    go_enter Tryz.func30, Tryz.ntmps30
    go_wp2
    go_ret
    exact ⟨ret_int HR.out.symm, by go_grown⟩
  by_cases d1 : 1024 < t.cases.length
  · have HR : Hid (taskE t = 5) := by (have h : taskE t = 5 := by (unfold taskE; rw [if_neg (by omega), if_pos (by omega)])); exact h
    go_enter Tryz.func30, Tryz.ntmps30
    go_wp2
    go_ret
    exact ⟨ret_int HR.out.symm, by go_grown⟩
  have HV : Hid (taskE t = firstNZ t.cases.length (caseE t)) := by (have h : taskE t = firstNZ t.cases.length (caseE t) := by (unfold taskE; rw [if_neg (by omega), if_neg (by omega)])); exact h
  go_enter Tryz.func30, Tryz.ntmps30
  go_wp2
  refine wp_gen (fun W => Below w.heap.size w W ∧ W.heap[w.heap.size]? = some (.cells #[.int .i64 t.n, .int .i64 t.ins, .int .i64 t.outs, .slice pc t.cases.length cc] 24)) ⟨by go_grown, alloc_new _ _⟩ (fun W0 hW0 => ?_)
  obtain ⟨hb0, hA0⟩ := hW0
  have HA := Lib.hid hA0; clear hA0 c0 c1 c2 c3 c4 c5 d0 d1
  go_loopw [3] (fun i wr => Below W0.heap.size W0 wr ∧ ∃ k : Nat, k ≤ t.cases.length ∧ i = .int .i64 k ∧ ∀ j, j < k → caseE t j = 0) (fun i _ => t.cases.length - (intOf i).toNat)
  case atStart => exact ⟨Below.refl _ _, 0, by omega, rfl, by simp⟩
  case round =>
    obtain ⟨hbr0, k, hk, rfl, hinv⟩ := hrel
    have H := Lib.hid hinv; clear hinv
    have hbr := ext_trans hb0 hbr0
    have t1 := cell_block (block_up hbr0 HA.out)
    by_cases hlt : k < t.cases.length
    · have HC := Lib.hid (rone_any t _ k hlt wr (G.out.up up_case hbr))
      generalize hge : caseE t k = ek at HC
      have HGE := Lib.hid hge; clear hge
      by_cases hek : ek = 0
      · subst hek
        go_wp2_with fail
        refine HC.out.mono ?_
        rintro e w1 ⟨rfl, hb1⟩
        go_wp2_with fail
        go_roundw
        case rel => exact ⟨ext_trans hbr0 hb1, k + 1, by omega, by go_num, below_succ H.out HGE.out⟩
        case measure => simp [intOf]; omega
      · have hek' : (ek != 0) = true := by simpa using hek
        go_wp2_with fail
        refine HC.out.mono ?_
        rintro e w1 ⟨rfl, hb1⟩
        go_wp2_with fail
        go_ret
        exact ⟨ret_int (by rw [HV.out]; exact firstNZ_hit k ek hlt H.out HGE.out hek), ext_trans hbr hb1⟩
    · go_wp2
      go_ret
      exact ⟨ret_int (by rw [HV.out, firstNZ_zero]; intro j hj; exact H.out j (by omega)), hbr⟩

def fewVB (l : List (List Int)) : Bool := !decide (30 < l.length) && !anyLt l.length fun i => decide (10 < (l.getD i []).length)

set_option maxHeartbeats 1000000 in
theorem rfewVectors_any (v : Value) (l : List (List Int)) (w : World) (hv : IsVecs w v l) :
    Calls Tryz.prog 28 #[v, .int .i64 30] w fun e w' => e = .returned (.bool (fewVB l)) ∧ w = w' := by
  obtain ⟨pa, ca, rfl, la1, la2, ea⟩ := hv.at
  clear hv
  have EA := Lib.hid ea; clear ea
  by_cases hl : 30 < l.length
  · have HV : Hid (fewVB l = false) := by (have h : fewVB l = false := by (unfold fewVB; simp [hl])); exact h
    go_enter Tryz.func28, Tryz.ntmps28
    go_wp2
    go_ret
    exact ⟨ret_bool HV.out.symm, rfl⟩
  · have HV : Hid (fewVB l = !anyLt l.length fun i => decide (10 < (l.getD i []).length)) := by (have h : fewVB l = !anyLt l.length fun i => decide (10 < (l.getD i []).length) := by (unfold fewVB; rw [decide_eq_false hl]; rfl)); exact h
    go_enter Tryz.func28, Tryz.ntmps28
    go_wp2
    go_loop [5] (fun i => ∃ k : Nat, k ≤ l.length ∧ i = .int .i64 k ∧ ∀ j, j < k → decide (10 < (l.getD j []).length) = false) (fun i => l.length - (intOf i).toNat)
    case atStart => exact ⟨0, by omega, rfl, by simp⟩
    case round =>
      obtain ⟨k, hk, rfl, hinv⟩ := hrel
      have H := Lib.hid hinv; clear hinv
      by_cases hlt : k < l.length
      · obtain ⟨b1, o1, rfl, x, cx, hx⟩ := EA.out k hlt
        rw [Nat.mul_one] at cx
        have HX := Lib.hid (getD_of_lt [] hlt)
        obtain ⟨px, qx, rfl, _, hx2, _⟩ := hx
        generalize l[k] = y at cx HX hx2
        by_cases h10 : 10 < y.length
        · go_wp2
          go_ret
          exact ⟨ret_bool (by rw [HV.out, anyLt_true _ k _ hlt (by rw [HX.out]; exact decide_eq_true h10)]; rfl), rfl⟩
        · go_wp2
          go_round
          case rel => exact ⟨k + 1, by omega, by go_num, below_succ H.out (by rw [HX.out]; exact decide_eq_false (by omega))⟩
          case measure => simp [intOf]; omega
      · go_wp2
        go_ret
        exact ⟨ret_bool (by rw [HV.out, anyLt_false]; rfl; intro j hj; exact H.out j (by omega)), rfl⟩

def bigC (c : Cs) : Bool := decide (10 < c.inp.length) || !fewVB c.out || !fewVB c.calm
def fewTB (t : Tk) : Bool := !decide (30 < t.cases.length) && !anyLt t.cases.length fun i => bigC (t.cases.getD i default)

set_option maxRecDepth 100000 in
set_option maxHeartbeats 2000000 in
theorem rfewTask_any (t : Tk) (vc : Value) (w : World) (hv : IsCases w vc t.cases) :
    Calls Tryz.prog 11 #[.agg #[.int .i64 t.n, .int .i64 t.ins, .int .i64 t.outs, vc]] w fun e w' => e = .returned (.bool (fewTB t)) ∧ Below w.heap.size w w' := by
  obtain ⟨pc, cc, rfl, l1, m1, e1⟩ := hv.at
  clear hv
  have E := Lib.hid e1; clear e1
  by_cases hl : 30 < t.cases.length
  · have HV : Hid (fewTB t = false) := by (have h : fewTB t = false := by (unfold fewTB; simp [hl])); exact h
    go_enter Tryz.func11, Tryz.ntmps11
    go_wp2
    go_ret
    exact ⟨ret_bool HV.out.symm, by go_grown⟩
  · have HV : Hid (fewTB t = !anyLt t.cases.length fun i => bigC (t.cases.getD i default)) := by (have h : fewTB t = !anyLt t.cases.length fun i => bigC (t.cases.getD i default) := by (unfold fewTB; rw [decide_eq_false hl]; rfl)); exact h
    go_enter Tryz.func11, Tryz.ntmps11
    go_wp2
    refine wp_gen (fun W => Below w.heap.size w W ∧ W.heap[w.heap.size]? = some (.cells #[.int .i64 t.n, .int .i64 t.ins, .int .i64 t.outs, .slice pc t.cases.length cc] 24)) ⟨by go_grown, alloc_new _ _⟩ (fun W0 hW0 => ?_)
    obtain ⟨hb0, hA0⟩ := hW0
    have HA := Lib.hid hA0; clear hA0 hl
    go_loopw [3] (fun i wr => Below W0.heap.size W0 wr ∧ ∃ k : Nat, k ≤ t.cases.length ∧ i = .int .i64 k ∧ ∀ j, j < k → bigC (t.cases.getD j default) = false) (fun i _ => t.cases.length - (intOf i).toNat)
    case atStart => exact ⟨Below.refl _ _, 0, by omega, rfl, by simp⟩
    case round =>
      obtain ⟨hbr0, k, hk, rfl, hinv⟩ := hrel
      have H := Lib.hid hinv; clear hinv
      have hbr := ext_trans hb0 hbr0
      have t1 := cell_block (block_up hbr0 HA.out)
      by_cases hlt : k < t.cases.length
      · obtain ⟨b1, o1, rfl, ⟨x0, cx0, hx0⟩, ⟨x1, cx1, hx1⟩, ⟨x2, cx2, hx2⟩⟩ := E.out k hlt
        have d0 := cell_up hbr cx0
        have d1 := cell_up hbr cx1
        have d2 := cell_up hbr cx2
        have HX := Lib.hid (getD_of_lt default hlt)
        have HC1 := Lib.hid (fun W (hb : Below w.heap.size w W) => rfewVectors_any _ _ W (hx1.up up_ints hb))
        have HC2 := Lib.hid (fun W (hb : Below w.heap.size w W) => rfewVectors_any _ _ W (hx2.up up_ints hb))
        obtain ⟨p0, q0, rfl, _, h0l, _⟩ := hx0
        obtain ⟨p1, q1, rfl, _⟩ := hx1
        obtain ⟨p2, q2, rfl, _⟩ := hx2
        have hsz := block_lt (block_up hbr0 HA.out)
        clear cx0 cx1 cx2
        have HB : Hid (bigC t.cases[k] = (decide (10 < t.cases[k].inp.length) || !fewVB t.cases[k].out || !fewVB t.cases[k].calm)) := by exact rfl
        generalize fewVB t.cases[k].out = f1 at HC1 HB
        generalize fewVB t.cases[k].calm = f2 at HC2 HB
        have hgr : Below wr.heap.size wr (wr.alloc (.cells #[.slice p0 t.cases[k].inp.length q0, .slice p1 t.cases[k].out.length q1, .slice p2 t.cases[k].calm.length q2] 83)) := by go_grown
        have hgrw := ext_trans hbr hgr
        have HGR := Lib.hid hgr
        clear hgr
        by_cases h10 : 10 < t.cases[k].inp.length
        · go_wp2_with fail
          go_ret
          exact ⟨ret_bool (by rw [HV.out, anyLt_true _ k _ hlt (by rw [HX.out, HB.out, decide_eq_true h10]; rfl)]; rfl), hgrw⟩
        · have hd10 : Hid (decide (10 < t.cases[k].inp.length) = false) := by (have h := decide_eq_false h10); exact h
          cases f1 with
          | false =>
            go_wp2_with fail
            refine (HC1.out _ hgrw).mono ?_
            rintro e w1 ⟨rfl, rfl⟩
            go_wp2_with fail
            go_ret
            exact ⟨ret_bool (by rw [HV.out, anyLt_true _ k _ hlt (by rw [HX.out, HB.out, hd10.out]; rfl)]; rfl), hgrw⟩
          | true =>
            cases f2 with
            | false =>
              go_wp2_with fail
              refine (HC1.out _ hgrw).mono ?_
              rintro e w1 ⟨rfl, rfl⟩
              go_wp2_with fail
              refine (HC2.out _ hgrw).mono ?_
              rintro e w1 ⟨rfl, rfl⟩
              go_wp2_with fail
              go_ret
              exact ⟨ret_bool (by rw [HV.out, anyLt_true _ k _ hlt (by rw [HX.out, HB.out, hd10.out]; rfl)]; rfl), hgrw⟩
            | true =>
              go_wp2_with fail
              refine (HC1.out _ hgrw).mono ?_
              rintro e w1 ⟨rfl, rfl⟩
              go_wp2_with fail
              refine (HC2.out _ hgrw).mono ?_
              rintro e w1 ⟨rfl, rfl⟩
              go_wp2_with fail
              go_roundw
              case rel => exact ⟨ext_trans hbr0 HGR.out, k + 1, by omega, by go_num, below_succ H.out (by rw [HX.out, HB.out, hd10.out]; rfl)⟩
              case measure => simp [intOf]; omega
      · go_wp2
        go_ret
        exact ⟨ret_bool (by rw [HV.out, anyLt_false]; rfl; intro j hj; exact H.out j (by omega)), hbr⟩
end Go.Proofs.YtjmejfgkogjpaaaGreat

namespace Go.Proofs.YtjmejfgkogjpaaaGreat
open Go.RowKit Go Go.Shelf

theorem pow2_bd (k : Nat) (h : k ≤ 30) : (1 : Int) ≤ 2 ^ k ∧ (2 : Int) ^ k ≤ 1073741824 := by
  have h1 : 2 ^ k ≤ 2 ^ 30 := Nat.pow_le_pow_right (by decide) h
  have h2 : 1 ≤ 2 ^ k := Nat.one_le_two_pow
  have e : ((2 ^ k : Nat) : Int) = 2 ^ k := by simp
  rw [← e]
  omega

set_option maxHeartbeats 400000 in
theorem rpower_any (n : Nat) (h : n ≤ 30) (w : World) :
    Calls Tryz.prog 143 #[.int .i64 n] w fun e w' => e = .returned (.int .i64 (2 ^ n)) ∧ w = w' := by
  go_enter Tryz.func143, Tryz.ntmps143
  go_wp2
  go_loop [3, 4] (fun o i => ∃ k : Nat, k ≤ n ∧ i = .int .i64 k ∧ o = .int .i64 (2 ^ k)) (fun _ i => n - (intOf i).toNat)
  case atStart => exact ⟨0, by omega, rfl, rfl⟩
  case round =>
    obtain ⟨k, hk, rfl, rfl⟩ := hrel
    have hp := pow2_bd k (by omega)
    have HS : Hid ((2 : Int) ^ (k + 1) = 2 ^ k * 2) := by (have h : (2 : Int) ^ (k + 1) = 2 ^ k * 2 := Int.pow_succ _ _); exact h
    have HK : Hid ((2 : Int) ^ k = 2 ^ k) := by exact rfl
    generalize hx : (2 : Int) ^ k = x at hp HS
    have HX := Lib.hid hx; clear hx
    by_cases hlt : k < n
    · go_wp2
      go_round
      case rel => exact ⟨k + 1, by omega, by go_num, by rw [HS.out]⟩
      case measure => simp [intOf]; omega
    · go_wp2
      go_ret
      obtain rfl : k = n := by omega
      exact ⟨ret_int HX.out.symm, rfl⟩

theorem hasB_div (set : Int) (p : Nat) (h : 0 ≤ set) : (Int.tmod (Int.tdiv set (2 ^ p)) 2 == 1) = hasB set p := by
  unfold hasB
  rw [Int.tdiv_eq_ediv_of_nonneg h, Int.tmod_eq_emod_of_nonneg (Int.ediv_nonneg h (by have := Int.pow_pos (n := 2) (m := p) (by decide); omega))]

set_option maxHeartbeats 400000 in
theorem rhas_any (set : Int) (p : Nat) (h : p ≤ 30) (h0 : 0 ≤ set) (h1 : set ≤ 9223372036854775807) (w : World) :
    Calls Tryz.prog 129 #[.int .i64 set, .int .i64 p] w fun e w' => e = .returned (.bool (hasB set p)) ∧ w = w' := by
  have hp := pow2_bd p h
  have HD := Lib.hid (hasB_div set p h0)
  have hc := fun w => rpower_any p h w
  have HC := Lib.hid hc; clear hc
  generalize (2 : Int) ^ p = x at hp HD HC
  go_enter Tryz.func129, Tryz.ntmps129
  go_wp2_with (go_at_call 143; refine (HC.out _).mono ?_; rintro e w' ⟨rfl, rfl⟩)
  go_ret
  refine ⟨ret_bool ?_, rfl⟩
  rw [← HD.out, Int.tdiv_eq_ediv_of_nonneg h0, Int.tmod_eq_emod_of_nonneg (Int.ediv_nonneg h0 (by omega))]

set_option maxHeartbeats 400000 in
theorem rfull_any (n : Nat) (h : n ≤ 30) (w : World) :
    Calls Tryz.prog 141 #[.int .i64 n] w fun e w' => e = .returned (.int .i64 (2 ^ n - 1)) ∧ w = w' := by
  have hp := pow2_bd n h
  have HC := Lib.hid (fun w => rpower_any n h w)
  generalize (2 : Int) ^ n = x at hp HC
  go_enter Tryz.func141, Tryz.ntmps141
  go_wp2_with (go_at_call 143; refine (HC.out _).mono ?_; rintro e w' ⟨rfl, rfl⟩)
  go_ret
  exact ⟨rfl, rfl⟩

set_option maxHeartbeats 400000 in
theorem rprocs_any (n : Int) (w : World) :
    Calls Tryz.prog 142 #[.int .i64 n] w fun e w' => e = .returned (.int .i64 (procsE n)) ∧ w = w' := by
  go_enter Tryz.func142, Tryz.ntmps142
  go_wp2
  all_goals
    go_ret
    refine ⟨ret_int ?_, rfl⟩
    go_light
    unfold procsE
    grind

theorem div_pow (f : Int) (n : Nat) (h : 0 ≤ f) : f / 2 ^ n ≠ 0 ↔ 2 ^ n ≤ f := by
  have hp : (0 : Int) < 2 ^ n := Int.pow_pos (by decide)
  constructor
  · intro h1
    rcases Int.lt_or_le f (2 ^ n) with h2 | h2
    · exact absurd (Int.ediv_eq_zero_of_lt h h2) h1
    · exact h2
  · intro h1 h2
    have : (1 : Int) ≤ f / 2 ^ n := (Int.le_ediv_iff_mul_le hp).2 (by omega)
    omega

set_option maxHeartbeats 1000000 in
theorem rsetCheck_any (n set : Int) (w : World) :
    Calls Tryz.prog 127 #[.int .i64 n, .int .i64 set] w fun e w' => e = .returned (.int .i64 (psetE n set)) ∧ w = w' := by
  by_cases hn : n < 1 ∨ 5 < n
  · have hp : procsE n = 1 := by unfold procsE; rw [if_pos hn]
    have HP : Hid (psetE n set = 1) := by (have h : psetE n set = 1 := by (unfold psetE; rw [hp]; rfl)); exact h
    have HC := Lib.hid (rprocs_any n)
    rw [hp] at HC
    clear hp
    go_enter Tryz.func127, Tryz.ntmps127
    go_wp2_with (go_at_call 142; refine (HC.out _).mono ?_; rintro e w' ⟨rfl, rfl⟩)
    go_ret
    exact ⟨ret_int HP.out.symm, rfl⟩
  · have hp : procsE n = 0 := by unfold procsE; rw [if_neg hn]
    obtain ⟨m, rfl⟩ : ∃ m : Nat, n = m := ⟨n.toNat, by omega⟩
    have HP : Hid (psetE m set = if set < 0 ∨ 2 ^ m ≤ set then 2 else 0) := by
      have h : psetE m set = if set < 0 ∨ 2 ^ m ≤ set then 2 else 0 := by
        unfold psetE
        rw [hp, Int.toNat_natCast, if_neg (by simp)]
        by_cases h0 : set < 0
        · simp [h0]
        · have := div_pow set m (by omega)
          simp only [this]
      exact h
    have HC := Lib.hid (rprocs_any m)
    rw [hp] at HC
    have HC2 := Lib.hid (fun w => rpower_any m (by omega) w)
    generalize (2 : Int) ^ m = x at HP HC2
    clear hp hn
    go_enter Tryz.func127, Tryz.ntmps127
    go_wp2_with (first | (go_at_call 142; refine (HC.out _).mono ?_; rintro e w' ⟨rfl, rfl⟩) | (go_at_call 143; refine (HC2.out _).mono ?_; rintro e w' ⟨rfl, rfl⟩))
    all_goals
      go_ret
      refine ⟨ret_int ?_, rfl⟩
      rw [HP.out]
      go_light
      grind

set_option maxHeartbeats 1000000 in
theorem rinside_any (a b : Int) (h1 : 0 ≤ a ∧ a ≤ 9223372036854775807) (h2 : 0 ≤ b ∧ b ≤ 9223372036854775807) (w : World) :
    Calls Tryz.prog 99 #[.int .i64 a, .int .i64 b] w fun e w' => e = .returned (.bool (insideB a b)) ∧ w = w' := by
  have HV : Hid (insideB a b = !anyLt 5 fun p => hasB a p && !hasB b p) := by exact rfl
  go_enter Tryz.func99, Tryz.ntmps99
  go_wp2
  go_loop [5] (fun i => ∃ k : Nat, k ≤ 5 ∧ i = .int .i64 k ∧ ∀ j, j < k → (hasB a j && !hasB b j) = false) (fun i => 5 - (intOf i).toNat)
  case atStart => exact ⟨0, by omega, rfl, by simp⟩
  case round =>
    obtain ⟨k, hk, rfl, hinv⟩ := hrel
    have H := Lib.hid hinv; clear hinv
    by_cases hlt : k < 5
    · have C1 := Lib.hid (fun w => rhas_any a k (by omega) h1.1 h1.2 w)
      have C2 := Lib.hid (fun w => rhas_any b k (by omega) h2.1 h2.2 w)
      cases hx : hasB a k with
      | false =>
        rw [hx] at C1
        have HX := Lib.hid hx; clear hx
        go_wp2_with (go_at_call 129; refine (C1.out _).mono ?_; rintro e w' ⟨rfl, rfl⟩)
        go_round
        case rel => exact ⟨k + 1, by omega, by go_num, below_succ H.out (by rw [HX.out]; rfl)⟩
        case measure => simp [intOf]; omega
      | true =>
        rw [hx] at C1
        have HX := Lib.hid hx; clear hx
        cases hy : hasB b k with
        | false =>
          rw [hy] at C2
          have HY := Lib.hid hy; clear hy
          go_wp2_with fail
          refine (C1.out _).mono ?_
          rintro e w' ⟨rfl, rfl⟩
          go_wp2_with fail
          refine (C2.out _).mono ?_
          rintro e w' ⟨rfl, rfl⟩
          go_wp2_with fail
          go_ret
          exact ⟨ret_bool (by rw [HV.out, anyLt_true 5 k _ hlt (by rw [HX.out, HY.out]; rfl)]; rfl), rfl⟩
        | true =>
          rw [hy] at C2
          have HY := Lib.hid hy; clear hy
          go_wp2_with fail
          refine (C1.out _).mono ?_
          rintro e w' ⟨rfl, rfl⟩
          go_wp2_with fail
          refine (C2.out _).mono ?_
          rintro e w' ⟨rfl, rfl⟩
          go_wp2_with fail
          go_round
          case rel => exact ⟨k + 1, by omega, by go_num, below_succ H.out (by rw [HX.out, HY.out]; rfl)⟩
          case measure => simp [intOf]; omega
    · go_wp2
      go_ret
      exact ⟨ret_bool (by rw [HV.out, anyLt_false]; rfl; intro j hj; exact H.out j (by omega)), rfl⟩
end Go.Proofs.YtjmejfgkogjpaaaGreat

namespace Go.Proofs.YtjmejfgkogjpaaaGreat
open Go.RowKit Go Go.Shelf

abbrev Gr.c (g : Gr) : Array Value := #[.int .i64 g.n, .int .i64 g.h0, .int .i64 g.h1, .int .i64 g.h2, .int .i64 g.h3, .int .i64 g.h4]

set_option maxRecDepth 100000 in
set_option maxHeartbeats 1000000 in
theorem rgraphCheck_any (g : Gr) (w : World) :
    Calls Tryz.prog 126 #[g.v] w fun e w' => e = .returned (.int .i64 (graphE g)) ∧ Below w.heap.size w w' := by
  by_cases hn : g.n < 1 ∨ 5 < g.n
  · have H : Hid (graphE g = 2) := by (have h : graphE g = 2 := by (unfold graphE; rw [if_pos hn])); exact h
    rcases hn with hn | hn
    · go_enter Tryz.func126, Tryz.ntmps126
      go_wp2
      go_ret; exact ⟨ret_int H.out.symm, by go_grown⟩
    · have hn' : ¬ g.n < 1 := by omega
      go_enter Tryz.func126, Tryz.ntmps126
      go_wp2
      go_ret; exact ⟨ret_int H.out.symm, by go_grown⟩
  have hn1 : 1 ≤ g.n := by omega
  have hn2 : g.n ≤ 5 := by omega
  have HE : Hid (graphE g = firstNZ 5 fun p => hearE g.n (g.hear p) p) := by (have h : graphE g = firstNZ 5 fun p => hearE g.n (g.hear p) p := by (unfold graphE; rw [if_neg hn])); exact h
  clear hn
  have hn3 : ¬ g.n < 1 := by omega
  have hn4 : ¬ 5 < g.n := by omega
  go_enter Tryz.func126, Tryz.ntmps126
  go_wp2
  refine wp_gen (fun W => Below w.heap.size w W ∧ W.heap[w.heap.size]? = some (.cells g.c 62)) ⟨by go_grown, alloc_new _ _⟩ (fun W0 hW0 => ?_)
  obtain ⟨hb0, hA⟩ := hW0
  have HA := Lib.hid hA
  have t1 := cell_block hA 0
  simp at t1
  clear hA
  go_loop [3] (fun i => ∃ k : Nat, k ≤ 5 ∧ i = .int .i64 k ∧ ∀ j, j < k → hearE g.n (g.hear j) j = 0) (fun i => 5 - (intOf i).toNat)
  case atStart => exact ⟨0, by omega, rfl, by simp⟩
  case round =>
    obtain ⟨k, hk, rfl, hinv⟩ := hrel
    have H := Lib.hid hinv; clear hinv
    by_cases hlt : k < 5
    · have hx := hear_cell g k hlt W0 _ HA.out
      obtain ⟨x, hxx⟩ : ∃ x, x = g.hear k := ⟨_, rfl⟩
      rw [← hxx] at hx
      have HX := Lib.hid hxx; clear hxx
      obtain ⟨m, hm⟩ : ∃ m : Nat, g.n = m := ⟨g.n.toNat, by omega⟩
      have hp := pow2_bd m (by omega)
      have HC := Lib.hid (fun w => rfull_any m (by omega) w)
      have HV : Hid (hearE g.n x k = if (m : Int) ≤ k then (if x ≠ 0 then 3 else 0) else if x < 0 ∨ 2 ^ m - 1 < x then 2 else if hasB x k then 0 else 3) := by
        have h : hearE g.n x k = if (m : Int) ≤ k then (if x ≠ 0 then 3 else 0) else if x < 0 ∨ 2 ^ m - 1 < x then 2 else if hasB x k then 0 else 3 := by
          unfold hearE; rw [hm, Int.toNat_natCast]
        exact h
      rw [hm] at t1
      rw [hm] at hn1 hn2
      have HM := Lib.hid hm
      generalize (2 : Int) ^ m = y at hp HC HV
      clear hm hn3 hn4
      by_cases hmk : (m : Int) ≤ k
      · go_wp2
        · go_ret
          refine ⟨ret_int ?_, hb0⟩
          rw [HE.out]
          go_light
          refine firstNZ_hit k _ hlt H.out ?_ (by decide)
          rw [← HX.out, HV.out]
          grind
        · go_round
          case rel =>
            refine ⟨k + 1, by omega, by go_num, below_succ H.out ?_⟩
            go_light
            rw [← HX.out, HV.out]
            grind
          case measure => simp [intOf]; omega
      · by_cases hxx : x < 0 ∨ y - 1 < x
        · have hq : ∀ z, z = 2 → z = graphE g := fun z hz => by
            subst hz
            rw [HE.out]
            refine firstNZ_hit k _ hlt H.out ?_ (by decide)
            rw [← HX.out, HV.out, if_neg hmk, if_pos hxx]
          have HQ := Lib.hid hq; clear hq
          rcases hxx with hxx | hxx
          · go_wp2
            go_ret
            exact ⟨ret_int (HQ.out _ rfl), hb0⟩
          · have hx0 : ¬ x < 0 := by omega
            go_wp2_with (go_at_call 141; refine (HC.out _).mono ?_; rintro e w' ⟨rfl, rfl⟩)
            go_ret
            exact ⟨ret_int (HQ.out _ rfl), hb0⟩
        · have hx0 : ¬ x < 0 := by omega
          have hx1 : ¬ y - 1 < x := by omega
          have HC2 := Lib.hid (fun w => rhas_any x k (by omega) (by omega) (by omega) w)
          cases hb : hasB x k with
          | true =>
            rw [hb] at HC2 HV
            have HXX := Lib.hid hxx
            clear hb hxx
            go_wp2_with (first | (go_at_call 141; refine (HC.out _).mono ?_; rintro e w' ⟨rfl, rfl⟩) | (go_at_call 129; refine (HC2.out _).mono ?_; rintro e w' ⟨rfl, rfl⟩))
            go_round
            case rel =>
              refine ⟨k + 1, by omega, by go_num, below_succ H.out ?_⟩
              rw [← HX.out, HV.out, if_neg (by omega), if_neg (by omega)]; rfl
            case measure => simp [intOf]; omega
          | false =>
            rw [hb] at HC2 HV
            have HXX := Lib.hid hxx
            clear hb hxx
            go_wp2_with (first | (go_at_call 141; refine (HC.out _).mono ?_; rintro e w' ⟨rfl, rfl⟩) | (go_at_call 129; refine (HC2.out _).mono ?_; rintro e w' ⟨rfl, rfl⟩))
            go_ret
            refine ⟨ret_int ?_, hb0⟩
            rw [HE.out]
            refine firstNZ_hit k _ hlt H.out ?_ (by decide)
            rw [← HX.out, HV.out, if_neg (by omega), if_neg (by omega)]; rfl
    · go_wp2
      go_ret; exact ⟨ret_int (by rw [HE.out, firstNZ_zero]; intro j hj; exact H.out j (by omega)), hb0⟩

theorem graphC_lt {a b : Gr} (h : a.n < b.n) : graphC a b = -1 := by unfold graphC cmpI; grind
theorem graphC_gt {a b : Gr} (h : b.n < a.n) : graphC a b = 1 := by unfold graphC cmpI; grind
theorem graphC_eq {a b : Gr} (h : a.n = b.n) : graphC a b = firstNZ 5 fun p => cmpI (a.hear p) (b.hear p) := by unfold graphC; rw [h, cmpI_self]; simp

set_option maxRecDepth 100000 in
set_option maxHeartbeats 1000000 in
theorem rgraphCompare_any (a b : Gr) (w : World) :
    Calls Tryz.prog 128 #[a.v, b.v] w fun e w' => e = .returned (.int .i64 (graphC a b)) ∧ Below w.heap.size w w' := by
  rcases Int.lt_trichotomy a.n b.n with hn | hn | hn
  · have H := Lib.hid (graphC_lt hn)
    go_enter Tryz.func128, Tryz.ntmps128
    go_wp2
    go_ret; exact ⟨ret_int H.out.symm, by go_grown⟩
  · have HC := Lib.hid (graphC_eq hn)
    have h1 : ¬ a.n < b.n := by omega
    have h2 : ¬ b.n < a.n := by omega
    clear hn
    go_enter Tryz.func128, Tryz.ntmps128
    go_wp2
    refine wp_gen (fun W => Below w.heap.size w W ∧ W.heap[w.heap.size]? = some (.cells a.c 62) ∧ W.heap[w.heap.size + 1]? = some (.cells b.c 62))
      ⟨by go_grown, alloc_old _ (alloc_new _ _), by have := alloc_new (w.alloc (.cells a.c 62)); rw [World.size_alloc] at this; exact this _⟩ (fun W0 hW0 => ?_)
    obtain ⟨hb0, hA, hB⟩ := hW0
    have HA := Lib.hid hA; clear hA
    have HB := Lib.hid hB; clear hB
    clear h1 h2
    go_loopw [5] (fun i wr => Below W0.heap.size W0 wr ∧ ∃ k : Nat, k ≤ 5 ∧ i = .int .i64 k ∧ ∀ j, j < k → cmpI (a.hear j) (b.hear j) = 0) (fun i _ => 5 - (intOf i).toNat)
    case atStart => exact ⟨Below.refl _ _, 0, by omega, rfl, by simp⟩
    case round =>
      obtain ⟨hbr, k, hk, rfl, hinv⟩ := hrel
      have H := Lib.hid hinv; clear hinv
      by_cases hlt : k < 5
      · have c1 : ∀ n, (wr.drewN n).cell? ⟨w.heap.size, 1 + k, none⟩ = some (.int .i64 (a.hear k)) := fun n => hear_cell a k hlt wr _ (block_up hbr HA.out)
        have c2 : ∀ n, (wr.drewN n).cell? ⟨w.heap.size + 1, 1 + k, none⟩ = some (.int .i64 (b.hear k)) := fun n => hear_cell b k hlt wr _ (block_up hbr HB.out)
        have HV : Hid (cmpI (a.hear k) (b.hear k) = if a.hear k < b.hear k then -1 else if b.hear k < a.hear k then 1 else 0) := by exact rfl
        generalize hx : a.hear k = x at c1 HV
        generalize hy : b.hear k = y at c2 HV
        have HX := Lib.hid hx; clear hx
        have HY := Lib.hid hy; clear hy
        rcases Int.lt_trichotomy x y with hn | hn | hn
        · go_wp2
          go_quiet (fail)
          go_wp2
          go_ret
          refine ⟨ret_int ?_, below_drewN (ext_trans hb0 hbr) _⟩
          rw [HC.out]
          refine firstNZ_hit k _ hlt H.out ?_ (by decide)
          rw [HX.out, HY.out, HV.out, if_pos hn]
        · have h1 : ¬ x < y := by omega
          have h2 : ¬ y < x := by omega
          clear hn
          go_wp2
          go_quiet (fail)
          go_wp2
          have c3 : ∀ m n, ((wr.drewN m).drewN n).cell? ⟨w.heap.size, 1 + k, none⟩ = some (.int .i64 x) := fun m n => c1 m
          have c4 : ∀ m n, ((wr.drewN m).drewN n).cell? ⟨w.heap.size + 1, 1 + k, none⟩ = some (.int .i64 y) := fun m n => c2 m
          go_quiet (fail)
          go_wp2
          go_roundw
          case rel =>
            refine ⟨below_drewN hbr _, k + 1, by omega, by go_num, below_succ H.out ?_⟩
            rw [HX.out, HY.out, HV.out, if_neg (by omega), if_neg (by omega)]
          case measure => simp [intOf]; omega
        · have h1 : ¬ x < y := by omega
          go_wp2
          go_quiet (fail)
          go_wp2
          have c3 : ∀ m n, ((wr.drewN m).drewN n).cell? ⟨w.heap.size, 1 + k, none⟩ = some (.int .i64 x) := fun m n => c1 m
          have c4 : ∀ m n, ((wr.drewN m).drewN n).cell? ⟨w.heap.size + 1, 1 + k, none⟩ = some (.int .i64 y) := fun m n => c2 m
          go_quiet (fail)
          go_wp2
          go_ret
          refine ⟨ret_int ?_, below_drewN (below_drewN (ext_trans hb0 hbr) _) _⟩
          rw [HC.out]
          refine firstNZ_hit k _ hlt H.out ?_ (by decide)
          rw [HX.out, HY.out, HV.out, if_neg (by omega), if_pos hn]
      · go_wp2
        go_ret; exact ⟨ret_int (by rw [HC.out, firstNZ_zero]; intro j hj; exact H.out j (by omega)), ext_trans hb0 hbr⟩
  · have H := Lib.hid (graphC_gt hn)
    have h1 : ¬ a.n < b.n := by omega
    go_enter Tryz.func128, Tryz.ntmps128
    go_wp2
    go_ret; exact ⟨ret_int H.out.symm, by go_grown⟩

set_option maxHeartbeats 1000000 in
theorem rroundCheck_any (r : Rd) (w : World) :
    Calls Tryz.prog 97 #[r.v] w fun e w' => e = .returned (.int .i64 (roundE r)) ∧ Below w.heap.size w w' := by
  obtain ⟨⟨n, h0, h1, h2, h3, h4⟩, f⟩ := r
  go_enter Tryz.func97, Tryz.ntmps97
  go_wp2_with (first
    | (go_at_call 126; refine (rgraphCheck_any ⟨_, _, _, _, _, _⟩ _).mono ?_; rintro e w1 ⟨rfl, hb⟩; obtain ⟨hc, hf⟩ := bcell hb)
    | (go_at_call 127; refine (rsetCheck_any _ _ _).mono ?_; rintro e w2 ⟨rfl, rfl⟩))
  all_goals
    go_ret
    refine ⟨ret_int ?_, ?_⟩
    · go_light
      unfold roundE
      grind
    · exact ext_trans (by go_grown) hb

set_option maxHeartbeats 1000000 in
theorem rroundCompare_any (a b : Rd) (w : World) :
    Calls Tryz.prog 98 #[a.v, b.v] w fun e w' => e = .returned (.int .i64 (roundC a b)) ∧ Below w.heap.size w w' := by
  obtain ⟨⟨n, h0, h1, h2, h3, h4⟩, f⟩ := a
  obtain ⟨⟨m, g0, g1, g2, g3, g4⟩, g⟩ := b
  go_enter Tryz.func98, Tryz.ntmps98
  go_wp2_with (first
    | (go_at_call 128; refine (rgraphCompare_any ⟨_, _, _, _, _, _⟩ ⟨_, _, _, _, _, _⟩ _).mono ?_; rintro e w1 ⟨rfl, hb⟩; obtain ⟨hc, hf⟩ := bcell hb))
  all_goals
    go_ret
    refine ⟨ret_int ?_, ?_⟩
    · go_light
      unfold roundC cmpI
      grind
    · exact ext_trans (by go_grown) hb
end Go.Proofs.YtjmejfgkogjpaaaGreat

namespace Go.Proofs.YtjmejfgkogjpaaaGreat
open Go.RowKit Go Go.Shelf

set_option maxHeartbeats 1000000 in
theorem rmoves_any (n : Int) (v : Value) (l : List (List Mv)) (w : World) (hv : IsStates w v l) (hN : movesN l < 2305843009213693952) :
    Calls Tryz.prog 29 #[.agg #[.int .i64 n, v]] w fun e w' => e = .returned (.int .i64 (movesN l)) ∧ Below w.heap.size w w' := by
  obtain ⟨pa, ca, rfl, la1, la2, ea⟩ := hv.at
  clear hv
  have EA := Lib.hid ea; clear ea
  go_enter Tryz.func29, Tryz.ntmps29
  go_wp2
  refine wp_gen (fun W => Below w.heap.size w W ∧ W.heap[w.heap.size]? = some (.cells #[.int .i64 n, .slice pa l.length ca] 27)) ⟨by go_grown, alloc_new _ _⟩ (fun W0 hW0 => ?_)
  obtain ⟨hb0, hA0⟩ := hW0
  have t1 := cell_block hA0 1
  simp at t1
  clear hA0
  go_loop [3, 4] (fun o i => ∃ k : Nat, k ≤ l.length ∧ i = .int .i64 k ∧ o = .int .i64 (cnt l k)) (fun _ i => l.length - (intOf i).toNat)
  case atStart => exact ⟨0, by omega, rfl, by rw [cnt_zero]; rfl⟩
  case round =>
    obtain ⟨k, hk, rfl, rfl⟩ := hrel
    by_cases hlt : k < l.length
    · obtain ⟨b1, o1, rfl, x, cx, hx⟩ := EA.out k hlt
      rw [Nat.mul_one] at cx
      have c1 := cell_up hb0 cx
      have hcl := cnt_le l k hlt
      have HCS := Lib.hid (cnt_succ l k hlt)
      obtain ⟨px, qx, rfl, _⟩ := hx
      clear cx
      generalize cnt l k = c at hcl HCS
      go_wp2
      go_round
      case rel => exact ⟨k + 1, by omega, by go_num, by rw [HCS.out]; go_num⟩
      case measure => simp [intOf]; omega
    · go_wp2
      go_ret
      exact ⟨ret_int (by rw [cnt_all l k (by omega)]), hb0⟩

set_option maxRecDepth 100000 in
set_option maxHeartbeats 4000000 in
theorem rmove_any (a : Adv) (ps : Option Addr) (cs : Nat) (vl : Value) (l : List Mv) (k : Nat) (hlt : k < l.length) (w : World) (hv : IsMoves w vl l) :
    Calls Tryz.prog 63 #[.agg #[.int .i64 a.n, .slice ps a.states.length cs], vl, .int .i64 k] w fun e w' => e = .returned (.int .i64 (moveE a l k)) ∧ Below w.heap.size w w' := by
  obtain ⟨pc, cc, rfl, l1, m1, e1⟩ := hv.at
  clear hv
  have E := Lib.hid e1; clear e1
  obtain ⟨b1, o1, rfl, ⟨⟨c0, _⟩, ⟨c1, _⟩, ⟨c2, _⟩, ⟨c3, _⟩, ⟨c4, _⟩, ⟨c5, _⟩, ⟨c6, _⟩⟩, ⟨c7, hc7⟩⟩ := E.out k hlt
  have hlb : b1 < w.heap.size := cell_lt c0
  have hlb' : b1 < w.heap.size + 1 := by omega
  have HO : Hid (moveE a l k = if roundE l[k].r ≠ 0 then roundE l[k].r else if l[k].r.g.n ≠ a.n then 22 else if 0 < k ∧ 0 ≤ roundC (l.getD (k - 1) default).r l[k].r then 14 else if l[k].to < 0 ∨ (a.states.length : Int) ≤ l[k].to then 2 else 0) := by
    have h : moveE a l k = if roundE l[k].r ≠ 0 then roundE l[k].r else if l[k].r.g.n ≠ a.n then 22 else if 0 < k ∧ 0 ≤ roundC (l.getD (k - 1) default).r l[k].r then 14 else if l[k].to < 0 ∨ (a.states.length : Int) ≤ l[k].to then 2 else 0 := by unfold moveE; rw [getD_of_lt default hlt]
    exact h
  have hcc := c7
  generalize l[k] = m at c0 c1 c2 c3 c4 c5 c6 c7 hc7 HO hcc
  have HC7 := Lib.hid hcc; clear hcc
  go_enter Tryz.func63, Tryz.ntmps63
  go_wp2_with fail
  refine calls_gen (fun V => Below w.heap.size w V ∧ V.heap[w.heap.size]? = some (.cells #[.int .i64 a.n, .slice ps a.states.length cs] 27) ∧ V.heap[w.heap.size + 1]? = some (.cells #[.int .i64 m.r.g.n, .int .i64 m.r.g.h0, .int .i64 m.r.g.h1, .int .i64 m.r.g.h2, .int .i64 m.r.g.h3, .int .i64 m.r.g.h4, .int .i64 m.r.f] 64)) ⟨by go_grown, alloc_old _ (alloc_new _ _), by simpa using alloc_new (w.alloc _) _⟩ (fun V hV => ?_)
  obtain ⟨hbV, hT, hC⟩ := hV
  have HT := Lib.hid hT
  have HC := Lib.hid hC
  clear hT hC c0 c1 c2 c3 c4 c5 c6 c7
  refine (rroundCheck_any m.r V).mono ?_
  rintro e w1 ⟨rfl, hb1⟩
  have hWU := ext_trans hbV hb1
  have s1 := cell_block (block_up hb1 HT.out)
  have s2 := cell_block (block_up hb1 HC.out)
  generalize roundE m.r = er at HO
  by_cases her : er = 0
  case neg =>
    have her' : (er != 0) = true := by simpa using her
    go_wp2_with fail
    go_ret
    exact ⟨ret_int (by rw [HO.out, if_pos her]), hWU⟩
  subst her
  by_cases hmn : m.r.g.n = a.n
  case neg =>
    have hmn' : (m.r.g.n != a.n) = true := by simpa using hmn
    go_wp2_with fail
    go_ret
    exact ⟨ret_int (by rw [HO.out, if_neg (by simp), if_pos hmn]), hWU⟩
  have hmn' : (m.r.g.n != a.n) = false := by simpa using hmn
  have HO1 : Hid (moveE a l k = if 0 < k ∧ 0 ≤ roundC (l.getD (k - 1) default).r m.r then 14 else if m.to < 0 ∨ (a.states.length : Int) ≤ m.to then 2 else 0) := by
    have h : moveE a l k = if 0 < k ∧ 0 ≤ roundC (l.getD (k - 1) default).r m.r then 14 else if m.to < 0 ∨ (a.states.length : Int) ≤ m.to then 2 else 0 := by rw [HO.out, if_neg (by simp), if_neg (by simpa using hmn)]
    exact h
  clear HO hmn
  go_wp2_with fail
  clear hmn' s1 s2
  by_cases hk0 : k = 0
  case' pos =>
    have HO2 : Hid (moveE a l k = if m.to < 0 ∨ (a.states.length : Int) ≤ m.to then 2 else 0) := by (have h : moveE a l k = if m.to < 0 ∨ (a.states.length : Int) ≤ m.to then 2 else 0 := by (rw [HO1.out, if_neg (by omega)])); exact h
    have hd : decide ((0 : Int) < (k : Int)) = false := decide_eq_false (by omega)
    have hd2 : decide (0 < k) = false := decide_eq_false (by omega)
    clear HO1 hk0
    refine wp_region_quiet_ext (by kernel_rfl) (by kernel_rfl) ?_
    repeat (go_big_quiet_step (fail))
    refine wpQuiet_nil ?_
    intro _ hw'
    obtain ⟨xq, hw''⟩ := hw'
    subst hw''
    clear hd hd2
  case' neg =>
    obtain ⟨j, hj⟩ : ∃ j, k = j + 1 := ⟨k - 1, by omega⟩
    have hjl : j < l.length := by omega
    have HJ := Lib.hid hj
    obtain ⟨b2, o2, e2, ⟨⟨c0, _⟩, ⟨c1, _⟩, ⟨c2, _⟩, ⟨c3, _⟩, ⟨c4, _⟩, ⟨c5, _⟩, ⟨c6, _⟩⟩, _⟩ := E.out j hjl
    obtain ⟨rfl, rfl⟩ : b1 = b2 ∧ o1 = o2 := by simpa using e2
    clear e2
    have hd : decide ((0 : Int) < (k : Int)) = true := decide_eq_true (by omega)
    have hd2 : 0 < k := by omega
    have HO3 : Hid (moveE a l k = if 0 ≤ roundC l[j].r m.r then 14 else if m.to < 0 ∨ (a.states.length : Int) ≤ m.to then 2 else 0) := by
      have h : moveE a l k = if 0 ≤ roundC l[j].r m.r then 14 else if m.to < 0 ∨ (a.states.length : Int) ≤ m.to then 2 else 0 := by
        rw [HO1.out]
        have e : k - 1 = j := by omega
        rw [e, getD_of_lt default hjl]
        grind
      exact h
    clear HO1 hk0 hj
    have hw1 : IntKind.i64.wrap ((k : Int) - 1) = (j : Int) := by rw [HJ.out]; rw [IntWalk.i64_in _ (by omega)]; omega
    generalize l[j] = m2 at c0 c1 c2 c3 c4 c5 c6 HO3
    have r1 : ∀ x : ExtW w1, ∀ o, x.val.cell? ⟨w.heap.size, o, none⟩ = _ := fun x => cell_block (block_up (ext_trans hb1 x.ext) HT.out)
    have r2 : ∀ x : ExtW w1, ∀ o, x.val.cell? ⟨w.heap.size + 1, o, none⟩ = _ := fun x => cell_block (block_up (ext_trans hb1 x.ext) HC.out)
    have k0 : ∀ x : ExtW w1, x.val.cell? _ = _ := fun x => x.cell (cell_up hWU c0)
    have k1 : ∀ x : ExtW w1, x.val.cell? _ = _ := fun x => x.cell (cell_up hWU c1)
    have k2 : ∀ x : ExtW w1, x.val.cell? _ = _ := fun x => x.cell (cell_up hWU c2)
    have k3 : ∀ x : ExtW w1, x.val.cell? _ = _ := fun x => x.cell (cell_up hWU c3)
    have k4 : ∀ x : ExtW w1, x.val.cell? _ = _ := fun x => x.cell (cell_up hWU c4)
    have k5 : ∀ x : ExtW w1, x.val.cell? _ = _ := fun x => x.cell (cell_up hWU c5)
    have k6 : ∀ x : ExtW w1, x.val.cell? _ = _ := fun x => x.cell (cell_up hWU c6)
    clear c0 c1 c2 c3 c4 c5 c6
    refine wp_region_quiet_ext (by kernel_rfl) (by kernel_rfl) ?_
    repeat (go_big_quiet_step ((go_at_call 98; exact Calls.ext_of (rroundCompare_any m2.r m.r _))))
    refine wpQuiet_nil ?_
    intro _ hw'
    obtain ⟨xq, hw''⟩ := hw'
    subst hw''
    clear r1 r2 k0 k1 k2 k3 k4 k5 k6 hd hd2 hw1
    generalize roundC m2.r m.r = oo at HO3
    by_cases hoo : 0 ≤ oo
    · go_wp2_with fail
      go_ret
      exact ⟨ret_int (by rw [HO3.out, if_pos hoo]), ext_trans hWU xq.ext⟩
    have HO2 : Hid (moveE a l k = if m.to < 0 ∨ (a.states.length : Int) ≤ m.to then 2 else 0) := by (have h : moveE a l k = if m.to < 0 ∨ (a.states.length : Int) ≤ m.to then 2 else 0 := by (rw [HO3.out, if_neg hoo])); exact h
    clear HO3 HJ
  all_goals
    have hb5 := ext_trans hWU xq.ext
    have hT5 := block_up (ext_trans hb1 xq.ext) HT.out
    generalize xq.val = W5 at hb5 hT5 ⊢
    have r1 : ∀ n o, (W5.drewN n).cell? ⟨w.heap.size, o, none⟩ = _ := fun n => cell_block hT5
    have r7 : ∀ n, (W5.drewN n).cell? _ = _ := fun n => cell_up hb5 HC7.out
    clear hT5
    by_cases ht : m.to < 0
    · go_wp2_with fail
      go_quiet (fail)
      go_wp2_with fail
      go_ret
      exact ⟨ret_int (by rw [HO2.out, if_pos (by omega)]), below_drewN hb5 _⟩
    · have hd : decide (m.to < 0) = false := decide_eq_false ht
      go_wp2_with fail
      go_quiet (fail)
      go_wp2_with fail
      · go_ret
        refine ⟨ret_int ?_, below_drewN hb5 _⟩
        rw [HO2.out]
        go_light
        grind
      · go_ret
        refine ⟨ret_int ?_, below_drewN hb5 _⟩
        rw [HO2.out]
        go_light
        grind
end Go.Proofs.YtjmejfgkogjpaaaGreat
