/-
  Parts of the proof, in order. Contracts of the library's cmp.Or and of the program's machine.order. Conditions: the numbers are those of a machine's integers. Contract of the program's machine.step. Conditions: the arguments read as a machine of the right shape, and a step.
-/
import Derived.Test.YtjmejfgkogjpaaaGreatJ2
namespace Go.Proofs.YtjmejfgkogjpaaaGreat
open Go.RowKit Go Go.Shelf

abbrev St.v (s : St) : Value := .agg #[.int .i64 s.rd, .int .i64 s.pr, .int .i64 s.h0, .int .i64 s.h1, .int .i64 s.h2, .int .i64 s.h3, .int .i64 s.h4, .int .i64 s.to]
abbrev St.c (s : St) : Array Value := #[.int .i64 s.rd, .int .i64 s.pr, .int .i64 s.h0, .int .i64 s.h1, .int .i64 s.h2, .int .i64 s.h3, .int .i64 s.h4, .int .i64 s.to]
def St.In (s : St) : Prop := InR s.rd ∧ InR s.pr ∧ InR s.h0 ∧ InR s.h1 ∧ InR s.h2 ∧ InR s.h3 ∧ InR s.h4 ∧ InR s.to

set_option maxHeartbeats 400000 in
theorem or_any (v : Value) (l : List Int) (w : World) (hv : IsInts w v l) :
    Calls Tryz.prog 75 #[v] w fun e w' => e = .returned (.int .i64 (orI l)) ∧ Below w.heap.size w w' := by
  obtain ⟨pa, ca, rfl, la1, la2, ea⟩ := hv.at
  clear hv
  have EA := Lib.hid ea; clear ea
  have HD : Hid (orI l = firstNZ l.length fun i => l.getD i 0) := by exact rfl
  go_enter Tryz.func75, Tryz.ntmps75
  go_wp2
  go_loop [8] (fun i => ∃ k : Nat, k ≤ l.length ∧ i = .int .i64 k ∧ ∀ j, j < k → l.getD j 0 = 0) (fun i => l.length - (intOf i).toNat)
  case atStart => exact ⟨0, by omega, rfl, by simp⟩
  case round =>
    obtain ⟨k, hk, rfl, hinv⟩ := hrel
    have H := Lib.hid hinv; clear hinv
    by_cases hlt : k < l.length
    · obtain ⟨b1, o1, rfl, h1⟩ := EA.out k hlt
      rw [Nat.mul_one] at h1
      have c1 := h1.1
      have HG := Lib.hid (getD_of_lt 0 hlt)
      clear h1
      generalize l[k] = x at c1 HG
      by_cases hx : x = 0
      · have dx : (x != 0) = false := by simpa using hx
        have HX := Lib.hid hx; clear hx
        go_wp2
        go_round
        case rel => exact ⟨k + 1, by omega, by go_num, below_succ H.out (by rw [HG.out]; exact HX.out)⟩
        case measure => simp [intOf]; omega
      · have dx : (x != 0) = true := by simpa using hx
        have HX := Lib.hid hx; clear hx
        go_wp2
        go_ret
        exact ⟨ret_int (by rw [HD.out]; exact firstNZ_hit k _ hlt H.out HG.out HX.out), Below.refl _ _⟩
    · go_wp2
      go_ret
      exact ⟨ret_int (by rw [HD.out, firstNZ_zero]; intro j hj; exact H.out j (by omega)), Below.refl _ _⟩

theorem cmpI_in (a b : Int) : InR (cmpI a b) := by unfold cmpI InR; grind
theorem ordV_in (a b : List Int) : InR (ordV a b) := by
  have h : ordV a b = -1 ∨ ordV a b = 0 ∨ ordV a b = 1 := by
    induction a generalizing b with
    | nil => cases b <;> simp [ordV]
    | cons x t ih =>
      cases b with
      | nil => simp [ordV]
      | cons y u =>
        have := ih u
        unfold ordV
        grind
  unfold InR
  omega
theorem ints3 {w : World} {b : Nat} {x y z : Int} {t : TypeId} (h : w.heap[b]? = some (.cells #[.int .i64 x, .int .i64 y, .int .i64 z] t)) (hx : InR x) (hy : InR y) (hz : InR z) : IsInts w (.slice (some ⟨b, 0, none⟩) 3 3) [x, y, z] :=
  ⟨_, 3, rfl, ⟨by simp, by omega, fun e => by cases e⟩, by simp, fun i v hv => ⟨b, 0, rfl, by
    match i, hv with
    | 0, hv => cases hv; exact ⟨by rw [cell_block h]; rfl, hx⟩
    | 1, hv => cases hv; exact ⟨by rw [cell_block h]; rfl, hy⟩
    | 2, hv => cases hv; exact ⟨by rw [cell_block h]; rfl, hz⟩⟩⟩
theorem heard_ints {w : World} {b : Nat} {s : St} {t : TypeId} (h : w.heap[b]? = some (.cells s.c t)) (hi : s.In) : IsInts w (.slice (some ⟨b, 2, none⟩) 5 5) s.heard :=
  ⟨_, 5, rfl, ⟨by simp [St.heard], by omega, fun e => by cases e⟩, by simp [St.heard], fun i v hv => ⟨b, 2, rfl, by
    obtain ⟨_, _, i0, i1, i2, i3, i4, _⟩ := hi
    match i, hv with
    | 0, hv => cases hv; exact ⟨by rw [cell_block h]; rfl, i0⟩
    | 1, hv => cases hv; exact ⟨by rw [cell_block h]; rfl, i1⟩
    | 2, hv => cases hv; exact ⟨by rw [cell_block h]; rfl, i2⟩
    | 3, hv => cases hv; exact ⟨by rw [cell_block h]; rfl, i3⟩
    | 4, hv => cases hv; exact ⟨by rw [cell_block h]; rfl, i4⟩⟩⟩
set_option maxRecDepth 100000 in
set_option maxHeartbeats 8000000 in
theorem order_any (ya yb : St) (ha : ya.In) (hb : yb.In) (w : World) :
    Calls Tryz.prog 40 #[ya.v, yb.v] w fun e w' => e = .returned (.int .i64 (orderI ya yb)) ∧ Below w.heap.size w w' := by
  have HIA := Lib.hid ha
  have HIB := Lib.hid hb
  clear ha hb
  go_enter Tryz.func40, Tryz.ntmps40
  go_wp2_with fail
  refine wp_gen (fun W1 => Below w.heap.size w W1 ∧ W1.heap[w.heap.size]? = some (.cells ya.c 95) ∧ W1.heap[w.heap.size + 1]? = some (.cells yb.c 95))
    ⟨by go_grown, alloc_old _ (alloc_new _ _), by simpa using alloc_new (w.alloc _) _⟩ (fun W1 hW1 => ?_)
  obtain ⟨hb1, hA, hB0⟩ := hW1
  have HA := Lib.hid hA
  have HB := Lib.hid hB0
  clear hA hB0
  obtain ⟨Inv, hInv⟩ : ∃ Inv : (Nat → Bool) → Act → World → Prop, Inv = fun D a W => ∃ x5 x6 x7 x8 x9 x10 x11 x12 x13 x14 x15 x16 x17 x18 x19 x20 x21 : Value, a = { tmps := #[ya.v, yb.v, .pointer (some ⟨w.heap.size, 0, none⟩), .pointer (some ⟨w.heap.size + 1, 0, none⟩), .int .i64 0, x5, x6, x7, x8, x9, x10, x11, x12, x13, x14, x15, x16, x17, x18, x19, x20, x21], defers := [] } ∧ Below W1.heap.size W1 W ∧ (D 0 = true → x5 = .pointer (some ⟨w.heap.size, 0, none⟩)) ∧ (D 1 = true → (D 0 = true ∧ True) ∧ x6 = .int .i64 ya.rd) ∧ (D 2 = true → x7 = .pointer (some ⟨w.heap.size + 1, 0, none⟩)) ∧ (D 3 = true → (D 2 = true ∧ True) ∧ x8 = .int .i64 yb.rd) ∧ (D 4 = true → (D 1 = true ∧ D 0 = true ∧ D 3 = true ∧ D 2 = true ∧ True) ∧ x9 = .int .i64 (cmpI ya.rd yb.rd)) ∧ (D 5 = true → x10 = .pointer (some ⟨w.heap.size, 1, none⟩)) ∧ (D 6 = true → (D 5 = true ∧ True) ∧ x11 = .int .i64 ya.pr) ∧ (D 7 = true → x12 = .pointer (some ⟨w.heap.size + 1, 1, none⟩)) ∧ (D 8 = true → (D 7 = true ∧ True) ∧ x13 = .int .i64 yb.pr) ∧ (D 9 = true → (D 6 = true ∧ D 5 = true ∧ D 8 = true ∧ D 7 = true ∧ True) ∧ x14 = .int .i64 (cmpI ya.pr yb.pr)) ∧ (D 10 = true → x15 = .pointer (some ⟨w.heap.size, 2, none⟩)) ∧ (D 11 = true → (D 10 = true ∧ True) ∧ x16 = .slice (some ⟨w.heap.size, 2, none⟩) 5 5) ∧ (D 12 = true → x17 = .pointer (some ⟨w.heap.size + 1, 2, none⟩)) ∧ (D 13 = true → (D 12 = true ∧ True) ∧ x18 = .slice (some ⟨w.heap.size + 1, 2, none⟩) 5 5) ∧ (D 14 = true → (D 11 = true ∧ D 10 = true ∧ D 13 = true ∧ D 12 = true ∧ True) ∧ x19 = .int .i64 (ordV ya.heard yb.heard)) ∧ (D 15 = true → (D 4 = true ∧ D 1 = true ∧ D 0 = true ∧ D 3 = true ∧ D 2 = true ∧ D 9 = true ∧ D 6 = true ∧ D 5 = true ∧ D 8 = true ∧ D 7 = true ∧ D 14 = true ∧ D 11 = true ∧ D 10 = true ∧ D 13 = true ∧ D 12 = true ∧ True) ∧ NewSl W1.heap.size 3 #[.int .i64 (cmpI ya.rd yb.rd), .int .i64 (cmpI ya.pr yb.pr), .int .i64 (ordV ya.heard yb.heard)] 3 x20 W) ∧ (D 16 = true → (D 15 = true ∧ D 4 = true ∧ D 1 = true ∧ D 0 = true ∧ D 3 = true ∧ D 2 = true ∧ D 9 = true ∧ D 6 = true ∧ D 5 = true ∧ D 8 = true ∧ D 7 = true ∧ D 14 = true ∧ D 11 = true ∧ D 10 = true ∧ D 13 = true ∧ D 12 = true ∧ True) ∧ x21 = .int .i64 (orderI ya yb)) := ⟨_, rfl⟩
  have HINV := Lib.hid hInv; clear hInv
  refine wp_region_grow 17 (by kernel_rfl) rfl (by kernel_rfl) Inv (by rw [HINV.out]; exact ⟨_, _, _, _, _, _, _, _, _, _, _, _, _, _, _, _, _, rfl, (Below.refl _ _).drew, nofun, nofun, nofun, nofun, nofun, nofun, nofun, nofun, nofun, nofun, nofun, nofun, nofun, nofun, nofun, nofun, nofun⟩) ?step ?last
  case step =>
    intro D a W i o hi ho hD hdep hI
    rw [HINV.out] at hI
    obtain ⟨x5, x6, x7, x8, x9, x10, x11, x12, x13, x14, x15, x16, x17, x18, x19, x20, x21, rfl, hB, s0, s1, s2, s3, s4, s5, s6, s7, s8, s9, s10, s11, s12, s13, s14, s15, s16⟩ := hI
    have hcase : i = 0 ∨ i = 1 ∨ i = 2 ∨ i = 3 ∨ i = 4 ∨ i = 5 ∨ i = 6 ∨ i = 7 ∨ i = 8 ∨ i = 9 ∨ i = 10 ∨ i = 11 ∨ i = 12 ∨ i = 13 ∨ i = 14 ∨ i = 15 ∨ i = 16 := by omega
    rcases hcase with rfl | rfl | rfl | rfl | rfl | rfl | rfl | rfl | rfl | rfl | rfl | rfl | rfl | rfl | rfl | rfl | rfl
    · obtain rfl := Option.some.inj ho.symm
      have HD := Lib.hid hD
      refine wpOp_one rfl ?_
      have Z0 := Lib.hid s0
      have Z1 := Lib.hid s1
      have Z2 := Lib.hid s2
      have Z3 := Lib.hid s3
      have Z4 := Lib.hid s4
      have Z5 := Lib.hid s5
      have Z6 := Lib.hid s6
      have Z7 := Lib.hid s7
      have Z8 := Lib.hid s8
      have Z9 := Lib.hid s9
      have Z10 := Lib.hid s10
      have Z11 := Lib.hid s11
      have Z12 := Lib.hid s12
      have Z13 := Lib.hid s13
      have Z14 := Lib.hid s14
      have Z15 := Lib.hid s15
      have Z16 := Lib.hid s16
      clear hdep hi hD ho s0 s1 s2 s3 s4 s5 s6 s7 s8 s9 s10 s11 s12 s13 s14 s15 s16  
      go_wp2_with fail
      rw [HINV.out]
      refine ⟨_, _, _, _, _, _, _, _, _, _, _, _, _, _, _, _, _, rfl, hB, ?g0, ?g1, ?g2, ?g3, ?g4, ?g5, ?g6, ?g7, ?g8, ?g9, ?g10, ?g11, ?g12, ?g13, ?g14, ?g15, ?g16⟩
      case g0 => exact fun _ => rfl
      case g1 => exact fun h => absurd ((Z1.out h).1.1) (by rw [HD.out]; decide)
      case g2 => first | exact fun h => Z2.out h | exact fun _ => rfl | exact fun h => ⟨(Z2.out h).1, rfl⟩
      case g3 => first | exact fun h => Z3.out h | exact fun _ => rfl | exact fun h => ⟨(Z3.out h).1, rfl⟩
      case g4 => exact fun h => absurd ((Z4.out h).1.2.1) (by rw [HD.out]; decide)
      case g5 => first | exact fun h => Z5.out h | exact fun _ => rfl | exact fun h => ⟨(Z5.out h).1, rfl⟩
      case g6 => first | exact fun h => Z6.out h | exact fun _ => rfl | exact fun h => ⟨(Z6.out h).1, rfl⟩
      case g7 => first | exact fun h => Z7.out h | exact fun _ => rfl | exact fun h => ⟨(Z7.out h).1, rfl⟩
      case g8 => first | exact fun h => Z8.out h | exact fun _ => rfl | exact fun h => ⟨(Z8.out h).1, rfl⟩
      case g9 => first | exact fun h => Z9.out h | exact fun _ => rfl | exact fun h => ⟨(Z9.out h).1, rfl⟩
      case g10 => first | exact fun h => Z10.out h | exact fun _ => rfl | exact fun h => ⟨(Z10.out h).1, rfl⟩
      case g11 => first | exact fun h => Z11.out h | exact fun _ => rfl | exact fun h => ⟨(Z11.out h).1, rfl⟩
      case g12 => first | exact fun h => Z12.out h | exact fun _ => rfl | exact fun h => ⟨(Z12.out h).1, rfl⟩
      case g13 => first | exact fun h => Z13.out h | exact fun _ => rfl | exact fun h => ⟨(Z13.out h).1, rfl⟩
      case g14 => first | exact fun h => Z14.out h | exact fun _ => rfl | exact fun h => ⟨(Z14.out h).1, rfl⟩
      case g15 => exact fun h => absurd ((Z15.out h).1.2.2.1) (by rw [HD.out]; decide)
      case g16 => exact fun h => absurd ((Z16.out h).1.2.2.2.1) (by rw [HD.out]; decide)
    · obtain rfl := Option.some.inj ho.symm
      have HD := Lib.hid hD
      have e0 := hdep ⟨0, .data⟩ (by simp) rfl
      have d0 := s0 e0
      have HCL := Lib.hid (show D 0 = true ∧ True from ⟨e0, trivial⟩)
      obtain rfl := d0
      have t2 := cell_block (block_up hB HA.out)
      refine wpOp_one rfl ?_
      have Z0 := Lib.hid s0
      have Z1 := Lib.hid s1
      have Z2 := Lib.hid s2
      have Z3 := Lib.hid s3
      have Z4 := Lib.hid s4
      have Z5 := Lib.hid s5
      have Z6 := Lib.hid s6
      have Z7 := Lib.hid s7
      have Z8 := Lib.hid s8
      have Z9 := Lib.hid s9
      have Z10 := Lib.hid s10
      have Z11 := Lib.hid s11
      have Z12 := Lib.hid s12
      have Z13 := Lib.hid s13
      have Z14 := Lib.hid s14
      have Z15 := Lib.hid s15
      have Z16 := Lib.hid s16
      clear hdep hi hD ho s0 s1 s2 s3 s4 s5 s6 s7 s8 s9 s10 s11 s12 s13 s14 s15 s16 e0 
      go_wp2_with fail
      rw [HINV.out]
      refine ⟨_, _, _, _, _, _, _, _, _, _, _, _, _, _, _, _, _, rfl, hB, ?g0, ?g1, ?g2, ?g3, ?g4, ?g5, ?g6, ?g7, ?g8, ?g9, ?g10, ?g11, ?g12, ?g13, ?g14, ?g15, ?g16⟩
      case g0 => first | exact fun h => Z0.out h | exact fun _ => rfl | exact fun h => ⟨(Z0.out h).1, rfl⟩
      case g1 => exact fun _ => ⟨HCL.out, rfl⟩
      case g2 => first | exact fun h => Z2.out h | exact fun _ => rfl | exact fun h => ⟨(Z2.out h).1, rfl⟩
      case g3 => first | exact fun h => Z3.out h | exact fun _ => rfl | exact fun h => ⟨(Z3.out h).1, rfl⟩
      case g4 => exact fun h => absurd ((Z4.out h).1.1) (by rw [HD.out]; decide)
      case g5 => first | exact fun h => Z5.out h | exact fun _ => rfl | exact fun h => ⟨(Z5.out h).1, rfl⟩
      case g6 => first | exact fun h => Z6.out h | exact fun _ => rfl | exact fun h => ⟨(Z6.out h).1, rfl⟩
      case g7 => first | exact fun h => Z7.out h | exact fun _ => rfl | exact fun h => ⟨(Z7.out h).1, rfl⟩
      case g8 => first | exact fun h => Z8.out h | exact fun _ => rfl | exact fun h => ⟨(Z8.out h).1, rfl⟩
      case g9 => first | exact fun h => Z9.out h | exact fun _ => rfl | exact fun h => ⟨(Z9.out h).1, rfl⟩
      case g10 => first | exact fun h => Z10.out h | exact fun _ => rfl | exact fun h => ⟨(Z10.out h).1, rfl⟩
      case g11 => first | exact fun h => Z11.out h | exact fun _ => rfl | exact fun h => ⟨(Z11.out h).1, rfl⟩
      case g12 => first | exact fun h => Z12.out h | exact fun _ => rfl | exact fun h => ⟨(Z12.out h).1, rfl⟩
      case g13 => first | exact fun h => Z13.out h | exact fun _ => rfl | exact fun h => ⟨(Z13.out h).1, rfl⟩
      case g14 => first | exact fun h => Z14.out h | exact fun _ => rfl | exact fun h => ⟨(Z14.out h).1, rfl⟩
      case g15 => exact fun h => absurd ((Z15.out h).1.2.1) (by rw [HD.out]; decide)
      case g16 => exact fun h => absurd ((Z16.out h).1.2.2.1) (by rw [HD.out]; decide)
    · obtain rfl := Option.some.inj ho.symm
      have HD := Lib.hid hD
      refine wpOp_one rfl ?_
      have Z0 := Lib.hid s0
      have Z1 := Lib.hid s1
      have Z2 := Lib.hid s2
      have Z3 := Lib.hid s3
      have Z4 := Lib.hid s4
      have Z5 := Lib.hid s5
      have Z6 := Lib.hid s6
      have Z7 := Lib.hid s7
      have Z8 := Lib.hid s8
      have Z9 := Lib.hid s9
      have Z10 := Lib.hid s10
      have Z11 := Lib.hid s11
      have Z12 := Lib.hid s12
      have Z13 := Lib.hid s13
      have Z14 := Lib.hid s14
      have Z15 := Lib.hid s15
      have Z16 := Lib.hid s16
      clear hdep hi hD ho s0 s1 s2 s3 s4 s5 s6 s7 s8 s9 s10 s11 s12 s13 s14 s15 s16  
      go_wp2_with fail
      rw [HINV.out]
      refine ⟨_, _, _, _, _, _, _, _, _, _, _, _, _, _, _, _, _, rfl, hB, ?g0, ?g1, ?g2, ?g3, ?g4, ?g5, ?g6, ?g7, ?g8, ?g9, ?g10, ?g11, ?g12, ?g13, ?g14, ?g15, ?g16⟩
      case g0 => first | exact fun h => Z0.out h | exact fun _ => rfl | exact fun h => ⟨(Z0.out h).1, rfl⟩
      case g1 => first | exact fun h => Z1.out h | exact fun _ => rfl | exact fun h => ⟨(Z1.out h).1, rfl⟩
      case g2 => exact fun _ => rfl
      case g3 => exact fun h => absurd ((Z3.out h).1.1) (by rw [HD.out]; decide)
      case g4 => exact fun h => absurd ((Z4.out h).1.2.2.2.1) (by rw [HD.out]; decide)
      case g5 => first | exact fun h => Z5.out h | exact fun _ => rfl | exact fun h => ⟨(Z5.out h).1, rfl⟩
      case g6 => first | exact fun h => Z6.out h | exact fun _ => rfl | exact fun h => ⟨(Z6.out h).1, rfl⟩
      case g7 => first | exact fun h => Z7.out h | exact fun _ => rfl | exact fun h => ⟨(Z7.out h).1, rfl⟩
      case g8 => first | exact fun h => Z8.out h | exact fun _ => rfl | exact fun h => ⟨(Z8.out h).1, rfl⟩
      case g9 => first | exact fun h => Z9.out h | exact fun _ => rfl | exact fun h => ⟨(Z9.out h).1, rfl⟩
      case g10 => first | exact fun h => Z10.out h | exact fun _ => rfl | exact fun h => ⟨(Z10.out h).1, rfl⟩
      case g11 => first | exact fun h => Z11.out h | exact fun _ => rfl | exact fun h => ⟨(Z11.out h).1, rfl⟩
      case g12 => first | exact fun h => Z12.out h | exact fun _ => rfl | exact fun h => ⟨(Z12.out h).1, rfl⟩
      case g13 => first | exact fun h => Z13.out h | exact fun _ => rfl | exact fun h => ⟨(Z13.out h).1, rfl⟩
      case g14 => first | exact fun h => Z14.out h | exact fun _ => rfl | exact fun h => ⟨(Z14.out h).1, rfl⟩
      case g15 => exact fun h => absurd ((Z15.out h).1.2.2.2.2.1) (by rw [HD.out]; decide)
      case g16 => exact fun h => absurd ((Z16.out h).1.2.2.2.2.2.1) (by rw [HD.out]; decide)
    · obtain rfl := Option.some.inj ho.symm
      have HD := Lib.hid hD
      have e2 := hdep ⟨2, .data⟩ (by simp) rfl
      have d2 := s2 e2
      have HCL := Lib.hid (show D 2 = true ∧ True from ⟨e2, trivial⟩)
      obtain rfl := d2
      have t2 := cell_block (block_up hB HB.out)
      refine wpOp_one rfl ?_
      have Z0 := Lib.hid s0
      have Z1 := Lib.hid s1
      have Z2 := Lib.hid s2
      have Z3 := Lib.hid s3
      have Z4 := Lib.hid s4
      have Z5 := Lib.hid s5
      have Z6 := Lib.hid s6
      have Z7 := Lib.hid s7
      have Z8 := Lib.hid s8
      have Z9 := Lib.hid s9
      have Z10 := Lib.hid s10
      have Z11 := Lib.hid s11
      have Z12 := Lib.hid s12
      have Z13 := Lib.hid s13
      have Z14 := Lib.hid s14
      have Z15 := Lib.hid s15
      have Z16 := Lib.hid s16
      clear hdep hi hD ho s0 s1 s2 s3 s4 s5 s6 s7 s8 s9 s10 s11 s12 s13 s14 s15 s16 e2 
      go_wp2_with fail
      rw [HINV.out]
      refine ⟨_, _, _, _, _, _, _, _, _, _, _, _, _, _, _, _, _, rfl, hB, ?g0, ?g1, ?g2, ?g3, ?g4, ?g5, ?g6, ?g7, ?g8, ?g9, ?g10, ?g11, ?g12, ?g13, ?g14, ?g15, ?g16⟩
      case g0 => first | exact fun h => Z0.out h | exact fun _ => rfl | exact fun h => ⟨(Z0.out h).1, rfl⟩
      case g1 => first | exact fun h => Z1.out h | exact fun _ => rfl | exact fun h => ⟨(Z1.out h).1, rfl⟩
      case g2 => first | exact fun h => Z2.out h | exact fun _ => rfl | exact fun h => ⟨(Z2.out h).1, rfl⟩
      case g3 => exact fun _ => ⟨HCL.out, rfl⟩
      case g4 => exact fun h => absurd ((Z4.out h).1.2.2.1) (by rw [HD.out]; decide)
      case g5 => first | exact fun h => Z5.out h | exact fun _ => rfl | exact fun h => ⟨(Z5.out h).1, rfl⟩
      case g6 => first | exact fun h => Z6.out h | exact fun _ => rfl | exact fun h => ⟨(Z6.out h).1, rfl⟩
      case g7 => first | exact fun h => Z7.out h | exact fun _ => rfl | exact fun h => ⟨(Z7.out h).1, rfl⟩
      case g8 => first | exact fun h => Z8.out h | exact fun _ => rfl | exact fun h => ⟨(Z8.out h).1, rfl⟩
      case g9 => first | exact fun h => Z9.out h | exact fun _ => rfl | exact fun h => ⟨(Z9.out h).1, rfl⟩
      case g10 => first | exact fun h => Z10.out h | exact fun _ => rfl | exact fun h => ⟨(Z10.out h).1, rfl⟩
      case g11 => first | exact fun h => Z11.out h | exact fun _ => rfl | exact fun h => ⟨(Z11.out h).1, rfl⟩
      case g12 => first | exact fun h => Z12.out h | exact fun _ => rfl | exact fun h => ⟨(Z12.out h).1, rfl⟩
      case g13 => first | exact fun h => Z13.out h | exact fun _ => rfl | exact fun h => ⟨(Z13.out h).1, rfl⟩
      case g14 => first | exact fun h => Z14.out h | exact fun _ => rfl | exact fun h => ⟨(Z14.out h).1, rfl⟩
      case g15 => exact fun h => absurd ((Z15.out h).1.2.2.2.1) (by rw [HD.out]; decide)
      case g16 => exact fun h => absurd ((Z16.out h).1.2.2.2.2.1) (by rw [HD.out]; decide)
    · obtain rfl := Option.some.inj ho.symm
      have HD := Lib.hid hD
      have e1 := hdep ⟨1, .data⟩ (by simp) rfl
      have d1 := s1 e1
      obtain ⟨g1, d1⟩ := d1
      have e3 := hdep ⟨3, .data⟩ (by simp) rfl
      have d3 := s3 e3
      obtain ⟨g3, d3⟩ := d3
      have HCL := Lib.hid (show D 1 = true ∧ D 0 = true ∧ D 3 = true ∧ D 2 = true ∧ True from ⟨e1, g1.1, e3, g3.1, trivial⟩)
      obtain rfl := d1
      obtain rfl := d3
      refine wpOp_one rfl ?_
      have Z0 := Lib.hid s0
      have Z1 := Lib.hid s1
      have Z2 := Lib.hid s2
      have Z3 := Lib.hid s3
      have Z4 := Lib.hid s4
      have Z5 := Lib.hid s5
      have Z6 := Lib.hid s6
      have Z7 := Lib.hid s7
      have Z8 := Lib.hid s8
      have Z9 := Lib.hid s9
      have Z10 := Lib.hid s10
      have Z11 := Lib.hid s11
      have Z12 := Lib.hid s12
      have Z13 := Lib.hid s13
      have Z14 := Lib.hid s14
      have Z15 := Lib.hid s15
      have Z16 := Lib.hid s16
      clear hdep hi hD ho s0 s1 s2 s3 s4 s5 s6 s7 s8 s9 s10 s11 s12 s13 s14 s15 s16 e1 e3 g1 g3
      go_wp2_with fail
      refine (cmp_any _ _ _).mono ?_
      rintro e w9 ⟨rfl, rfl⟩
      go_wp2_with fail
      rw [HINV.out]
      refine ⟨_, _, _, _, _, _, _, _, _, _, _, _, _, _, _, _, _, rfl, hB, ?g0, ?g1, ?g2, ?g3, ?g4, ?g5, ?g6, ?g7, ?g8, ?g9, ?g10, ?g11, ?g12, ?g13, ?g14, ?g15, ?g16⟩
      case g0 => first | exact fun h => Z0.out h | exact fun _ => rfl | exact fun h => ⟨(Z0.out h).1, rfl⟩
      case g1 => first | exact fun h => Z1.out h | exact fun _ => rfl | exact fun h => ⟨(Z1.out h).1, rfl⟩
      case g2 => first | exact fun h => Z2.out h | exact fun _ => rfl | exact fun h => ⟨(Z2.out h).1, rfl⟩
      case g3 => first | exact fun h => Z3.out h | exact fun _ => rfl | exact fun h => ⟨(Z3.out h).1, rfl⟩
      case g4 => exact fun _ => ⟨HCL.out, rfl⟩
      case g5 => first | exact fun h => Z5.out h | exact fun _ => rfl | exact fun h => ⟨(Z5.out h).1, rfl⟩
      case g6 => first | exact fun h => Z6.out h | exact fun _ => rfl | exact fun h => ⟨(Z6.out h).1, rfl⟩
      case g7 => first | exact fun h => Z7.out h | exact fun _ => rfl | exact fun h => ⟨(Z7.out h).1, rfl⟩
      case g8 => first | exact fun h => Z8.out h | exact fun _ => rfl | exact fun h => ⟨(Z8.out h).1, rfl⟩
      case g9 => first | exact fun h => Z9.out h | exact fun _ => rfl | exact fun h => ⟨(Z9.out h).1, rfl⟩
      case g10 => first | exact fun h => Z10.out h | exact fun _ => rfl | exact fun h => ⟨(Z10.out h).1, rfl⟩
      case g11 => first | exact fun h => Z11.out h | exact fun _ => rfl | exact fun h => ⟨(Z11.out h).1, rfl⟩
      case g12 => first | exact fun h => Z12.out h | exact fun _ => rfl | exact fun h => ⟨(Z12.out h).1, rfl⟩
      case g13 => first | exact fun h => Z13.out h | exact fun _ => rfl | exact fun h => ⟨(Z13.out h).1, rfl⟩
      case g14 => first | exact fun h => Z14.out h | exact fun _ => rfl | exact fun h => ⟨(Z14.out h).1, rfl⟩
      case g15 => exact fun h => absurd ((Z15.out h).1.1) (by rw [HD.out]; decide)
      case g16 => exact fun h => absurd ((Z16.out h).1.2.1) (by rw [HD.out]; decide)
    · obtain rfl := Option.some.inj ho.symm
      have HD := Lib.hid hD
      refine wpOp_one rfl ?_
      have Z0 := Lib.hid s0
      have Z1 := Lib.hid s1
      have Z2 := Lib.hid s2
      have Z3 := Lib.hid s3
      have Z4 := Lib.hid s4
      have Z5 := Lib.hid s5
      have Z6 := Lib.hid s6
      have Z7 := Lib.hid s7
      have Z8 := Lib.hid s8
      have Z9 := Lib.hid s9
      have Z10 := Lib.hid s10
      have Z11 := Lib.hid s11
      have Z12 := Lib.hid s12
      have Z13 := Lib.hid s13
      have Z14 := Lib.hid s14
      have Z15 := Lib.hid s15
      have Z16 := Lib.hid s16
      clear hdep hi hD ho s0 s1 s2 s3 s4 s5 s6 s7 s8 s9 s10 s11 s12 s13 s14 s15 s16  
      go_wp2_with fail
      rw [HINV.out]
      refine ⟨_, _, _, _, _, _, _, _, _, _, _, _, _, _, _, _, _, rfl, hB, ?g0, ?g1, ?g2, ?g3, ?g4, ?g5, ?g6, ?g7, ?g8, ?g9, ?g10, ?g11, ?g12, ?g13, ?g14, ?g15, ?g16⟩
      case g0 => first | exact fun h => Z0.out h | exact fun _ => rfl | exact fun h => ⟨(Z0.out h).1, rfl⟩
      case g1 => first | exact fun h => Z1.out h | exact fun _ => rfl | exact fun h => ⟨(Z1.out h).1, rfl⟩
      case g2 => first | exact fun h => Z2.out h | exact fun _ => rfl | exact fun h => ⟨(Z2.out h).1, rfl⟩
      case g3 => first | exact fun h => Z3.out h | exact fun _ => rfl | exact fun h => ⟨(Z3.out h).1, rfl⟩
      case g4 => first | exact fun h => Z4.out h | exact fun _ => rfl | exact fun h => ⟨(Z4.out h).1, rfl⟩
      case g5 => exact fun _ => rfl
      case g6 => exact fun h => absurd ((Z6.out h).1.1) (by rw [HD.out]; decide)
      case g7 => first | exact fun h => Z7.out h | exact fun _ => rfl | exact fun h => ⟨(Z7.out h).1, rfl⟩
      case g8 => first | exact fun h => Z8.out h | exact fun _ => rfl | exact fun h => ⟨(Z8.out h).1, rfl⟩
      case g9 => exact fun h => absurd ((Z9.out h).1.2.1) (by rw [HD.out]; decide)
      case g10 => first | exact fun h => Z10.out h | exact fun _ => rfl | exact fun h => ⟨(Z10.out h).1, rfl⟩
      case g11 => first | exact fun h => Z11.out h | exact fun _ => rfl | exact fun h => ⟨(Z11.out h).1, rfl⟩
      case g12 => first | exact fun h => Z12.out h | exact fun _ => rfl | exact fun h => ⟨(Z12.out h).1, rfl⟩
      case g13 => first | exact fun h => Z13.out h | exact fun _ => rfl | exact fun h => ⟨(Z13.out h).1, rfl⟩
      case g14 => first | exact fun h => Z14.out h | exact fun _ => rfl | exact fun h => ⟨(Z14.out h).1, rfl⟩
      case g15 => exact fun h => absurd ((Z15.out h).1.2.2.2.2.2.2.2.1) (by rw [HD.out]; decide)
      case g16 => exact fun h => absurd ((Z16.out h).1.2.2.2.2.2.2.2.2.1) (by rw [HD.out]; decide)
    · obtain rfl := Option.some.inj ho.symm
      have HD := Lib.hid hD
      have e5 := hdep ⟨5, .data⟩ (by simp) rfl
      have d5 := s5 e5
      have HCL := Lib.hid (show D 5 = true ∧ True from ⟨e5, trivial⟩)
      obtain rfl := d5
      have t2 := cell_block (block_up hB HA.out)
      refine wpOp_one rfl ?_
      have Z0 := Lib.hid s0
      have Z1 := Lib.hid s1
      have Z2 := Lib.hid s2
      have Z3 := Lib.hid s3
      have Z4 := Lib.hid s4
      have Z5 := Lib.hid s5
      have Z6 := Lib.hid s6
      have Z7 := Lib.hid s7
      have Z8 := Lib.hid s8
      have Z9 := Lib.hid s9
      have Z10 := Lib.hid s10
      have Z11 := Lib.hid s11
      have Z12 := Lib.hid s12
      have Z13 := Lib.hid s13
      have Z14 := Lib.hid s14
      have Z15 := Lib.hid s15
      have Z16 := Lib.hid s16
      clear hdep hi hD ho s0 s1 s2 s3 s4 s5 s6 s7 s8 s9 s10 s11 s12 s13 s14 s15 s16 e5 
      go_wp2_with fail
      rw [HINV.out]
      refine ⟨_, _, _, _, _, _, _, _, _, _, _, _, _, _, _, _, _, rfl, hB, ?g0, ?g1, ?g2, ?g3, ?g4, ?g5, ?g6, ?g7, ?g8, ?g9, ?g10, ?g11, ?g12, ?g13, ?g14, ?g15, ?g16⟩
      case g0 => first | exact fun h => Z0.out h | exact fun _ => rfl | exact fun h => ⟨(Z0.out h).1, rfl⟩
      case g1 => first | exact fun h => Z1.out h | exact fun _ => rfl | exact fun h => ⟨(Z1.out h).1, rfl⟩
      case g2 => first | exact fun h => Z2.out h | exact fun _ => rfl | exact fun h => ⟨(Z2.out h).1, rfl⟩
      case g3 => first | exact fun h => Z3.out h | exact fun _ => rfl | exact fun h => ⟨(Z3.out h).1, rfl⟩
      case g4 => first | exact fun h => Z4.out h | exact fun _ => rfl | exact fun h => ⟨(Z4.out h).1, rfl⟩
      case g5 => first | exact fun h => Z5.out h | exact fun _ => rfl | exact fun h => ⟨(Z5.out h).1, rfl⟩
      case g6 => exact fun _ => ⟨HCL.out, rfl⟩
      case g7 => first | exact fun h => Z7.out h | exact fun _ => rfl | exact fun h => ⟨(Z7.out h).1, rfl⟩
      case g8 => first | exact fun h => Z8.out h | exact fun _ => rfl | exact fun h => ⟨(Z8.out h).1, rfl⟩
      case g9 => exact fun h => absurd ((Z9.out h).1.1) (by rw [HD.out]; decide)
      case g10 => first | exact fun h => Z10.out h | exact fun _ => rfl | exact fun h => ⟨(Z10.out h).1, rfl⟩
      case g11 => first | exact fun h => Z11.out h | exact fun _ => rfl | exact fun h => ⟨(Z11.out h).1, rfl⟩
      case g12 => first | exact fun h => Z12.out h | exact fun _ => rfl | exact fun h => ⟨(Z12.out h).1, rfl⟩
      case g13 => first | exact fun h => Z13.out h | exact fun _ => rfl | exact fun h => ⟨(Z13.out h).1, rfl⟩
      case g14 => first | exact fun h => Z14.out h | exact fun _ => rfl | exact fun h => ⟨(Z14.out h).1, rfl⟩
      case g15 => exact fun h => absurd ((Z15.out h).1.2.2.2.2.2.2.1) (by rw [HD.out]; decide)
      case g16 => exact fun h => absurd ((Z16.out h).1.2.2.2.2.2.2.2.1) (by rw [HD.out]; decide)
    · obtain rfl := Option.some.inj ho.symm
      have HD := Lib.hid hD
      refine wpOp_one rfl ?_
      have Z0 := Lib.hid s0
      have Z1 := Lib.hid s1
      have Z2 := Lib.hid s2
      have Z3 := Lib.hid s3
      have Z4 := Lib.hid s4
      have Z5 := Lib.hid s5
      have Z6 := Lib.hid s6
      have Z7 := Lib.hid s7
      have Z8 := Lib.hid s8
      have Z9 := Lib.hid s9
      have Z10 := Lib.hid s10
      have Z11 := Lib.hid s11
      have Z12 := Lib.hid s12
      have Z13 := Lib.hid s13
      have Z14 := Lib.hid s14
      have Z15 := Lib.hid s15
      have Z16 := Lib.hid s16
      clear hdep hi hD ho s0 s1 s2 s3 s4 s5 s6 s7 s8 s9 s10 s11 s12 s13 s14 s15 s16  
      go_wp2_with fail
      rw [HINV.out]
      refine ⟨_, _, _, _, _, _, _, _, _, _, _, _, _, _, _, _, _, rfl, hB, ?g0, ?g1, ?g2, ?g3, ?g4, ?g5, ?g6, ?g7, ?g8, ?g9, ?g10, ?g11, ?g12, ?g13, ?g14, ?g15, ?g16⟩
      case g0 => first | exact fun h => Z0.out h | exact fun _ => rfl | exact fun h => ⟨(Z0.out h).1, rfl⟩
      case g1 => first | exact fun h => Z1.out h | exact fun _ => rfl | exact fun h => ⟨(Z1.out h).1, rfl⟩
      case g2 => first | exact fun h => Z2.out h | exact fun _ => rfl | exact fun h => ⟨(Z2.out h).1, rfl⟩
      case g3 => first | exact fun h => Z3.out h | exact fun _ => rfl | exact fun h => ⟨(Z3.out h).1, rfl⟩
      case g4 => first | exact fun h => Z4.out h | exact fun _ => rfl | exact fun h => ⟨(Z4.out h).1, rfl⟩
      case g5 => first | exact fun h => Z5.out h | exact fun _ => rfl | exact fun h => ⟨(Z5.out h).1, rfl⟩
      case g6 => first | exact fun h => Z6.out h | exact fun _ => rfl | exact fun h => ⟨(Z6.out h).1, rfl⟩
      case g7 => exact fun _ => rfl
      case g8 => exact fun h => absurd ((Z8.out h).1.1) (by rw [HD.out]; decide)
      case g9 => exact fun h => absurd ((Z9.out h).1.2.2.2.1) (by rw [HD.out]; decide)
      case g10 => first | exact fun h => Z10.out h | exact fun _ => rfl | exact fun h => ⟨(Z10.out h).1, rfl⟩
      case g11 => first | exact fun h => Z11.out h | exact fun _ => rfl | exact fun h => ⟨(Z11.out h).1, rfl⟩
      case g12 => first | exact fun h => Z12.out h | exact fun _ => rfl | exact fun h => ⟨(Z12.out h).1, rfl⟩
      case g13 => first | exact fun h => Z13.out h | exact fun _ => rfl | exact fun h => ⟨(Z13.out h).1, rfl⟩
      case g14 => first | exact fun h => Z14.out h | exact fun _ => rfl | exact fun h => ⟨(Z14.out h).1, rfl⟩
      case g15 => exact fun h => absurd ((Z15.out h).1.2.2.2.2.2.2.2.2.2.1) (by rw [HD.out]; decide)
      case g16 => exact fun h => absurd ((Z16.out h).1.2.2.2.2.2.2.2.2.2.2.1) (by rw [HD.out]; decide)
    · obtain rfl := Option.some.inj ho.symm
      have HD := Lib.hid hD
      have e7 := hdep ⟨7, .data⟩ (by simp) rfl
      have d7 := s7 e7
      have HCL := Lib.hid (show D 7 = true ∧ True from ⟨e7, trivial⟩)
      obtain rfl := d7
      have t2 := cell_block (block_up hB HB.out)
      refine wpOp_one rfl ?_
      have Z0 := Lib.hid s0
      have Z1 := Lib.hid s1
      have Z2 := Lib.hid s2
      have Z3 := Lib.hid s3
      have Z4 := Lib.hid s4
      have Z5 := Lib.hid s5
      have Z6 := Lib.hid s6
      have Z7 := Lib.hid s7
      have Z8 := Lib.hid s8
      have Z9 := Lib.hid s9
      have Z10 := Lib.hid s10
      have Z11 := Lib.hid s11
      have Z12 := Lib.hid s12
      have Z13 := Lib.hid s13
      have Z14 := Lib.hid s14
      have Z15 := Lib.hid s15
      have Z16 := Lib.hid s16
      clear hdep hi hD ho s0 s1 s2 s3 s4 s5 s6 s7 s8 s9 s10 s11 s12 s13 s14 s15 s16 e7 
      go_wp2_with fail
      rw [HINV.out]
      refine ⟨_, _, _, _, _, _, _, _, _, _, _, _, _, _, _, _, _, rfl, hB, ?g0, ?g1, ?g2, ?g3, ?g4, ?g5, ?g6, ?g7, ?g8, ?g9, ?g10, ?g11, ?g12, ?g13, ?g14, ?g15, ?g16⟩
      case g0 => first | exact fun h => Z0.out h | exact fun _ => rfl | exact fun h => ⟨(Z0.out h).1, rfl⟩
      case g1 => first | exact fun h => Z1.out h | exact fun _ => rfl | exact fun h => ⟨(Z1.out h).1, rfl⟩
      case g2 => first | exact fun h => Z2.out h | exact fun _ => rfl | exact fun h => ⟨(Z2.out h).1, rfl⟩
      case g3 => first | exact fun h => Z3.out h | exact fun _ => rfl | exact fun h => ⟨(Z3.out h).1, rfl⟩
      case g4 => first | exact fun h => Z4.out h | exact fun _ => rfl | exact fun h => ⟨(Z4.out h).1, rfl⟩
      case g5 => first | exact fun h => Z5.out h | exact fun _ => rfl | exact fun h => ⟨(Z5.out h).1, rfl⟩
      case g6 => first | exact fun h => Z6.out h | exact fun _ => rfl | exact fun h => ⟨(Z6.out h).1, rfl⟩
      case g7 => first | exact fun h => Z7.out h | exact fun _ => rfl | exact fun h => ⟨(Z7.out h).1, rfl⟩
      case g8 => exact fun _ => ⟨HCL.out, rfl⟩
      case g9 => exact fun h => absurd ((Z9.out h).1.2.2.1) (by rw [HD.out]; decide)
      case g10 => first | exact fun h => Z10.out h | exact fun _ => rfl | exact fun h => ⟨(Z10.out h).1, rfl⟩
      case g11 => first | exact fun h => Z11.out h | exact fun _ => rfl | exact fun h => ⟨(Z11.out h).1, rfl⟩
      case g12 => first | exact fun h => Z12.out h | exact fun _ => rfl | exact fun h => ⟨(Z12.out h).1, rfl⟩
      case g13 => first | exact fun h => Z13.out h | exact fun _ => rfl | exact fun h => ⟨(Z13.out h).1, rfl⟩
      case g14 => first | exact fun h => Z14.out h | exact fun _ => rfl | exact fun h => ⟨(Z14.out h).1, rfl⟩
      case g15 => exact fun h => absurd ((Z15.out h).1.2.2.2.2.2.2.2.2.1) (by rw [HD.out]; decide)
      case g16 => exact fun h => absurd ((Z16.out h).1.2.2.2.2.2.2.2.2.2.1) (by rw [HD.out]; decide)
    · obtain rfl := Option.some.inj ho.symm
      have HD := Lib.hid hD
      have e6 := hdep ⟨6, .data⟩ (by simp) rfl
      have d6 := s6 e6
      obtain ⟨g6, d6⟩ := d6
      have e8 := hdep ⟨8, .data⟩ (by simp) rfl
      have d8 := s8 e8
      obtain ⟨g8, d8⟩ := d8
      have HCL := Lib.hid (show D 6 = true ∧ D 5 = true ∧ D 8 = true ∧ D 7 = true ∧ True from ⟨e6, g6.1, e8, g8.1, trivial⟩)
      obtain rfl := d6
      obtain rfl := d8
      refine wpOp_one rfl ?_
      have Z0 := Lib.hid s0
      have Z1 := Lib.hid s1
      have Z2 := Lib.hid s2
      have Z3 := Lib.hid s3
      have Z4 := Lib.hid s4
      have Z5 := Lib.hid s5
      have Z6 := Lib.hid s6
      have Z7 := Lib.hid s7
      have Z8 := Lib.hid s8
      have Z9 := Lib.hid s9
      have Z10 := Lib.hid s10
      have Z11 := Lib.hid s11
      have Z12 := Lib.hid s12
      have Z13 := Lib.hid s13
      have Z14 := Lib.hid s14
      have Z15 := Lib.hid s15
      have Z16 := Lib.hid s16
      clear hdep hi hD ho s0 s1 s2 s3 s4 s5 s6 s7 s8 s9 s10 s11 s12 s13 s14 s15 s16 e6 e8 g6 g8
      go_wp2_with fail
      refine (cmp_any _ _ _).mono ?_
      rintro e w9 ⟨rfl, rfl⟩
      go_wp2_with fail
      rw [HINV.out]
      refine ⟨_, _, _, _, _, _, _, _, _, _, _, _, _, _, _, _, _, rfl, hB, ?g0, ?g1, ?g2, ?g3, ?g4, ?g5, ?g6, ?g7, ?g8, ?g9, ?g10, ?g11, ?g12, ?g13, ?g14, ?g15, ?g16⟩
      case g0 => first | exact fun h => Z0.out h | exact fun _ => rfl | exact fun h => ⟨(Z0.out h).1, rfl⟩
      case g1 => first | exact fun h => Z1.out h | exact fun _ => rfl | exact fun h => ⟨(Z1.out h).1, rfl⟩
      case g2 => first | exact fun h => Z2.out h | exact fun _ => rfl | exact fun h => ⟨(Z2.out h).1, rfl⟩
      case g3 => first | exact fun h => Z3.out h | exact fun _ => rfl | exact fun h => ⟨(Z3.out h).1, rfl⟩
      case g4 => first | exact fun h => Z4.out h | exact fun _ => rfl | exact fun h => ⟨(Z4.out h).1, rfl⟩
      case g5 => first | exact fun h => Z5.out h | exact fun _ => rfl | exact fun h => ⟨(Z5.out h).1, rfl⟩
      case g6 => first | exact fun h => Z6.out h | exact fun _ => rfl | exact fun h => ⟨(Z6.out h).1, rfl⟩
      case g7 => first | exact fun h => Z7.out h | exact fun _ => rfl | exact fun h => ⟨(Z7.out h).1, rfl⟩
      case g8 => first | exact fun h => Z8.out h | exact fun _ => rfl | exact fun h => ⟨(Z8.out h).1, rfl⟩
      case g9 => exact fun _ => ⟨HCL.out, rfl⟩
      case g10 => first | exact fun h => Z10.out h | exact fun _ => rfl | exact fun h => ⟨(Z10.out h).1, rfl⟩
      case g11 => first | exact fun h => Z11.out h | exact fun _ => rfl | exact fun h => ⟨(Z11.out h).1, rfl⟩
      case g12 => first | exact fun h => Z12.out h | exact fun _ => rfl | exact fun h => ⟨(Z12.out h).1, rfl⟩
      case g13 => first | exact fun h => Z13.out h | exact fun _ => rfl | exact fun h => ⟨(Z13.out h).1, rfl⟩
      case g14 => first | exact fun h => Z14.out h | exact fun _ => rfl | exact fun h => ⟨(Z14.out h).1, rfl⟩
      case g15 => exact fun h => absurd ((Z15.out h).1.2.2.2.2.2.1) (by rw [HD.out]; decide)
      case g16 => exact fun h => absurd ((Z16.out h).1.2.2.2.2.2.2.1) (by rw [HD.out]; decide)
    · obtain rfl := Option.some.inj ho.symm
      have HD := Lib.hid hD
      refine wpOp_one rfl ?_
      have Z0 := Lib.hid s0
      have Z1 := Lib.hid s1
      have Z2 := Lib.hid s2
      have Z3 := Lib.hid s3
      have Z4 := Lib.hid s4
      have Z5 := Lib.hid s5
      have Z6 := Lib.hid s6
      have Z7 := Lib.hid s7
      have Z8 := Lib.hid s8
      have Z9 := Lib.hid s9
      have Z10 := Lib.hid s10
      have Z11 := Lib.hid s11
      have Z12 := Lib.hid s12
      have Z13 := Lib.hid s13
      have Z14 := Lib.hid s14
      have Z15 := Lib.hid s15
      have Z16 := Lib.hid s16
      clear hdep hi hD ho s0 s1 s2 s3 s4 s5 s6 s7 s8 s9 s10 s11 s12 s13 s14 s15 s16  
      go_wp2_with fail
      rw [HINV.out]
      refine ⟨_, _, _, _, _, _, _, _, _, _, _, _, _, _, _, _, _, rfl, hB, ?g0, ?g1, ?g2, ?g3, ?g4, ?g5, ?g6, ?g7, ?g8, ?g9, ?g10, ?g11, ?g12, ?g13, ?g14, ?g15, ?g16⟩
      case g0 => first | exact fun h => Z0.out h | exact fun _ => rfl | exact fun h => ⟨(Z0.out h).1, rfl⟩
      case g1 => first | exact fun h => Z1.out h | exact fun _ => rfl | exact fun h => ⟨(Z1.out h).1, rfl⟩
      case g2 => first | exact fun h => Z2.out h | exact fun _ => rfl | exact fun h => ⟨(Z2.out h).1, rfl⟩
      case g3 => first | exact fun h => Z3.out h | exact fun _ => rfl | exact fun h => ⟨(Z3.out h).1, rfl⟩
      case g4 => first | exact fun h => Z4.out h | exact fun _ => rfl | exact fun h => ⟨(Z4.out h).1, rfl⟩
      case g5 => first | exact fun h => Z5.out h | exact fun _ => rfl | exact fun h => ⟨(Z5.out h).1, rfl⟩
      case g6 => first | exact fun h => Z6.out h | exact fun _ => rfl | exact fun h => ⟨(Z6.out h).1, rfl⟩
      case g7 => first | exact fun h => Z7.out h | exact fun _ => rfl | exact fun h => ⟨(Z7.out h).1, rfl⟩
      case g8 => first | exact fun h => Z8.out h | exact fun _ => rfl | exact fun h => ⟨(Z8.out h).1, rfl⟩
      case g9 => first | exact fun h => Z9.out h | exact fun _ => rfl | exact fun h => ⟨(Z9.out h).1, rfl⟩
      case g10 => exact fun _ => rfl
      case g11 => exact fun h => absurd ((Z11.out h).1.1) (by rw [HD.out]; decide)
      case g12 => first | exact fun h => Z12.out h | exact fun _ => rfl | exact fun h => ⟨(Z12.out h).1, rfl⟩
      case g13 => first | exact fun h => Z13.out h | exact fun _ => rfl | exact fun h => ⟨(Z13.out h).1, rfl⟩
      case g14 => exact fun h => absurd ((Z14.out h).1.2.1) (by rw [HD.out]; decide)
      case g15 => exact fun h => absurd ((Z15.out h).1.2.2.2.2.2.2.2.2.2.2.2.2.1) (by rw [HD.out]; decide)
      case g16 => exact fun h => absurd ((Z16.out h).1.2.2.2.2.2.2.2.2.2.2.2.2.2.1) (by rw [HD.out]; decide)
    · obtain rfl := Option.some.inj ho.symm
      have HD := Lib.hid hD
      have e10 := hdep ⟨10, .data⟩ (by simp) rfl
      have d10 := s10 e10
      have HCL := Lib.hid (show D 10 = true ∧ True from ⟨e10, trivial⟩)
      obtain rfl := d10
      refine wpOp_one rfl ?_
      have Z0 := Lib.hid s0
      have Z1 := Lib.hid s1
      have Z2 := Lib.hid s2
      have Z3 := Lib.hid s3
      have Z4 := Lib.hid s4
      have Z5 := Lib.hid s5
      have Z6 := Lib.hid s6
      have Z7 := Lib.hid s7
      have Z8 := Lib.hid s8
      have Z9 := Lib.hid s9
      have Z10 := Lib.hid s10
      have Z11 := Lib.hid s11
      have Z12 := Lib.hid s12
      have Z13 := Lib.hid s13
      have Z14 := Lib.hid s14
      have Z15 := Lib.hid s15
      have Z16 := Lib.hid s16
      clear hdep hi hD ho s0 s1 s2 s3 s4 s5 s6 s7 s8 s9 s10 s11 s12 s13 s14 s15 s16 e10 
      go_wp2_with fail
      rw [HINV.out]
      refine ⟨_, _, _, _, _, _, _, _, _, _, _, _, _, _, _, _, _, rfl, hB, ?g0, ?g1, ?g2, ?g3, ?g4, ?g5, ?g6, ?g7, ?g8, ?g9, ?g10, ?g11, ?g12, ?g13, ?g14, ?g15, ?g16⟩
      case g0 => first | exact fun h => Z0.out h | exact fun _ => rfl | exact fun h => ⟨(Z0.out h).1, rfl⟩
      case g1 => first | exact fun h => Z1.out h | exact fun _ => rfl | exact fun h => ⟨(Z1.out h).1, rfl⟩
      case g2 => first | exact fun h => Z2.out h | exact fun _ => rfl | exact fun h => ⟨(Z2.out h).1, rfl⟩
      case g3 => first | exact fun h => Z3.out h | exact fun _ => rfl | exact fun h => ⟨(Z3.out h).1, rfl⟩
      case g4 => first | exact fun h => Z4.out h | exact fun _ => rfl | exact fun h => ⟨(Z4.out h).1, rfl⟩
      case g5 => first | exact fun h => Z5.out h | exact fun _ => rfl | exact fun h => ⟨(Z5.out h).1, rfl⟩
      case g6 => first | exact fun h => Z6.out h | exact fun _ => rfl | exact fun h => ⟨(Z6.out h).1, rfl⟩
      case g7 => first | exact fun h => Z7.out h | exact fun _ => rfl | exact fun h => ⟨(Z7.out h).1, rfl⟩
      case g8 => first | exact fun h => Z8.out h | exact fun _ => rfl | exact fun h => ⟨(Z8.out h).1, rfl⟩
      case g9 => first | exact fun h => Z9.out h | exact fun _ => rfl | exact fun h => ⟨(Z9.out h).1, rfl⟩
      case g10 => first | exact fun h => Z10.out h | exact fun _ => rfl | exact fun h => ⟨(Z10.out h).1, rfl⟩
      case g11 => exact fun _ => ⟨HCL.out, rfl⟩
      case g12 => first | exact fun h => Z12.out h | exact fun _ => rfl | exact fun h => ⟨(Z12.out h).1, rfl⟩
      case g13 => first | exact fun h => Z13.out h | exact fun _ => rfl | exact fun h => ⟨(Z13.out h).1, rfl⟩
      case g14 => exact fun h => absurd ((Z14.out h).1.1) (by rw [HD.out]; decide)
      case g15 => exact fun h => absurd ((Z15.out h).1.2.2.2.2.2.2.2.2.2.2.2.1) (by rw [HD.out]; decide)
      case g16 => exact fun h => absurd ((Z16.out h).1.2.2.2.2.2.2.2.2.2.2.2.2.1) (by rw [HD.out]; decide)
    · obtain rfl := Option.some.inj ho.symm
      have HD := Lib.hid hD
      refine wpOp_one rfl ?_
      have Z0 := Lib.hid s0
      have Z1 := Lib.hid s1
      have Z2 := Lib.hid s2
      have Z3 := Lib.hid s3
      have Z4 := Lib.hid s4
      have Z5 := Lib.hid s5
      have Z6 := Lib.hid s6
      have Z7 := Lib.hid s7
      have Z8 := Lib.hid s8
      have Z9 := Lib.hid s9
      have Z10 := Lib.hid s10
      have Z11 := Lib.hid s11
      have Z12 := Lib.hid s12
      have Z13 := Lib.hid s13
      have Z14 := Lib.hid s14
      have Z15 := Lib.hid s15
      have Z16 := Lib.hid s16
      clear hdep hi hD ho s0 s1 s2 s3 s4 s5 s6 s7 s8 s9 s10 s11 s12 s13 s14 s15 s16  
      go_wp2_with fail
      rw [HINV.out]
      refine ⟨_, _, _, _, _, _, _, _, _, _, _, _, _, _, _, _, _, rfl, hB, ?g0, ?g1, ?g2, ?g3, ?g4, ?g5, ?g6, ?g7, ?g8, ?g9, ?g10, ?g11, ?g12, ?g13, ?g14, ?g15, ?g16⟩
      case g0 => first | exact fun h => Z0.out h | exact fun _ => rfl | exact fun h => ⟨(Z0.out h).1, rfl⟩
      case g1 => first | exact fun h => Z1.out h | exact fun _ => rfl | exact fun h => ⟨(Z1.out h).1, rfl⟩
      case g2 => first | exact fun h => Z2.out h | exact fun _ => rfl | exact fun h => ⟨(Z2.out h).1, rfl⟩
      case g3 => first | exact fun h => Z3.out h | exact fun _ => rfl | exact fun h => ⟨(Z3.out h).1, rfl⟩
      case g4 => first | exact fun h => Z4.out h | exact fun _ => rfl | exact fun h => ⟨(Z4.out h).1, rfl⟩
      case g5 => first | exact fun h => Z5.out h | exact fun _ => rfl | exact fun h => ⟨(Z5.out h).1, rfl⟩
      case g6 => first | exact fun h => Z6.out h | exact fun _ => rfl | exact fun h => ⟨(Z6.out h).1, rfl⟩
      case g7 => first | exact fun h => Z7.out h | exact fun _ => rfl | exact fun h => ⟨(Z7.out h).1, rfl⟩
      case g8 => first | exact fun h => Z8.out h | exact fun _ => rfl | exact fun h => ⟨(Z8.out h).1, rfl⟩
      case g9 => first | exact fun h => Z9.out h | exact fun _ => rfl | exact fun h => ⟨(Z9.out h).1, rfl⟩
      case g10 => first | exact fun h => Z10.out h | exact fun _ => rfl | exact fun h => ⟨(Z10.out h).1, rfl⟩
      case g11 => first | exact fun h => Z11.out h | exact fun _ => rfl | exact fun h => ⟨(Z11.out h).1, rfl⟩
      case g12 => exact fun _ => rfl
      case g13 => exact fun h => absurd ((Z13.out h).1.1) (by rw [HD.out]; decide)
      case g14 => exact fun h => absurd ((Z14.out h).1.2.2.2.1) (by rw [HD.out]; decide)
      case g15 => exact fun h => absurd ((Z15.out h).1.2.2.2.2.2.2.2.2.2.2.2.2.2.2.1) (by rw [HD.out]; decide)
      case g16 => exact fun h => absurd ((Z16.out h).1.2.2.2.2.2.2.2.2.2.2.2.2.2.2.2.1) (by rw [HD.out]; decide)
    · obtain rfl := Option.some.inj ho.symm
      have HD := Lib.hid hD
      have e12 := hdep ⟨12, .data⟩ (by simp) rfl
      have d12 := s12 e12
      have HCL := Lib.hid (show D 12 = true ∧ True from ⟨e12, trivial⟩)
      obtain rfl := d12
      refine wpOp_one rfl ?_
      have Z0 := Lib.hid s0
      have Z1 := Lib.hid s1
      have Z2 := Lib.hid s2
      have Z3 := Lib.hid s3
      have Z4 := Lib.hid s4
      have Z5 := Lib.hid s5
      have Z6 := Lib.hid s6
      have Z7 := Lib.hid s7
      have Z8 := Lib.hid s8
      have Z9 := Lib.hid s9
      have Z10 := Lib.hid s10
      have Z11 := Lib.hid s11
      have Z12 := Lib.hid s12
      have Z13 := Lib.hid s13
      have Z14 := Lib.hid s14
      have Z15 := Lib.hid s15
      have Z16 := Lib.hid s16
      clear hdep hi hD ho s0 s1 s2 s3 s4 s5 s6 s7 s8 s9 s10 s11 s12 s13 s14 s15 s16 e12 
      go_wp2_with fail
      rw [HINV.out]
      refine ⟨_, _, _, _, _, _, _, _, _, _, _, _, _, _, _, _, _, rfl, hB, ?g0, ?g1, ?g2, ?g3, ?g4, ?g5, ?g6, ?g7, ?g8, ?g9, ?g10, ?g11, ?g12, ?g13, ?g14, ?g15, ?g16⟩
      case g0 => first | exact fun h => Z0.out h | exact fun _ => rfl | exact fun h => ⟨(Z0.out h).1, rfl⟩
      case g1 => first | exact fun h => Z1.out h | exact fun _ => rfl | exact fun h => ⟨(Z1.out h).1, rfl⟩
      case g2 => first | exact fun h => Z2.out h | exact fun _ => rfl | exact fun h => ⟨(Z2.out h).1, rfl⟩
      case g3 => first | exact fun h => Z3.out h | exact fun _ => rfl | exact fun h => ⟨(Z3.out h).1, rfl⟩
      case g4 => first | exact fun h => Z4.out h | exact fun _ => rfl | exact fun h => ⟨(Z4.out h).1, rfl⟩
      case g5 => first | exact fun h => Z5.out h | exact fun _ => rfl | exact fun h => ⟨(Z5.out h).1, rfl⟩
      case g6 => first | exact fun h => Z6.out h | exact fun _ => rfl | exact fun h => ⟨(Z6.out h).1, rfl⟩
      case g7 => first | exact fun h => Z7.out h | exact fun _ => rfl | exact fun h => ⟨(Z7.out h).1, rfl⟩
      case g8 => first | exact fun h => Z8.out h | exact fun _ => rfl | exact fun h => ⟨(Z8.out h).1, rfl⟩
      case g9 => first | exact fun h => Z9.out h | exact fun _ => rfl | exact fun h => ⟨(Z9.out h).1, rfl⟩
      case g10 => first | exact fun h => Z10.out h | exact fun _ => rfl | exact fun h => ⟨(Z10.out h).1, rfl⟩
      case g11 => first | exact fun h => Z11.out h | exact fun _ => rfl | exact fun h => ⟨(Z11.out h).1, rfl⟩
      case g12 => first | exact fun h => Z12.out h | exact fun _ => rfl | exact fun h => ⟨(Z12.out h).1, rfl⟩
      case g13 => exact fun _ => ⟨HCL.out, rfl⟩
      case g14 => exact fun h => absurd ((Z14.out h).1.2.2.1) (by rw [HD.out]; decide)
      case g15 => exact fun h => absurd ((Z15.out h).1.2.2.2.2.2.2.2.2.2.2.2.2.2.1) (by rw [HD.out]; decide)
      case g16 => exact fun h => absurd ((Z16.out h).1.2.2.2.2.2.2.2.2.2.2.2.2.2.2.1) (by rw [HD.out]; decide)
    · obtain rfl := Option.some.inj ho.symm
      have HD := Lib.hid hD
      have e11 := hdep ⟨11, .data⟩ (by simp) rfl
      have d11 := s11 e11
      obtain ⟨g11, d11⟩ := d11
      have e13 := hdep ⟨13, .data⟩ (by simp) rfl
      have d13 := s13 e13
      obtain ⟨g13, d13⟩ := d13
      have HCL := Lib.hid (show D 11 = true ∧ D 10 = true ∧ D 13 = true ∧ D 12 = true ∧ True from ⟨e11, g11.1, e13, g13.1, trivial⟩)
      obtain rfl := d11
      obtain rfl := d13
      have HC := Lib.hid (slicesCompare_any _ _ _ _ W (heard_ints (block_up hB HA.out) HIA.out) (heard_ints (block_up hB HB.out) HIB.out))
      refine wpOp_one rfl ?_
      have Z0 := Lib.hid s0
      have Z1 := Lib.hid s1
      have Z2 := Lib.hid s2
      have Z3 := Lib.hid s3
      have Z4 := Lib.hid s4
      have Z5 := Lib.hid s5
      have Z6 := Lib.hid s6
      have Z7 := Lib.hid s7
      have Z8 := Lib.hid s8
      have Z9 := Lib.hid s9
      have Z10 := Lib.hid s10
      have Z11 := Lib.hid s11
      have Z12 := Lib.hid s12
      have Z13 := Lib.hid s13
      have Z14 := Lib.hid s14
      have Z15 := Lib.hid s15
      have Z16 := Lib.hid s16
      clear hdep hi hD ho s0 s1 s2 s3 s4 s5 s6 s7 s8 s9 s10 s11 s12 s13 s14 s15 s16 e11 e13 g11 g13
      go_wp2_with fail
      refine HC.out.mono ?_
      rintro e w9 ⟨rfl, hb9⟩
      go_wp2_with fail
      rw [HINV.out]
      refine ⟨_, _, _, _, _, _, _, _, _, _, _, _, _, _, _, _, _, rfl, ext_trans hB hb9, ?g0, ?g1, ?g2, ?g3, ?g4, ?g5, ?g6, ?g7, ?g8, ?g9, ?g10, ?g11, ?g12, ?g13, ?g14, ?g15, ?g16⟩
      case g0 => first | exact fun h => Z0.out h | exact fun _ => rfl | exact fun h => ⟨(Z0.out h).1, rfl⟩
      case g1 => first | exact fun h => Z1.out h | exact fun _ => rfl | exact fun h => ⟨(Z1.out h).1, rfl⟩
      case g2 => first | exact fun h => Z2.out h | exact fun _ => rfl | exact fun h => ⟨(Z2.out h).1, rfl⟩
      case g3 => first | exact fun h => Z3.out h | exact fun _ => rfl | exact fun h => ⟨(Z3.out h).1, rfl⟩
      case g4 => first | exact fun h => Z4.out h | exact fun _ => rfl | exact fun h => ⟨(Z4.out h).1, rfl⟩
      case g5 => first | exact fun h => Z5.out h | exact fun _ => rfl | exact fun h => ⟨(Z5.out h).1, rfl⟩
      case g6 => first | exact fun h => Z6.out h | exact fun _ => rfl | exact fun h => ⟨(Z6.out h).1, rfl⟩
      case g7 => first | exact fun h => Z7.out h | exact fun _ => rfl | exact fun h => ⟨(Z7.out h).1, rfl⟩
      case g8 => first | exact fun h => Z8.out h | exact fun _ => rfl | exact fun h => ⟨(Z8.out h).1, rfl⟩
      case g9 => first | exact fun h => Z9.out h | exact fun _ => rfl | exact fun h => ⟨(Z9.out h).1, rfl⟩
      case g10 => first | exact fun h => Z10.out h | exact fun _ => rfl | exact fun h => ⟨(Z10.out h).1, rfl⟩
      case g11 => first | exact fun h => Z11.out h | exact fun _ => rfl | exact fun h => ⟨(Z11.out h).1, rfl⟩
      case g12 => first | exact fun h => Z12.out h | exact fun _ => rfl | exact fun h => ⟨(Z12.out h).1, rfl⟩
      case g13 => first | exact fun h => Z13.out h | exact fun _ => rfl | exact fun h => ⟨(Z13.out h).1, rfl⟩
      case g14 => exact fun _ => ⟨HCL.out, rfl⟩
      case g15 => exact fun h => absurd ((Z15.out h).1.2.2.2.2.2.2.2.2.2.2.1) (by rw [HD.out]; decide)
      case g16 => exact fun h => absurd ((Z16.out h).1.2.2.2.2.2.2.2.2.2.2.2.1) (by rw [HD.out]; decide)
    · obtain rfl := Option.some.inj ho.symm
      have HD := Lib.hid hD
      have e4 := hdep ⟨4, .data⟩ (by simp) rfl
      have d4 := s4 e4
      obtain ⟨g4, d4⟩ := d4
      have e9 := hdep ⟨9, .data⟩ (by simp) rfl
      have d9 := s9 e9
      obtain ⟨g9, d9⟩ := d9
      have e14 := hdep ⟨14, .data⟩ (by simp) rfl
      have d14 := s14 e14
      obtain ⟨g14, d14⟩ := d14
      have HCL := Lib.hid (show D 4 = true ∧ D 1 = true ∧ D 0 = true ∧ D 3 = true ∧ D 2 = true ∧ D 9 = true ∧ D 6 = true ∧ D 5 = true ∧ D 8 = true ∧ D 7 = true ∧ D 14 = true ∧ D 11 = true ∧ D 10 = true ∧ D 13 = true ∧ D 12 = true ∧ True from ⟨e4, g4.1, g4.2.1, g4.2.2.1, g4.2.2.2.1, e9, g9.1, g9.2.1, g9.2.2.1, g9.2.2.2.1, e14, g14.1, g14.2.1, g14.2.2.1, g14.2.2.2.1, trivial⟩)
      obtain rfl := d4
      obtain rfl := d9
      obtain rfl := d14
      refine wpOp_one rfl ?_
      have Z0 := Lib.hid s0
      have Z1 := Lib.hid s1
      have Z2 := Lib.hid s2
      have Z3 := Lib.hid s3
      have Z4 := Lib.hid s4
      have Z5 := Lib.hid s5
      have Z6 := Lib.hid s6
      have Z7 := Lib.hid s7
      have Z8 := Lib.hid s8
      have Z9 := Lib.hid s9
      have Z10 := Lib.hid s10
      have Z11 := Lib.hid s11
      have Z12 := Lib.hid s12
      have Z13 := Lib.hid s13
      have Z14 := Lib.hid s14
      have Z15 := Lib.hid s15
      have Z16 := Lib.hid s16
      clear hdep hi hD ho s0 s1 s2 s3 s4 s5 s6 s7 s8 s9 s10 s11 s12 s13 s14 s15 s16 e4 e9 e14 g4 g9 g14
      go_wp2_with fail
      rw [HINV.out]
      refine ⟨_, _, _, _, _, _, _, _, _, _, _, _, _, _, _, _, _, rfl, ext_trans hB (by go_grown), ?g0, ?g1, ?g2, ?g3, ?g4, ?g5, ?g6, ?g7, ?g8, ?g9, ?g10, ?g11, ?g12, ?g13, ?g14, ?g15, ?g16⟩
      case g0 => first | exact fun h => Z0.out h | exact fun _ => rfl | exact fun h => ⟨(Z0.out h).1, rfl⟩
      case g1 => first | exact fun h => Z1.out h | exact fun _ => rfl | exact fun h => ⟨(Z1.out h).1, rfl⟩
      case g2 => first | exact fun h => Z2.out h | exact fun _ => rfl | exact fun h => ⟨(Z2.out h).1, rfl⟩
      case g3 => first | exact fun h => Z3.out h | exact fun _ => rfl | exact fun h => ⟨(Z3.out h).1, rfl⟩
      case g4 => first | exact fun h => Z4.out h | exact fun _ => rfl | exact fun h => ⟨(Z4.out h).1, rfl⟩
      case g5 => first | exact fun h => Z5.out h | exact fun _ => rfl | exact fun h => ⟨(Z5.out h).1, rfl⟩
      case g6 => first | exact fun h => Z6.out h | exact fun _ => rfl | exact fun h => ⟨(Z6.out h).1, rfl⟩
      case g7 => first | exact fun h => Z7.out h | exact fun _ => rfl | exact fun h => ⟨(Z7.out h).1, rfl⟩
      case g8 => first | exact fun h => Z8.out h | exact fun _ => rfl | exact fun h => ⟨(Z8.out h).1, rfl⟩
      case g9 => first | exact fun h => Z9.out h | exact fun _ => rfl | exact fun h => ⟨(Z9.out h).1, rfl⟩
      case g10 => first | exact fun h => Z10.out h | exact fun _ => rfl | exact fun h => ⟨(Z10.out h).1, rfl⟩
      case g11 => first | exact fun h => Z11.out h | exact fun _ => rfl | exact fun h => ⟨(Z11.out h).1, rfl⟩
      case g12 => first | exact fun h => Z12.out h | exact fun _ => rfl | exact fun h => ⟨(Z12.out h).1, rfl⟩
      case g13 => first | exact fun h => Z13.out h | exact fun _ => rfl | exact fun h => ⟨(Z13.out h).1, rfl⟩
      case g14 => first | exact fun h => Z14.out h | exact fun _ => rfl | exact fun h => ⟨(Z14.out h).1, rfl⟩
      case g15 => exact fun _ => ⟨HCL.out, ⟨_, rfl, hB.size, alloc_new _ _⟩⟩
      case g16 => exact fun h => absurd ((Z16.out h).1.1) (by rw [HD.out]; decide)
    · obtain rfl := Option.some.inj ho.symm
      have HD := Lib.hid hD
      have e15 := hdep ⟨15, .data⟩ (by simp) rfl
      have d15 := s15 e15
      obtain ⟨g15, d15⟩ := d15
      have HCL := Lib.hid (show D 15 = true ∧ D 4 = true ∧ D 1 = true ∧ D 0 = true ∧ D 3 = true ∧ D 2 = true ∧ D 9 = true ∧ D 6 = true ∧ D 5 = true ∧ D 8 = true ∧ D 7 = true ∧ D 14 = true ∧ D 11 = true ∧ D 10 = true ∧ D 13 = true ∧ D 12 = true ∧ True from ⟨e15, g15.1, g15.2.1, g15.2.2.1, g15.2.2.2.1, g15.2.2.2.2.1, g15.2.2.2.2.2.1, g15.2.2.2.2.2.2.1, g15.2.2.2.2.2.2.2.1, g15.2.2.2.2.2.2.2.2.1, g15.2.2.2.2.2.2.2.2.2.1, g15.2.2.2.2.2.2.2.2.2.2.1, g15.2.2.2.2.2.2.2.2.2.2.2.1, g15.2.2.2.2.2.2.2.2.2.2.2.2.1, g15.2.2.2.2.2.2.2.2.2.2.2.2.2.1, g15.2.2.2.2.2.2.2.2.2.2.2.2.2.2.1, trivial⟩)
      obtain ⟨c0, rfl, h0, h1⟩ := d15
      have HC := Lib.hid (or_any _ _ W (ints3 h1 (cmpI_in _ _) (cmpI_in _ _) (ordV_in _ _)))
      refine wpOp_one rfl ?_
      have Z0 := Lib.hid s0
      have Z1 := Lib.hid s1
      have Z2 := Lib.hid s2
      have Z3 := Lib.hid s3
      have Z4 := Lib.hid s4
      have Z5 := Lib.hid s5
      have Z6 := Lib.hid s6
      have Z7 := Lib.hid s7
      have Z8 := Lib.hid s8
      have Z9 := Lib.hid s9
      have Z10 := Lib.hid s10
      have Z11 := Lib.hid s11
      have Z12 := Lib.hid s12
      have Z13 := Lib.hid s13
      have Z14 := Lib.hid s14
      have Z15 := Lib.hid s15
      have Z16 := Lib.hid s16
      clear hdep hi hD ho s0 s1 s2 s3 s4 s5 s6 s7 s8 s9 s10 s11 s12 s13 s14 s15 s16 e15 g15
      go_wp2_with fail
      refine HC.out.mono ?_
      rintro e w9 ⟨rfl, hb9⟩
      go_wp2_with fail
      rw [HINV.out]
      refine ⟨_, _, _, _, _, _, _, _, _, _, _, _, _, _, _, _, _, rfl, ext_trans hB hb9, ?g0, ?g1, ?g2, ?g3, ?g4, ?g5, ?g6, ?g7, ?g8, ?g9, ?g10, ?g11, ?g12, ?g13, ?g14, ?g15, ?g16⟩
      case g0 => first | exact fun h => Z0.out h | exact fun _ => rfl | exact fun h => ⟨(Z0.out h).1, rfl⟩
      case g1 => first | exact fun h => Z1.out h | exact fun _ => rfl | exact fun h => ⟨(Z1.out h).1, rfl⟩
      case g2 => first | exact fun h => Z2.out h | exact fun _ => rfl | exact fun h => ⟨(Z2.out h).1, rfl⟩
      case g3 => first | exact fun h => Z3.out h | exact fun _ => rfl | exact fun h => ⟨(Z3.out h).1, rfl⟩
      case g4 => first | exact fun h => Z4.out h | exact fun _ => rfl | exact fun h => ⟨(Z4.out h).1, rfl⟩
      case g5 => first | exact fun h => Z5.out h | exact fun _ => rfl | exact fun h => ⟨(Z5.out h).1, rfl⟩
      case g6 => first | exact fun h => Z6.out h | exact fun _ => rfl | exact fun h => ⟨(Z6.out h).1, rfl⟩
      case g7 => first | exact fun h => Z7.out h | exact fun _ => rfl | exact fun h => ⟨(Z7.out h).1, rfl⟩
      case g8 => first | exact fun h => Z8.out h | exact fun _ => rfl | exact fun h => ⟨(Z8.out h).1, rfl⟩
      case g9 => first | exact fun h => Z9.out h | exact fun _ => rfl | exact fun h => ⟨(Z9.out h).1, rfl⟩
      case g10 => first | exact fun h => Z10.out h | exact fun _ => rfl | exact fun h => ⟨(Z10.out h).1, rfl⟩
      case g11 => first | exact fun h => Z11.out h | exact fun _ => rfl | exact fun h => ⟨(Z11.out h).1, rfl⟩
      case g12 => first | exact fun h => Z12.out h | exact fun _ => rfl | exact fun h => ⟨(Z12.out h).1, rfl⟩
      case g13 => first | exact fun h => Z13.out h | exact fun _ => rfl | exact fun h => ⟨(Z13.out h).1, rfl⟩
      case g14 => first | exact fun h => Z14.out h | exact fun _ => rfl | exact fun h => ⟨(Z14.out h).1, rfl⟩
      case g15 => exact fun h => ⟨(Z15.out h).1, (Z15.out h).2.up hb9⟩
      case g16 => exact fun _ => ⟨HCL.out, rfl⟩
  case last =>
    intro D a W hall hI
    rw [HINV.out] at hI
    clear HINV
    obtain ⟨x5, x6, x7, x8, x9, x10, x11, x12, x13, x14, x15, x16, x17, x18, x19, x20, x21, rfl, hB, s0, s1, s2, s3, s4, s5, s6, s7, s8, s9, s10, s11, s12, s13, s14, s15, s16⟩ := hI
    have f0 := s0 (hall 0 (by omega))
    have f1 := (s1 (hall 1 (by omega))).2
    have f2 := s2 (hall 2 (by omega))
    have f3 := (s3 (hall 3 (by omega))).2
    have f4 := (s4 (hall 4 (by omega))).2
    have f5 := s5 (hall 5 (by omega))
    have f6 := (s6 (hall 6 (by omega))).2
    have f7 := s7 (hall 7 (by omega))
    have f8 := (s8 (hall 8 (by omega))).2
    have f9 := (s9 (hall 9 (by omega))).2
    have f10 := s10 (hall 10 (by omega))
    have f11 := (s11 (hall 11 (by omega))).2
    have f12 := s12 (hall 12 (by omega))
    have f13 := (s13 (hall 13 (by omega))).2
    have f14 := (s14 (hall 14 (by omega))).2
    have f15 := (s15 (hall 15 (by omega))).2
    have f16 := (s16 (hall 16 (by omega))).2
    clear hall s0 s1 s2 s3 s4 s5 s6 s7 s8 s9 s10 s11 s12 s13 s14 s15 s16
    obtain rfl := f16
    refine wpOp_one rfl ?_
    go_wp2_with fail
    go_ret
    exact ⟨rfl, hb1.trans (hB.mono hb1.size)⟩
end Go.Proofs.YtjmejfgkogjpaaaGreat

namespace Go.Proofs.YtjmejfgkogjpaaaGreat
open Go.RowKit Go Go.Shelf

theorem in_ext (W0 : World) (n lo hi : Int) (r : Bool) (h : inB n lo hi = r) (x : ExtW W0) :
    Calls Tryz.prog 35 #[.int .i64 n, .int .i64 lo, .int .i64 hi] x.val fun e w'' => e = .returned (.bool r) ∧ ∃ p : ExtW W0, w'' = p.val :=
  (in_any n lo hi x.val).mono fun e w' ⟨he, hw⟩ => ⟨by rw [he, h], x, hw.symm⟩

theorem inB_true {n lo hi : Int} (h : inB n lo hi = true) : lo ≤ n ∧ n ≤ hi := by
  unfold inB at h; simpa using h
theorem heard_drop {w : World} {b : Nat} {s : St} {t : TypeId} (h : w.heap[b]? = some (.cells s.c t)) (hi : s.In) (n : Nat) (hn : n ≤ 5) : IsInts w (.slice (some ⟨b, 2 + n, none⟩) (5 - n : Nat) (5 - n : Nat)) (s.heard.drop n) := by
  have hh := heard_ints h hi
  obtain ⟨a, cap, e, h1, h2, h3⟩ := hh
  have hl : (s.heard.drop n).length = 5 - n := by simp [St.heard]
  refine ⟨some ⟨b, 2 + n, none⟩, 5 - n, by rw [hl], ⟨by rw [hl]; omega, by omega, fun e => by cases e⟩, by rw [hl]; omega, fun i x hx => ?_⟩
  rw [List.getElem?_drop] at hx
  obtain ⟨b', off, ha, hr⟩ := h3 _ _ hx
  simp at e
  obtain ⟨e1, _⟩ := e
  rw [ha] at e1
  simp at e1
  obtain ⟨rfl, rfl⟩ := e1
  exact ⟨b, 2 + n, rfl, by rw [show 2 + n + i * 1 = 2 + (n + i) * 1 by omega]; exact hr⟩
theorem hear_cell' (s : St) (q : Nat) (hq : q < 5) (w : World) (B : Nat) (t : TypeId) (hw : w.heap[B]? = some (.cells s.c t)) : w.cell? ⟨B, 2 + q, none⟩ = some (.int .i64 (s.hear q)) := by
  have : q = 0 ∨ q = 1 ∨ q = 2 ∨ q = 3 ∨ q = 4 := by omega
  rcases this with h | h | h | h | h <;> subst h <;> simp [World.cell?, hw, St.hear]

theorem heard_from (s : St) (hs : s.In) (n : Nat) (hn : n ≤ 5) (b : Nat) : ∃ pa : Addr, (∀ w, (Instr.sliceAt 60 (.pointer (some ⟨b, 2, none⟩)) (some (.int .i64 n)) none none).run Tryz.prog w = .ok (.slice (some pa) (5 - n : Nat) (5 - n : Nat)) w) ∧
    ∀ (w : World) (t : TypeId), w.heap[b]? = some (.cells s.c t) → IsInts w (.slice (some pa) (5 - n : Nat) (5 - n : Nat)) (s.heard.drop n) := by
  by_cases h5 : n = 5
  · subst h5
    refine ⟨⟨b, 2, none⟩, fun w => ?_, fun w t h => ?_⟩
    · simp [go_sem]
    · refine ⟨some ⟨b, 2, none⟩, 0, by simp [St.heard], ⟨by simp [St.heard], by omega, fun e => by cases e⟩, by simp [St.heard], fun i x hx => by simp [St.heard] at hx⟩
  · refine ⟨⟨b, 2 + n, none⟩, fun w => ?_, fun w t h => heard_drop h hs n hn⟩
    have h6 : ¬ 5 = n := fun e => h5 e.symm
    have h7 : (n : Int) ≤ 5 := by omega
    simp [go_sem, hn, h6, h7, Addr.add]
theorem heard_to (n : Nat) (hn : n ≤ 5) (b : Nat) (w : World) : (Instr.sliceAt 60 (.pointer (some ⟨b, 2, none⟩)) none (some (.int .i64 n)) none).run Tryz.prog w = .ok (.slice (some ⟨b, 2, none⟩) n 5) w := by
  have h7 : (n : Int) ≤ 5 := by omega
  simp [go_sem, hn, h7, Addr.add]
theorem allM1_any (s : St) (hs : s.In) (n : Nat) (hn : n ≤ 5) (b : Nat) (t : TypeId) (w : World) (h : w.heap[b]? = some (.cells s.c t)) :
    Calls Tryz.prog 71 #[.slice (some ⟨b, 2 + n, none⟩) (5 - n : Nat) (5 - n : Nat), .int .i64 (-1), .int .i64 (-1)] w fun e w' => e = .returned (.bool (allB (s.heard.drop n) (-1) (-1))) ∧ Below w.heap.size w w' :=
  all_any _ _ _ _ _ (heard_drop h hs n hn)

set_option maxRecDepth 100000 in
set_option maxHeartbeats 4000000 in
theorem step_any (m : Mac) (vf vy vt vo : Value) (s : St) (hs : s.In) (w : World) (hn : 1 ≤ m.n ∧ m.n ≤ 5) (hr : 0 ≤ m.rounds ∧ m.rounds ≤ 6) (h1 : (m.out.length : Int) = m.rounds + 1) (h2 : ∀ k (hk : k < m.out.length), (m.out[k].length : Int) = m.n) (ho : IsV3 w vo m.out) :
    Calls Tryz.prog 39 #[.agg (macC m vf vy vt vo), s.v] w fun e w' => e = .returned (.int .i64 (stepE m s)) ∧ Below w.heap.size w w' := by
  obtain ⟨po, co, rfl, lo1, lo2, eo⟩ := ho.at
  clear ho
  have EO := Lib.hid eo; clear eo
  have H2 := Lib.hid h2; clear h2
  have HIS := Lib.hid hs; clear hs
  obtain ⟨hn1, hn2⟩ := hn
  obtain ⟨hr1, hr2⟩ := hr
  have HD : Hid (stepE m s = if headBad m s then 2 else if !allB (s.heard.drop m.n.toNat) (-1) (-1) then 3 else if anyLt m.n.toNat (hearBad m s) then 2 else 0) := by exact rfl
  have hb : Below w.heap.size w ((w.alloc (.cells (macC m vf vy vt (.slice po m.out.length co)) 35)).alloc (.cells s.c 95)) := by go_grown
  cases hA : inB s.rd 0 (m.rounds - 1) with
  | false =>
    have HB : Hid (headBad m s = true) := by (have h : headBad m s = true := by (unfold headBad; rw [hA]; rfl)); exact h
    go_enter Tryz.func39, Tryz.ntmps39
    go_wp2_with fail
    refine wp_gen (fun W => Below w.heap.size w W ∧ W.heap[w.heap.size]? = some (.cells (macC m vf vy vt (.slice po m.out.length co)) 35) ∧ W.heap[w.heap.size + 1]? = some (.cells s.c 95)) ⟨hb, alloc_old _ (alloc_new _ _), by simpa using alloc_new (w.alloc _) _⟩ (fun W0 hW0 => ?_)
    obtain ⟨hb0, hM, hS⟩ := hW0
    have HC1 := Lib.hid (in_ext W0 _ _ _ _ hA)
    have t1 : ∀ (x : ExtW W0) o, x.val.cell? ⟨w.heap.size, o, none⟩ = _ := fun x o => cell_block (block_up x.ext hM) o
    have t2 : ∀ (x : ExtW W0) o, x.val.cell? ⟨w.heap.size + 1, o, none⟩ = _ := fun x o => cell_block (block_up x.ext hS) o
    clear hA hM hS
    refine wp_region_quiet_ext (by kernel_rfl) (by kernel_rfl) ?_
    repeat (go_big_quiet_step ((go_at_call 35; exact HC1.out _)))
    refine wpQuiet_nil ?_
    intro _ hw'
    obtain ⟨xq, hw''⟩ := hw'
    subst hw''
    go_wp2_with fail
    go_ret
    exact ⟨ret_int (by rw [HD.out, HB.out]; rfl), ext_trans hb0 xq.ext⟩
  | true =>
    cases hP : inB s.pr 0 (m.n - 1) with
    | false =>
      have HB : Hid (headBad m s = true) := by (have h : headBad m s = true := by (unfold headBad; rw [hA, hP]; rfl)); exact h
      go_enter Tryz.func39, Tryz.ntmps39
      go_wp2_with fail
      refine wp_gen (fun W => Below w.heap.size w W ∧ W.heap[w.heap.size]? = some (.cells (macC m vf vy vt (.slice po m.out.length co)) 35) ∧ W.heap[w.heap.size + 1]? = some (.cells s.c 95)) ⟨hb, alloc_old _ (alloc_new _ _), by simpa using alloc_new (w.alloc _) _⟩ (fun W0 hW0 => ?_)
      obtain ⟨hb0, hM, hS⟩ := hW0
      have HC1 := Lib.hid (in_ext W0 _ _ _ _ hA)
      have HC2 := Lib.hid (in_ext W0 _ _ _ _ hP)
      have t1 : ∀ (x : ExtW W0) o, x.val.cell? ⟨w.heap.size, o, none⟩ = _ := fun x o => cell_block (block_up x.ext hM) o
      have t2 : ∀ (x : ExtW W0) o, x.val.cell? ⟨w.heap.size + 1, o, none⟩ = _ := fun x o => cell_block (block_up x.ext hS) o
      clear hA hP hM hS
      refine wp_region_quiet_ext (by kernel_rfl) (by kernel_rfl) ?_
      repeat (go_big_quiet_step ((go_at_call 35; first | with_reducible exact HC1.out _ | with_reducible exact HC2.out _)))
      refine wpQuiet_nil ?_
      intro _ hw'
      obtain ⟨xq, hw''⟩ := hw'
      subst hw''
      go_wp2_with fail
      go_ret
      exact ⟨ret_int (by rw [HD.out, HB.out]; rfl), ext_trans hb0 xq.ext⟩
    | true =>
      obtain ⟨hA1, hA2⟩ := inB_true hA
      obtain ⟨hP1, hP2⟩ := inB_true hP
      obtain ⟨srd, spr, sh0, sh1, sh2, sh3, sh4, sto⟩ := s
      dsimp only at hA hP hA1 hA2 hP1 hP2
      obtain ⟨r, rfl⟩ : ∃ r : Nat, srd = r := ⟨srd.toNat, by omega⟩
      obtain ⟨p, rfl⟩ : ∃ p : Nat, spr = p := ⟨spr.toNat, by omega⟩
      obtain ⟨q, HQ⟩ : ∃ q : Nat, Hid (q = r + 1) := ⟨r + 1, Lib.hid rfl⟩
      have hq : q < m.out.length := by have := HQ.out; omega
      have hrl : r < m.out.length := by omega
      obtain ⟨b1, o1, rfl, x, cx, hx⟩ := EO.out q hq
      obtain ⟨b1', o1', e1, z, cz, hz⟩ := EO.out r hrl
      obtain ⟨rfl, rfl⟩ : b1 = b1' ∧ o1 = o1' := by simpa using e1
      rw [Nat.mul_one] at cx cz
      have hlq : (m.out[q].length : Int) = m.n := H2.out q hq
      have hlr : (m.out[r].length : Int) = m.n := H2.out r hrl
      obtain ⟨px, qx, rfl, lx1, lx2, ex⟩ := hx.at
      obtain ⟨pz, qz, rfl, lz1, lz2, ez⟩ := hz.at
      clear hx hz e1
      have hpq : p < m.out[q].length := by omega
      have hpr : p < m.out[r].length := by omega
      obtain ⟨b2, o2, rfl, y, cy, hy⟩ := ex p hpq
      obtain ⟨b3, o3, rfl, u, cu, hu⟩ := ez p hpr
      rw [Nat.mul_one] at cy cu
      obtain ⟨py, qy, rfl, ly1, ly2, ey⟩ := hy.at
      obtain ⟨pu, qu, rfl, lu1, lu2, eu⟩ := hu.at
      clear hy hu ex ez ey eu
      have HO1 : Hid (outN m ((r : Int) + 1) p = (m.out[q][p].length : Int)) := by
        have h : outN m ((r : Int) + 1) p = (m.out[q][p].length : Int) := by
          have hQ := HQ.out
          subst hQ
          unfold outN
          rw [show ((r : Int) + 1).toNat = r + 1 by omega, show ((p : Nat) : Int).toNat = p by omega, getD_of_lt [] hq, getD_of_lt [] hpq]
        exact h
      have HO2 : Hid (outN m (r : Int) p = (m.out[r][p].length : Int)) := by
        have h : outN m (r : Int) p = (m.out[r][p].length : Int) := by
          unfold outN
          rw [show ((r : Nat) : Int).toNat = r by omega, show ((p : Nat) : Int).toNat = p by omega, getD_of_lt [] hrl, getD_of_lt [] hpr]
        exact h
      generalize m.out[q][p].length = ly at cy ly1 ly2 HO1
      generalize m.out[r][p].length = lu at cu lu1 lu2 HO2
      generalize m.out[q].length = lx at cx lx1 lx2 hlq hpq
      generalize m.out[r].length = lz at cz lz1 lz2 hlr hpr
      obtain ⟨nn, hnn⟩ : ∃ nn : Nat, m.n = nn := ⟨m.n.toNat, by omega⟩
      have HDA := Lib.hid (allM1_any (St.mk r p sh0 sh1 sh2 sh3 sh4 sto) HIS.out nn (by omega))
      have HNN := Lib.hid hnn
      have HLQ := Lib.hid hlq
      have HLR := Lib.hid hlr
      clear hnn hlq hlr
      go_enter Tryz.func39, Tryz.ntmps39
      go_wp2_with fail
      refine wp_gen (fun W => Below w.heap.size w W ∧ W.heap[w.heap.size]? = some (.cells (macC m vf vy vt (.slice (some ⟨b1, o1, none⟩) m.out.length co)) 35) ∧ W.heap[w.heap.size + 1]? = some (.cells (St.mk r p sh0 sh1 sh2 sh3 sh4 sto).c 95)) ⟨hb, alloc_old _ (alloc_new _ _), by simpa using alloc_new (w.alloc _) _⟩ (fun W0 hW0 => ?_)
      obtain ⟨hb0, hM, hS⟩ := hW0
      have HM := Lib.hid hM
      have HS := Lib.hid hS
      have HC1 := Lib.hid (in_ext W0 _ _ _ _ hA)
      have HC2 := Lib.hid (in_ext W0 _ _ _ _ hP)
      obtain ⟨tb, htb⟩ : ∃ tb, inB sto 0 ((ly : Int) - 1) = tb := ⟨_, rfl⟩
      have HC3 := Lib.hid (in_ext W0 _ _ _ _ htb)
      have HTB := Lib.hid htb; clear htb
      have t1 : ∀ (x : ExtW W0) o, x.val.cell? ⟨w.heap.size, o, none⟩ = _ := fun x o => cell_block (block_up x.ext hM) o
      have t2 : ∀ (x : ExtW W0) o, x.val.cell? ⟨w.heap.size + 1, o, none⟩ = _ := fun x o => cell_block (block_up x.ext hS) o
      have t3 : ∀ (x : ExtW W0), x.val.cell? ⟨b1, o1 + q, none⟩ = _ := fun x => x.cell (cell_up hb0 cx)
      have t4 : ∀ (x : ExtW W0), x.val.cell? ⟨b2, o2 + p, none⟩ = _ := fun x => x.cell (cell_up hb0 cy)
      have hw1 : IntKind.i64.wrap ((r : Int) + 1) = (q : Int) := by rw [HQ.out]; rw [IntWalk.i64_in _ (by omega)]; omega
      have HP := Lib.hid hP
      have HA := Lib.hid hA
      clear hA hP hM hS
      refine wp_region_quiet_ext (by kernel_rfl) (by kernel_rfl) ?_
      repeat (go_big_quiet_step ((go_at_call 35; first | with_reducible exact HC1.out _ | with_reducible exact HC2.out _ | with_reducible exact HC3.out _)))
      refine wpQuiet_nil ?_
      intro _ hw'
      obtain ⟨xq, hw''⟩ := hw'
      subst hw''
      clear t1 t2 t3 t4
      have hbq := ext_trans hb0 xq.ext
      cases tb with
      | false =>
        have HB : Hid (headBad m ⟨r, p, sh0, sh1, sh2, sh3, sh4, sto⟩ = true) := by (have h : headBad m ⟨r, p, sh0, sh1, sh2, sh3, sh4, sto⟩ = true := by (unfold headBad; dsimp only; rw [HA.out, HP.out, HO1.out, HTB.out]; rfl)); exact h
        go_wp2_with fail
        go_ret
        exact ⟨ret_int (by rw [HD.out, HB.out]; rfl), hbq⟩
      | true =>
        have HB : Hid (headBad m ⟨r, p, sh0, sh1, sh2, sh3, sh4, sto⟩ = false) := by (have h : headBad m ⟨r, p, sh0, sh1, sh2, sh3, sh4, sto⟩ = false := by (unfold headBad; dsimp only; rw [HA.out, HP.out, HO1.out, HTB.out]; rfl)); exact h
        have t1 := cell_block (block_up xq.ext HM.out)
        have t2 := cell_block (block_up xq.ext HS.out)
        have hnn := HNN.out
        have hn5 : nn ≤ 5 := by omega
        obtain ⟨pa, hsl, hpa⟩ := heard_from ⟨r, p, sh0, sh1, sh2, sh3, sh4, sto⟩ HIS.out nn hn5 (w.heap.size + 1)
        have HALL := Lib.hid (all_any _ _ (-1) (-1) xq.val (hpa _ _ (block_up xq.ext HS.out)))
        have hsm := heard_to nn hn5 (w.heap.size + 1)
        have HD2 : Hid (stepE m ⟨r, p, sh0, sh1, sh2, sh3, sh4, sto⟩ = if !allB (St.heard ⟨r, p, sh0, sh1, sh2, sh3, sh4, sto⟩ |>.drop nn) (-1) (-1) then 3 else if anyLt nn (hearBad m ⟨r, p, sh0, sh1, sh2, sh3, sh4, sto⟩) then 2 else 0) := by
          (have h : stepE m ⟨r, p, sh0, sh1, sh2, sh3, sh4, sto⟩ = if !allB (St.heard ⟨r, p, sh0, sh1, sh2, sh3, sh4, sto⟩ |>.drop nn) (-1) (-1) then 3 else if anyLt nn (hearBad m ⟨r, p, sh0, sh1, sh2, sh3, sh4, sto⟩) then 2 else 0 := by (rw [HD.out, HB.out, hnn]; rfl)); exact h
        generalize allB (St.heard ⟨r, p, sh0, sh1, sh2, sh3, sh4, sto⟩ |>.drop nn) (-1) (-1) = ab at HD2 HALL
        clear hpa HD HB HDA
        go_wp2_with fail
        refine HALL.out.mono ?_
        rintro e w1 ⟨rfl, hb1⟩
        have hbq1 := ext_trans hbq hb1
        cases ab with
        | false =>
          go_wp2_with fail
          go_ret
          exact ⟨ret_int (by rw [HD2.out]; rfl), hbq1⟩
        | true =>
          have HV : Hid (stepE m ⟨r, p, sh0, sh1, sh2, sh3, sh4, sto⟩ = if anyLt nn (hearBad m ⟨r, p, sh0, sh1, sh2, sh3, sh4, sto⟩) then 2 else 0) := HD2
          clear HD2 t1 t2 hsl
          have HM1 := Lib.hid (block_up (ext_trans xq.ext hb1) HM.out)
          have HS1 := Lib.hid (block_up (ext_trans xq.ext hb1) HS.out)
          have t1 := cell_block HM1.out
          have t2 := cell_block HS1.out
          have cz1 := cell_up hbq1 cz
          have cu1 := cell_up hbq1 cu
          have HCU := Lib.hid cu1
          clear cx cy cz cu cu1
          go_wp2_with fail
          go_loop [53] (fun i => ∃ k : Nat, k ≤ nn ∧ i = .int .i64 k ∧ ∀ j, j < k → hearBad m ⟨r, p, sh0, sh1, sh2, sh3, sh4, sto⟩ j = false) (fun i => nn - (intOf i).toNat)
          case atStart => exact ⟨0, by omega, rfl, by simp⟩
          case round =>
            obtain ⟨k, hk, rfl, hinv⟩ := hrel
            have H := Lib.hid hinv; clear hinv
            by_cases hlt : k < nn
            · have ck := hear_cell' ⟨r, p, sh0, sh1, sh2, sh3, sh4, sto⟩ k (by omega) w1 (w.heap.size + 1) _ HS1.out
              have HHB : Hid (hearBad m ⟨r, p, sh0, sh1, sh2, sh3, sh4, sto⟩ k = if (k : Int) = (p : Int) then !inB (St.hear ⟨r, p, sh0, sh1, sh2, sh3, sh4, sto⟩ k) 0 (outN m r k - 1) else !inB (St.hear ⟨r, p, sh0, sh1, sh2, sh3, sh4, sto⟩ k) (-1) 1048576) := by exact rfl
              generalize St.hear ⟨r, p, sh0, sh1, sh2, sh3, sh4, sto⟩ k = hv at ck HHB
              have hk5 : k < 5 := by omega
              have t20 := t2 0
              have t21 := t2 1
              simp at t20 t21
              clear t2
              by_cases hkp : k = p
              · subst hkp
                have HB1 : Hid (hearBad m ⟨r, k, sh0, sh1, sh2, sh3, sh4, sto⟩ k = !inB hv 0 ((lu : Int) - 1)) := by
                  (have h : hearBad m ⟨r, k, sh0, sh1, sh2, sh3, sh4, sto⟩ k = !inB hv 0 ((lu : Int) - 1) := by (rw [HHB.out, if_pos rfl, HO2.out])); exact h
                have cu1 := HCU.out
                clear HHB
                go_wp2_with fail
                refine (in_any _ _ _ _).mono ?_
                rintro e w2 ⟨rfl, rfl⟩
                generalize inB hv 0 ((lu : Int) - 1) = bb at HB1
                cases bb with
                | false =>
                  go_wp2_with fail
                  go_ret
                  exact ⟨ret_int (by rw [HV.out, anyLt_at hlt HB1.out]; rfl), hbq1⟩
                | true =>
                  go_wp2_with fail
                  go_round
                  case rel => exact ⟨k + 1, by omega, by go_num, below_succ H.out HB1.out⟩
                  case measure => simp [intOf]; omega
              · have hkp' : ¬ ((k : Int) = (p : Int)) := by omega
                have HB1 : Hid (hearBad m ⟨r, p, sh0, sh1, sh2, sh3, sh4, sto⟩ k = !inB hv (-1) 1048576) := by
                  (have h : hearBad m ⟨r, p, sh0, sh1, sh2, sh3, sh4, sto⟩ k = !inB hv (-1) 1048576 := by (rw [HHB.out, if_neg hkp'])); exact h
                clear HHB
                go_wp2_with fail
                refine (in_any _ _ _ _).mono ?_
                rintro e w2 ⟨rfl, rfl⟩
                generalize inB hv (-1) 1048576 = bb at HB1
                cases bb with
                | false =>
                  go_wp2_with fail
                  go_ret
                  exact ⟨ret_int (by rw [HV.out, anyLt_at hlt HB1.out]; rfl), hbq1⟩
                | true =>
                  go_wp2_with fail
                  go_round
                  case rel => exact ⟨k + 1, by omega, by go_num, below_succ H.out HB1.out⟩
                  case measure => simp [intOf]; omega
            · obtain rfl : k = nn := by omega
              go_wp2_with fail
              go_ret
              exact ⟨ret_int (by rw [HV.out, anyLt_none H.out]; rfl), hbq1⟩
end Go.Proofs.YtjmejfgkogjpaaaGreat
