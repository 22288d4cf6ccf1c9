/-
  Parts of the proof, in order. Contracts of the law's graph and example. No conditions.
-/
import Derived.Test.YtjmejfgkogjpaaaGreatJ7
namespace Go.Proofs.YtjmejfgkogjpaaaGreat
open Go.RowKit Go Go.Shelf

set_option maxHeartbeats 400000 in
theorem lgraph_any (a b : Int) (w : World) :
    Calls Tryz.prog 17 #[.int .i64 a, .int .i64 b] w fun e w' => e = .returned (.agg #[.int .i64 2, .int .i64 a, .int .i64 b, .int .i64 0, .int .i64 0, .int .i64 0, .int .i64 0]) ∧ Below w.heap.size w w' := by
  go_enter Tryz.func17, Tryz.ntmps17
  go_wp2
  refine bodyPost_ret (v := .agg #[.int .i64 2, .int .i64 a, .int .i64 b, .int .i64 0, .int .i64 0, .int .i64 0, .int .i64 0]) (by simp [results, Tryz.results17, go_sem]) rfl ?_
  exact ⟨rfl, by go_grown⟩

def exG (a b : Int) : Rd := ⟨⟨2, a, b, 0, 0, 0⟩, 0⟩
/-- the problem of the chapter -/
def exP : Pb := ⟨⟨2, 2, 2, [⟨[0, 0], [[0, 0]], []⟩, ⟨[0, 1], [[0, 0], [1, 1]], []⟩, ⟨[1, 0], [[0, 0], [1, 1]], []⟩, ⟨[1, 1], [[1, 1]], []⟩]⟩, ⟨2, [[⟨exG 1 3, 0⟩, ⟨exG 3 3, 0⟩]]⟩, 1⟩

theorem isSl_of {α : Type} {k : Nat} {R : World → Nat → Nat → α → Prop} {w : World} {b off cap : Nat} {l : List α} (h1 : l.length ≤ cap) (h2 : cap ≤ 1024) (h : ∀ i x, l[i]? = some x → R w b (off + i * k) x) : IsSl k R w (.slice (some ⟨b, off, none⟩) l.length cap) l :=
  ⟨_, cap, rfl, ⟨h1, by omega, fun e => by cases e⟩, by omega, fun i x hx => ⟨b, off, rfl, h i x hx⟩⟩
theorem isSl_nil {α : Type} {k : Nat} {R : World → Nat → Nat → α → Prop} {w : World} : IsSl k R w (.slice none 0 0) [] :=
  ⟨none, 0, rfl, ⟨by simp, by omega, fun _ => rfl⟩, by simp, fun i x hx => by simp at hx⟩
theorem ints2 {w : World} {b : Nat} {x y : Int} {t : TypeId} (h : w.heap[b]? = some (.cells #[.int .i64 x, .int .i64 y] t)) (hx : InR x) (hy : InR y) : IsInts w (.slice (some ⟨b, 0, none⟩) 2 2) [x, y] :=
  isSl_of (l := [x, y]) (by simp) (by omega) fun i v hv => by
    match i, hv with
    | 0, hv => cases hv; exact ⟨by rw [cell_block h]; rfl, hx⟩
    | 1, hv => cases hv; exact ⟨by rw [cell_block h]; rfl, hy⟩
theorem inR_small {x : Int} (h1 : -100 ≤ x) (h2 : x ≤ 100) : InR x := ⟨by omega, by omega⟩
theorem ex_cases {w : World} {a1 a2 a3 c6 c10 c13 c16 c20 : Nat} (h1 : w.heap[a1]? = some (.cells #[.int .i64 0, .int .i64 0] 3)) (h2 : w.heap[a2]? = some (.cells #[.int .i64 1, .int .i64 1] 3))
    (h3 : w.heap[a3]? = some (.cells #[.slice (some ⟨a1, 0, none⟩) 2 2, .slice (some ⟨a2, 0, none⟩) 2 2] 36)) (h6 : w.heap[c6]? = some (.cells #[.int .i64 0, .int .i64 0] 3)) (h10 : w.heap[c10]? = some (.cells #[.int .i64 0, .int .i64 1] 3)) (h13 : w.heap[c13]? = some (.cells #[.int .i64 1, .int .i64 0] 3)) (h16 : w.heap[c16]? = some (.cells #[.int .i64 1, .int .i64 1] 3))
    (h20 : w.heap[c20]? = some (.cells #[.slice (some ⟨c6, 0, none⟩) 2 2, .slice (some ⟨a3, 0, none⟩) 1 2, .slice none 0 0, .slice (some ⟨c10, 0, none⟩) 2 2, .slice (some ⟨a3, 0, none⟩) 2 2, .slice none 0 0, .slice (some ⟨c13, 0, none⟩) 2 2, .slice (some ⟨a3, 0, none⟩) 2 2, .slice none 0 0, .slice (some ⟨c16, 0, none⟩) 2 2, .slice (some ⟨a3, 1, none⟩) 1 1, .slice none 0 0] 83)) :
    IsCases w (.slice (some ⟨c20, 0, none⟩) 4 4) exP.t.cases := by
  have z : InR 0 := inR_small (by omega) (by omega)
  have o : InR 1 := inR_small (by omega) (by omega)
  have i1 := ints2 h1 z z
  have i2 := ints2 h2 o o
  have va : IntsAt w a3 0 [0, 0] := ⟨_, by rw [cell_block h3]; rfl, i1⟩
  have vb : IntsAt w a3 1 [1, 1] := ⟨_, by rw [cell_block h3]; rfl, i2⟩
  have w1 : IsVecs w (.slice (some ⟨a3, 0, none⟩) 1 2) [[0, 0]] := isSl_of (l := [[0, 0]]) (by simp) (by omega) fun i v hv => by
    match i, hv with
    | 0, hv => cases hv; exact va
  have w2 : IsVecs w (.slice (some ⟨a3, 1, none⟩) 1 1) [[1, 1]] := isSl_of (l := [[1, 1]]) (by simp) (by omega) fun i v hv => by
    match i, hv with
    | 0, hv => cases hv; exact vb
  have w3 : IsVecs w (.slice (some ⟨a3, 0, none⟩) 2 2) [[0, 0], [1, 1]] := isSl_of (l := [[0, 0], [1, 1]]) (by simp) (by omega) fun i v hv => by
    match i, hv with
    | 0, hv => cases hv; exact va
    | 1, hv => cases hv; exact vb
  have nl : IsVecs w (.slice none 0 0) [] := isSl_nil
  refine isSl_of (l := exP.t.cases) (by simp [exP]) (by omega) fun i v hv => ?_
  match i, hv with
  | 0, hv => cases hv; exact ⟨⟨_, by rw [cell_block h20]; rfl, ints2 h6 z z⟩, ⟨_, by rw [cell_block h20]; rfl, w1⟩, ⟨_, by rw [cell_block h20]; rfl, nl⟩⟩
  | 1, hv => cases hv; exact ⟨⟨_, by rw [cell_block h20]; rfl, ints2 h10 z o⟩, ⟨_, by rw [cell_block h20]; rfl, w3⟩, ⟨_, by rw [cell_block h20]; rfl, nl⟩⟩
  | 2, hv => cases hv; exact ⟨⟨_, by rw [cell_block h20]; rfl, ints2 h13 o z⟩, ⟨_, by rw [cell_block h20]; rfl, w3⟩, ⟨_, by rw [cell_block h20]; rfl, nl⟩⟩
  | 3, hv => cases hv; exact ⟨⟨_, by rw [cell_block h20]; rfl, ints2 h16 o o⟩, ⟨_, by rw [cell_block h20]; rfl, w2⟩, ⟨_, by rw [cell_block h20]; rfl, nl⟩⟩
theorem round_at {w : World} {b o : Nat} {cs : Array Value} {t : TypeId} (h : w.heap[b]? = some (.cells cs t)) (x y : Int) (hx : InR x) (hy : InR y) (h0 : cs[o]? = some (.int .i64 2)) (h1 : cs[o + 1]? = some (.int .i64 x)) (h2 : cs[o + 2]? = some (.int .i64 y)) (h3 : cs[o + 3]? = some (.int .i64 0)) (h4 : cs[o + 4]? = some (.int .i64 0)) (h5 : cs[o + 5]? = some (.int .i64 0)) (h6 : cs[o + 6]? = some (.int .i64 0)) : RoundAt w b o (exG x y) := by
  have z : InR 0 := inR_small (by omega) (by omega)
  have tw : InR 2 := inR_small (by omega) (by omega)
  exact ⟨⟨(cell_block h _).trans h0, tw⟩, ⟨(cell_block h _).trans h1, hx⟩, ⟨(cell_block h _).trans h2, hy⟩, ⟨(cell_block h _).trans h3, z⟩, ⟨(cell_block h _).trans h4, z⟩, ⟨(cell_block h _).trans h5, z⟩, ⟨(cell_block h _).trans h6, z⟩⟩
theorem ex_states {w : World} {c27 c28 : Nat} (h27 : w.heap[c27]? = some (.cells #[.int .i64 2, .int .i64 1, .int .i64 3, .int .i64 0, .int .i64 0, .int .i64 0, .int .i64 0, .int .i64 0, .int .i64 2, .int .i64 3, .int .i64 3, .int .i64 0, .int .i64 0, .int .i64 0, .int .i64 0, .int .i64 0] 89)) (h28 : w.heap[c28]? = some (.cells #[.slice (some ⟨c27, 0, none⟩) 2 2] 90)) :
    IsStates w (.slice (some ⟨c28, 0, none⟩) 1 1) exP.a.states := by
  have z : InR 0 := inR_small (by omega) (by omega)
  have mo : IsMoves w (.slice (some ⟨c27, 0, none⟩) 2 2) [⟨exG 1 3, 0⟩, ⟨exG 3 3, 0⟩] := isSl_of (l := [(⟨exG 1 3, 0⟩ : Mv), ⟨exG 3 3, 0⟩]) (by simp) (by omega) fun i v hv => by
    match i, hv with
    | 0, hv => cases hv; exact ⟨round_at h27 1 3 (inR_small (by omega) (by omega)) (inR_small (by omega) (by omega)) rfl rfl rfl rfl rfl rfl rfl, (cell_block h27 _).trans rfl, z⟩
    | 1, hv => cases hv; exact ⟨round_at h27 3 3 (inR_small (by omega) (by omega)) (inR_small (by omega) (by omega)) rfl rfl rfl rfl rfl rfl rfl, (cell_block h27 _).trans rfl, z⟩
  refine isSl_of (l := exP.a.states) (by simp [exP]) (by omega) fun i v hv => ?_
  match i, hv with
  | 0, hv => cases hv; exact ⟨_, (cell_block h28 _).trans rfl, mo⟩

set_option maxRecDepth 100000 in
set_option maxHeartbeats 8000000 in
theorem lexample_any (w : World) :
    Calls Tryz.prog 16 #[] w fun e w' => ∃ vc vs, e = .returned (pbV exP vc vs) ∧ IsCases w' vc exP.t.cases ∧ IsStates w' vs exP.a.states ∧ Below w.heap.size w w' := by
  go_enter Tryz.func16, Tryz.ntmps16
  go_wp2
  refine wp_gen (fun W1 => Below w.heap.size w W1 ∧ W1.heap[w.heap.size]? = some (.cells #[.int .i64 0, .int .i64 0, .int .i64 0, .slice none 0 0, .int .i64 0, .slice none 0 0, .int .i64 0] 29) ∧ W1.heap[w.heap.size + 1]? = some (.cells #[.int .i64 0, .int .i64 0] 3) ∧ W1.heap[w.heap.size + 1 + 1]? = some (.cells #[.int .i64 1, .int .i64 1] 3) ∧ W1.heap[w.heap.size + 1 + 1 + 1]? = some (.cells #[.slice (some ⟨w.heap.size + 1, 0, none⟩) 2 2, .slice (some ⟨w.heap.size + 1 + 1, 0, none⟩) 2 2] 36))
    ⟨by go_grown, alloc_old _ (alloc_old _ (alloc_old _ (alloc_new _ _))), alloc_old _ (alloc_old _ (by simpa using alloc_new (w.alloc _) _)), alloc_old _ (by simpa using alloc_new ((w.alloc _).alloc _) _), by simpa using alloc_new (((w.alloc _).alloc _).alloc _) _⟩ (fun W1 hW1 => ?_)
  obtain ⟨hb1, hR, hA1, hA2, hA3⟩ := hW1
  have HR := Lib.hid hR
  have HA1 := Lib.hid hA1
  have HA2 := Lib.hid hA2
  have HA3 := Lib.hid hA3
  clear hR hA1 hA2 hA3
  obtain ⟨Inv, hInv⟩ : ∃ Inv : (Nat → Bool) → Act → World → Prop, Inv = fun D a W => ∃ x6 x7 x8 x9 x10 x11 x12 x13 x14 x15 x16 x17 x18 x19 x20 x21 x2 : Value, a = { tmps := #[.pointer (some ⟨w.heap.size, 0, none⟩), .slice (some ⟨w.heap.size + 1 + 1 + 1, 0, none⟩) 2 2, x2, .slice (some ⟨w.heap.size + 1, 0, none⟩) 2 2, .slice (some ⟨w.heap.size + 1 + 1, 0, none⟩) 2 2, .slice (some ⟨w.heap.size + 1 + 1 + 1, 0, none⟩) 2 2, x6, x7, x8, x9, x10, x11, x12, x13, x14, x15, x16, x17, x18, x19, x20, x21, undef, undef, undef, undef, undef, undef, undef, undef, undef], defers := [] } ∧ Below W1.heap.size W1 W ∧ (D 0 = true → NewSl W1.heap.size 2 #[.int .i64 0, .int .i64 0] 3 x6 W) ∧ (D 1 = true → x7 = .slice (some ⟨w.heap.size + 1 + 1 + 1, 0, none⟩) 2 2) ∧ (D 2 = true → (D 1 = true ∧ True) ∧ x8 = .slice (some ⟨w.heap.size + 1 + 1 + 1, 0, none⟩) 1 2) ∧ (D 3 = true → (D 0 = true ∧ D 2 = true ∧ D 1 = true ∧ True) ∧ x9 = .agg #[x6, x8, .slice none 0 0] ∧ (∃ b, x6 = .slice (some ⟨b, 0, none⟩) 2 2) ∧ x8 = .slice (some ⟨w.heap.size + 1 + 1 + 1, 0, none⟩) 1 2) ∧ (D 4 = true → NewSl W1.heap.size 2 #[.int .i64 0, .int .i64 1] 3 x10 W) ∧ (D 5 = true → x11 = .slice (some ⟨w.heap.size + 1 + 1 + 1, 0, none⟩) 2 2) ∧ (D 6 = true → (D 4 = true ∧ D 5 = true ∧ True) ∧ x12 = .agg #[x10, x11, .slice none 0 0] ∧ (∃ b, x10 = .slice (some ⟨b, 0, none⟩) 2 2) ∧ x11 = .slice (some ⟨w.heap.size + 1 + 1 + 1, 0, none⟩) 2 2) ∧ (D 7 = true → NewSl W1.heap.size 2 #[.int .i64 1, .int .i64 0] 3 x13 W) ∧ (D 8 = true → x14 = .slice (some ⟨w.heap.size + 1 + 1 + 1, 0, none⟩) 2 2) ∧ (D 9 = true → (D 7 = true ∧ D 8 = true ∧ True) ∧ x15 = .agg #[x13, x14, .slice none 0 0] ∧ (∃ b, x13 = .slice (some ⟨b, 0, none⟩) 2 2) ∧ x14 = .slice (some ⟨w.heap.size + 1 + 1 + 1, 0, none⟩) 2 2) ∧ (D 10 = true → NewSl W1.heap.size 2 #[.int .i64 1, .int .i64 1] 3 x16 W) ∧ (D 11 = true → x17 = .slice (some ⟨w.heap.size + 1 + 1 + 1, 0, none⟩) 2 2) ∧ (D 12 = true → (D 11 = true ∧ True) ∧ x18 = .slice (some ⟨w.heap.size + 1 + 1 + 1, 1, none⟩) 1 1) ∧ (D 13 = true → (D 10 = true ∧ D 12 = true ∧ D 11 = true ∧ True) ∧ x19 = .agg #[x16, x18, .slice none 0 0] ∧ (∃ b, x16 = .slice (some ⟨b, 0, none⟩) 2 2) ∧ x18 = .slice (some ⟨w.heap.size + 1 + 1 + 1, 1, none⟩) 1 1) ∧ (D 14 = true → (D 3 = true ∧ D 0 = true ∧ D 2 = true ∧ D 1 = true ∧ D 6 = true ∧ D 4 = true ∧ D 5 = true ∧ D 9 = true ∧ D 7 = true ∧ D 8 = true ∧ D 13 = true ∧ D 10 = true ∧ D 12 = true ∧ D 11 = true ∧ True) ∧ NewSl W1.heap.size 4 #[x6, x8, .slice none 0 0, x10, x11, .slice none 0 0, x13, x14, .slice none 0 0, x16, x18, .slice none 0 0] 83 x20 W) ∧ (D 15 = true → (D 14 = true ∧ D 3 = true ∧ D 0 = true ∧ D 2 = true ∧ D 1 = true ∧ D 6 = true ∧ D 4 = true ∧ D 5 = true ∧ D 9 = true ∧ D 7 = true ∧ D 8 = true ∧ D 13 = true ∧ D 10 = true ∧ D 12 = true ∧ D 11 = true ∧ True) ∧ x21 = .agg #[.int .i64 2, .int .i64 2, .int .i64 2, x20]) ∧ (D 16 = true → NewBox W1.heap.size #[.int .i64 0, .int .i64 0, .int .i64 0, .slice none 0 0] 24 x2 W) := ⟨_, rfl⟩
  have HINV := Lib.hid hInv; clear hInv
  refine wp_region_grow 17 (by kernel_rfl) rfl (by kernel_rfl) Inv (by rw [HINV.out]; exact ⟨_, _, _, _, _, _, _, _, _, _, _, _, _, _, _, _, _, rfl, (Below.refl _ _).drew, nofun, nofun, nofun, nofun, nofun, nofun, nofun, nofun, nofun, nofun, nofun, nofun, nofun, nofun, nofun, nofun, nofun⟩) ?step ?last
  case step =>
    intro D a W i o hi ho hD hdep hI
    rw [HINV.out] at hI
    obtain ⟨x6, x7, x8, x9, x10, x11, x12, x13, x14, x15, x16, x17, x18, x19, x20, x21, x2, rfl, hB, s0, s1, s2, s3, s4, s5, s6, s7, s8, s9, s10, s11, s12, s13, s14, s15, s16⟩ := hI
    have hcase : i = 0 ∨ i = 1 ∨ i = 2 ∨ i = 3 ∨ i = 4 ∨ i = 5 ∨ i = 6 ∨ i = 7 ∨ i = 8 ∨ i = 9 ∨ i = 10 ∨ i = 11 ∨ i = 12 ∨ i = 13 ∨ i = 14 ∨ i = 15 ∨ i = 16 := by omega
    rcases hcase with rfl | rfl | rfl | rfl | rfl | rfl | rfl | rfl | rfl | rfl | rfl | rfl | rfl | rfl | rfl | rfl | rfl
    · obtain rfl := Option.some.inj ho.symm
      have HD := Lib.hid hD
      refine wpOp_one rfl ?_
      have Z0 := Lib.hid s0
      have Z1 := Lib.hid s1
      have Z2 := Lib.hid s2
      have Z3 := Lib.hid s3
      have Z4 := Lib.hid s4
      have Z5 := Lib.hid s5
      have Z6 := Lib.hid s6
      have Z7 := Lib.hid s7
      have Z8 := Lib.hid s8
      have Z9 := Lib.hid s9
      have Z10 := Lib.hid s10
      have Z11 := Lib.hid s11
      have Z12 := Lib.hid s12
      have Z13 := Lib.hid s13
      have Z14 := Lib.hid s14
      have Z15 := Lib.hid s15
      have Z16 := Lib.hid s16
      clear hdep hi hD ho s0 s1 s2 s3 s4 s5 s6 s7 s8 s9 s10 s11 s12 s13 s14 s15 s16  
      go_wp2_with fail
      rw [HINV.out]
      refine ⟨_, _, _, _, _, _, _, _, _, _, _, _, _, _, _, _, _, rfl, ext_trans hB (by go_grown), ?g0, ?g1, ?g2, ?g3, ?g4, ?g5, ?g6, ?g7, ?g8, ?g9, ?g10, ?g11, ?g12, ?g13, ?g14, ?g15, ?g16⟩
      case g0 => exact fun _ => ⟨_, rfl, hB.size, alloc_new _ _⟩
      case g1 => first | exact fun h => Z1.out h | exact fun _ => rfl | exact fun h => ⟨(Z1.out h).1, rfl⟩
      case g2 => first | exact fun h => Z2.out h | exact fun _ => rfl | exact fun h => ⟨(Z2.out h).1, rfl⟩
      case g3 => exact fun h => absurd ((Z3.out h).1.1) (by rw [HD.out]; decide)
      case g4 => exact fun h => (Z4.out h).up (by go_grown)
      case g5 => first | exact fun h => Z5.out h | exact fun _ => rfl | exact fun h => ⟨(Z5.out h).1, rfl⟩
      case g6 => first | exact fun h => Z6.out h | exact fun _ => rfl | exact fun h => ⟨(Z6.out h).1, ⟨rfl, ⟨_, rfl⟩, rfl⟩⟩
      case g7 => exact fun h => (Z7.out h).up (by go_grown)
      case g8 => first | exact fun h => Z8.out h | exact fun _ => rfl | exact fun h => ⟨(Z8.out h).1, rfl⟩
      case g9 => first | exact fun h => Z9.out h | exact fun _ => rfl | exact fun h => ⟨(Z9.out h).1, ⟨rfl, ⟨_, rfl⟩, rfl⟩⟩
      case g10 => exact fun h => (Z10.out h).up (by go_grown)
      case g11 => first | exact fun h => Z11.out h | exact fun _ => rfl | exact fun h => ⟨(Z11.out h).1, rfl⟩
      case g12 => first | exact fun h => Z12.out h | exact fun _ => rfl | exact fun h => ⟨(Z12.out h).1, rfl⟩
      case g13 => first | exact fun h => Z13.out h | exact fun _ => rfl | exact fun h => ⟨(Z13.out h).1, ⟨rfl, ⟨_, rfl⟩, rfl⟩⟩
      case g14 => exact fun h => absurd ((Z14.out h).1.2.1) (by rw [HD.out]; decide)
      case g15 => exact fun h => absurd ((Z15.out h).1.2.2.1) (by rw [HD.out]; decide)
      case g16 => exact fun h => (Z16.out h).up (by go_grown)
    · obtain rfl := Option.some.inj ho.symm
      have HD := Lib.hid hD
      refine wpOp_one rfl ?_
      have Z0 := Lib.hid s0
      have Z1 := Lib.hid s1
      have Z2 := Lib.hid s2
      have Z3 := Lib.hid s3
      have Z4 := Lib.hid s4
      have Z5 := Lib.hid s5
      have Z6 := Lib.hid s6
      have Z7 := Lib.hid s7
      have Z8 := Lib.hid s8
      have Z9 := Lib.hid s9
      have Z10 := Lib.hid s10
      have Z11 := Lib.hid s11
      have Z12 := Lib.hid s12
      have Z13 := Lib.hid s13
      have Z14 := Lib.hid s14
      have Z15 := Lib.hid s15
      have Z16 := Lib.hid s16
      clear hdep hi hD ho s0 s1 s2 s3 s4 s5 s6 s7 s8 s9 s10 s11 s12 s13 s14 s15 s16  
      go_wp2_with fail
      rw [HINV.out]
      refine ⟨_, _, _, _, _, _, _, _, _, _, _, _, _, _, _, _, _, rfl, hB, ?g0, ?g1, ?g2, ?g3, ?g4, ?g5, ?g6, ?g7, ?g8, ?g9, ?g10, ?g11, ?g12, ?g13, ?g14, ?g15, ?g16⟩
      case g0 => exact fun h => Z0.out h
      case g1 => exact fun _ => rfl
      case g2 => exact fun h => absurd ((Z2.out h).1.1) (by rw [HD.out]; decide)
      case g3 => exact fun h => absurd ((Z3.out h).1.2.2.1) (by rw [HD.out]; decide)
      case g4 => exact fun h => Z4.out h
      case g5 => first | exact fun h => Z5.out h | exact fun _ => rfl | exact fun h => ⟨(Z5.out h).1, rfl⟩
      case g6 => first | exact fun h => Z6.out h | exact fun _ => rfl | exact fun h => ⟨(Z6.out h).1, ⟨rfl, ⟨_, rfl⟩, rfl⟩⟩
      case g7 => exact fun h => Z7.out h
      case g8 => first | exact fun h => Z8.out h | exact fun _ => rfl | exact fun h => ⟨(Z8.out h).1, rfl⟩
      case g9 => first | exact fun h => Z9.out h | exact fun _ => rfl | exact fun h => ⟨(Z9.out h).1, ⟨rfl, ⟨_, rfl⟩, rfl⟩⟩
      case g10 => exact fun h => Z10.out h
      case g11 => first | exact fun h => Z11.out h | exact fun _ => rfl | exact fun h => ⟨(Z11.out h).1, rfl⟩
      case g12 => first | exact fun h => Z12.out h | exact fun _ => rfl | exact fun h => ⟨(Z12.out h).1, rfl⟩
      case g13 => first | exact fun h => Z13.out h | exact fun _ => rfl | exact fun h => ⟨(Z13.out h).1, ⟨rfl, ⟨_, rfl⟩, rfl⟩⟩
      case g14 => exact fun h => absurd ((Z14.out h).1.2.2.2.1) (by rw [HD.out]; decide)
      case g15 => exact fun h => absurd ((Z15.out h).1.2.2.2.2.1) (by rw [HD.out]; decide)
      case g16 => exact fun h => Z16.out h
    · obtain rfl := Option.some.inj ho.symm
      have HD := Lib.hid hD
      have e1 := hdep ⟨1, .data⟩ (by simp) rfl
      have d1 := s1 e1
      have HCL := Lib.hid (show D 1 = true ∧ True from ⟨e1, trivial⟩)
      obtain rfl := d1
      refine wpOp_one rfl ?_
      have Z0 := Lib.hid s0
      have Z1 := Lib.hid s1
      have Z2 := Lib.hid s2
      have Z3 := Lib.hid s3
      have Z4 := Lib.hid s4
      have Z5 := Lib.hid s5
      have Z6 := Lib.hid s6
      have Z7 := Lib.hid s7
      have Z8 := Lib.hid s8
      have Z9 := Lib.hid s9
      have Z10 := Lib.hid s10
      have Z11 := Lib.hid s11
      have Z12 := Lib.hid s12
      have Z13 := Lib.hid s13
      have Z14 := Lib.hid s14
      have Z15 := Lib.hid s15
      have Z16 := Lib.hid s16
      clear hdep hi hD ho s0 s1 s2 s3 s4 s5 s6 s7 s8 s9 s10 s11 s12 s13 s14 s15 s16 e1 
      go_wp2_with fail
      rw [HINV.out]
      refine ⟨_, _, _, _, _, _, _, _, _, _, _, _, _, _, _, _, _, rfl, hB, ?g0, ?g1, ?g2, ?g3, ?g4, ?g5, ?g6, ?g7, ?g8, ?g9, ?g10, ?g11, ?g12, ?g13, ?g14, ?g15, ?g16⟩
      case g0 => exact fun h => Z0.out h
      case g1 => first | exact fun h => Z1.out h | exact fun _ => rfl | exact fun h => ⟨(Z1.out h).1, rfl⟩
      case g2 => exact fun _ => ⟨HCL.out, rfl⟩
      case g3 => exact fun h => absurd ((Z3.out h).1.2.1) (by rw [HD.out]; decide)
      case g4 => exact fun h => Z4.out h
      case g5 => first | exact fun h => Z5.out h | exact fun _ => rfl | exact fun h => ⟨(Z5.out h).1, rfl⟩
      case g6 => first | exact fun h => Z6.out h | exact fun _ => rfl | exact fun h => ⟨(Z6.out h).1, ⟨rfl, ⟨_, rfl⟩, rfl⟩⟩
      case g7 => exact fun h => Z7.out h
      case g8 => first | exact fun h => Z8.out h | exact fun _ => rfl | exact fun h => ⟨(Z8.out h).1, rfl⟩
      case g9 => first | exact fun h => Z9.out h | exact fun _ => rfl | exact fun h => ⟨(Z9.out h).1, ⟨rfl, ⟨_, rfl⟩, rfl⟩⟩
      case g10 => exact fun h => Z10.out h
      case g11 => first | exact fun h => Z11.out h | exact fun _ => rfl | exact fun h => ⟨(Z11.out h).1, rfl⟩
      case g12 => first | exact fun h => Z12.out h | exact fun _ => rfl | exact fun h => ⟨(Z12.out h).1, rfl⟩
      case g13 => first | exact fun h => Z13.out h | exact fun _ => rfl | exact fun h => ⟨(Z13.out h).1, ⟨rfl, ⟨_, rfl⟩, rfl⟩⟩
      case g14 => exact fun h => absurd ((Z14.out h).1.2.2.1) (by rw [HD.out]; decide)
      case g15 => exact fun h => absurd ((Z15.out h).1.2.2.2.1) (by rw [HD.out]; decide)
      case g16 => exact fun h => Z16.out h
    · obtain rfl := Option.some.inj ho.symm
      have HD := Lib.hid hD
      have e0 := hdep ⟨0, .data⟩ (by simp) rfl
      have d0 := s0 e0
      have e2 := hdep ⟨2, .data⟩ (by simp) rfl
      have d2 := s2 e2
      obtain ⟨g2, d2⟩ := d2
      have HCL := Lib.hid (show D 0 = true ∧ D 2 = true ∧ D 1 = true ∧ True from ⟨e0, e2, g2.1, trivial⟩)
      obtain ⟨c0, rfl, h0⟩ := d0
      obtain rfl := d2
      clear h0
      refine wpOp_one rfl ?_
      have Z0 := Lib.hid s0
      have Z1 := Lib.hid s1
      have Z2 := Lib.hid s2
      have Z3 := Lib.hid s3
      have Z4 := Lib.hid s4
      have Z5 := Lib.hid s5
      have Z6 := Lib.hid s6
      have Z7 := Lib.hid s7
      have Z8 := Lib.hid s8
      have Z9 := Lib.hid s9
      have Z10 := Lib.hid s10
      have Z11 := Lib.hid s11
      have Z12 := Lib.hid s12
      have Z13 := Lib.hid s13
      have Z14 := Lib.hid s14
      have Z15 := Lib.hid s15
      have Z16 := Lib.hid s16
      clear hdep hi hD ho s0 s1 s2 s3 s4 s5 s6 s7 s8 s9 s10 s11 s12 s13 s14 s15 s16 e0 e2 g2
      go_wp2_with fail
      rw [HINV.out]
      refine ⟨_, _, _, _, _, _, _, _, _, _, _, _, _, _, _, _, _, rfl, hB, ?g0, ?g1, ?g2, ?g3, ?g4, ?g5, ?g6, ?g7, ?g8, ?g9, ?g10, ?g11, ?g12, ?g13, ?g14, ?g15, ?g16⟩
      case g0 => exact fun h => Z0.out h
      case g1 => first | exact fun h => Z1.out h | exact fun _ => rfl | exact fun h => ⟨(Z1.out h).1, rfl⟩
      case g2 => first | exact fun h => Z2.out h | exact fun _ => rfl | exact fun h => ⟨(Z2.out h).1, rfl⟩
      case g3 => exact fun _ => ⟨HCL.out, ⟨rfl, ⟨_, rfl⟩, rfl⟩⟩
      case g4 => exact fun h => Z4.out h
      case g5 => first | exact fun h => Z5.out h | exact fun _ => rfl | exact fun h => ⟨(Z5.out h).1, rfl⟩
      case g6 => first | exact fun h => Z6.out h | exact fun _ => rfl | exact fun h => ⟨(Z6.out h).1, ⟨rfl, ⟨_, rfl⟩, rfl⟩⟩
      case g7 => exact fun h => Z7.out h
      case g8 => first | exact fun h => Z8.out h | exact fun _ => rfl | exact fun h => ⟨(Z8.out h).1, rfl⟩
      case g9 => first | exact fun h => Z9.out h | exact fun _ => rfl | exact fun h => ⟨(Z9.out h).1, ⟨rfl, ⟨_, rfl⟩, rfl⟩⟩
      case g10 => exact fun h => Z10.out h
      case g11 => first | exact fun h => Z11.out h | exact fun _ => rfl | exact fun h => ⟨(Z11.out h).1, rfl⟩
      case g12 => first | exact fun h => Z12.out h | exact fun _ => rfl | exact fun h => ⟨(Z12.out h).1, rfl⟩
      case g13 => first | exact fun h => Z13.out h | exact fun _ => rfl | exact fun h => ⟨(Z13.out h).1, ⟨rfl, ⟨_, rfl⟩, rfl⟩⟩
      case g14 => exact fun h => absurd ((Z14.out h).1.1) (by rw [HD.out]; decide)
      case g15 => exact fun h => absurd ((Z15.out h).1.2.1) (by rw [HD.out]; decide)
      case g16 => exact fun h => Z16.out h
    · obtain rfl := Option.some.inj ho.symm
      have HD := Lib.hid hD
      refine wpOp_one rfl ?_
      have Z0 := Lib.hid s0
      have Z1 := Lib.hid s1
      have Z2 := Lib.hid s2
      have Z3 := Lib.hid s3
      have Z4 := Lib.hid s4
      have Z5 := Lib.hid s5
      have Z6 := Lib.hid s6
      have Z7 := Lib.hid s7
      have Z8 := Lib.hid s8
      have Z9 := Lib.hid s9
      have Z10 := Lib.hid s10
      have Z11 := Lib.hid s11
      have Z12 := Lib.hid s12
      have Z13 := Lib.hid s13
      have Z14 := Lib.hid s14
      have Z15 := Lib.hid s15
      have Z16 := Lib.hid s16
      clear hdep hi hD ho s0 s1 s2 s3 s4 s5 s6 s7 s8 s9 s10 s11 s12 s13 s14 s15 s16  
      go_wp2_with fail
      rw [HINV.out]
      refine ⟨_, _, _, _, _, _, _, _, _, _, _, _, _, _, _, _, _, rfl, ext_trans hB (by go_grown), ?g0, ?g1, ?g2, ?g3, ?g4, ?g5, ?g6, ?g7, ?g8, ?g9, ?g10, ?g11, ?g12, ?g13, ?g14, ?g15, ?g16⟩
      case g0 => exact fun h => (Z0.out h).up (by go_grown)
      case g1 => first | exact fun h => Z1.out h | exact fun _ => rfl | exact fun h => ⟨(Z1.out h).1, rfl⟩
      case g2 => first | exact fun h => Z2.out h | exact fun _ => rfl | exact fun h => ⟨(Z2.out h).1, rfl⟩
      case g3 => first | exact fun h => Z3.out h | exact fun _ => rfl | exact fun h => ⟨(Z3.out h).1, ⟨rfl, ⟨_, rfl⟩, rfl⟩⟩
      case g4 => exact fun _ => ⟨_, rfl, hB.size, alloc_new _ _⟩
      case g5 => first | exact fun h => Z5.out h | exact fun _ => rfl | exact fun h => ⟨(Z5.out h).1, rfl⟩
      case g6 => exact fun h => absurd ((Z6.out h).1.1) (by rw [HD.out]; decide)
      case g7 => exact fun h => (Z7.out h).up (by go_grown)
      case g8 => first | exact fun h => Z8.out h | exact fun _ => rfl | exact fun h => ⟨(Z8.out h).1, rfl⟩
      case g9 => first | exact fun h => Z9.out h | exact fun _ => rfl | exact fun h => ⟨(Z9.out h).1, ⟨rfl, ⟨_, rfl⟩, rfl⟩⟩
      case g10 => exact fun h => (Z10.out h).up (by go_grown)
      case g11 => first | exact fun h => Z11.out h | exact fun _ => rfl | exact fun h => ⟨(Z11.out h).1, rfl⟩
      case g12 => first | exact fun h => Z12.out h | exact fun _ => rfl | exact fun h => ⟨(Z12.out h).1, rfl⟩
      case g13 => first | exact fun h => Z13.out h | exact fun _ => rfl | exact fun h => ⟨(Z13.out h).1, ⟨rfl, ⟨_, rfl⟩, rfl⟩⟩
      case g14 => exact fun h => absurd ((Z14.out h).1.2.2.2.2.2.1) (by rw [HD.out]; decide)
      case g15 => exact fun h => absurd ((Z15.out h).1.2.2.2.2.2.2.1) (by rw [HD.out]; decide)
      case g16 => exact fun h => (Z16.out h).up (by go_grown)
    · obtain rfl := Option.some.inj ho.symm
      have HD := Lib.hid hD
      refine wpOp_one rfl ?_
      have Z0 := Lib.hid s0
      have Z1 := Lib.hid s1
      have Z2 := Lib.hid s2
      have Z3 := Lib.hid s3
      have Z4 := Lib.hid s4
      have Z5 := Lib.hid s5
      have Z6 := Lib.hid s6
      have Z7 := Lib.hid s7
      have Z8 := Lib.hid s8
      have Z9 := Lib.hid s9
      have Z10 := Lib.hid s10
      have Z11 := Lib.hid s11
      have Z12 := Lib.hid s12
      have Z13 := Lib.hid s13
      have Z14 := Lib.hid s14
      have Z15 := Lib.hid s15
      have Z16 := Lib.hid s16
      clear hdep hi hD ho s0 s1 s2 s3 s4 s5 s6 s7 s8 s9 s10 s11 s12 s13 s14 s15 s16  
      go_wp2_with fail
      rw [HINV.out]
      refine ⟨_, _, _, _, _, _, _, _, _, _, _, _, _, _, _, _, _, rfl, hB, ?g0, ?g1, ?g2, ?g3, ?g4, ?g5, ?g6, ?g7, ?g8, ?g9, ?g10, ?g11, ?g12, ?g13, ?g14, ?g15, ?g16⟩
      case g0 => exact fun h => Z0.out h
      case g1 => first | exact fun h => Z1.out h | exact fun _ => rfl | exact fun h => ⟨(Z1.out h).1, rfl⟩
      case g2 => first | exact fun h => Z2.out h | exact fun _ => rfl | exact fun h => ⟨(Z2.out h).1, rfl⟩
      case g3 => first | exact fun h => Z3.out h | exact fun _ => rfl | exact fun h => ⟨(Z3.out h).1, ⟨rfl, ⟨_, rfl⟩, rfl⟩⟩
      case g4 => exact fun h => Z4.out h
      case g5 => exact fun _ => rfl
      case g6 => exact fun h => absurd ((Z6.out h).1.2.1) (by rw [HD.out]; decide)
      case g7 => exact fun h => Z7.out h
      case g8 => first | exact fun h => Z8.out h | exact fun _ => rfl | exact fun h => ⟨(Z8.out h).1, rfl⟩
      case g9 => first | exact fun h => Z9.out h | exact fun _ => rfl | exact fun h => ⟨(Z9.out h).1, ⟨rfl, ⟨_, rfl⟩, rfl⟩⟩
      case g10 => exact fun h => Z10.out h
      case g11 => first | exact fun h => Z11.out h | exact fun _ => rfl | exact fun h => ⟨(Z11.out h).1, rfl⟩
      case g12 => first | exact fun h => Z12.out h | exact fun _ => rfl | exact fun h => ⟨(Z12.out h).1, rfl⟩
      case g13 => first | exact fun h => Z13.out h | exact fun _ => rfl | exact fun h => ⟨(Z13.out h).1, ⟨rfl, ⟨_, rfl⟩, rfl⟩⟩
      case g14 => exact fun h => absurd ((Z14.out h).1.2.2.2.2.2.2.1) (by rw [HD.out]; decide)
      case g15 => exact fun h => absurd ((Z15.out h).1.2.2.2.2.2.2.2.1) (by rw [HD.out]; decide)
      case g16 => exact fun h => Z16.out h
    · obtain rfl := Option.some.inj ho.symm
      have HD := Lib.hid hD
      have e4 := hdep ⟨4, .data⟩ (by simp) rfl
      have d4 := s4 e4
      have e5 := hdep ⟨5, .data⟩ (by simp) rfl
      have d5 := s5 e5
      have HCL := Lib.hid (show D 4 = true ∧ D 5 = true ∧ True from ⟨e4, e5, trivial⟩)
      obtain ⟨c0, rfl, h0⟩ := d4
      obtain rfl := d5
      clear h0
      refine wpOp_one rfl ?_
      have Z0 := Lib.hid s0
      have Z1 := Lib.hid s1
      have Z2 := Lib.hid s2
      have Z3 := Lib.hid s3
      have Z4 := Lib.hid s4
      have Z5 := Lib.hid s5
      have Z6 := Lib.hid s6
      have Z7 := Lib.hid s7
      have Z8 := Lib.hid s8
      have Z9 := Lib.hid s9
      have Z10 := Lib.hid s10
      have Z11 := Lib.hid s11
      have Z12 := Lib.hid s12
      have Z13 := Lib.hid s13
      have Z14 := Lib.hid s14
      have Z15 := Lib.hid s15
      have Z16 := Lib.hid s16
      clear hdep hi hD ho s0 s1 s2 s3 s4 s5 s6 s7 s8 s9 s10 s11 s12 s13 s14 s15 s16 e4 e5 
      go_wp2_with fail
      rw [HINV.out]
      refine ⟨_, _, _, _, _, _, _, _, _, _, _, _, _, _, _, _, _, rfl, hB, ?g0, ?g1, ?g2, ?g3, ?g4, ?g5, ?g6, ?g7, ?g8, ?g9, ?g10, ?g11, ?g12, ?g13, ?g14, ?g15, ?g16⟩
      case g0 => exact fun h => Z0.out h
      case g1 => first | exact fun h => Z1.out h | exact fun _ => rfl | exact fun h => ⟨(Z1.out h).1, rfl⟩
      case g2 => first | exact fun h => Z2.out h | exact fun _ => rfl | exact fun h => ⟨(Z2.out h).1, rfl⟩
      case g3 => first | exact fun h => Z3.out h | exact fun _ => rfl | exact fun h => ⟨(Z3.out h).1, ⟨rfl, ⟨_, rfl⟩, rfl⟩⟩
      case g4 => exact fun h => Z4.out h
      case g5 => first | exact fun h => Z5.out h | exact fun _ => rfl | exact fun h => ⟨(Z5.out h).1, rfl⟩
      case g6 => exact fun _ => ⟨HCL.out, ⟨rfl, ⟨_, rfl⟩, rfl⟩⟩
      case g7 => exact fun h => Z7.out h
      case g8 => first | exact fun h => Z8.out h | exact fun _ => rfl | exact fun h => ⟨(Z8.out h).1, rfl⟩
      case g9 => first | exact fun h => Z9.out h | exact fun _ => rfl | exact fun h => ⟨(Z9.out h).1, ⟨rfl, ⟨_, rfl⟩, rfl⟩⟩
      case g10 => exact fun h => Z10.out h
      case g11 => first | exact fun h => Z11.out h | exact fun _ => rfl | exact fun h => ⟨(Z11.out h).1, rfl⟩
      case g12 => first | exact fun h => Z12.out h | exact fun _ => rfl | exact fun h => ⟨(Z12.out h).1, rfl⟩
      case g13 => first | exact fun h => Z13.out h | exact fun _ => rfl | exact fun h => ⟨(Z13.out h).1, ⟨rfl, ⟨_, rfl⟩, rfl⟩⟩
      case g14 => exact fun h => absurd ((Z14.out h).1.2.2.2.2.1) (by rw [HD.out]; decide)
      case g15 => exact fun h => absurd ((Z15.out h).1.2.2.2.2.2.1) (by rw [HD.out]; decide)
      case g16 => exact fun h => Z16.out h
    · obtain rfl := Option.some.inj ho.symm
      have HD := Lib.hid hD
      refine wpOp_one rfl ?_
      have Z0 := Lib.hid s0
      have Z1 := Lib.hid s1
      have Z2 := Lib.hid s2
      have Z3 := Lib.hid s3
      have Z4 := Lib.hid s4
      have Z5 := Lib.hid s5
      have Z6 := Lib.hid s6
      have Z7 := Lib.hid s7
      have Z8 := Lib.hid s8
      have Z9 := Lib.hid s9
      have Z10 := Lib.hid s10
      have Z11 := Lib.hid s11
      have Z12 := Lib.hid s12
      have Z13 := Lib.hid s13
      have Z14 := Lib.hid s14
      have Z15 := Lib.hid s15
      have Z16 := Lib.hid s16
      clear hdep hi hD ho s0 s1 s2 s3 s4 s5 s6 s7 s8 s9 s10 s11 s12 s13 s14 s15 s16  
      go_wp2_with fail
      rw [HINV.out]
      refine ⟨_, _, _, _, _, _, _, _, _, _, _, _, _, _, _, _, _, rfl, ext_trans hB (by go_grown), ?g0, ?g1, ?g2, ?g3, ?g4, ?g5, ?g6, ?g7, ?g8, ?g9, ?g10, ?g11, ?g12, ?g13, ?g14, ?g15, ?g16⟩
      case g0 => exact fun h => (Z0.out h).up (by go_grown)
      case g1 => first | exact fun h => Z1.out h | exact fun _ => rfl | exact fun h => ⟨(Z1.out h).1, rfl⟩
      case g2 => first | exact fun h => Z2.out h | exact fun _ => rfl | exact fun h => ⟨(Z2.out h).1, rfl⟩
      case g3 => first | exact fun h => Z3.out h | exact fun _ => rfl | exact fun h => ⟨(Z3.out h).1, ⟨rfl, ⟨_, rfl⟩, rfl⟩⟩
      case g4 => exact fun h => (Z4.out h).up (by go_grown)
      case g5 => first | exact fun h => Z5.out h | exact fun _ => rfl | exact fun h => ⟨(Z5.out h).1, rfl⟩
      case g6 => first | exact fun h => Z6.out h | exact fun _ => rfl | exact fun h => ⟨(Z6.out h).1, ⟨rfl, ⟨_, rfl⟩, rfl⟩⟩
      case g7 => exact fun _ => ⟨_, rfl, hB.size, alloc_new _ _⟩
      case g8 => first | exact fun h => Z8.out h | exact fun _ => rfl | exact fun h => ⟨(Z8.out h).1, rfl⟩
      case g9 => exact fun h => absurd ((Z9.out h).1.1) (by rw [HD.out]; decide)
      case g10 => exact fun h => (Z10.out h).up (by go_grown)
      case g11 => first | exact fun h => Z11.out h | exact fun _ => rfl | exact fun h => ⟨(Z11.out h).1, rfl⟩
      case g12 => first | exact fun h => Z12.out h | exact fun _ => rfl | exact fun h => ⟨(Z12.out h).1, rfl⟩
      case g13 => first | exact fun h => Z13.out h | exact fun _ => rfl | exact fun h => ⟨(Z13.out h).1, ⟨rfl, ⟨_, rfl⟩, rfl⟩⟩
      case g14 => exact fun h => absurd ((Z14.out h).1.2.2.2.2.2.2.2.2.1) (by rw [HD.out]; decide)
      case g15 => exact fun h => absurd ((Z15.out h).1.2.2.2.2.2.2.2.2.2.1) (by rw [HD.out]; decide)
      case g16 => exact fun h => (Z16.out h).up (by go_grown)
    · obtain rfl := Option.some.inj ho.symm
      have HD := Lib.hid hD
      refine wpOp_one rfl ?_
      have Z0 := Lib.hid s0
      have Z1 := Lib.hid s1
      have Z2 := Lib.hid s2
      have Z3 := Lib.hid s3
      have Z4 := Lib.hid s4
      have Z5 := Lib.hid s5
      have Z6 := Lib.hid s6
      have Z7 := Lib.hid s7
      have Z8 := Lib.hid s8
      have Z9 := Lib.hid s9
      have Z10 := Lib.hid s10
      have Z11 := Lib.hid s11
      have Z12 := Lib.hid s12
      have Z13 := Lib.hid s13
      have Z14 := Lib.hid s14
      have Z15 := Lib.hid s15
      have Z16 := Lib.hid s16
      clear hdep hi hD ho s0 s1 s2 s3 s4 s5 s6 s7 s8 s9 s10 s11 s12 s13 s14 s15 s16  
      go_wp2_with fail
      rw [HINV.out]
      refine ⟨_, _, _, _, _, _, _, _, _, _, _, _, _, _, _, _, _, rfl, hB, ?g0, ?g1, ?g2, ?g3, ?g4, ?g5, ?g6, ?g7, ?g8, ?g9, ?g10, ?g11, ?g12, ?g13, ?g14, ?g15, ?g16⟩
      case g0 => exact fun h => Z0.out h
      case g1 => first | exact fun h => Z1.out h | exact fun _ => rfl | exact fun h => ⟨(Z1.out h).1, rfl⟩
      case g2 => first | exact fun h => Z2.out h | exact fun _ => rfl | exact fun h => ⟨(Z2.out h).1, rfl⟩
      case g3 => first | exact fun h => Z3.out h | exact fun _ => rfl | exact fun h => ⟨(Z3.out h).1, ⟨rfl, ⟨_, rfl⟩, rfl⟩⟩
      case g4 => exact fun h => Z4.out h
      case g5 => first | exact fun h => Z5.out h | exact fun _ => rfl | exact fun h => ⟨(Z5.out h).1, rfl⟩
      case g6 => first | exact fun h => Z6.out h | exact fun _ => rfl | exact fun h => ⟨(Z6.out h).1, ⟨rfl, ⟨_, rfl⟩, rfl⟩⟩
      case g7 => exact fun h => Z7.out h
      case g8 => exact fun _ => rfl
      case g9 => exact fun h => absurd ((Z9.out h).1.2.1) (by rw [HD.out]; decide)
      case g10 => exact fun h => Z10.out h
      case g11 => first | exact fun h => Z11.out h | exact fun _ => rfl | exact fun h => ⟨(Z11.out h).1, rfl⟩
      case g12 => first | exact fun h => Z12.out h | exact fun _ => rfl | exact fun h => ⟨(Z12.out h).1, rfl⟩
      case g13 => first | exact fun h => Z13.out h | exact fun _ => rfl | exact fun h => ⟨(Z13.out h).1, ⟨rfl, ⟨_, rfl⟩, rfl⟩⟩
      case g14 => exact fun h => absurd ((Z14.out h).1.2.2.2.2.2.2.2.2.2.1) (by rw [HD.out]; decide)
      case g15 => exact fun h => absurd ((Z15.out h).1.2.2.2.2.2.2.2.2.2.2.1) (by rw [HD.out]; decide)
      case g16 => exact fun h => Z16.out h
    · obtain rfl := Option.some.inj ho.symm
      have HD := Lib.hid hD
      have e7 := hdep ⟨7, .data⟩ (by simp) rfl
      have d7 := s7 e7
      have e8 := hdep ⟨8, .data⟩ (by simp) rfl
      have d8 := s8 e8
      have HCL := Lib.hid (show D 7 = true ∧ D 8 = true ∧ True from ⟨e7, e8, trivial⟩)
      obtain ⟨c0, rfl, h0⟩ := d7
      obtain rfl := d8
      clear h0
      refine wpOp_one rfl ?_
      have Z0 := Lib.hid s0
      have Z1 := Lib.hid s1
      have Z2 := Lib.hid s2
      have Z3 := Lib.hid s3
      have Z4 := Lib.hid s4
      have Z5 := Lib.hid s5
      have Z6 := Lib.hid s6
      have Z7 := Lib.hid s7
      have Z8 := Lib.hid s8
      have Z9 := Lib.hid s9
      have Z10 := Lib.hid s10
      have Z11 := Lib.hid s11
      have Z12 := Lib.hid s12
      have Z13 := Lib.hid s13
      have Z14 := Lib.hid s14
      have Z15 := Lib.hid s15
      have Z16 := Lib.hid s16
      clear hdep hi hD ho s0 s1 s2 s3 s4 s5 s6 s7 s8 s9 s10 s11 s12 s13 s14 s15 s16 e7 e8 
      go_wp2_with fail
      rw [HINV.out]
      refine ⟨_, _, _, _, _, _, _, _, _, _, _, _, _, _, _, _, _, rfl, hB, ?g0, ?g1, ?g2, ?g3, ?g4, ?g5, ?g6, ?g7, ?g8, ?g9, ?g10, ?g11, ?g12, ?g13, ?g14, ?g15, ?g16⟩
      case g0 => exact fun h => Z0.out h
      case g1 => first | exact fun h => Z1.out h | exact fun _ => rfl | exact fun h => ⟨(Z1.out h).1, rfl⟩
      case g2 => first | exact fun h => Z2.out h | exact fun _ => rfl | exact fun h => ⟨(Z2.out h).1, rfl⟩
      case g3 => first | exact fun h => Z3.out h | exact fun _ => rfl | exact fun h => ⟨(Z3.out h).1, ⟨rfl, ⟨_, rfl⟩, rfl⟩⟩
      case g4 => exact fun h => Z4.out h
      case g5 => first | exact fun h => Z5.out h | exact fun _ => rfl | exact fun h => ⟨(Z5.out h).1, rfl⟩
      case g6 => first | exact fun h => Z6.out h | exact fun _ => rfl | exact fun h => ⟨(Z6.out h).1, ⟨rfl, ⟨_, rfl⟩, rfl⟩⟩
      case g7 => exact fun h => Z7.out h
      case g8 => first | exact fun h => Z8.out h | exact fun _ => rfl | exact fun h => ⟨(Z8.out h).1, rfl⟩
      case g9 => exact fun _ => ⟨HCL.out, ⟨rfl, ⟨_, rfl⟩, rfl⟩⟩
      case g10 => exact fun h => Z10.out h
      case g11 => first | exact fun h => Z11.out h | exact fun _ => rfl | exact fun h => ⟨(Z11.out h).1, rfl⟩
      case g12 => first | exact fun h => Z12.out h | exact fun _ => rfl | exact fun h => ⟨(Z12.out h).1, rfl⟩
      case g13 => first | exact fun h => Z13.out h | exact fun _ => rfl | exact fun h => ⟨(Z13.out h).1, ⟨rfl, ⟨_, rfl⟩, rfl⟩⟩
      case g14 => exact fun h => absurd ((Z14.out h).1.2.2.2.2.2.2.2.1) (by rw [HD.out]; decide)
      case g15 => exact fun h => absurd ((Z15.out h).1.2.2.2.2.2.2.2.2.1) (by rw [HD.out]; decide)
      case g16 => exact fun h => Z16.out h
    · obtain rfl := Option.some.inj ho.symm
      have HD := Lib.hid hD
      refine wpOp_one rfl ?_
      have Z0 := Lib.hid s0
      have Z1 := Lib.hid s1
      have Z2 := Lib.hid s2
      have Z3 := Lib.hid s3
      have Z4 := Lib.hid s4
      have Z5 := Lib.hid s5
      have Z6 := Lib.hid s6
      have Z7 := Lib.hid s7
      have Z8 := Lib.hid s8
      have Z9 := Lib.hid s9
      have Z10 := Lib.hid s10
      have Z11 := Lib.hid s11
      have Z12 := Lib.hid s12
      have Z13 := Lib.hid s13
      have Z14 := Lib.hid s14
      have Z15 := Lib.hid s15
      have Z16 := Lib.hid s16
      clear hdep hi hD ho s0 s1 s2 s3 s4 s5 s6 s7 s8 s9 s10 s11 s12 s13 s14 s15 s16  
      go_wp2_with fail
      rw [HINV.out]
      refine ⟨_, _, _, _, _, _, _, _, _, _, _, _, _, _, _, _, _, rfl, ext_trans hB (by go_grown), ?g0, ?g1, ?g2, ?g3, ?g4, ?g5, ?g6, ?g7, ?g8, ?g9, ?g10, ?g11, ?g12, ?g13, ?g14, ?g15, ?g16⟩
      case g0 => exact fun h => (Z0.out h).up (by go_grown)
      case g1 => first | exact fun h => Z1.out h | exact fun _ => rfl | exact fun h => ⟨(Z1.out h).1, rfl⟩
      case g2 => first | exact fun h => Z2.out h | exact fun _ => rfl | exact fun h => ⟨(Z2.out h).1, rfl⟩
      case g3 => first | exact fun h => Z3.out h | exact fun _ => rfl | exact fun h => ⟨(Z3.out h).1, ⟨rfl, ⟨_, rfl⟩, rfl⟩⟩
      case g4 => exact fun h => (Z4.out h).up (by go_grown)
      case g5 => first | exact fun h => Z5.out h | exact fun _ => rfl | exact fun h => ⟨(Z5.out h).1, rfl⟩
      case g6 => first | exact fun h => Z6.out h | exact fun _ => rfl | exact fun h => ⟨(Z6.out h).1, ⟨rfl, ⟨_, rfl⟩, rfl⟩⟩
      case g7 => exact fun h => (Z7.out h).up (by go_grown)
      case g8 => first | exact fun h => Z8.out h | exact fun _ => rfl | exact fun h => ⟨(Z8.out h).1, rfl⟩
      case g9 => first | exact fun h => Z9.out h | exact fun _ => rfl | exact fun h => ⟨(Z9.out h).1, ⟨rfl, ⟨_, rfl⟩, rfl⟩⟩
      case g10 => exact fun _ => ⟨_, rfl, hB.size, alloc_new _ _⟩
      case g11 => first | exact fun h => Z11.out h | exact fun _ => rfl | exact fun h => ⟨(Z11.out h).1, rfl⟩
      case g12 => first | exact fun h => Z12.out h | exact fun _ => rfl | exact fun h => ⟨(Z12.out h).1, rfl⟩
      case g13 => exact fun h => absurd ((Z13.out h).1.1) (by rw [HD.out]; decide)
      case g14 => exact fun h => absurd ((Z14.out h).1.2.2.2.2.2.2.2.2.2.2.2.1) (by rw [HD.out]; decide)
      case g15 => exact fun h => absurd ((Z15.out h).1.2.2.2.2.2.2.2.2.2.2.2.2.1) (by rw [HD.out]; decide)
      case g16 => exact fun h => (Z16.out h).up (by go_grown)
    · obtain rfl := Option.some.inj ho.symm
      have HD := Lib.hid hD
      refine wpOp_one rfl ?_
      have Z0 := Lib.hid s0
      have Z1 := Lib.hid s1
      have Z2 := Lib.hid s2
      have Z3 := Lib.hid s3
      have Z4 := Lib.hid s4
      have Z5 := Lib.hid s5
      have Z6 := Lib.hid s6
      have Z7 := Lib.hid s7
      have Z8 := Lib.hid s8
      have Z9 := Lib.hid s9
      have Z10 := Lib.hid s10
      have Z11 := Lib.hid s11
      have Z12 := Lib.hid s12
      have Z13 := Lib.hid s13
      have Z14 := Lib.hid s14
      have Z15 := Lib.hid s15
      have Z16 := Lib.hid s16
      clear hdep hi hD ho s0 s1 s2 s3 s4 s5 s6 s7 s8 s9 s10 s11 s12 s13 s14 s15 s16  
      go_wp2_with fail
      rw [HINV.out]
      refine ⟨_, _, _, _, _, _, _, _, _, _, _, _, _, _, _, _, _, rfl, hB, ?g0, ?g1, ?g2, ?g3, ?g4, ?g5, ?g6, ?g7, ?g8, ?g9, ?g10, ?g11, ?g12, ?g13, ?g14, ?g15, ?g16⟩
      case g0 => exact fun h => Z0.out h
      case g1 => first | exact fun h => Z1.out h | exact fun _ => rfl | exact fun h => ⟨(Z1.out h).1, rfl⟩
      case g2 => first | exact fun h => Z2.out h | exact fun _ => rfl | exact fun h => ⟨(Z2.out h).1, rfl⟩
      case g3 => first | exact fun h => Z3.out h | exact fun _ => rfl | exact fun h => ⟨(Z3.out h).1, ⟨rfl, ⟨_, rfl⟩, rfl⟩⟩
      case g4 => exact fun h => Z4.out h
      case g5 => first | exact fun h => Z5.out h | exact fun _ => rfl | exact fun h => ⟨(Z5.out h).1, rfl⟩
      case g6 => first | exact fun h => Z6.out h | exact fun _ => rfl | exact fun h => ⟨(Z6.out h).1, ⟨rfl, ⟨_, rfl⟩, rfl⟩⟩
      case g7 => exact fun h => Z7.out h
      case g8 => first | exact fun h => Z8.out h | exact fun _ => rfl | exact fun h => ⟨(Z8.out h).1, rfl⟩
      case g9 => first | exact fun h => Z9.out h | exact fun _ => rfl | exact fun h => ⟨(Z9.out h).1, ⟨rfl, ⟨_, rfl⟩, rfl⟩⟩
      case g10 => exact fun h => Z10.out h
      case g11 => exact fun _ => rfl
      case g12 => exact fun h => absurd ((Z12.out h).1.1) (by rw [HD.out]; decide)
      case g13 => exact fun h => absurd ((Z13.out h).1.2.2.1) (by rw [HD.out]; decide)
      case g14 => exact fun h => absurd ((Z14.out h).1.2.2.2.2.2.2.2.2.2.2.2.2.2.1) (by rw [HD.out]; decide)
      case g15 => exact fun h => absurd ((Z15.out h).1.2.2.2.2.2.2.2.2.2.2.2.2.2.2.1) (by rw [HD.out]; decide)
      case g16 => exact fun h => Z16.out h
    · obtain rfl := Option.some.inj ho.symm
      have HD := Lib.hid hD
      have e11 := hdep ⟨11, .data⟩ (by simp) rfl
      have d11 := s11 e11
      have HCL := Lib.hid (show D 11 = true ∧ True from ⟨e11, trivial⟩)
      obtain rfl := d11
      refine wpOp_one rfl ?_
      have Z0 := Lib.hid s0
      have Z1 := Lib.hid s1
      have Z2 := Lib.hid s2
      have Z3 := Lib.hid s3
      have Z4 := Lib.hid s4
      have Z5 := Lib.hid s5
      have Z6 := Lib.hid s6
      have Z7 := Lib.hid s7
      have Z8 := Lib.hid s8
      have Z9 := Lib.hid s9
      have Z10 := Lib.hid s10
      have Z11 := Lib.hid s11
      have Z12 := Lib.hid s12
      have Z13 := Lib.hid s13
      have Z14 := Lib.hid s14
      have Z15 := Lib.hid s15
      have Z16 := Lib.hid s16
      clear hdep hi hD ho s0 s1 s2 s3 s4 s5 s6 s7 s8 s9 s10 s11 s12 s13 s14 s15 s16 e11 
      go_wp2_with fail
      rw [HINV.out]
      refine ⟨_, _, _, _, _, _, _, _, _, _, _, _, _, _, _, _, _, rfl, hB, ?g0, ?g1, ?g2, ?g3, ?g4, ?g5, ?g6, ?g7, ?g8, ?g9, ?g10, ?g11, ?g12, ?g13, ?g14, ?g15, ?g16⟩
      case g0 => exact fun h => Z0.out h
      case g1 => first | exact fun h => Z1.out h | exact fun _ => rfl | exact fun h => ⟨(Z1.out h).1, rfl⟩
      case g2 => first | exact fun h => Z2.out h | exact fun _ => rfl | exact fun h => ⟨(Z2.out h).1, rfl⟩
      case g3 => first | exact fun h => Z3.out h | exact fun _ => rfl | exact fun h => ⟨(Z3.out h).1, ⟨rfl, ⟨_, rfl⟩, rfl⟩⟩
      case g4 => exact fun h => Z4.out h
      case g5 => first | exact fun h => Z5.out h | exact fun _ => rfl | exact fun h => ⟨(Z5.out h).1, rfl⟩
      case g6 => first | exact fun h => Z6.out h | exact fun _ => rfl | exact fun h => ⟨(Z6.out h).1, ⟨rfl, ⟨_, rfl⟩, rfl⟩⟩
      case g7 => exact fun h => Z7.out h
      case g8 => first | exact fun h => Z8.out h | exact fun _ => rfl | exact fun h => ⟨(Z8.out h).1, rfl⟩
      case g9 => first | exact fun h => Z9.out h | exact fun _ => rfl | exact fun h => ⟨(Z9.out h).1, ⟨rfl, ⟨_, rfl⟩, rfl⟩⟩
      case g10 => exact fun h => Z10.out h
      case g11 => first | exact fun h => Z11.out h | exact fun _ => rfl | exact fun h => ⟨(Z11.out h).1, rfl⟩
      case g12 => exact fun _ => ⟨HCL.out, rfl⟩
      case g13 => exact fun h => absurd ((Z13.out h).1.2.1) (by rw [HD.out]; decide)
      case g14 => exact fun h => absurd ((Z14.out h).1.2.2.2.2.2.2.2.2.2.2.2.2.1) (by rw [HD.out]; decide)
      case g15 => exact fun h => absurd ((Z15.out h).1.2.2.2.2.2.2.2.2.2.2.2.2.2.1) (by rw [HD.out]; decide)
      case g16 => exact fun h => Z16.out h
    · obtain rfl := Option.some.inj ho.symm
      have HD := Lib.hid hD
      have e10 := hdep ⟨10, .data⟩ (by simp) rfl
      have d10 := s10 e10
      have e12 := hdep ⟨12, .data⟩ (by simp) rfl
      have d12 := s12 e12
      obtain ⟨g12, d12⟩ := d12
      have HCL := Lib.hid (show D 10 = true ∧ D 12 = true ∧ D 11 = true ∧ True from ⟨e10, e12, g12.1, trivial⟩)
      obtain ⟨c0, rfl, h0⟩ := d10
      obtain rfl := d12
      clear h0
      refine wpOp_one rfl ?_
      have Z0 := Lib.hid s0
      have Z1 := Lib.hid s1
      have Z2 := Lib.hid s2
      have Z3 := Lib.hid s3
      have Z4 := Lib.hid s4
      have Z5 := Lib.hid s5
      have Z6 := Lib.hid s6
      have Z7 := Lib.hid s7
      have Z8 := Lib.hid s8
      have Z9 := Lib.hid s9
      have Z10 := Lib.hid s10
      have Z11 := Lib.hid s11
      have Z12 := Lib.hid s12
      have Z13 := Lib.hid s13
      have Z14 := Lib.hid s14
      have Z15 := Lib.hid s15
      have Z16 := Lib.hid s16
      clear hdep hi hD ho s0 s1 s2 s3 s4 s5 s6 s7 s8 s9 s10 s11 s12 s13 s14 s15 s16 e10 e12 g12
      go_wp2_with fail
      rw [HINV.out]
      refine ⟨_, _, _, _, _, _, _, _, _, _, _, _, _, _, _, _, _, rfl, hB, ?g0, ?g1, ?g2, ?g3, ?g4, ?g5, ?g6, ?g7, ?g8, ?g9, ?g10, ?g11, ?g12, ?g13, ?g14, ?g15, ?g16⟩
      case g0 => exact fun h => Z0.out h
      case g1 => first | exact fun h => Z1.out h | exact fun _ => rfl | exact fun h => ⟨(Z1.out h).1, rfl⟩
      case g2 => first | exact fun h => Z2.out h | exact fun _ => rfl | exact fun h => ⟨(Z2.out h).1, rfl⟩
      case g3 => first | exact fun h => Z3.out h | exact fun _ => rfl | exact fun h => ⟨(Z3.out h).1, ⟨rfl, ⟨_, rfl⟩, rfl⟩⟩
      case g4 => exact fun h => Z4.out h
      case g5 => first | exact fun h => Z5.out h | exact fun _ => rfl | exact fun h => ⟨(Z5.out h).1, rfl⟩
      case g6 => first | exact fun h => Z6.out h | exact fun _ => rfl | exact fun h => ⟨(Z6.out h).1, ⟨rfl, ⟨_, rfl⟩, rfl⟩⟩
      case g7 => exact fun h => Z7.out h
      case g8 => first | exact fun h => Z8.out h | exact fun _ => rfl | exact fun h => ⟨(Z8.out h).1, rfl⟩
      case g9 => first | exact fun h => Z9.out h | exact fun _ => rfl | exact fun h => ⟨(Z9.out h).1, ⟨rfl, ⟨_, rfl⟩, rfl⟩⟩
      case g10 => exact fun h => Z10.out h
      case g11 => first | exact fun h => Z11.out h | exact fun _ => rfl | exact fun h => ⟨(Z11.out h).1, rfl⟩
      case g12 => first | exact fun h => Z12.out h | exact fun _ => rfl | exact fun h => ⟨(Z12.out h).1, rfl⟩
      case g13 => exact fun _ => ⟨HCL.out, ⟨rfl, ⟨_, rfl⟩, rfl⟩⟩
      case g14 => exact fun h => absurd ((Z14.out h).1.2.2.2.2.2.2.2.2.2.2.1) (by rw [HD.out]; decide)
      case g15 => exact fun h => absurd ((Z15.out h).1.2.2.2.2.2.2.2.2.2.2.2.1) (by rw [HD.out]; decide)
      case g16 => exact fun h => Z16.out h
    · obtain rfl := Option.some.inj ho.symm
      have HD := Lib.hid hD
      have e3 := hdep ⟨3, .data⟩ (by simp) rfl
      have d3 := s3 e3
      obtain ⟨g3, d3⟩ := d3
      have e6 := hdep ⟨6, .data⟩ (by simp) rfl
      have d6 := s6 e6
      obtain ⟨g6, d6⟩ := d6
      have e9 := hdep ⟨9, .data⟩ (by simp) rfl
      have d9 := s9 e9
      obtain ⟨g9, d9⟩ := d9
      have e13 := hdep ⟨13, .data⟩ (by simp) rfl
      have d13 := s13 e13
      obtain ⟨g13, d13⟩ := d13
      have HCL := Lib.hid (show D 3 = true ∧ D 0 = true ∧ D 2 = true ∧ D 1 = true ∧ D 6 = true ∧ D 4 = true ∧ D 5 = true ∧ D 9 = true ∧ D 7 = true ∧ D 8 = true ∧ D 13 = true ∧ D 10 = true ∧ D 12 = true ∧ D 11 = true ∧ True from ⟨e3, g3.1, g3.2.1, g3.2.2.1, e6, g6.1, g6.2.1, e9, g9.1, g9.2.1, e13, g13.1, g13.2.1, g13.2.2.1, trivial⟩)
      obtain ⟨rfl, ⟨c3, rfl⟩, rfl⟩ := d3
      obtain ⟨rfl, ⟨c6, rfl⟩, rfl⟩ := d6
      obtain ⟨rfl, ⟨c9, rfl⟩, rfl⟩ := d9
      obtain ⟨rfl, ⟨c13, rfl⟩, rfl⟩ := d13
      refine wpOp_one rfl ?_
      have Z0 := Lib.hid s0
      have Z1 := Lib.hid s1
      have Z2 := Lib.hid s2
      have Z3 := Lib.hid s3
      have Z4 := Lib.hid s4
      have Z5 := Lib.hid s5
      have Z6 := Lib.hid s6
      have Z7 := Lib.hid s7
      have Z8 := Lib.hid s8
      have Z9 := Lib.hid s9
      have Z10 := Lib.hid s10
      have Z11 := Lib.hid s11
      have Z12 := Lib.hid s12
      have Z13 := Lib.hid s13
      have Z14 := Lib.hid s14
      have Z15 := Lib.hid s15
      have Z16 := Lib.hid s16
      clear hdep hi hD ho s0 s1 s2 s3 s4 s5 s6 s7 s8 s9 s10 s11 s12 s13 s14 s15 s16 e3 e6 e9 e13 g3 g6 g9 g13
      go_wp2_with fail
      rw [HINV.out]
      refine ⟨_, _, _, _, _, _, _, _, _, _, _, _, _, _, _, _, _, rfl, ext_trans hB (by go_grown), ?g0, ?g1, ?g2, ?g3, ?g4, ?g5, ?g6, ?g7, ?g8, ?g9, ?g10, ?g11, ?g12, ?g13, ?g14, ?g15, ?g16⟩
      case g0 => exact fun h => (Z0.out h).up (by go_grown)
      case g1 => first | exact fun h => Z1.out h | exact fun _ => rfl | exact fun h => ⟨(Z1.out h).1, rfl⟩
      case g2 => first | exact fun h => Z2.out h | exact fun _ => rfl | exact fun h => ⟨(Z2.out h).1, rfl⟩
      case g3 => first | exact fun h => Z3.out h | exact fun _ => rfl | exact fun h => ⟨(Z3.out h).1, ⟨rfl, ⟨_, rfl⟩, rfl⟩⟩
      case g4 => exact fun h => (Z4.out h).up (by go_grown)
      case g5 => first | exact fun h => Z5.out h | exact fun _ => rfl | exact fun h => ⟨(Z5.out h).1, rfl⟩
      case g6 => first | exact fun h => Z6.out h | exact fun _ => rfl | exact fun h => ⟨(Z6.out h).1, ⟨rfl, ⟨_, rfl⟩, rfl⟩⟩
      case g7 => exact fun h => (Z7.out h).up (by go_grown)
      case g8 => first | exact fun h => Z8.out h | exact fun _ => rfl | exact fun h => ⟨(Z8.out h).1, rfl⟩
      case g9 => first | exact fun h => Z9.out h | exact fun _ => rfl | exact fun h => ⟨(Z9.out h).1, ⟨rfl, ⟨_, rfl⟩, rfl⟩⟩
      case g10 => exact fun h => (Z10.out h).up (by go_grown)
      case g11 => first | exact fun h => Z11.out h | exact fun _ => rfl | exact fun h => ⟨(Z11.out h).1, rfl⟩
      case g12 => first | exact fun h => Z12.out h | exact fun _ => rfl | exact fun h => ⟨(Z12.out h).1, rfl⟩
      case g13 => first | exact fun h => Z13.out h | exact fun _ => rfl | exact fun h => ⟨(Z13.out h).1, ⟨rfl, ⟨_, rfl⟩, rfl⟩⟩
      case g14 => exact fun _ => ⟨HCL.out, ⟨_, rfl, hB.size, alloc_new _ _⟩⟩
      case g15 => exact fun h => absurd ((Z15.out h).1.1) (by rw [HD.out]; decide)
      case g16 => exact fun h => (Z16.out h).up (by go_grown)
    · obtain rfl := Option.some.inj ho.symm
      have HD := Lib.hid hD
      have e14 := hdep ⟨14, .data⟩ (by simp) rfl
      have d14 := s14 e14
      obtain ⟨g14, d14⟩ := d14
      have HCL := Lib.hid (show D 14 = true ∧ D 3 = true ∧ D 0 = true ∧ D 2 = true ∧ D 1 = true ∧ D 6 = true ∧ D 4 = true ∧ D 5 = true ∧ D 9 = true ∧ D 7 = true ∧ D 8 = true ∧ D 13 = true ∧ D 10 = true ∧ D 12 = true ∧ D 11 = true ∧ True from ⟨e14, g14.1, g14.2.1, g14.2.2.1, g14.2.2.2.1, g14.2.2.2.2.1, g14.2.2.2.2.2.1, g14.2.2.2.2.2.2.1, g14.2.2.2.2.2.2.2.1, g14.2.2.2.2.2.2.2.2.1, g14.2.2.2.2.2.2.2.2.2.1, g14.2.2.2.2.2.2.2.2.2.2.1, g14.2.2.2.2.2.2.2.2.2.2.2.1, g14.2.2.2.2.2.2.2.2.2.2.2.2.1, g14.2.2.2.2.2.2.2.2.2.2.2.2.2.1, trivial⟩)
      obtain ⟨c0, rfl, h0⟩ := d14
      clear h0
      refine wpOp_one rfl ?_
      have Z0 := Lib.hid s0
      have Z1 := Lib.hid s1
      have Z2 := Lib.hid s2
      have Z3 := Lib.hid s3
      have Z4 := Lib.hid s4
      have Z5 := Lib.hid s5
      have Z6 := Lib.hid s6
      have Z7 := Lib.hid s7
      have Z8 := Lib.hid s8
      have Z9 := Lib.hid s9
      have Z10 := Lib.hid s10
      have Z11 := Lib.hid s11
      have Z12 := Lib.hid s12
      have Z13 := Lib.hid s13
      have Z14 := Lib.hid s14
      have Z15 := Lib.hid s15
      have Z16 := Lib.hid s16
      clear hdep hi hD ho s0 s1 s2 s3 s4 s5 s6 s7 s8 s9 s10 s11 s12 s13 s14 s15 s16 e14 g14
      go_wp2_with fail
      rw [HINV.out]
      refine ⟨_, _, _, _, _, _, _, _, _, _, _, _, _, _, _, _, _, rfl, hB, ?g0, ?g1, ?g2, ?g3, ?g4, ?g5, ?g6, ?g7, ?g8, ?g9, ?g10, ?g11, ?g12, ?g13, ?g14, ?g15, ?g16⟩
      case g0 => exact fun h => Z0.out h
      case g1 => first | exact fun h => Z1.out h | exact fun _ => rfl | exact fun h => ⟨(Z1.out h).1, rfl⟩
      case g2 => first | exact fun h => Z2.out h | exact fun _ => rfl | exact fun h => ⟨(Z2.out h).1, rfl⟩
      case g3 => first | exact fun h => Z3.out h | exact fun _ => rfl | exact fun h => ⟨(Z3.out h).1, ⟨rfl, ⟨_, rfl⟩, rfl⟩⟩
      case g4 => exact fun h => Z4.out h
      case g5 => first | exact fun h => Z5.out h | exact fun _ => rfl | exact fun h => ⟨(Z5.out h).1, rfl⟩
      case g6 => first | exact fun h => Z6.out h | exact fun _ => rfl | exact fun h => ⟨(Z6.out h).1, ⟨rfl, ⟨_, rfl⟩, rfl⟩⟩
      case g7 => exact fun h => Z7.out h
      case g8 => first | exact fun h => Z8.out h | exact fun _ => rfl | exact fun h => ⟨(Z8.out h).1, rfl⟩
      case g9 => first | exact fun h => Z9.out h | exact fun _ => rfl | exact fun h => ⟨(Z9.out h).1, ⟨rfl, ⟨_, rfl⟩, rfl⟩⟩
      case g10 => exact fun h => Z10.out h
      case g11 => first | exact fun h => Z11.out h | exact fun _ => rfl | exact fun h => ⟨(Z11.out h).1, rfl⟩
      case g12 => first | exact fun h => Z12.out h | exact fun _ => rfl | exact fun h => ⟨(Z12.out h).1, rfl⟩
      case g13 => first | exact fun h => Z13.out h | exact fun _ => rfl | exact fun h => ⟨(Z13.out h).1, ⟨rfl, ⟨_, rfl⟩, rfl⟩⟩
      case g14 => exact fun h => Z14.out h
      case g15 => exact fun _ => ⟨HCL.out, rfl⟩
      case g16 => exact fun h => Z16.out h
    · obtain rfl := Option.some.inj ho.symm
      have HD := Lib.hid hD
      refine wpOp_one rfl ?_
      have Z0 := Lib.hid s0
      have Z1 := Lib.hid s1
      have Z2 := Lib.hid s2
      have Z3 := Lib.hid s3
      have Z4 := Lib.hid s4
      have Z5 := Lib.hid s5
      have Z6 := Lib.hid s6
      have Z7 := Lib.hid s7
      have Z8 := Lib.hid s8
      have Z9 := Lib.hid s9
      have Z10 := Lib.hid s10
      have Z11 := Lib.hid s11
      have Z12 := Lib.hid s12
      have Z13 := Lib.hid s13
      have Z14 := Lib.hid s14
      have Z15 := Lib.hid s15
      have Z16 := Lib.hid s16
      clear hdep hi hD ho s0 s1 s2 s3 s4 s5 s6 s7 s8 s9 s10 s11 s12 s13 s14 s15 s16  
      go_wp2_with fail
      rw [HINV.out]
      refine ⟨_, _, _, _, _, _, _, _, _, _, _, _, _, _, _, _, _, rfl, ext_trans hB (by go_grown), ?g0, ?g1, ?g2, ?g3, ?g4, ?g5, ?g6, ?g7, ?g8, ?g9, ?g10, ?g11, ?g12, ?g13, ?g14, ?g15, ?g16⟩
      case g0 => exact fun h => (Z0.out h).up (by go_grown)
      case g1 => first | exact fun h => Z1.out h | exact fun _ => rfl | exact fun h => ⟨(Z1.out h).1, rfl⟩
      case g2 => first | exact fun h => Z2.out h | exact fun _ => rfl | exact fun h => ⟨(Z2.out h).1, rfl⟩
      case g3 => first | exact fun h => Z3.out h | exact fun _ => rfl | exact fun h => ⟨(Z3.out h).1, ⟨rfl, ⟨_, rfl⟩, rfl⟩⟩
      case g4 => exact fun h => (Z4.out h).up (by go_grown)
      case g5 => first | exact fun h => Z5.out h | exact fun _ => rfl | exact fun h => ⟨(Z5.out h).1, rfl⟩
      case g6 => first | exact fun h => Z6.out h | exact fun _ => rfl | exact fun h => ⟨(Z6.out h).1, ⟨rfl, ⟨_, rfl⟩, rfl⟩⟩
      case g7 => exact fun h => (Z7.out h).up (by go_grown)
      case g8 => first | exact fun h => Z8.out h | exact fun _ => rfl | exact fun h => ⟨(Z8.out h).1, rfl⟩
      case g9 => first | exact fun h => Z9.out h | exact fun _ => rfl | exact fun h => ⟨(Z9.out h).1, ⟨rfl, ⟨_, rfl⟩, rfl⟩⟩
      case g10 => exact fun h => (Z10.out h).up (by go_grown)
      case g11 => first | exact fun h => Z11.out h | exact fun _ => rfl | exact fun h => ⟨(Z11.out h).1, rfl⟩
      case g12 => first | exact fun h => Z12.out h | exact fun _ => rfl | exact fun h => ⟨(Z12.out h).1, rfl⟩
      case g13 => first | exact fun h => Z13.out h | exact fun _ => rfl | exact fun h => ⟨(Z13.out h).1, ⟨rfl, ⟨_, rfl⟩, rfl⟩⟩
      case g14 => exact fun h => ⟨(Z14.out h).1, (Z14.out h).2.up (by go_grown)⟩
      case g15 => first | exact fun h => Z15.out h | exact fun _ => rfl | exact fun h => ⟨(Z15.out h).1, rfl⟩
      case g16 => exact fun _ => ⟨_, rfl, hB.size, alloc_new _ _⟩
  case last =>
    intro D a W hall hI
    rw [HINV.out] at hI
    clear HINV
    obtain ⟨x6, x7, x8, x9, x10, x11, x12, x13, x14, x15, x16, x17, x18, x19, x20, x21, x2, rfl, hB, s0, s1, s2, s3, s4, s5, s6, s7, s8, s9, s10, s11, s12, s13, s14, s15, s16⟩ := hI
    have f0 := s0 (hall 0 (by omega))
    have f1 := s1 (hall 1 (by omega))
    have f2 := (s2 (hall 2 (by omega))).2
    have f3 := (s3 (hall 3 (by omega))).2
    have f4 := s4 (hall 4 (by omega))
    have f5 := s5 (hall 5 (by omega))
    have f6 := (s6 (hall 6 (by omega))).2
    have f7 := s7 (hall 7 (by omega))
    have f8 := s8 (hall 8 (by omega))
    have f9 := (s9 (hall 9 (by omega))).2
    have f10 := s10 (hall 10 (by omega))
    have f11 := s11 (hall 11 (by omega))
    have f12 := (s12 (hall 12 (by omega))).2
    have f13 := (s13 (hall 13 (by omega))).2
    have f14 := (s14 (hall 14 (by omega))).2
    have f15 := (s15 (hall 15 (by omega))).2
    have f16 := s16 (hall 16 (by omega))
    clear hall s0 s1 s2 s3 s4 s5 s6 s7 s8 s9 s10 s11 s12 s13 s14 s15 s16
    obtain ⟨c6, rfl, k6, F6⟩ := f0
    obtain ⟨c10, rfl, k10, F10⟩ := f4
    obtain ⟨c13, rfl, k13, F13⟩ := f7
    obtain ⟨c16, rfl, k16, F16⟩ := f10
    obtain ⟨c20, rfl, k20, F20⟩ := f14
    obtain ⟨c2, rfl, k2, F2⟩ := f16
    obtain rfl := f2
    obtain rfl := f12
    obtain rfl := f5
    obtain rfl := f8
    obtain rfl := f15
    clear f1 f3 f6 f9 f11 f13
    have t2 := cell_block F2
    have hf2 := frozen_block F2
    have hbW := hb1.trans (hB.mono hb1.size)
    have hz1 := block_lt HA3.out
    have Gs := Lib.hid (And.intro F6 (And.intro F10 (And.intro F13 (And.intro F16 (And.intro F20 (And.intro F2 (And.intro (block_up hB HR.out) (And.intro (block_up hB HA1.out) (And.intro (block_up hB HA2.out) (block_up hB HA3.out))))))))))
    have hz2 := block_lt HR.out
    clear F6 F10 F13 F16 F20 F2 hB
    refine wpOp_one rfl ?_
    go_wp2_with fail
    refine wp_gen (fun W2 => Below w.heap.size w W2 ∧ W2.heap[c2]? = some (.cells #[.int .i64 2, .int .i64 2, .int .i64 2, .slice (some ⟨c20, 0, none⟩) 4 4] 24) ∧ (∀ (k : Nat) (c : Array Value) (t : TypeId) (f : Nat × Nat), W.heap[k]? = some (Obj.cells c t f) → t ≠ 24 → W2.heap[k]? = some (Obj.cells c t f))) ⟨(((hbW.setCell (p := ⟨c2, 0, none⟩) (by dsimp only; omega) _).setCell (p := ⟨c2, 1, none⟩) (by dsimp only; omega) _).setCell (p := ⟨c2, 2, none⟩) (by dsimp only; omega) _).setCell (p := ⟨c2, 3, none⟩) (by dsimp only; omega) _, ?_, ?_⟩ (fun W2 hW2 => ?_)
    · rw [setCell_same (setCell_same (setCell_same (setCell_same Gs.out.2.2.2.2.2.1 _ _) _ _) _ _)]; rfl
    · intro k c t f hk ht
      have hne : k ≠ c2 := fun e => by
        subst e
        have := Gs.out.2.2.2.2.2.1
        rw [hk] at this
        cases this
        exact ht rfl
      exact setCell_other (setCell_other (setCell_other (setCell_other hk hne _ _) hne _ _) hne _ _) hne _ _
    obtain ⟨hbw2, hC2, hu2⟩ := hW2
    obtain ⟨G6, G10, G13, G16, G20, _, GR, G1, G2, G3⟩ := Gs.out
    have hD1 := hu2 _ _ _ _ G1 (by decide)
    have hD2 := hu2 _ _ _ _ G2 (by decide)
    have hD3 := hu2 _ _ _ _ G3 (by decide)
    have hD6 := hu2 _ _ _ _ G6 (by decide)
    have hD10 := hu2 _ _ _ _ G10 (by decide)
    have hD13 := hu2 _ _ _ _ G13 (by decide)
    have hD16 := hu2 _ _ _ _ G16 (by decide)
    have hD20 := hu2 _ _ _ _ G20 (by decide)
    have hRR := hu2 _ _ _ _ GR (by decide)
    have HC2 := Lib.hid hC2
    have HR2 := Lib.hid hRR
    have HH := Lib.hid (And.intro hD1 (And.intro hD2 (And.intro hD3 (And.intro hD6 (And.intro hD10 (And.intro hD13 (And.intro hD16 hD20)))))))
    have hz3 := block_lt hRR
    clear hD1 hD2 hD3 hD6 hD10 hD13 hD16 hD20 hRR hC2 hu2 G6 G10 G13 G16 G20 GR G1 G2 G3 Gs t2 hf2 HR HA1 HA2 HA3
    obtain ⟨Inv, hInv⟩ : ∃ Inv : (Nat → Bool) → Act → World → Prop, Inv = fun D a W => ∃ x22 x23 x24 x25 x26 x27 x28 x29 x30 : Value, a = { tmps := #[.pointer (some ⟨w.heap.size, 0, none⟩), .slice (some ⟨w.heap.size + 1 + 1 + 1, 0, none⟩) 2 2, .pointer (some ⟨c2, 0, none⟩), .slice (some ⟨w.heap.size + 1, 0, none⟩) 2 2, .slice (some ⟨w.heap.size + 1 + 1, 0, none⟩) 2 2, .slice (some ⟨w.heap.size + 1 + 1 + 1, 0, none⟩) 2 2, .slice (some ⟨c6, 0, none⟩) 2 2, x7, .slice (some ⟨w.heap.size + 1 + 1 + 1, 0, none⟩) 1 2, x9, .slice (some ⟨c10, 0, none⟩) 2 2, .slice (some ⟨w.heap.size + 1 + 1 + 1, 0, none⟩) 2 2, x12, .slice (some ⟨c13, 0, none⟩) 2 2, .slice (some ⟨w.heap.size + 1 + 1 + 1, 0, none⟩) 2 2, x15, .slice (some ⟨c16, 0, none⟩) 2 2, x17, .slice (some ⟨w.heap.size + 1 + 1 + 1, 1, none⟩) 1 1, x19, .slice (some ⟨c20, 0, none⟩) 4 4, .agg #[.int .i64 2, .int .i64 2, .int .i64 2, .slice (some ⟨c20, 0, none⟩) 4 4], x22, x23, x24, x25, x26, x27, x28, x29, x30], defers := [] } ∧ Below W2.heap.size W2 W ∧ (D 0 = true → x22 = .agg #[.int .i64 2, .int .i64 2, .int .i64 2, .slice (some ⟨c20, 0, none⟩) 4 4]) ∧ (D 1 = true → x23 = .agg #[.int .i64 2, .int .i64 1, .int .i64 3, .int .i64 0, .int .i64 0, .int .i64 0, .int .i64 0]) ∧ (D 2 = true → (D 1 = true ∧ True) ∧ x24 = .agg #[.int .i64 2, .int .i64 1, .int .i64 3, .int .i64 0, .int .i64 0, .int .i64 0, .int .i64 0, .int .i64 0]) ∧ (D 3 = true → x25 = .agg #[.int .i64 2, .int .i64 3, .int .i64 3, .int .i64 0, .int .i64 0, .int .i64 0, .int .i64 0]) ∧ (D 4 = true → (D 3 = true ∧ True) ∧ x26 = .agg #[.int .i64 2, .int .i64 3, .int .i64 3, .int .i64 0, .int .i64 0, .int .i64 0, .int .i64 0, .int .i64 0]) ∧ (D 5 = true → (D 2 = true ∧ D 1 = true ∧ D 4 = true ∧ D 3 = true ∧ True) ∧ NewSl W2.heap.size 2 #[.int .i64 2, .int .i64 1, .int .i64 3, .int .i64 0, .int .i64 0, .int .i64 0, .int .i64 0, .int .i64 0, .int .i64 2, .int .i64 3, .int .i64 3, .int .i64 0, .int .i64 0, .int .i64 0, .int .i64 0, .int .i64 0] 89 x27 W) ∧ (D 6 = true → (D 5 = true ∧ D 2 = true ∧ D 1 = true ∧ D 4 = true ∧ D 3 = true ∧ True) ∧ NewSl W2.heap.size 1 #[x27] 90 x28 W) ∧ (D 7 = true → (D 6 = true ∧ D 5 = true ∧ D 2 = true ∧ D 1 = true ∧ D 4 = true ∧ D 3 = true ∧ True) ∧ x29 = .agg #[.int .i64 2, x28] ∧ ∃ b, x28 = .slice (some ⟨b, 0, none⟩) 1 1) ∧ (D 8 = true → (D 0 = true ∧ D 7 = true ∧ D 6 = true ∧ D 5 = true ∧ D 2 = true ∧ D 1 = true ∧ D 4 = true ∧ D 3 = true ∧ True) ∧ x30 = .agg #[.int .i64 2, .int .i64 2, .int .i64 2, .slice (some ⟨c20, 0, none⟩) 4 4, .int .i64 2, x28, .int .i64 1]) := ⟨_, rfl⟩
    have HINV := Lib.hid hInv; clear hInv
    refine wp_region_grow 9 (by kernel_rfl) rfl (by kernel_rfl) Inv (by rw [HINV.out]; exact ⟨_, _, _, _, _, _, _, _, _, rfl, (Below.refl _ _).drew, nofun, nofun, nofun, nofun, nofun, nofun, nofun, nofun, nofun⟩) ?step ?last
    case step =>
      intro D a W i o hi ho hD hdep hI
      rw [HINV.out] at hI
      obtain ⟨x22, x23, x24, x25, x26, x27, x28, x29, x30, rfl, hB, s0, s1, s2, s3, s4, s5, s6, s7, s8⟩ := hI
      have hcase : i = 0 ∨ i = 1 ∨ i = 2 ∨ i = 3 ∨ i = 4 ∨ i = 5 ∨ i = 6 ∨ i = 7 ∨ i = 8 := by omega
      rcases hcase with rfl | rfl | rfl | rfl | rfl | rfl | rfl | rfl | rfl
      · obtain rfl := Option.some.inj ho.symm
        have HD := Lib.hid hD
        have t2 := cell_block (block_up hB HC2.out)
        refine wpOp_one rfl ?_
        have Z0 := Lib.hid s0
        have Z1 := Lib.hid s1
        have Z2 := Lib.hid s2
        have Z3 := Lib.hid s3
        have Z4 := Lib.hid s4
        have Z5 := Lib.hid s5
        have Z6 := Lib.hid s6
        have Z7 := Lib.hid s7
        have Z8 := Lib.hid s8
        clear hdep hi hD ho s0 s1 s2 s3 s4 s5 s6 s7 s8  
        go_wp2_with fail
        rw [HINV.out]
        refine ⟨_, _, _, _, _, _, _, _, _, rfl, hB, ?g0, ?g1, ?g2, ?g3, ?g4, ?g5, ?g6, ?g7, ?g8⟩
        case g0 => exact fun _ => rfl
        case g1 => first | exact fun h => Z1.out h | exact fun _ => rfl | exact fun h => ⟨(Z1.out h).1, rfl⟩
        case g2 => first | exact fun h => Z2.out h | exact fun _ => rfl | exact fun h => ⟨(Z2.out h).1, rfl⟩
        case g3 => first | exact fun h => Z3.out h | exact fun _ => rfl | exact fun h => ⟨(Z3.out h).1, rfl⟩
        case g4 => first | exact fun h => Z4.out h | exact fun _ => rfl | exact fun h => ⟨(Z4.out h).1, rfl⟩
        case g5 => exact fun h => Z5.out h
        case g6 => exact fun h => Z6.out h
        case g7 => first | exact fun h => Z7.out h | exact fun _ => rfl | exact fun h => ⟨(Z7.out h).1, ⟨rfl, _, rfl⟩⟩
        case g8 => exact fun h => absurd ((Z8.out h).1.1) (by rw [HD.out]; decide)
      · obtain rfl := Option.some.inj ho.symm
        have HD := Lib.hid hD
        refine wpOp_one rfl ?_
        have Z0 := Lib.hid s0
        have Z1 := Lib.hid s1
        have Z2 := Lib.hid s2
        have Z3 := Lib.hid s3
        have Z4 := Lib.hid s4
        have Z5 := Lib.hid s5
        have Z6 := Lib.hid s6
        have Z7 := Lib.hid s7
        have Z8 := Lib.hid s8
        clear hdep hi hD ho s0 s1 s2 s3 s4 s5 s6 s7 s8  
        go_wp2_with fail
        refine (lgraph_any _ _ _).mono ?_
        rintro e w9 ⟨rfl, hb9⟩
        go_wp2_with fail
        rw [HINV.out]
        refine ⟨_, _, _, _, _, _, _, _, _, rfl, ext_trans hB hb9, ?g0, ?g1, ?g2, ?g3, ?g4, ?g5, ?g6, ?g7, ?g8⟩
        case g0 => first | exact fun h => Z0.out h | exact fun _ => rfl | exact fun h => ⟨(Z0.out h).1, rfl⟩
        case g1 => exact fun _ => rfl
        case g2 => exact fun h => absurd ((Z2.out h).1.1) (by rw [HD.out]; decide)
        case g3 => first | exact fun h => Z3.out h | exact fun _ => rfl | exact fun h => ⟨(Z3.out h).1, rfl⟩
        case g4 => first | exact fun h => Z4.out h | exact fun _ => rfl | exact fun h => ⟨(Z4.out h).1, rfl⟩
        case g5 => exact fun h => absurd ((Z5.out h).1.2.1) (by rw [HD.out]; decide)
        case g6 => exact fun h => absurd ((Z6.out h).1.2.2.1) (by rw [HD.out]; decide)
        case g7 => exact fun h => absurd ((Z7.out h).1.2.2.2.1) (by rw [HD.out]; decide)
        case g8 => exact fun h => absurd ((Z8.out h).1.2.2.2.2.2.1) (by rw [HD.out]; decide)
      · obtain rfl := Option.some.inj ho.symm
        have HD := Lib.hid hD
        have e1 := hdep ⟨1, .data⟩ (by simp) rfl
        have d1 := s1 e1
        have HCL := Lib.hid (show D 1 = true ∧ True from ⟨e1, trivial⟩)
        obtain rfl := d1
        refine wpOp_one rfl ?_
        have Z0 := Lib.hid s0
        have Z1 := Lib.hid s1
        have Z2 := Lib.hid s2
        have Z3 := Lib.hid s3
        have Z4 := Lib.hid s4
        have Z5 := Lib.hid s5
        have Z6 := Lib.hid s6
        have Z7 := Lib.hid s7
        have Z8 := Lib.hid s8
        clear hdep hi hD ho s0 s1 s2 s3 s4 s5 s6 s7 s8 e1 
        go_wp2_with fail
        rw [HINV.out]
        refine ⟨_, _, _, _, _, _, _, _, _, rfl, hB, ?g0, ?g1, ?g2, ?g3, ?g4, ?g5, ?g6, ?g7, ?g8⟩
        case g0 => first | exact fun h => Z0.out h | exact fun _ => rfl | exact fun h => ⟨(Z0.out h).1, rfl⟩
        case g1 => first | exact fun h => Z1.out h | exact fun _ => rfl | exact fun h => ⟨(Z1.out h).1, rfl⟩
        case g2 => exact fun _ => ⟨HCL.out, rfl⟩
        case g3 => first | exact fun h => Z3.out h | exact fun _ => rfl | exact fun h => ⟨(Z3.out h).1, rfl⟩
        case g4 => first | exact fun h => Z4.out h | exact fun _ => rfl | exact fun h => ⟨(Z4.out h).1, rfl⟩
        case g5 => exact fun h => absurd ((Z5.out h).1.1) (by rw [HD.out]; decide)
        case g6 => exact fun h => absurd ((Z6.out h).1.2.1) (by rw [HD.out]; decide)
        case g7 => exact fun h => absurd ((Z7.out h).1.2.2.1) (by rw [HD.out]; decide)
        case g8 => exact fun h => absurd ((Z8.out h).1.2.2.2.2.1) (by rw [HD.out]; decide)
      · obtain rfl := Option.some.inj ho.symm
        have HD := Lib.hid hD
        refine wpOp_one rfl ?_
        have Z0 := Lib.hid s0
        have Z1 := Lib.hid s1
        have Z2 := Lib.hid s2
        have Z3 := Lib.hid s3
        have Z4 := Lib.hid s4
        have Z5 := Lib.hid s5
        have Z6 := Lib.hid s6
        have Z7 := Lib.hid s7
        have Z8 := Lib.hid s8
        clear hdep hi hD ho s0 s1 s2 s3 s4 s5 s6 s7 s8  
        go_wp2_with fail
        refine (lgraph_any _ _ _).mono ?_
        rintro e w9 ⟨rfl, hb9⟩
        go_wp2_with fail
        rw [HINV.out]
        refine ⟨_, _, _, _, _, _, _, _, _, rfl, ext_trans hB hb9, ?g0, ?g1, ?g2, ?g3, ?g4, ?g5, ?g6, ?g7, ?g8⟩
        case g0 => first | exact fun h => Z0.out h | exact fun _ => rfl | exact fun h => ⟨(Z0.out h).1, rfl⟩
        case g1 => first | exact fun h => Z1.out h | exact fun _ => rfl | exact fun h => ⟨(Z1.out h).1, rfl⟩
        case g2 => first | exact fun h => Z2.out h | exact fun _ => rfl | exact fun h => ⟨(Z2.out h).1, rfl⟩
        case g3 => exact fun _ => rfl
        case g4 => exact fun h => absurd ((Z4.out h).1.1) (by rw [HD.out]; decide)
        case g5 => exact fun h => absurd ((Z5.out h).1.2.2.2.1) (by rw [HD.out]; decide)
        case g6 => exact fun h => absurd ((Z6.out h).1.2.2.2.2.1) (by rw [HD.out]; decide)
        case g7 => exact fun h => absurd ((Z7.out h).1.2.2.2.2.2.1) (by rw [HD.out]; decide)
        case g8 => exact fun h => absurd ((Z8.out h).1.2.2.2.2.2.2.2.1) (by rw [HD.out]; decide)
      · obtain rfl := Option.some.inj ho.symm
        have HD := Lib.hid hD
        have e3 := hdep ⟨3, .data⟩ (by simp) rfl
        have d3 := s3 e3
        have HCL := Lib.hid (show D 3 = true ∧ True from ⟨e3, trivial⟩)
        obtain rfl := d3
        refine wpOp_one rfl ?_
        have Z0 := Lib.hid s0
        have Z1 := Lib.hid s1
        have Z2 := Lib.hid s2
        have Z3 := Lib.hid s3
        have Z4 := Lib.hid s4
        have Z5 := Lib.hid s5
        have Z6 := Lib.hid s6
        have Z7 := Lib.hid s7
        have Z8 := Lib.hid s8
        clear hdep hi hD ho s0 s1 s2 s3 s4 s5 s6 s7 s8 e3 
        go_wp2_with fail
        rw [HINV.out]
        refine ⟨_, _, _, _, _, _, _, _, _, rfl, hB, ?g0, ?g1, ?g2, ?g3, ?g4, ?g5, ?g6, ?g7, ?g8⟩
        case g0 => first | exact fun h => Z0.out h | exact fun _ => rfl | exact fun h => ⟨(Z0.out h).1, rfl⟩
        case g1 => first | exact fun h => Z1.out h | exact fun _ => rfl | exact fun h => ⟨(Z1.out h).1, rfl⟩
        case g2 => first | exact fun h => Z2.out h | exact fun _ => rfl | exact fun h => ⟨(Z2.out h).1, rfl⟩
        case g3 => first | exact fun h => Z3.out h | exact fun _ => rfl | exact fun h => ⟨(Z3.out h).1, rfl⟩
        case g4 => exact fun _ => ⟨HCL.out, rfl⟩
        case g5 => exact fun h => absurd ((Z5.out h).1.2.2.1) (by rw [HD.out]; decide)
        case g6 => exact fun h => absurd ((Z6.out h).1.2.2.2.1) (by rw [HD.out]; decide)
        case g7 => exact fun h => absurd ((Z7.out h).1.2.2.2.2.1) (by rw [HD.out]; decide)
        case g8 => exact fun h => absurd ((Z8.out h).1.2.2.2.2.2.2.1) (by rw [HD.out]; decide)
      · obtain rfl := Option.some.inj ho.symm
        have HD := Lib.hid hD
        have e2 := hdep ⟨2, .data⟩ (by simp) rfl
        have d2 := s2 e2
        obtain ⟨g2, d2⟩ := d2
        have e4 := hdep ⟨4, .data⟩ (by simp) rfl
        have d4 := s4 e4
        obtain ⟨g4, d4⟩ := d4
        have HCL := Lib.hid (show D 2 = true ∧ D 1 = true ∧ D 4 = true ∧ D 3 = true ∧ True from ⟨e2, g2.1, e4, g4.1, trivial⟩)
        obtain rfl := d2
        obtain rfl := d4
        refine wpOp_one rfl ?_
        have Z0 := Lib.hid s0
        have Z1 := Lib.hid s1
        have Z2 := Lib.hid s2
        have Z3 := Lib.hid s3
        have Z4 := Lib.hid s4
        have Z5 := Lib.hid s5
        have Z6 := Lib.hid s6
        have Z7 := Lib.hid s7
        have Z8 := Lib.hid s8
        clear hdep hi hD ho s0 s1 s2 s3 s4 s5 s6 s7 s8 e2 e4 g2 g4
        go_wp2_with fail
        rw [HINV.out]
        refine ⟨_, _, _, _, _, _, _, _, _, rfl, ext_trans hB (by go_grown), ?g0, ?g1, ?g2, ?g3, ?g4, ?g5, ?g6, ?g7, ?g8⟩
        case g0 => first | exact fun h => Z0.out h | exact fun _ => rfl | exact fun h => ⟨(Z0.out h).1, rfl⟩
        case g1 => first | exact fun h => Z1.out h | exact fun _ => rfl | exact fun h => ⟨(Z1.out h).1, rfl⟩
        case g2 => first | exact fun h => Z2.out h | exact fun _ => rfl | exact fun h => ⟨(Z2.out h).1, rfl⟩
        case g3 => first | exact fun h => Z3.out h | exact fun _ => rfl | exact fun h => ⟨(Z3.out h).1, rfl⟩
        case g4 => first | exact fun h => Z4.out h | exact fun _ => rfl | exact fun h => ⟨(Z4.out h).1, rfl⟩
        case g5 => exact fun _ => ⟨HCL.out, ⟨_, rfl, hB.size, alloc_new _ _⟩⟩
        case g6 => exact fun h => absurd ((Z6.out h).1.1) (by rw [HD.out]; decide)
        case g7 => exact fun h => absurd ((Z7.out h).1.2.1) (by rw [HD.out]; decide)
        case g8 => exact fun h => absurd ((Z8.out h).1.2.2.2.1) (by rw [HD.out]; decide)
      · obtain rfl := Option.some.inj ho.symm
        have HD := Lib.hid hD
        have e5 := hdep ⟨5, .data⟩ (by simp) rfl
        have d5 := s5 e5
        obtain ⟨g5, d5⟩ := d5
        have HCL := Lib.hid (show D 5 = true ∧ D 2 = true ∧ D 1 = true ∧ D 4 = true ∧ D 3 = true ∧ True from ⟨e5, g5.1, g5.2.1, g5.2.2.1, g5.2.2.2.1, trivial⟩)
        obtain ⟨c0, rfl, h0⟩ := d5
        clear h0
        refine wpOp_one rfl ?_
        have Z0 := Lib.hid s0
        have Z1 := Lib.hid s1
        have Z2 := Lib.hid s2
        have Z3 := Lib.hid s3
        have Z4 := Lib.hid s4
        have Z5 := Lib.hid s5
        have Z6 := Lib.hid s6
        have Z7 := Lib.hid s7
        have Z8 := Lib.hid s8
        clear hdep hi hD ho s0 s1 s2 s3 s4 s5 s6 s7 s8 e5 g5
        go_wp2_with fail
        rw [HINV.out]
        refine ⟨_, _, _, _, _, _, _, _, _, rfl, ext_trans hB (by go_grown), ?g0, ?g1, ?g2, ?g3, ?g4, ?g5, ?g6, ?g7, ?g8⟩
        case g0 => first | exact fun h => Z0.out h | exact fun _ => rfl | exact fun h => ⟨(Z0.out h).1, rfl⟩
        case g1 => first | exact fun h => Z1.out h | exact fun _ => rfl | exact fun h => ⟨(Z1.out h).1, rfl⟩
        case g2 => first | exact fun h => Z2.out h | exact fun _ => rfl | exact fun h => ⟨(Z2.out h).1, rfl⟩
        case g3 => first | exact fun h => Z3.out h | exact fun _ => rfl | exact fun h => ⟨(Z3.out h).1, rfl⟩
        case g4 => first | exact fun h => Z4.out h | exact fun _ => rfl | exact fun h => ⟨(Z4.out h).1, rfl⟩
        case g5 => exact fun h => ⟨(Z5.out h).1, (Z5.out h).2.up (by go_grown)⟩
        case g6 => exact fun _ => ⟨HCL.out, ⟨_, rfl, hB.size, alloc_new _ _⟩⟩
        case g7 => exact fun h => absurd ((Z7.out h).1.1) (by rw [HD.out]; decide)
        case g8 => exact fun h => absurd ((Z8.out h).1.2.2.1) (by rw [HD.out]; decide)
      · obtain rfl := Option.some.inj ho.symm
        have HD := Lib.hid hD
        have e6 := hdep ⟨6, .data⟩ (by simp) rfl
        have d6 := s6 e6
        obtain ⟨g6, d6⟩ := d6
        have HCL := Lib.hid (show D 6 = true ∧ D 5 = true ∧ D 2 = true ∧ D 1 = true ∧ D 4 = true ∧ D 3 = true ∧ True from ⟨e6, g6.1, g6.2.1, g6.2.2.1, g6.2.2.2.1, g6.2.2.2.2.1, trivial⟩)
        obtain ⟨c0, rfl, h0⟩ := d6
        clear h0
        refine wpOp_one rfl ?_
        have Z0 := Lib.hid s0
        have Z1 := Lib.hid s1
        have Z2 := Lib.hid s2
        have Z3 := Lib.hid s3
        have Z4 := Lib.hid s4
        have Z5 := Lib.hid s5
        have Z6 := Lib.hid s6
        have Z7 := Lib.hid s7
        have Z8 := Lib.hid s8
        clear hdep hi hD ho s0 s1 s2 s3 s4 s5 s6 s7 s8 e6 g6
        go_wp2_with fail
        rw [HINV.out]
        refine ⟨_, _, _, _, _, _, _, _, _, rfl, hB, ?g0, ?g1, ?g2, ?g3, ?g4, ?g5, ?g6, ?g7, ?g8⟩
        case g0 => first | exact fun h => Z0.out h | exact fun _ => rfl | exact fun h => ⟨(Z0.out h).1, rfl⟩
        case g1 => first | exact fun h => Z1.out h | exact fun _ => rfl | exact fun h => ⟨(Z1.out h).1, rfl⟩
        case g2 => first | exact fun h => Z2.out h | exact fun _ => rfl | exact fun h => ⟨(Z2.out h).1, rfl⟩
        case g3 => first | exact fun h => Z3.out h | exact fun _ => rfl | exact fun h => ⟨(Z3.out h).1, rfl⟩
        case g4 => first | exact fun h => Z4.out h | exact fun _ => rfl | exact fun h => ⟨(Z4.out h).1, rfl⟩
        case g5 => exact fun h => Z5.out h
        case g6 => exact fun h => Z6.out h
        case g7 => exact fun _ => ⟨HCL.out, ⟨rfl, _, rfl⟩⟩
        case g8 => exact fun h => absurd ((Z8.out h).1.2.1) (by rw [HD.out]; decide)
      · obtain rfl := Option.some.inj ho.symm
        have HD := Lib.hid hD
        have e0 := hdep ⟨0, .data⟩ (by simp) rfl
        have d0 := s0 e0
        have e7 := hdep ⟨7, .data⟩ (by simp) rfl
        have d7 := s7 e7
        obtain ⟨g7, d7⟩ := d7
        have HCL := Lib.hid (show D 0 = true ∧ D 7 = true ∧ D 6 = true ∧ D 5 = true ∧ D 2 = true ∧ D 1 = true ∧ D 4 = true ∧ D 3 = true ∧ True from ⟨e0, e7, g7.1, g7.2.1, g7.2.2.1, g7.2.2.2.1, g7.2.2.2.2.1, g7.2.2.2.2.2.1, trivial⟩)
        obtain rfl := d0
        obtain ⟨rfl, c0, rfl⟩ := d7
        refine wpOp_one rfl ?_
        have Z0 := Lib.hid s0
        have Z1 := Lib.hid s1
        have Z2 := Lib.hid s2
        have Z3 := Lib.hid s3
        have Z4 := Lib.hid s4
        have Z5 := Lib.hid s5
        have Z6 := Lib.hid s6
        have Z7 := Lib.hid s7
        have Z8 := Lib.hid s8
        clear hdep hi hD ho s0 s1 s2 s3 s4 s5 s6 s7 s8 e0 e7 g7
        go_wp2_with fail
        rw [HINV.out]
        refine ⟨_, _, _, _, _, _, _, _, _, rfl, hB, ?g0, ?g1, ?g2, ?g3, ?g4, ?g5, ?g6, ?g7, ?g8⟩
        case g0 => first | exact fun h => Z0.out h | exact fun _ => rfl | exact fun h => ⟨(Z0.out h).1, rfl⟩
        case g1 => first | exact fun h => Z1.out h | exact fun _ => rfl | exact fun h => ⟨(Z1.out h).1, rfl⟩
        case g2 => first | exact fun h => Z2.out h | exact fun _ => rfl | exact fun h => ⟨(Z2.out h).1, rfl⟩
        case g3 => first | exact fun h => Z3.out h | exact fun _ => rfl | exact fun h => ⟨(Z3.out h).1, rfl⟩
        case g4 => first | exact fun h => Z4.out h | exact fun _ => rfl | exact fun h => ⟨(Z4.out h).1, rfl⟩
        case g5 => exact fun h => Z5.out h
        case g6 => exact fun h => Z6.out h
        case g7 => first | exact fun h => Z7.out h | exact fun _ => rfl | exact fun h => ⟨(Z7.out h).1, ⟨rfl, _, rfl⟩⟩
        case g8 => exact fun _ => ⟨HCL.out, rfl⟩
    case last =>
      intro D a W hall hI
      rw [HINV.out] at hI
      clear HINV
      obtain ⟨x22, x23, x24, x25, x26, x27, x28, x29, x30, rfl, hB, s0, s1, s2, s3, s4, s5, s6, s7, s8⟩ := hI
      have f0 := s0 (hall 0 (by omega))
      have f1 := s1 (hall 1 (by omega))
      have f2 := (s2 (hall 2 (by omega))).2
      have f3 := s3 (hall 3 (by omega))
      have f4 := (s4 (hall 4 (by omega))).2
      have f5 := (s5 (hall 5 (by omega))).2
      have f6 := (s6 (hall 6 (by omega))).2
      have f7 := (s7 (hall 7 (by omega))).2
      have f8 := (s8 (hall 8 (by omega))).2
      clear hall s0 s1 s2 s3 s4 s5 s6 s7 s8
      obtain ⟨c27, rfl, k27, F27⟩ := f5
      obtain ⟨c28, rfl, k28, F28⟩ := f6
      obtain rfl := f8
      clear f0 f1 f2 f3 f4 f7
      have hRW := block_up hB HR2.out
      have tR := cell_block hRW
      have hfR := frozen_block hRW
      have HRW := Lib.hid hRW
      have HF27 := Lib.hid F27
      have HF28 := Lib.hid F28
      have HWW := Lib.hid hB
      clear hRW F27 F28 hB
      refine wpOp_one rfl ?_
      go_wp2_with fail
      have e0 := setCell_same HRW.out 0 (.int .i64 2)
      have e1 := setCell_same e0 1 (.int .i64 2)
      have e2 := setCell_same e1 2 (.int .i64 2)
      have e3 := setCell_same e2 3 (.slice (some ⟨c20, 0, none⟩) 4 4)
      have e4 := setCell_same e3 4 (.int .i64 2)
      have e5 := setCell_same e4 5 (.slice (some ⟨c28, 0, none⟩) 1 1)
      have e6 := setCell_same e5 6 (.int .i64 1)
      have hq : ∀ k o, W.heap[k]? = some o → k ≠ w.heap.size → (((((((W.setCell ⟨w.heap.size, 0, none⟩ (.int .i64 2)).setCell ⟨w.heap.size, 1, none⟩ (.int .i64 2)).setCell ⟨w.heap.size, 2, none⟩ (.int .i64 2)).setCell ⟨w.heap.size, 3, none⟩ (.slice (some ⟨c20, 0, none⟩) 4 4)).setCell ⟨w.heap.size, 4, none⟩ (.int .i64 2)).setCell ⟨w.heap.size, 5, none⟩ (.slice (some ⟨c28, 0, none⟩) 1 1)).setCell ⟨w.heap.size, 6, none⟩ (.int .i64 1)).heap[k]? = some o :=
        fun k o hk hne => setCell_other (setCell_other (setCell_other (setCell_other (setCell_other (setCell_other (setCell_other hk hne _ _) hne _ _) hne _ _) hne _ _) hne _ _) hne _ _) hne _ _
      have hbW := hbw2.trans (HWW.out.mono hbw2.size)
      have hbF := ((((((hbW.setCell (p := ⟨w.heap.size, 0, none⟩) (Nat.le_refl _) (.int .i64 2)).setCell (p := ⟨w.heap.size, 1, none⟩) (Nat.le_refl _) (.int .i64 2)).setCell (p := ⟨w.heap.size, 2, none⟩) (Nat.le_refl _) (.int .i64 2)).setCell (p := ⟨w.heap.size, 3, none⟩) (Nat.le_refl _) (.slice (some ⟨c20, 0, none⟩) 4 4)).setCell (p := ⟨w.heap.size, 4, none⟩) (Nat.le_refl _) (.int .i64 2)).setCell (p := ⟨w.heap.size, 5, none⟩) (Nat.le_refl _) (.slice (some ⟨c28, 0, none⟩) 1 1)).setCell (p := ⟨w.heap.size, 6, none⟩) (Nat.le_refl _) (.int .i64 1)
      generalize (((((((W.setCell ⟨w.heap.size, 0, none⟩ (.int .i64 2)).setCell ⟨w.heap.size, 1, none⟩ (.int .i64 2)).setCell ⟨w.heap.size, 2, none⟩ (.int .i64 2)).setCell ⟨w.heap.size, 3, none⟩ (.slice (some ⟨c20, 0, none⟩) 4 4)).setCell ⟨w.heap.size, 4, none⟩ (.int .i64 2)).setCell ⟨w.heap.size, 5, none⟩ (.slice (some ⟨c28, 0, none⟩) 1 1)).setCell ⟨w.heap.size, 6, none⟩ (.int .i64 1)) = W9 at e6 hq hbF ⊢
      have t9 := cell_block e6
      refine bodyPost_ret (v := pbV exP (.slice (some ⟨c20, 0, none⟩) 4 4) (.slice (some ⟨c28, 0, none⟩) 1 1)) (by simp [results, Tryz.results16, go_sem, t9, exP]) rfl ?_
      obtain ⟨hD1, hD2, hD3, hD6, hD10, hD13, hD16, hD20⟩ := HH.out
      have u : ∀ k o, W2.heap[k]? = some o → k ≠ w.heap.size → W9.heap[k]? = some o := fun k o hk hne => hq k o (block_up HWW.out hk) hne
      have v1 := u _ _ hD1 (by omega)
      have v2 := u _ _ hD2 (by omega)
      have v3 := u _ _ hD3 (by omega)
      have v6 := u _ _ hD6 (by omega)
      have v10 := u _ _ hD10 (by omega)
      have v13 := u _ _ hD13 (by omega)
      have v16 := u _ _ hD16 (by omega)
      have v20 := u _ _ hD20 (by omega)
      have v27 := hq _ _ HF27.out (by omega)
      have v28 := hq _ _ HF28.out (by omega)
      exact ⟨_, _, rfl, ex_cases v1 v2 v3 v6 v10 v13 v16 v20, ex_states v27 v28, hbF⟩
end Go.Proofs.YtjmejfgkogjpaaaGreat
