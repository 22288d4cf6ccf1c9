/-
  Parts of the proof, in order. Contract of law56's example: it hands back the machine of the chapter. No conditions. A strings.Builder of the call's own: what it holds, what a write to it leaves alone. It proves nothing of the program by itself. What stands while a region is drawn that appends once to one row of one's own and then sets its variable: operations ib (the new values' slice), ia (the append), iz (the variable). It proves nothing of the program. Contracts of the program's simulate.digits and of the texts of a line's parts. Conditions: the bytes are fewer than 2^20; the numbers are below a hundred. Contracts of math/bits.TrailingZeros64, TrailingZeros and of the program's procset.elements, collected, Members. Conditions: the library's table reads as its initialiser lays it; sets of at most five processes. Contracts of the program's graph.text, graph.written, graph.Format, round.text, round.Format. Conditions: the arguments are well-formed; no round has faulty processes; the library's table reads as its initialiser lays it. Contracts of the texts of a line's parts, and of the line that simulate.Format writes. Conditions: numbers below a hundred. The text of a trace, in plain lists, and what stands while simulate.Format writes it. Conditions: numbers below a hundred, no faulty processes. The chapter's example in plain lists: its trace, its text. It proves nothing of the program's functions. The tail of a slice of messages. It proves nothing of the program's functions.
-/
import Derived.Laws.CopyOwn
import Derived.Test.YtjmejfgkogjpaaaGreatDoorShelf
import Derived.Lib.OthersKept
import Derived.Shelf.Spec.TrailingZeros
import Derived.Test.YtjmejfgkogjpaaaGreatDoorJ12
namespace Go.Proofs.YtjmejfgkogjpaaaGreatDoor
open Go.RowKit Go Go.Shelf
attribute [local go_sem] Oper.semAt_some

/-- a block of slices, read as a list of lists -/
theorem sl_block {α : Type} {k : Nat} {R : World → Nat → Nat → α → Prop} {W : World} {B n : Nat} {cs : Array Value} {t : TypeId} {xs : List (List α)} (h : W.heap[B]? = some (.cells cs t)) (hn : n = xs.length) (hs : xs.length ≤ 256) (he : ∀ i (hi : i < xs.length), ∃ v, cs[i]? = some v ∧ IsSl k R W v xs[i]) : IsSl 1 (SlAt k R) W (.slice (some ⟨B, 0, none⟩) n n) xs := by
  subst hn
  refine ⟨some ⟨B, 0, none⟩, xs.length, rfl, ⟨Nat.le_refl _, by omega, fun e => by cases e⟩, by omega, fun i x hx => ⟨B, 0, rfl, ?_⟩⟩
  obtain ⟨hi, rfl⟩ := List.getElem?_eq_some_iff.1 hx
  obtain ⟨v, h1, h2⟩ := he i hi
  exact ⟨v, by rw [Nat.zero_add, Nat.mul_one, cell_block h]; exact h1, h2⟩
theorem ints_block {W : World} {B n : Nat} {l : List Int} (hl : l.length = n) (hn : n ≤ 256) (h : W.heap[B]? = some (.cells (intsC l) 3)) (hr : ∀ i, i < l.length → InR (l.getD i 0)) : IsInts W (.slice (some ⟨B, 0, none⟩) n n) l := now_ints hl hn h hr
theorem allocs_old (l : List Obj) (w : World) {k : Nat} {o : Obj} (h : w.heap[k]? = some o) : (l.foldl World.alloc w).heap[k]? = some o := by
  induction l generalizing w with
  | nil => exact h
  | cons a r ih => exact ih _ (alloc_old _ h)
theorem allocs_get (l : List Obj) (w : World) (i : Nat) {o : Obj} (h : l[i]? = some o) : (l.foldl World.alloc w).heap[w.heap.size + i]? = some o := by
  induction l generalizing w i with
  | nil => simp at h
  | cons a r ih =>
    cases i with
    | zero =>
      simp at h
      subst h
      exact allocs_old r _ (alloc_new w a)
    | succ i =>
      have := ih (w.alloc a) i (by simpa using h)
      rw [World.size_alloc] at this
      rw [show w.heap.size + (i + 1) = w.heap.size + 1 + i by omega]
      exact this
theorem below_allocs (l : List Obj) (w : World) : Below w.heap.size w (l.foldl World.alloc w) := by
  have : ∀ (l : List Obj) (W : World), Below w.heap.size w W → Below w.heap.size w (l.foldl World.alloc W) := by
    intro l
    induction l with
    | nil => intro W h; exact h
    | cons a r ih => intro W h; exact ih _ (h.alloc h.size a)
  exact this l w (Below.refl _ _)
theorem inR_small {l : List Int} (h : ∀ x ∈ l, -2 < x ∧ x < 100) : ∀ i, i < l.length → InR (l.getD i 0) := fun i hi => by
  have := h _ (List.getElem_mem hi)
  rw [getD_of_lt 0 hi]
  unfold InR
  omega
/-- a block of numbers -/
theorem ib {W : World} {B : Nat} (l : List Int) (h : W.heap[B]? = some (.cells (intsC l) 3)) (hn : l.length ≤ 256) (hs : ∀ x ∈ l, -2 < x ∧ x < 100) : IsInts W (.slice (some ⟨B, 0, none⟩) l.length l.length) l := now_ints rfl hn h (inR_small hs)
theorem nil_ints (w : World) : IsInts w (.slice none 0 0) [] := ⟨none, 0, rfl, ⟨by simp, by omega, fun _ => rfl⟩, by simp, fun i x hx => by simp at hx⟩
/-- two slices in a block -/
theorem two_block {α : Type} {k : Nat} {R : World → Nat → Nat → α → Prop} {W : World} {B : Nat} {a b : Value} {t : TypeId} {x y : List α} (h : W.heap[B]? = some (.cells #[a, b] t)) (ha : IsSl k R W a x) (hb : IsSl k R W b y) : IsSl 1 (SlAt k R) W (.slice (some ⟨B, 0, none⟩) 2 2) [x, y] :=
  sl_block h rfl (by simp) fun i hi => by
    rcases (show i = 0 ∨ i = 1 by simp at hi; omega) with rfl | rfl
    · exact ⟨a, rfl, ha⟩
    · exact ⟨b, rfl, hb⟩
theorem one_block {α : Type} {k : Nat} {R : World → Nat → Nat → α → Prop} {W : World} {B : Nat} {a : Value} {t : TypeId} {x : List α} (h : W.heap[B]? = some (.cells #[a] t)) (ha : IsSl k R W a x) : IsSl 1 (SlAt k R) W (.slice (some ⟨B, 0, none⟩) 1 1) [x] :=
  sl_block h rfl (by simp) fun i hi => by
    obtain rfl : i = 0 := by simp at hi; omega
    exact ⟨a, rfl, ha⟩
/-- the machine of the chapter -/
def exM : Mac := ⟨2, 1, 2, 2, [[0, -1], [0, 1]], [[[[], [0]], [[0, 0], []]]], [⟨0, 0, 0, -1, -1, -1, -1, 0⟩, ⟨0, 0, 0, 0, -1, -1, -1, 0⟩, ⟨0, 1, 0, 0, -1, -1, -1, 0⟩, ⟨0, 1, 0, 1, -1, -1, -1, 1⟩], [[[-1], [-1, -1]], [[-1], [-1, 1]]]⟩

abbrev iC (l : List Int) : Obj := .cells (intsC l) 3
abbrev sV (B n : Nat) : Value := .slice (some ⟨B, 0, none⟩) n n
/-- what is laid ahead of the steps -/
def exL (B : Nat) : List Obj := [.cells #[.int .i64 0, .int .i64 0, .int .i64 0, .int .i64 0, .slice none 0 0, .slice none 0 0, .slice none 0 0, .slice none 0 0] 27, iC [0, -1], iC [0, 1], .cells #[sV (B + 1) 2, sV (B + 2) 2] 28, iC [0], .cells #[.slice none 0 0, sV (B + 4) 1] 28, iC [0, 0], .cells #[sV (B + 6) 2, .slice none 0 0] 28, .cells #[sV (B + 5) 2, sV (B + 7) 2] 22, .cells #[sV (B + 8) 2] 25]
/-- eight cells stored -/
theorem put8 {W : World} {B : Nat} {x0 x1 x2 x3 x4 x5 x6 x7 : Value} {t : TypeId} (h : W.heap[B]? = some (.cells #[x0, x1, x2, x3, x4, x5, x6, x7] t)) (a b c d e f g i : Value) :
    ∀ W', W' = (((((((W.setCell ⟨B, 0, none⟩ a).setCell ⟨B, 1, none⟩ b).setCell ⟨B, 2, none⟩ c).setCell ⟨B, 3, none⟩ d).setCell ⟨B, 4, none⟩ e).setCell ⟨B, 5, none⟩ f).setCell ⟨B, 6, none⟩ g).setCell ⟨B, 7, none⟩ i →
    W'.heap[B]? = some (.cells #[a, b, c, d, e, f, g, i] t) ∧ (∀ k, k ≠ B → W'.heap[k]? = W.heap[k]?) ∧ ∀ n w0, n ≤ B → Below n w0 W → Below n w0 W' := by
  rintro W' rfl
  refine ⟨?_, fun k hk => ?_, fun n w0 hn hb => ?_⟩
  · rw [setCell_same (setCell_same (setCell_same (setCell_same (setCell_same (setCell_same (setCell_same (setCell_same h _ _) _ _) _ _) _ _) _ _) _ _) _ _)]
    simp only [List.setIfInBounds_toArray, List.set_cons_zero, List.set_cons_succ]
  · rw [Below.heap_setCell _ ⟨B, 7, none⟩ _ _ hk, Below.heap_setCell _ ⟨B, 6, none⟩ _ _ hk, Below.heap_setCell _ ⟨B, 5, none⟩ _ _ hk, Below.heap_setCell _ ⟨B, 4, none⟩ _ _ hk, Below.heap_setCell _ ⟨B, 3, none⟩ _ _ hk, Below.heap_setCell _ ⟨B, 2, none⟩ _ _ hk, Below.heap_setCell _ ⟨B, 1, none⟩ _ _ hk, Below.heap_setCell _ ⟨B, 0, none⟩ _ _ hk]
  · exact (((((((hb.setCell (p := ⟨B, 0, none⟩) hn _).setCell (p := ⟨B, 1, none⟩) hn _).setCell (p := ⟨B, 2, none⟩) hn _).setCell (p := ⟨B, 3, none⟩) hn _).setCell (p := ⟨B, 4, none⟩) hn _).setCell (p := ⟨B, 5, none⟩) hn _).setCell (p := ⟨B, 6, none⟩) hn _).setCell (p := ⟨B, 7, none⟩) hn _
/-- the four steps -/
theorem steps_block {W : World} {B : Nat} {t : TypeId} {l : List St} (h : W.heap[B]? = some (.cells (l.flatMap fun s => s.c.toList).toArray t)) (hn : l.length ≤ 256) (hs : ∀ s ∈ l, s.In) : IsSteps W (.slice (some ⟨B, 0, none⟩) l.length l.length) l := by
  refine ⟨some ⟨B, 0, none⟩, l.length, rfl, ⟨Nat.le_refl _, by omega, fun e => by cases e⟩, by omega, fun i x hx => ⟨B, 0, rfl, ?_⟩⟩
  obtain ⟨hi, rfl⟩ := List.getElem?_eq_some_iff.1 hx
  have hc : ∀ j, j < 8 → W.cell? ⟨B, 0 + i * 8 + j, none⟩ = (l[i].c)[j]? := fun j hj => by
    rw [cell_block h, Nat.zero_add, List.getElem?_toArray, flat_at St.c 8 (fun _ => rfl) l i j hi hj]
  obtain ⟨r0, r1, r2, r3, r4, r5, r6, r7⟩ := hs l[i] (List.getElem_mem hi)
  exact ⟨⟨hc 0 (by omega), r0⟩, ⟨hc 1 (by omega), r1⟩, ⟨hc 2 (by omega), r2⟩, ⟨hc 3 (by omega), r3⟩, ⟨hc 4 (by omega), r4⟩, ⟨hc 5 (by omega), r5⟩, ⟨hc 6 (by omega), r6⟩, hc 7 (by omega), r7⟩

/-- what the last statement lays -/
def exN (B : Nat) : List Obj := [.cells (exM.steps.flatMap fun s => s.c.toList).toArray 73, iC [-1], iC [-1, -1], .cells #[sV (B + 1) 1, sV (B + 2) 2] 28, iC [-1], iC [-1, 1], .cells #[sV (B + 4) 1, sV (B + 5) 2] 28, .cells #[sV (B + 3) 2, sV (B + 6) 2] 22]
theorem wpList_gen {P : Program} {ops : Array Oper} {Q : Exit → Act → World → Prop} {l : List Oper} {a : Act} {W : World} (I : World → Prop) (h : I W) (k : ∀ W0, I W0 → wpList P ops Q l a W0) : wpList P ops Q l a W := k W h
/-- the machine's cells -/
def exC (B B5 : Nat) : Array Value := #[.int .i64 2, .int .i64 1, .int .i64 2, .int .i64 2, sV (B + 3) 2, sV (B + 9) 1, sV B5 4, sV (B5 + 7) 2]
theorem exC_one (B B5 : Nat) : (exC B B5).all (·.oneCell') = true := by simp [exC, Value.oneCell']
/-- behind the last store -/
theorem ex_end {w w5 : World} (hbw : Below w.heap.size w w5) (hs : w.heap.size + 10 ≤ w5.heap.size) (hL : ∀ i o, (exL w.heap.size)[i]? = some o → w5.heap[w.heap.size + i]? = some o) :
    Below w.heap.size w (((exN w5.heap.size).foldl World.alloc w5).setRow w.heap.size (exC w.heap.size w5.heap.size)) ∧ (((exN w5.heap.size).foldl World.alloc w5).setRow w.heap.size (exC w.heap.size w5.heap.size)).heap[w.heap.size]? = some (.cells (exC w.heap.size w5.heap.size) 27) ∧
    (∀ i o, i ≠ 0 → (exL w.heap.size)[i]? = some o → (((exN w5.heap.size).foldl World.alloc w5).setRow w.heap.size (exC w.heap.size w5.heap.size)).heap[w.heap.size + i]? = some o) ∧ ∀ i o, (exN w5.heap.size)[i]? = some o → (((exN w5.heap.size).foldl World.alloc w5).setRow w.heap.size (exC w.heap.size w5.heap.size)).heap[w5.heap.size + i]? = some o := by
  have hz := allocs_old (exN w5.heap.size) w5 (hL 0 _ rfl)
  refine ⟨below_setRow (ext_trans hbw (below_allocs _ _)) (Nat.le_refl _) _, setRow_heap _ _ _ _ _ _ hz, fun i o hi ho => ?_, fun i o ho => ?_⟩
  · rw [setRow_other _ _ _ _ (by omega)]
    exact allocs_old _ _ (hL i o ho)
  · rw [setRow_other _ _ _ _ (by omega)]
    exact allocs_get _ _ i ho

set_option maxRecDepth 100000 in
set_option maxHeartbeats 4000000 in
theorem lexample_any (w : World) :
    Calls Tryz.prog 11 #[] w fun e w' => ∃ vf vy vt vo, e = .returned (.agg (macC exM vf vy vt vo)) ∧ IsVecs w' vf exM.first ∧ IsV4 w' vy exM.syms ∧ IsSteps w' vt exM.steps ∧ IsV3 w' vo exM.out ∧ Below w.heap.size w w' := by
  go_enter Tryz.func11, Tryz.ntmps11
  go_wp2_with fail
  refine calls_gen (fun W => Below w.heap.size w W ∧ ∀ i o, (exL w.heap.size)[i]? = some o → W.heap[w.heap.size + i]? = some o) ⟨below_allocs [_, _, _, _, _, _, _, _, _, _] w, fun i o h => allocs_get [_, _, _, _, _, _, _, _, _, _] w i h⟩ (fun W1 hW1 => ?_)
  obtain ⟨hb1, hL1⟩ := hW1
  have HL1 := Lib.hid hL1
  have hlt := block_lt (hL1 9 _ rfl)
  clear hL1
  refine (lheard_any 0 (-1) W1).mono ?_
  rintro e w2 ⟨rfl, hb2⟩
  go_wp2_with fail
  refine (lheard_any 0 0 w2).mono ?_
  rintro e w3 ⟨rfl, hb3⟩
  go_wp2_with fail
  refine (lheard_any 0 0 w3).mono ?_
  rintro e w4 ⟨rfl, hb4⟩
  go_wp2_with fail
  refine (lheard_any 0 1 w4).mono ?_
  rintro e w5 ⟨rfl, hb5⟩
  have hq := ext_trans (ext_trans (ext_trans hb2 hb3) hb4) hb5
  have hbw := ext_trans hb1 hq
  have hs5 := hq.size
  have HL5 : Hid (∀ i o, (exL w.heap.size)[i]? = some o → w5.heap[w.heap.size + i]? = some o) := by
    have h : ∀ i o, (exL w.heap.size)[i]? = some o → w5.heap[w.heap.size + i]? = some o := fun i o h => block_up hq (HL1.out i o h)
    exact h
  have hz : w5.heap[w.heap.size]? = some (.cells #[.int .i64 0, .int .i64 0, .int .i64 0, .int .i64 0, .slice none 0 0, .slice none 0 0, .slice none 0 0, .slice none 0 0] 27) := HL5.out 0 _ rfl
  have hs10 : w.heap.size + 10 ≤ w5.heap.size := by have := block_lt (HL5.out 9 _ rfl); omega
  have hbw5 := Lib.hid hbw
  have HZ := Lib.hid hz
  clear hz hq hbw hs5
  go_wp2_with (refine wpList_store_row rfl 27 (.tmp 0) (.tmp 26) rfl w.heap.size (exC w.heap.size w5.heap.size) rfl rfl 27 _ (allocs_old (exN w5.heap.size) w5 HZ.out) (by kernel_rfl) rfl (exC_one _ _) (wpList_gen (fun W => Below w.heap.size w W ∧ W.heap[w.heap.size]? = some (.cells (exC w.heap.size w5.heap.size) 27) ∧ (∀ i o, i ≠ 0 → (exL w.heap.size)[i]? = some o → W.heap[w.heap.size + i]? = some o) ∧ ∀ i o, (exN w5.heap.size)[i]? = some o → W.heap[w5.heap.size + i]? = some o) (ex_end hbw5.out hs10 HL5.out) ?_); intro W6 hW6; have HW6 := Lib.hid hW6; clear hW6)
  obtain ⟨hb6, hM6, hX6, hY6⟩ := HW6.out
  have t6 := cell_block hM6
  refine bodyPost_ret (v := .agg (macC exM (sV (w.heap.size + 3) 2) (sV (w.heap.size + 9) 1) (sV w5.heap.size 4) (sV (w5.heap.size + 7) 2))) (by simp [results, Tryz.results11, go_sem, t6, exC, macC, exM]) rfl ?_
  have n3 : ∀ W, IsInts W (.slice none 0 0) [] := nil_ints
  refine ⟨_, _, _, _, rfl, ?_, ?_, ?_, ?_, hb6⟩
  · exact two_block (hX6 3 _ (by decide) rfl) (ib [0, -1] (hX6 1 _ (by decide) rfl) (by decide) (by decide)) (ib [0, 1] (hX6 2 _ (by decide) rfl) (by decide) (by decide))
  · exact one_block (hX6 9 _ (by decide) rfl) (two_block (hX6 8 _ (by decide) rfl) (two_block (hX6 5 _ (by decide) rfl) (n3 _) (ib [0] (hX6 4 _ (by decide) rfl) (by decide) (by decide))) (two_block (hX6 7 _ (by decide) rfl) (ib [0, 0] (hX6 6 _ (by decide) rfl) (by decide) (by decide)) (n3 _)))
  · exact steps_block (hY6 0 _ rfl) (by decide) (by simp [exM, St.In, InR])
  · exact two_block (hY6 7 _ rfl) (two_block (hY6 3 _ rfl) (ib [-1] (hY6 1 _ rfl) (by decide) (by decide)) (ib [-1, -1] (hY6 2 _ rfl) (by decide) (by decide))) (two_block (hY6 6 _ rfl) (ib [-1] (hY6 4 _ rfl) (by decide) (by decide)) (ib [-1, 1] (hY6 5 _ rfl) (by decide) (by decide)))
end Go.Proofs.YtjmejfgkogjpaaaGreatDoor

namespace Go.Proofs.YtjmejfgkogjpaaaGreatDoor
open Go.RowKit Go Go.Shelf

abbrev Bld (B b : Nat) (bs : List UInt8) (w : World) : Prop := Lib.IsBuilderF 77 5 B b (Lib.byteCells bs) w
abbrev Oth (b : Nat) (w w' : World) : Prop := Lib.OthersKept 5 (some b) w w'
theorem Oth.of_below {b : Nat} {w w' : World} (h : Below w.heap.size w w') : Oth b w w' := fun _ _ hk _ _ => block_up h hk
theorem Oth.tr {b : Nat} {a c d : World} (h : Oth b a c) (k : Oth b c d) : Oth b a d := Lib.OthersKept.trans h k
theorem bldF_up {T e : TypeId} {B b : Nat} {p : Value} {bs : List Value} {w w' : World} (h : Lib.BuilderAtF T e B b p bs w) (hb : Below w.heap.size w w') : Lib.BuilderAtF T e B b p bs w' := by
  obtain ⟨h1, v, h2, h3, h4⟩ := h
  refine ⟨h1, v, block_up hb h2, ⟨h3.1, ?_⟩, h4⟩
  rcases h3.2 with h | ⟨g, cap, cur, fz, q1, q2, q3, q4⟩
  · exact .inl h
  · exact .inr ⟨g, cap, cur, fz, q1, q2, block_up hb q3, q4⟩
theorem Bld.up {B b : Nat} {bs : List UInt8} {w w' : World} (h : Bld B b bs w) (hb : Below w.heap.size w w') : Bld B b bs w' := h.elim (fun x => .inl (bldF_up x hb)) (fun x => .inr (bldF_up x hb))
theorem Bld.cells {B b : Nat} {bs : List UInt8} {w : World} (h : Bld B b bs w) : B ≤ b ∧ ∃ p v, w.heap[b]? = some (.cells #[p, v] 77 (0, 0)) := by
  rcases h with ⟨h1, v, h2, _⟩ | ⟨h1, v, h2, _⟩
  · exact ⟨h1, _, _, h2⟩
  · exact ⟨h1, _, _, h2⟩
theorem Bld.lt {B b : Nat} {bs : List UInt8} {w : World} (h : Bld B b bs w) : b < w.heap.size := by
  obtain ⟨_, p, v, h⟩ := h.cells
  exact block_lt h
/-- a block of another type stays -/
theorem Oth.block {B b : Nat} {bs : List UInt8} {w w' : World} (h : Oth b w w') (hB : Bld B b bs w) {k : Nat} {cs : Array Value} {t : TypeId} {f : Nat × Nat} (hk : w.heap[k]? = some (.cells cs t f)) (h1 : t ≠ 77) (h2 : t ≠ 5) : w'.heap[k]? = some (.cells cs t f) := by
  refine h k _ hk (fun e => ?_) (fun c fz e => ?_)
  · cases e
    obtain ⟨_, p, v, h3⟩ := hB.cells
    rw [hk] at h3
    cases h3
    exact h1 rfl
  · cases e; exact h2 rfl
theorem OwnT.oth {B b : Nat} {bs : List UInt8} {w w' : World} {base sz : Nat} {e : TypeId} {v : Value} {n : Nat} {xs : List Value} (h : OwnT w base e sz v n xs) (ho : Oth b w w') (hB : Bld B b bs w) (h1 : e ≠ 77) (h2 : e ≠ 5) : OwnT w' base e sz v n xs := by
  obtain ⟨hl, h⟩ := h
  refine ⟨hl, ?_⟩
  rcases h with h | ⟨g, cap, cur, fz, q1, q2, q3, q4⟩
  · exact .inl h
  · exact .inr ⟨g, cap, cur, fz, q1, q2, ho.block hB q3 h1 h2, q4⟩
theorem fresh_bld (w : World) : Bld w.heap.size w.heap.size [] (w.alloc (.cells #[.pointer none, .slice none 0 0] 77)) := Lib.IsBuilderF.of (Lib.fresh_isBuilder _ _ w)
theorem byteCells_app (a b : List UInt8) : Lib.byteCells (a ++ b) = Lib.byteCells a ++ Lib.byteCells b := by simp [Lib.byteCells]

theorem writeByte_any (B b : Nat) (bs : List UInt8) (c : UInt8) (w : World) (h : Bld B b bs w) (hl : bs.length < 1073741824) :
    Calls Tryz.prog 29 #[.pointer (some ⟨b, 0, none⟩), .int .u8 c.toNat] w fun e w' => e = .returned .nilIface ∧ Bld B b (bs ++ [c]) w' ∧ Below B w w' ∧ Oth b w w' :=
  (Tryz.Builder_WriteByte_k B b _ c.toNat w h (by rw [Lib.byteCells_length]; omega) (by have := h.cells.1; have := h.lt; omega)).mono fun e w' ⟨h1, h2, h3, h4⟩ => ⟨h1, by rw [Bld, byteCells_app]; exact .inr h2, h3, h4⟩
theorem writeString_any (B b : Nat) (bs : List UInt8) (s : ByteArray) (w : World) (h : Bld B b bs w) (hl : bs.length < 1073741824) (hs : s.size < 1073741824) :
    Calls Tryz.prog 28 #[.pointer (some ⟨b, 0, none⟩), .string s] w fun e w' => e = .returned (.tuple #[.int .i64 s.size, .nilIface]) ∧ Bld B b (bs ++ s.data.toList) w' ∧ Below B w w' ∧ Oth b w w' :=
  (Tryz.Builder_WriteString_k B b _ s w h (by rw [Lib.byteCells_length]; omega) (by have := h.cells.1; have := h.lt; omega)).mono fun e w' ⟨h1, h2, h3, h4⟩ => ⟨h1, by rw [Bld, byteCells_app]; exact .inr h2, h3, h4⟩
theorem bldString_any (B b : Nat) (bs : List UInt8) (w : World) (h : Bld B b bs w) :
    Calls Tryz.prog 33 #[.pointer (some ⟨b, 0, none⟩)] w fun e w' => e = .returned (.string ⟨bs.toArray⟩) ∧ Bld B b bs w' ∧ Below B w w' ∧ Oth b w w' :=
  (Tryz.Builder_String_any_k B b bs w h (by have := h.cells.1; have := h.lt; omega))
theorem bldLen_any (B b : Nat) (bs : List UInt8) (w : World) (h : Bld B b bs w) :
    Calls Tryz.prog 32 #[.pointer (some ⟨b, 0, none⟩)] w fun e w' => e = .returned (.int .i64 bs.length) ∧ w = w' :=
  (Tryz.Builder_Len_f B b _ w h).mono fun e w' ⟨h1, h2⟩ => ⟨by rw [h1, Lib.byteCells_length], h2.symm⟩
/-- a number below a hundred, as text -/
def dec2 (n : Nat) : List UInt8 := if n < 10 then [UInt8.ofNat (48 + n)] else [UInt8.ofNat (48 + n / 10), UInt8.ofNat (48 + n % 10)]
theorem dec2_len (n : Nat) : (dec2 n).length ≤ 2 := by unfold dec2; split <;> simp
theorem itoa_any (n : Nat) (hn : n < 100) (w : World) : Calls Tryz.prog 156 #[.int .i64 n] w fun e w' => e = .returned (.string ⟨(dec2 n).toArray⟩) ∧ w = w' :=
  (Tryz.strconv_Itoa_small n hn w).mono fun e w' ⟨h1, h2⟩ => ⟨by
    rw [h1]
    unfold dec2
    split
    · rw [Lib.decDigits_one ‹_›]
    · rw [Lib.decDigits_two ‹_› hn], h2.symm⟩
end Go.Proofs.YtjmejfgkogjpaaaGreatDoor

namespace Go.Proofs.YtjmejfgkogjpaaaGreatDoor
open Go.RowKit Go Go.Shelf

structure CApp (w Wr : World) (base : Nat) (ty : TypeId) (vd : Value) (p m : Nat) (ds news : List Value) (ib ia iz : Nat) (D : Nat → Bool) (x : Nat → Value) (W : World) : Prop where
  old : Below w.heap.size w W
  size : Wr.heap.size ≤ W.heap.size
  kept : ∀ (k : Nat) (o : Obj), Wr.heap[k]? = some o → vd.ownBlock ≠ some k → W.heap[k]? = some o
  rd : OwnT W base ty 1 (bif D ia then x ia else vd) (bif D ia then p + m else p) (bif D ia then ds ++ news else ds)
  sb : D ib = true → D ia = false → ∃ g, x ib = .slice (some ⟨g, 0, none⟩) m m ∧ W.heap[g]? = some (.cells news.toArray ty) ∧ vd.ownBlock ≠ some g
  az : D iz = true → D ia = true ∧ x iz = x ia
section
variable {w Wr : World} {base : Nat} {ty : TypeId} {vd : Value} {p m : Nat} {ds news : List Value} {ib ia iz : Nat} {D : Nat → Bool} {x : Nat → Value} {W : World}
theorem CApp.start {x : Nat → Value} (hb : Below w.heap.size w W) (hs : Wr.heap.size ≤ W.heap.size) (hk : ∀ (k : Nat) (o : Obj), Wr.heap[k]? = some o → vd.ownBlock ≠ some k → W.heap[k]? = some o) (hr : OwnT W base ty 1 vd p ds) : CApp w Wr base ty vd p m ds news ib ia iz (fun _ => false) x W := ⟨hb, hs, hk, hr, nofun, nofun⟩
theorem CApp.grow {W' : World} (h : CApp w Wr base ty vd p m ds news ib ia iz D x W) (hb : Below W.heap.size W W') : CApp w Wr base ty vd p m ds news ib ia iz D x W' :=
  ⟨ext_trans h.old hb, Nat.le_trans h.size hb.size, fun k o h1 h3 => block_up hb (h.kept k o h1 h3), h.rd.up hb,
    fun h1 h2 => by obtain ⟨g, e, q1, q2⟩ := h.sb h1 h2; exact ⟨g, e, block_up hb q1, q2⟩, h.az⟩
/-- an operation that is none of the three -/
theorem CApp.other (h : CApp w Wr base ty vd p m ds news ib ia iz D x W) {i : Nat} (v : Value) (h1 : ib ≠ i) (h2 : ia ≠ i) (h3 : iz ≠ i) : CApp w Wr base ty vd p m ds news ib ia iz (upd D i) (updV x i v) W := by
  refine ⟨h.old, h.size, h.kept, ?_, ?_, ?_⟩
  · simpa only [upd, updV, if_neg h2] using h.rd
  · simpa only [upd, updV, if_neg h2, if_neg h1] using h.sb
  · simpa only [upd, updV, if_neg h2, if_neg h3] using h.az
theorem CApp.app (h : CApp w Wr base ty vd p m ds news ib ia iz D x W) (ha : D ia = false) {v' : Value} {w3 : World} (ho : OwnT w3 base ty 1 v' (p + m) (ds ++ news)) (hg : W.grownBy w3 vd.ownBlock) (hd : w.heap.size ≤ base) (h1 : ib ≠ ia) (h2 : iz ≠ ia) :
    CApp w Wr base ty vd p m ds news ib ia iz (upd D ia) (updV x ia v') w3 := by
  have hz : D iz = false := by
    cases e : D iz with
    | false => rfl
    | true => exact absurd (h.az e).1 (by rw [ha]; decide)
  have rd := h.rd
  rw [ha] at rd
  have hst : ∀ (k : Nat) (o : Obj), W.heap[k]? = some o → vd.ownBlock ≠ some k → w3.heap[k]? = some o := fun k o hk hn => (hg.block k (block_lt hk) (fun e => hn e.symm)).trans hk
  refine ⟨Below.grown h.old hg h.old.size (fun g hgv => Nat.le_trans hd (rd.lt g hgv).1), Nat.le_trans h.size hg.size, fun k o h1 h3 => hst k o (h.kept k o h1 h3) h3, ?_, fun _ e => by simp [upd] at e, fun e => ?_⟩
  · simpa [upd, updV] using ho
  · simp only [upd, if_neg h2] at e
    rw [hz] at e; cases e
theorem CApp.build (h : CApp w Wr base ty vd p m ds news ib ia iz D x W) (h1 : ia ≠ ib) (h2 : iz ≠ ib) : CApp w Wr base ty vd p m ds news ib ia iz (upd D ib) (updV x ib (.slice (some ⟨W.heap.size, 0, none⟩) m m)) (W.alloc (.cells news.toArray ty)) := by
  have g := h.grow (W' := W.alloc (.cells news.toArray ty)) (by go_grown)
  refine ⟨g.old, g.size, g.kept, ?_, fun _ h4 => ⟨W.heap.size, by simp [updV], alloc_new _ _, fun e => ?_⟩, ?_⟩
  · simpa only [upd, updV, if_neg h1] using g.rd
  · have h4' : D ia = false := by simpa only [upd, if_neg h1] using h4
    have r := h.rd
    rw [h4'] at r
    have := (r.lt _ e).2
    omega
  · simpa only [upd, updV, if_neg h1, if_neg h2] using g.az
theorem CApp.set (h : CApp w Wr base ty vd p m ds news ib ia iz D x W) (ha : D ia = true) {v : Value} (hv : v = x ia) (h1 : ia ≠ iz) (h2 : ib ≠ iz) : CApp w Wr base ty vd p m ds news ib ia iz (upd D iz) (updV x iz v) W := by
  refine ⟨h.old, h.size, h.kept, ?_, ?_, ?_⟩
  · simpa only [upd, updV, if_neg h1] using h.rd
  · simpa only [upd, updV, if_neg h1, if_neg h2] using h.sb
  · intro _
    simp only [upd, updV, if_neg h1, if_true]
    exact ⟨ha, hv⟩
end
end Go.Proofs.YtjmejfgkogjpaaaGreatDoor

namespace Go.Proofs.YtjmejfgkogjpaaaGreatDoor
open Go.RowKit Go Go.Shelf
attribute [local go_sem] Oper.semAt_some

def hexS : ByteArray := ⟨#[48, 49, 50, 51, 52, 53, 54, 55, 56, 57, 97, 98, 99, 100, 101, 102]⟩
def hexD (n : Nat) : UInt8 := if n < 10 then UInt8.ofNat (48 + n) else UInt8.ofNat (87 + n)
def hexT (l : List UInt8) : List UInt8 := l.flatMap fun c => [hexD (c.toNat / 16), hexD (c.toNat % 16)]
theorem hexT_snoc (l : List UInt8) (k : Nat) (hk : k < l.length) : hexT (l.take (k + 1)) = hexT (l.take k) ++ [hexD ((l.getD k 0).toNat / 16), hexD ((l.getD k 0).toNat % 16)] := by
  unfold hexT
  rw [List.take_succ_eq_append_getElem hk, List.flatMap_append, getD_of_lt 0 hk]; simp
theorem hexT_len (l : List UInt8) : (hexT l).length = 2 * l.length := by
  unfold hexT
  induction l with
  | nil => rfl
  | cons a r ih => rw [List.flatMap_cons, List.length_append, ih]; simp; omega
theorem and15 : ∀ x, x < 256 → bits .and .u8 ((x : Nat) : Int) 15 = ((x % 16 : Nat) : Int) := by decide +kernel
theorem hex_index (k : Nat) (hk : k < 16) (w : World) : (Instr.index 9 (.string ⟨#[48, 49, 50, 51, 52, 53, 54, 55, 56, 57, 97, 98, 99, 100, 101, 102]⟩) (.int .u8 k)).run Tryz.prog w = .ok (byteV (hexD k)) w := by
  have : k = 0 ∨ k = 1 ∨ k = 2 ∨ k = 3 ∨ k = 4 ∨ k = 5 ∨ k = 6 ∨ k = 7 ∨ k = 8 ∨ k = 9 ∨ k = 10 ∨ k = 11 ∨ k = 12 ∨ k = 13 ∨ k = 14 ∨ k = 15 := by omega
  rcases this with h | h | h | h | h | h | h | h | h | h | h | h | h | h | h | h <;> (subst h; with_reducible refine Eq.trans ?_ (Eq.refl _); kernel_rfl)

set_option maxRecDepth 100000 in
set_option maxHeartbeats 2000000 in
theorem digits_any (b : ByteArray) (hb : b.size ≤ 1048576) (hb0 : 0 < b.size) (w : World) :
    Calls Tryz.prog 31 #[.string b] w fun e w' => e = .returned (.string ⟨(hexT b.data.toList).toArray⟩) ∧ Below w.heap.size w w' := by
  obtain ⟨i0, hi0, hz0, hz1, hz2⟩ := info_parts Tryz.infoByte
  obtain ⟨cap, W1, hc, hb1, h1, h2, h3⟩ := conv_bytes b (by omega) w
  have h2' : cap ≤ 9223372036854775807 := by simp only [maxLen] at h2; omega
  have H3 := Lib.hid h3
  have HB1 := Lib.hid hb1
  clear h3 h2 hb1
  go_enter Tryz.func31, Tryz.ntmps31
  go_wp2
  clear hc
  go_loopw [3, 9] (fun v i wr => ∃ k : Nat, k ≤ b.size ∧ i = .int .i64 k ∧ Below W1.heap.size W1 wr ∧ OwnT wr W1.heap.size 5 1 v (2 * k) ((hexT (b.data.toList.take k)).map byteV)) (fun _ i _ => b.size - (intOf i).toNat)
  case atStart => exact ⟨0, by omega, rfl, Below.refl _ _, OwnT.nil _ _ _ _⟩
  case round =>
    obtain ⟨k, hk, rfl, hbr, hown⟩ := hrel
    have HBR := Lib.hid hbr
    have HO := Lib.hid hown
    obtain ⟨av, cv, rfl⟩ := hown.slice
    clear hown
    by_cases hlt : k < b.size
    · have cx : W1.cell? ⟨w.heap.size, k, none⟩ = some (.int .u8 ((b.data.toList.getD k 0).toNat : Int)) := by
        rw [cell_block H3.out, bytesRow_at b cap k hlt, bytes_get b k hlt]
      have dx := cell_up hbr cx
      have HSN := Lib.hid (hexT_snoc b.data.toList k (by simpa using hlt))
      have hx := byte_lt (b.data.toList.getD k 0)
      generalize (b.data.toList.getD k 0).toNat = xN at dx hx HSN
      clear cx
      have hi1 : ∀ w, (Instr.index 9 (.string ⟨#[48, 49, 50, 51, 52, 53, 54, 55, 56, 57, 97, 98, 99, 100, 101, 102]⟩) (.int .u8 ((xN : Int) / 16))).run Tryz.prog w = .ok (byteV (hexD (xN / 16))) w := fun w => by
        have := hex_index (xN / 16) (by omega) w
        rwa [Int.natCast_ediv] at this
      have hi2 : ∀ w, (Instr.index 9 (.string ⟨#[48, 49, 50, 51, 52, 53, 54, 55, 56, 57, 97, 98, 99, 100, 101, 102]⟩) (.int .u8 ((xN : Int) % 16))).run Tryz.prog w = .ok (byteV (hexD (xN % 16))) w := fun w => by
        have := hex_index (xN % 16) (by omega) w
        rwa [Int.natCast_emod] at this
      generalize hexD (xN / 16) = d1 at hi1 HSN
      generalize hexD (xN % 16) = d2 at hi2 HSN
      go_wp2
      have hszr := hbr.size
      clear dx
      refine wp_region_core3 10 [13, 14, 15, 16, 17, 18, 19, 20, 21, 3] [some (.slice av (2 * k) cv),
        some (.int .u8 (xN : Int)),
        some (.int .u8 ((xN : Int) / 16)),
        some (byteV d1),
        some (.int .u8 (xN : Int)),
        some (.int .u8 ((xN : Int) % 16)),
        some (byteV d2),
        none,
        none,
        none] (CApp W1 wr W1.heap.size 5 (.slice av (2 * k) cv) (2 * k) 2 _ [byteV d1, byteV d2] 7 8 9) (by kernel_rfl) rfl (by decide) rfl (by kernel_rfl) (fun _ => CApp.start hbr.drew (Nat.le_refl _) (fun _ _ h _ => h) HO.out) ?step ?tail
      case step =>
        intro x W D i o s F hi ho hs hD hun0 hcl hdep hv hcore hF
        have hcase : i = 0 ∨ i = 1 ∨ i = 2 ∨ i = 3 ∨ i = 4 ∨ i = 5 ∨ i = 6 ∨ i = 7 ∨ i = 8 ∨ i = 9 := by omega
        rcases hcase with rfl | rfl | rfl | rfl | rfl | rfl | rfl | rfl | rfl | rfl
        · have hun := hun0 _ _ hs hD
          obtain rfl := Option.some.inj ho.symm
          obtain rfl := Option.some.inj hs.symm
          clear hdep hi hv
          have hn9 : D 9 = false := by
            cases h : D 9 with
            | false => rfl
            | true => exact absurd (hcl 9 _ rfl h ⟨0, .phase⟩ (by simp) rfl) (by rw [hD]; decide)
          have e3 : F.getD 3 undef = .slice av (2 * k) cv := by (rw [hF]; exact (setAll_getD (by decide) (i := 9) rfl (Nat.le_of_ble_eq_true (by kernel_rfl))).trans (hun0 9 3 rfl hn9))
          clear hn9
          clear hun0 hcl
          clear hF hun
          have e3' := (show F[3]?.getD undef = F.getD 3 undef by simp only [Array.getD_eq_getD_getElem?]).trans e3
          have HD := Lib.hid hD
          have HCORE := Lib.hid hcore
          clear hD hcore
          refine core_move (.tmp 3) rfl rfl ?_
          refine CoreK.mk (F.getD 3 undef) (fun c hc => e3.trans (Option.some.inj hc)) ?_ rfl
          exact HCORE.out.other _ (by decide) (by decide) (by decide)
        · have hun := hun0 _ _ hs hD
          obtain rfl := Option.some.inj ho.symm
          obtain rfl := Option.some.inj hs.symm
          clear hdep hi hv
          have e5 : F.getD 5 undef = .int .u8 (xN : Int) := by (rw [hF, setAll_getD_ne (by decide)]; rfl)
          clear hun0 hcl
          clear hF hun
          have e5' := (show F[5]?.getD undef = F.getD 5 undef by simp only [Array.getD_eq_getD_getElem?]).trans e5
          have HD := Lib.hid hD
          have HCORE := Lib.hid hcore
          clear hD hcore
          refine core_move (.tmp 5) rfl rfl ?_
          refine CoreK.mk (F.getD 5 undef) (fun c hc => e5.trans (Option.some.inj hc)) ?_ rfl
          exact HCORE.out.other _ (by decide) (by decide) (by decide)
        · have hun := hun0 _ _ hs hD
          obtain rfl := Option.some.inj ho.symm
          obtain rfl := Option.some.inj hs.symm
          have g1 := hdep ⟨1, .data⟩ (by simp) rfl
          have d1 : x 1 = .int .u8 (xN : Int) := hv 1 _ (by omega) g1 rfl
          clear hdep hi hv
          have e14 : F.getD 14 undef = .int .u8 (xN : Int) := by (rw [← d1, hF]; exact setAll_getD (by decide) (i := 1) rfl (Nat.le_of_ble_eq_true (by kernel_rfl)))
          clear hun0 hcl
          clear hF hun d1
          have e14' := (show F[14]?.getD undef = F.getD 14 undef by simp only [Array.getD_eq_getD_getElem?]).trans e14
          have HD := Lib.hid hD
          have HCORE := Lib.hid hcore
          clear hD hcore
          clear g1
          go_wp2_with fail
          refine CoreK.mk _ (fun c hc => Option.some.inj hc) ?_ rfl
          exact HCORE.out.other _ (by decide) (by decide) (by decide)
        · have hun := hun0 _ _ hs hD
          obtain rfl := Option.some.inj ho.symm
          obtain rfl := Option.some.inj hs.symm
          have g2 := hdep ⟨2, .data⟩ (by simp) rfl
          have d2 : x 2 = .int .u8 ((xN : Int) / 16) := hv 2 _ (by omega) g2 rfl
          clear hdep hi hv
          have e15 : F.getD 15 undef = .int .u8 ((xN : Int) / 16) := by (rw [← d2, hF]; exact setAll_getD (by decide) (i := 2) rfl (Nat.le_of_ble_eq_true (by kernel_rfl)))
          clear hun0 hcl
          clear hF hun d2
          have e15' := (show F[15]?.getD undef = F.getD 15 undef by simp only [Array.getD_eq_getD_getElem?]).trans e15
          have HD := Lib.hid hD
          have HCORE := Lib.hid hcore
          clear hD hcore
          clear g2
          go_wp2_with fail
          refine CoreK.mk _ (fun c hc => Option.some.inj hc) ?_ rfl
          exact HCORE.out.other _ (by decide) (by decide) (by decide)
        · have hun := hun0 _ _ hs hD
          obtain rfl := Option.some.inj ho.symm
          obtain rfl := Option.some.inj hs.symm
          clear hdep hi hv
          have e5 : F.getD 5 undef = .int .u8 (xN : Int) := by (rw [hF, setAll_getD_ne (by decide)]; rfl)
          clear hun0 hcl
          clear hF hun
          have e5' := (show F[5]?.getD undef = F.getD 5 undef by simp only [Array.getD_eq_getD_getElem?]).trans e5
          have HD := Lib.hid hD
          have HCORE := Lib.hid hcore
          clear hD hcore
          refine core_move (.tmp 5) rfl rfl ?_
          refine CoreK.mk (F.getD 5 undef) (fun c hc => e5.trans (Option.some.inj hc)) ?_ rfl
          exact HCORE.out.other _ (by decide) (by decide) (by decide)
        · have hun := hun0 _ _ hs hD
          obtain rfl := Option.some.inj ho.symm
          obtain rfl := Option.some.inj hs.symm
          have g4 := hdep ⟨4, .data⟩ (by simp) rfl
          have d4 : x 4 = .int .u8 (xN : Int) := hv 4 _ (by omega) g4 rfl
          clear hdep hi hv
          have e17 : F.getD 17 undef = .int .u8 (xN : Int) := by (rw [← d4, hF]; exact setAll_getD (by decide) (i := 4) rfl (Nat.le_of_ble_eq_true (by kernel_rfl)))
          clear hun0 hcl
          clear hF hun d4
          have e17' := (show F[17]?.getD undef = F.getD 17 undef by simp only [Array.getD_eq_getD_getElem?]).trans e17
          have HD := Lib.hid hD
          have HCORE := Lib.hid hcore
          clear hD hcore
          clear g4
          go_wp2_with fail
          refine CoreK.mk _ (fun c hc => Option.some.inj hc) ?_ rfl
          exact HCORE.out.other _ (by decide) (by decide) (by decide)
        · have hun := hun0 _ _ hs hD
          obtain rfl := Option.some.inj ho.symm
          obtain rfl := Option.some.inj hs.symm
          have g5 := hdep ⟨5, .data⟩ (by simp) rfl
          have d5 : x 5 = .int .u8 ((xN : Int) % 16) := hv 5 _ (by omega) g5 rfl
          clear hdep hi hv
          have e18 : F.getD 18 undef = .int .u8 ((xN : Int) % 16) := by (rw [← d5, hF]; exact setAll_getD (by decide) (i := 5) rfl (Nat.le_of_ble_eq_true (by kernel_rfl)))
          clear hun0 hcl
          clear hF hun d5
          have e18' := (show F[18]?.getD undef = F.getD 18 undef by simp only [Array.getD_eq_getD_getElem?]).trans e18
          have HD := Lib.hid hD
          have HCORE := Lib.hid hcore
          clear hD hcore
          clear g5
          go_wp2_with fail
          refine CoreK.mk _ (fun c hc => Option.some.inj hc) ?_ rfl
          exact HCORE.out.other _ (by decide) (by decide) (by decide)
        · have hun := hun0 _ _ hs hD
          obtain rfl := Option.some.inj ho.symm
          obtain rfl := Option.some.inj hs.symm
          have g3 := hdep ⟨3, .data⟩ (by simp) rfl
          have d3 : x 3 = byteV d1 := hv 3 _ (by omega) g3 rfl
          have g6 := hdep ⟨6, .data⟩ (by simp) rfl
          have d6 : x 6 = byteV d2 := hv 6 _ (by omega) g6 rfl
          clear hdep hi hv
          have e16 : F.getD 16 undef = byteV d1 := by (rw [← d3, hF]; exact setAll_getD (by decide) (i := 3) rfl (Nat.le_of_ble_eq_true (by kernel_rfl)))
          have e19 : F.getD 19 undef = byteV d2 := by (rw [← d6, hF]; exact setAll_getD (by decide) (i := 6) rfl (Nat.le_of_ble_eq_true (by kernel_rfl)))
          clear hun0 hcl
          clear hF hun d3 d6
          have e16' := (show F[16]?.getD undef = F.getD 16 undef by simp only [Array.getD_eq_getD_getElem?]).trans e16
          have e19' := (show F[19]?.getD undef = F.getD 19 undef by simp only [Array.getD_eq_getD_getElem?]).trans e19
          have HD := Lib.hid hD
          have HCORE := Lib.hid hcore
          clear hD hcore
          clear g3
          clear g6
          go_wp2_with fail
          refine CoreK.mk _ (fun c hc => by cases hc) ?_ rfl
          exact HCORE.out.build (by decide) (by decide)
        · have hun := hun0 _ _ hs hD
          obtain rfl := Option.some.inj ho.symm
          obtain rfl := Option.some.inj hs.symm
          have g0 := hdep ⟨0, .data⟩ (by simp) rfl
          have d0 : x 0 = .slice av (2 * k) cv := hv 0 _ (by omega) g0 rfl
          have g7 := hdep ⟨7, .data⟩ (by simp) rfl
          clear hdep hi hv
          have e13 : F.getD 13 undef = .slice av (2 * k) cv := by (rw [← d0, hF]; exact setAll_getD (by decide) (i := 0) rfl (Nat.le_of_ble_eq_true (by kernel_rfl)))
          have e20 : F.getD 20 undef = x 7 := by (rw [hF]; exact setAll_getD (by decide) (i := 7) rfl (Nat.le_of_ble_eq_true (by kernel_rfl)))
          clear hun0 hcl
          clear hF hun d0
          obtain ⟨gb, qx, hgb, _⟩ := hcore.sb g7 hD
          rw [qx] at e20
          have hrow := hcore.rd
          rw [hD] at hrow
          have HROW4 : Hid (OwnT W W1.heap.size 5 1 (.slice av (2 * k) cv) (2 * k) _) := Lib.hid hrow
          have hnews : ∀ j u', [byteV d1, byteV d2][j]? = some u' → W.cell? (Addr.add ⟨gb, 0, none⟩ j) = some u' := fun j u' hj => by
            have e1 : (Addr.add ⟨gb, 0, none⟩ j) = ⟨gb, j, none⟩ := by unfold Addr.add; split <;> simp_all
            rw [e1, cell_block hgb]
            simpa using hj
          have HNEWS := Lib.hid hnews
          have hbs := hcore.size
          clear hnews hrow hgb qx
          have e13' := (show F[13]?.getD undef = F.getD 13 undef by simp only [Array.getD_eq_getD_getElem?]).trans e13
          have e20' := (show F[20]?.getD undef = F.getD 20 undef by simp only [Array.getD_eq_getD_getElem?]).trans e20
          have HD := Lib.hid hD
          have HCORE := Lib.hid hcore
          clear hD hcore
          clear g0
          clear g7
          refine wpList_append_T W rfl (.tmp 13) (.tmp 20) 75 rfl W1.heap.size 5 i0 _ 1 1 Tryz.underlying75 hi0 hz0 hz1 hz2 rfl (by decide) _ (2 * k) _ e13 HROW4.out ⟨gb, 0, none⟩ 2 2 [byteV d1, byteV d2] e20 rfl HNEWS.out (by simp [Value.oneCell']) (by unfold maxLen; omega) (by omega) (by omega) ?_
          intro v' w3 hown3 hgrow3 hwh3
          refine CoreK.mk v' (fun c hc => by cases hc) ?_ rfl
          exact HCORE.out.app HD.out hown3 hgrow3 (Nat.le_refl _) (by decide) (by decide)
        · have hun := hun0 _ _ hs hD
          obtain rfl := Option.some.inj ho.symm
          obtain rfl := Option.some.inj hs.symm
          have g8 := hdep ⟨8, .data⟩ (by simp) rfl
          clear hdep hi hv
          have e21 : F.getD 21 undef = x 8 := by (rw [hF]; exact setAll_getD (by decide) (i := 8) rfl (Nat.le_of_ble_eq_true (by kernel_rfl)))
          clear hun0 hcl
          clear hF hun
          have hr := hcore.rd
          rw [g8] at hr
          obtain ⟨ag, cg, qg⟩ := hr.slice
          have qg' : x 8 = .slice ag (2 * k + 2) cg := qg
          rw [qg'] at e21
          have HG := Lib.hid (And.intro qg' g8)
          clear hr qg qg'
          have e21' := (show F[21]?.getD undef = F.getD 21 undef by simp only [Array.getD_eq_getD_getElem?]).trans e21
          have HD := Lib.hid hD
          have HCORE := Lib.hid hcore
          clear hD hcore
          clear g8
          go_wp2_with fail
          refine CoreK.mk _ (fun c hc => by cases hc) ?_ rfl
          exact HCORE.out.set HG.out.2 HG.out.1.symm (by decide) (by decide)
      case tail =>
        intro x W' D F hall hv hcore hF
        have x0 := hv 0 _ (by omega) rfl
        have x1 := hv 1 _ (by omega) rfl
        have x2 := hv 2 _ (by omega) rfl
        have x3 := hv 3 _ (by omega) rfl
        have x4 := hv 4 _ (by omega) rfl
        have x5 := hv 5 _ (by omega) rfl
        have x6 := hv 6 _ (by omega) rfl
        have hrd := hcore.rd
        rw [hall 8 (by omega)] at hrd
        have x9 := (hcore.az (hall 9 (by omega))).2
        have hrd2 : OwnT W' W1.heap.size 5 1 (x 8) (2 * k + 2) ((hexT (b.data.toList.take (k + 1))).map byteV) := by
          rw [HSN.out, List.map_append]; exact hrd
        have HB' := Lib.hid hcore.old
        obtain ⟨g9, c9, q9⟩ := hrd2.slice
        rw [q9] at x9 hrd2
        have HRD := Lib.hid hrd2
        simp only [setAll, setFrom, List.setIfInBounds_toArray, List.set_cons_succ, List.set_cons_zero, Nat.reduceAdd, x0, x1, x2, x3, x4, x5, x6, x9, q9] at hF
        generalize x 7 = y7 at hF
        subst hF
        clear hv hall hcore hrd hrd2 x9 q9 x0 x1 x2 x3 x4 x5 x6
        go_wp2_with fail
        go_roundw
        case rel => exact ⟨k + 1, by omega, by go_num, HB'.out, HRD.out⟩
        case measure => simp [intOf]; omega
    · obtain rfl : k = b.size := by omega
      have hl : b.data.toList.take b.size = b.data.toList := List.take_of_length_le (by simp)
      rw [hl] at HO
      have hln := hexT_len b.data.toList
      rw [show b.data.toList.length = b.size by simp] at hln
      obtain ⟨g, c, hv, hconv⟩ := conv_back (l := hexT b.data.toList) (by rw [hln]; exact HO.out) (by omega)
      injection hv with h1 h2 h3
      subst h1 h3
      clear hl hln h2
      go_wp2_with fail
      go_ret
      exact ⟨rfl, ext_trans HB1.out hbr⟩
end Go.Proofs.YtjmejfgkogjpaaaGreatDoor

namespace Go.Proofs.YtjmejfgkogjpaaaGreatDoor
open Go.RowKit Go Go.Shelf
attribute [local go_sem] Oper.semAt_some

abbrev TzAt (w : World) : Prop := TabAt 2 Lib.deBruijn64tab w
theorem TzAt.up {w w' : World} (h : TzAt w) (hb : Below w.heap.size w w') : TzAt w' := fun j hj => cell_up hb (h j hj)
theorem TzAt.keep {w w' : World} (h : TzAt w) (hb : Keep w.heap.size w w') : TzAt w' := fun j hj => hb.cell (h j hj)
/-- the elements of a set of at most five processes -/
def elems (x : Nat) : List Nat := (List.range 5).filter fun i => x.testBit i
theorem elems_step : ∀ y, y < 32 → y ≠ 0 → elems y = Lib.ctz 64 y :: elems (y &&& (y - 1)) := by decide +kernel
theorem elems_less : ∀ y, y < 32 → y ≠ 0 → y &&& (y - 1) < y := by decide +kernel
theorem elems_lt (x : Nat) : ∀ i ∈ elems x, i < 5 := fun i hi => by simpa using (List.mem_filter.1 hi).1
theorem elems_len (x : Nat) : (elems x).length ≤ 5 := by have := List.length_filter_le (fun i => x.testBit i) (List.range 5); simpa [elems] using this

set_option maxHeartbeats 1000000 in
theorem tz_core (x k idx : Nat) (w : World) (hx0 : ((x : Int) == 0) = false)
    (key : IntKind.u64.wrap (bits BinOp.and IntKind.u64 (x : Int) (IntKind.u64.wrap (-(x : Int))) * 285870213051353865) / 288230376151711744 = (idx : Int))
    (hi : idx < 64) (hk : k < 64) (hcell : w.cell? ⟨2, idx, none⟩ = some (.int .u8 k)) :
    Calls Tryz.prog 137 #[.int .u64 x] w fun e w' => e = .returned (.int .i64 k) ∧ w = w' := by
  go_enter Tryz.func137, Tryz.ntmps137
  go_wp2_with (simp only [key])
  go_ret
  exact ⟨rfl, rfl⟩
theorem tz64_any (x : Nat) (hx : x < 32) (hx0 : x ≠ 0) (w : World) (hT : TzAt w) :
    Calls Tryz.prog 137 #[.int .u64 x] w fun e w' => e = .returned (.int .i64 (Lib.ctz 64 x)) ∧ w = w' := by
  obtain ⟨hlow, hk⟩ := Lib.lowest_bit 64 x hx0 (by omega)
  obtain ⟨hi, htab⟩ := Lib.deBruijn64_at _ hk
  have hcell := hT _ hi
  rw [htab] at hcell
  exact tz_core x _ _ w (by simp; omega) (tz64_key x _ (by omega) hx0 hlow) hi hk hcell
set_option maxHeartbeats 1000000 in
theorem tz_any (x : Nat) (hx : x < 32) (hx0 : x ≠ 0) (w : World) (hT : TzAt w) :
    Calls Tryz.prog 133 #[.int .u64 x] w fun e w' => e = .returned (.int .i64 (Lib.ctz 64 x)) ∧ w = w' := by
  have HC := Lib.hid (tz64_any x hx hx0 w hT)
  clear hT
  go_enter Tryz.func133, Tryz.ntmps133
  go_wp2_with fail
  refine HC.out.mono ?_
  rintro e w' ⟨rfl, rfl⟩
  go_wp2_with fail
  go_ret
  exact ⟨rfl, rfl⟩

set_option maxHeartbeats 400000 in
theorem elements_any (x : Int) (w : World) :
    Calls Tryz.prog 124 #[.int .i64 x] w fun e w' => e = .returned (.func (.func 132) #[] #[.pointer (some ⟨w.heap.size, 0, none⟩)]) ∧ w' = w.alloc (.cells #[.int .i64 x] 3) := by
  go_enter Tryz.func124, Tryz.ntmps124
  go_wp2
  go_ret
  exact ⟨rfl, rfl⟩

theorem and_u64 (y : Nat) (hy : y < 32) (h0 : y ≠ 0) : bits .and .u64 (y : Int) ((y : Int) - 1) = ((y &&& (y - 1) : Nat) : Int) := by
  have : ((y : Int) - 1) = ((y - 1 : Nat) : Int) := by omega
  rw [this, bits_and_u64_nat _ _ (by omega) (by omega)]
set_option maxRecDepth 100000 in
set_option maxHeartbeats 2000000 in
theorem elements1_seq (x : Nat) (hx : x < 32) (wd w : World) (hT : TzAt wd) (hb : Below wd.heap.size wd w) (Bx : Nat) (hX : w.heap[Bx]? = some (.cells #[.int .i64 x] 3)) :
    SeqIx Tryz.prog 132 #[.pointer (some ⟨Bx, 0, none⟩)] (fun i => #[.int .i64 ((elems x).getD i 0 : Nat)]) (elems x).length (fun k => k < wd.heap.size) w := by
  intro yl J Jx W hW hJ hJx hY h0
  have hx1 := cell_block (block_up hW hX) 0
  simp at hx1
  have hk0 : Keep wd.heap.size wd W := (Keep.of_below hb).trans (fun k hk => hW.block k (Nat.lt_of_lt_of_le hk hb.size))
  have HT := Lib.hid hT
  have HJ := Lib.hid hJ; clear hJ
  have HJX := Lib.hid hJx; clear hJx
  have HY := Lib.hid hY; clear hY hX hW hb hT
  refine (callsIn_wide (n := 0)).1 ?_
  refine callsIn_of_wp Tryz.func132 rfl trivial ?_ rfl
  simp only [Tryz.ntmps132, List.size_toArray, List.length_cons, List.length_nil, Nat.reduceAdd, Nat.reduceSub, Array.replicate_succ, Array.replicate_zero, List.push_toArray, List.append_toArray, List.nil_append, List.cons_append]
  gi_wp2
  clear hx1
  gi_loopw [3] (fun v wr => ∃ y i : Nat, y < 32 ∧ v = .int .u64 y ∧ i + (elems y).length = (elems x).length ∧ (∀ j, (elems y).getD j 0 = (elems x).getD (i + j) 0) ∧ Keep wd.heap.size wd wr ∧ J i wr) (fun v _ => (intOf v).toNat)
  case atStart => exact ⟨x, 0, hx, rfl, by omega, fun j => by rw [Nat.zero_add], hk0, h0⟩
  case round =>
    obtain ⟨y, i, hy, rfl, hl, hg, hkr, hj⟩ := hrel
    have HKR := Lib.hid hkr
    have HJR := Lib.hid hj
    have HL := Lib.hid hl
    have HG := Lib.hid hg
    clear hkr hj hl hg hk0 h0
    by_cases hy0 : y = 0
    · subst hy0
      gi_wp2
      go_end0
      have : (elems 0).length = 0 := by decide
      have e : i = (elems x).length := by have := HL.out; omega
      exact ⟨⟨_, rfl⟩, .inl (by rw [← e]; exact HJR.out)⟩
    · have hne : ((y : Int) != 0) = true := by simp; omega
      have hst := elems_step y hy hy0
      have hle := elems_less y hy hy0
      have hi : i < (elems x).length := by have := HL.out; rw [hst] at this; simp at this; omega
      have hval : (elems x).getD i 0 = Lib.ctz 64 y := by have := HG.out 0; rw [hst] at this; simpa using this.symm
      have HST := Lib.hid hst
      have HVAL := Lib.hid hval
      have HTZ := Lib.hid (tz_any y hy hy0 wr (HT.out.keep HKR.out))
      have hand := and_u64 y hy hy0
      have hw1 : IntKind.u64.wrap ((y : Int) - 1) = (y : Int) - 1 := by rw [IntKind.wrap_u64]; omega
      have HYI := Lib.hid (HY.out i wr hi HJR.out)
      clear hst hval
      have HA := Lib.hid (And.intro hand hw1)
      have HY0 := Lib.hid hy0
      clear hand hw1 hy0
      generalize Lib.ctz 64 y = k at HTZ HVAL HST
      gi_wp2
      refine ⟨trivial, rfl, callsIn_wide.2 (HTZ.out.mono ?_)⟩
      rintro e w' ⟨rfl, rfl⟩
      gi_wp2
      obtain ⟨fn, tmps, assign, body, hyy, hR⟩ := HYI.out
      rw [HVAL.out] at hyy
      have HR := Lib.hid hR
      clear hR
      gi_wp2
      simp only [hyy]
      refine ⟨fun h => (by simp [Fence.wide] at h), HR.out.mono ?_⟩
      rintro e W3 (⟨rfl, hJ3, hz3, hk3⟩ | ⟨rfl, hJx3⟩)
      · obtain ⟨hand, hw1⟩ := HA.out
        have HK3 := Lib.hid hk3
        clear hyy hk3
        gi_wp2
        go_roundw
        case rel =>
          refine ⟨y &&& (y - 1), i + 1, by omega, rfl, ?_, fun j => ?_, Keep.trans HKR.out HK3.out, hJ3⟩
          · have := HL.out; rw [HST.out] at this; simp at this; omega
          · have := HG.out (j + 1); rw [HST.out] at this; rw [show i + 1 + j = i + (j + 1) by omega]; simpa using this
        case measure => simp [intOf]; omega
      · gi_wp2
        refine bodyPost_ret (results_none rfl _ _ _) rfl ?_
        exact ⟨⟨_, rfl⟩, .inr ⟨_, by omega, hJx3⟩⟩

set_option maxHeartbeats 400000 in
theorem every_any (x : Int) (w : World) : Calls Tryz.prog 125 #[.int .i64 x] w fun e w' => e = .returned (.bool true) ∧ w = w' := by
  go_enter Tryz.func125, Tryz.ntmps125
  go_wp2
  go_ret
  exact ⟨rfl, rfl⟩

def intsV (l : List Int) : List Value := l.map (Value.int .i64)
structure CoI (w : World) (xs : List Int) (i : Nat) (W : World) : Prop where
  old : Below w.heap.size w W
  fn : W.heap[w.heap.size]? = some (.cells #[.func (.func 125) #[] #[]] 95)
  row : ∃ v, W.heap[w.heap.size + 1]? = some (.cells #[v] 28) ∧ OwnT W w.heap.size 3 1 v i (intsV (xs.take i))
theorem CoI.sta (w : World) (xs : List Int) (i : Nat) {B : Nat} (hB : w.heap.size ≤ B) : Sta B (CoI w xs i) := fun A A' hc h =>
  ⟨hc.below hB h.old.size h.old, hc.ck _ _ h.fn rfl, by obtain ⟨v, h1, h2⟩ := h.row; exact ⟨v, hc.ck _ _ h1 rfl, h2.ck hc.ck⟩⟩
set_option maxRecDepth 100000 in
set_option maxHeartbeats 4000000 in
theorem collected_any (gf : Nat) (lb : Array Value) (eg : ∀ args w, (callFunc gf args).run Tryz.prog w = .ok (.enter gf args) w) (xs : List Int) (hn : xs.length ≤ 1048576) (S : Nat → Prop) (w : World)
    (hseq : SeqIx Tryz.prog gf lb (fun i => #[.int .i64 (xs.getD i 0)]) xs.length S w) (hS : ∀ k, S k → k < w.heap.size) :
    Calls Tryz.prog 123 #[.func (.func gf) #[] lb, .func (.func 125) #[] #[]] w fun e w' => ∃ v, e = .returned v ∧ OwnT w' w.heap.size 3 1 v xs.length (intsV xs) ∧ Below w.heap.size w w' := by
  obtain ⟨i0, hi0, hz0, hz1, hz2⟩ := info_parts Tryz.infoInt
  refine calls_marks Tryz.func123 rfl ?_
  simp only [Tryz.ntmps123, List.size_toArray, List.length_cons, List.length_nil, Nat.reduceAdd, Nat.reduceSub, Array.replicate_succ, Array.replicate_zero, List.push_toArray, List.append_toArray, List.nil_append, List.cons_append]
  go_wp2_with fail
  refine wp_gen (fun W => CoI w xs 0 W) ⟨by go_grown, alloc_old _ (alloc_new _ _), _, alloc2_new _ _ _, ⟨by simp [intsV], .inl ⟨rfl, rfl⟩⟩⟩ (fun W0 hW0 => ?_)
  have hsz := block_lt hW0.row.choose_spec.1
  refine wp_range (gf := gf) (lb := lb) rfl eg hseq hW0.old (fun k hk => by have := hS k hk; omega) (fun i => rfl) (fun i W => CoI w xs i W) (fun _ _ _ => False) (fun i => CoI.sta w xs i (by omega)) (fun _ _ _ _ _ h => h) hW0 ?round ?done ?stop
  case round =>
    rintro l i W hi hl hI
    have hx : intsV (xs.take (i + 1)) = intsV (xs.take i) ++ [.int .i64 (xs.getD i 0)] := by
      unfold intsV
      rw [List.take_succ_eq_append_getElem hi, List.map_append, getD_of_lt 0 hi]; rfl
    have HX := Lib.hid hx
    generalize xs.getD i 0 = x at HX
    have HI := Lib.hid hI
    clear hI hx hseq hW0
    gi_wp2
    refine ⟨Bod.refl _ _ _, CoI w xs i, CoI.sta w xs i (by omega), HI.out, fun W2 h2 _ => ?_⟩
    have HI2 := Lib.hid h2
    obtain ⟨v, hv, hown⟩ := h2.row
    have c0 := cell_block h2.fn 0
    have c1 := cell_block hv 0
    have f1 := frozen_block hv 0
    simp at c0 c1
    have hs2 := h2.old.size
    have hs3 := block_lt hv
    have HV := Lib.hid hv
    have HOWN := Lib.hid hown
    have hne : ∀ g, v.ownBlock = some g → g ≠ w.heap.size + 1 := hown.ne hv (by decide)
    have HNE := Lib.hid hne
    obtain ⟨av, cv, rfl⟩ := hown.slice
    clear h2 hv hown hne HI
    have hee := enters_of Tryz.func125 (by kernel_rfl) rfl
    gi_wp2
    refine ⟨trivial, rfl, callsIn_round ((every_any _ _).mono ?_)⟩
    rintro e w' ⟨rfl, rfl⟩
    have hA : Below W2.heap.size W2 (W2.alloc (.cells #[.int .i64 x] 3)) := by go_grown
    have HOWN' := Lib.hid (HOWN.out.up hA)
    have hnews : ∀ j u', [Value.int .i64 x][j]? = some u' → (W2.alloc (.cells #[.int .i64 x] 3)).cell? (Addr.add ⟨W2.heap.size, 0, none⟩ j) = some u' := fun j u' hj => by
      obtain rfl : j = 0 := by by_cases e : j = 0; exact e; simp [e] at hj
      have e1 : (Addr.add ⟨W2.heap.size, 0, none⟩ 0) = ⟨W2.heap.size, 0, none⟩ := by unfold Addr.add; split <;> simp_all
      rw [e1, cell_block (alloc_new W2 _)]
      simpa using hj
    have HNEWS := Lib.hid hnews
    clear hnews
    gi_wp2_with (gi_at_builtin; (refine wpListIn_append_T _ rfl (.tmp 12) (.tmp 14) 28 rfl w.heap.size 3 i0 _ 1 8 Tryz.underlying28 hi0 hz0 hz1 hz2 rfl (by decide) _ i _ rfl HOWN'.out ⟨W2.heap.size, 0, none⟩ 1 1 [.int .i64 x] rfl rfl HNEWS.out (by simp [Value.oneCell']) (by unfold maxLen; omega) (by omega) (by simp; omega) ?_; intro v' w3 hown3 hgrow3 hwh3; obtain ⟨av', cv', rfl⟩ := hown3.slice; have hB3 := (hgrow3.block _ (block_lt (alloc_old _ HV.out)) (fun e => HNE.out _ e.symm rfl)).trans (alloc_old _ HV.out); have c3 := cell_block hB3 0; have f3 := frozen_block hB3 0; simp at c3))
    have hb3 : Below w.heap.size w w3 := Below.grown (HI2.out.old.alloc hs2 _) hgrow3 (by simp; omega) (fun g hg => (HOWN'.out.lt g hg).1)
    have hs4 := hgrow3.size
    simp only [World.size_alloc] at hs4
    have hnb : ∀ k o, W2.heap[k]? = some o → k ≠ w.heap.size + 1 → (Value.slice av i cv).ownBlock ≠ some k → (w3.setCell ⟨w.heap.size + 1, 0, none⟩ (.slice av' (i + 1) cv')).heap[k]? = some o := fun k o hk h1 h2 =>
      setCell_other ((hgrow3.block k (by have := block_lt hk; simp; omega) (fun e => h2 e.symm)).trans (alloc_old _ hk)) h1 _ _
    refine ⟨⟨by simp; omega, fun k hk => ?_, fun k o hB hk ho => ?_⟩, hb3.setCell (p := ⟨w.heap.size + 1, 0, none⟩) (by simp) _, ?_, ?_⟩
    · have h1 := hS k hk
      have h2 : W2.heap[k]? = some W2.heap[k] := Array.getElem?_eq_getElem (by omega)
      rw [h2]
      exact hnb k _ h2 (by omega) (fun e => by have := (HOWN.out.lt k e).1; omega)
    · exact hnb k o hk (by omega) (fun e => HOWN.out.isCells hk ho e.symm)
    · exact hnb _ _ HI2.out.fn (by omega) (fun e => HOWN.out.ne HI2.out.fn (by decide) _ e rfl)
    · refine ⟨_, by rw [setCell_same hB3]; rfl, ?_⟩
      rw [HX.out]
      exact hown3.put (hown3.ne hB3 (by decide)) _ _
  case done =>
    intro D W hD hI hK
    obtain ⟨v, hv, hown⟩ := hI.row
    have c1 := cell_block hv 0
    simp at c1
    obtain ⟨av, cv, rfl⟩ := hown.slice
    have HOWN := Lib.hid hown
    have HOLD := Lib.hid hI.old
    clear hI hv hown hseq hW0
    go_wp2_with fail
    refine marks_ret hK (results_tmp rfl _ _ _) ?_
    refine ⟨_, rfl, ?_, below_put (by omega) HOLD.out⟩
    rw [List.take_of_length_le (Nat.le_refl _)] at HOWN
    exact HOWN.out.ck (fun k o hk ho => (World.putObj_heap_other (fun e => by subst e; rw [hK] at hk; cases hk; cases ho)).trans hk)
  case stop =>
    intro D c i W _ _ h
    exact h.elim

/-- a slice of one's own that reads as numbers -/
theorem OwnT.ints {w : World} {base : Nat} {v : Value} {l : List Int} (h : OwnT w base 3 1 v l.length (intsV l)) (hl : l.length ≤ 1048576) (hr : ∀ x ∈ l, InR x) : IsInts w v l := by
  rcases h.2 with ⟨rfl, h0⟩ | ⟨g, cap, cur, fz, rfl, _, hg, _, hnc, hcm, _, ht⟩
  · have : l = [] := List.eq_nil_of_length_eq_zero h0
    subst this
    exact ⟨none, 0, rfl, ⟨by simp, by omega, fun _ => rfl⟩, by simp, fun i x hx => by simp at hx⟩
  · refine ⟨some ⟨g, 0, none⟩, cap, rfl, ⟨hnc, by unfold maxLen at hcm; omega, fun e => by cases e⟩, by omega, fun i x hx => ⟨g, 0, rfl, ?_, hr x (List.mem_of_getElem? hx)⟩⟩
    rw [Nat.zero_add, Nat.mul_one, cell_block hg]
    have h1 : (intsV l)[i]? = some (.int .i64 x) := by unfold intsV; rw [List.getElem?_map, hx]; rfl
    rw [← ht, List.getElem?_take] at h1
    split at h1
    · simpa using h1
    · cases h1

def natI (l : List Nat) : List Int := l.map fun x : Nat => (x : Int)
set_option maxHeartbeats 1000000 in
theorem members_any (n : Int) (x : Nat) (w : World) (hc : psetE n x = 0) (hx : x < 32) (hT : TzAt w) :
    Calls Tryz.prog 103 #[.int .i64 n, .int .i64 x] w fun e w' => ∃ v, e = .returned (.tuple #[v, .int .i64 0]) ∧ OwnT w' w.heap.size 3 1 v (elems x).length (intsV (natI (elems x))) ∧ Below w.heap.size w w' := by
  have hpc := procsetCheck_any n x w
  rw [hc] at hpc
  have HPC := Lib.hid hpc
  have HT := Lib.hid hT
  clear hpc hc hT
  go_enter Tryz.func103, Tryz.ntmps103
  go_wp2_with fail
  refine HPC.out.mono ?_
  rintro e w' ⟨rfl, rfl⟩
  go_wp2_with fail
  refine (elements_any _ _).mono ?_
  rintro e w' ⟨rfl, rfl⟩
  go_wp2_with fail
  have hlen : (natI (elems x)).length = (elems x).length := by simp [natI]
  have hg : ∀ i, (natI (elems x)).getD i 0 = (((elems x).getD i 0 : Nat) : Int) := fun i => by
    unfold natI
    by_cases h : i < (elems x).length
    · rw [getD_of_lt 0 (by simpa using h), getD_of_lt 0 h]; simp
    · simp [List.getElem?_eq_none (by omega : (elems x).length ≤ i)]
  have hA : Below w.heap.size w (w.alloc (.cells #[.int .i64 x] 3)) := by go_grown
  have hsq := elements1_seq x hx w (w.alloc (.cells #[.int .i64 x] 3)) HT.out hA w.heap.size (alloc_new _ _)
  have hco := collected_any 132 #[.pointer (some ⟨w.heap.size, 0, none⟩)] (enters_of Tryz.func132 (by kernel_rfl) rfl) (natI (elems x)) (by have := elems_len x; omega) (fun k => k < w.heap.size) _ (by rw [hlen]; simpa only [hg] using hsq) (fun k hk => by simp; omega)
  rw [hlen] at hco
  have HCO := Lib.hid hco
  clear hco hsq hlen hg
  refine HCO.out.mono ?_
  rintro e w2 ⟨v, rfl, hown, hb⟩
  have HOWN := Lib.hid hown
  obtain ⟨av, cv, rfl⟩ := hown.slice
  clear hown
  go_wp2_with fail
  go_ret2
  exact ⟨_, rfl, HOWN.out.base (by simp), ext_trans hA hb⟩

set_option maxHeartbeats 1000000 in
theorem gmembers_any (x : Nat) (w : World) (hx : x < 32) (hT : TzAt w) :
    Calls Tryz.prog 135 #[.int .i64 x] w fun e w' => ∃ v, e = .returned v ∧ OwnT w' w.heap.size 3 1 v (elems x).length (intsV (natI (elems x))) ∧ Below w.heap.size w w' := by
  have hps : psetE 5 x = 0 := by
    have : x = 0 ∨ x = 1 ∨ x = 2 ∨ x = 3 ∨ x = 4 ∨ x = 5 ∨ x = 6 ∨ x = 7 ∨ x = 8 ∨ x = 9 ∨ x = 10 ∨ x = 11 ∨ x = 12 ∨ x = 13 ∨ x = 14 ∨ x = 15 ∨ x = 16 ∨ x = 17 ∨ x = 18 ∨ x = 19 ∨ x = 20 ∨ x = 21 ∨ x = 22 ∨ x = 23 ∨ x = 24 ∨ x = 25 ∨ x = 26 ∨ x = 27 ∨ x = 28 ∨ x = 29 ∨ x = 30 ∨ x = 31 := by omega
    rcases this with h | h | h | h | h | h | h | h | h | h | h | h | h | h | h | h | h | h | h | h | h | h | h | h | h | h | h | h | h | h | h | h <;> subst h <;> decide
  have HM := Lib.hid (members_any 5 x w hps hx hT)
  clear hT hps
  go_enter Tryz.func135, Tryz.ntmps135
  go_wp2_with fail
  refine HM.out.mono ?_
  rintro e w2 ⟨v, rfl, hown, hb⟩
  have HOWN := Lib.hid hown
  obtain ⟨av, cv, rfl⟩ := hown.slice
  clear hown
  go_wp2_with fail
  go_ret
  exact ⟨_, rfl, HOWN.out, hb⟩
end Go.Proofs.YtjmejfgkogjpaaaGreatDoor

namespace Go.Proofs.YtjmejfgkogjpaaaGreatDoor
open Go.RowKit Go Go.Shelf
attribute [local go_sem] Oper.semAt_some

def setT (x : Nat) : List UInt8 := (elems x).map fun i => UInt8.ofNat (48 + i)
theorem setT_snoc (x k : Nat) (hk : k < (elems x).length) : (setT x).take (k + 1) = (setT x).take k ++ [UInt8.ofNat (48 + (elems x)[k])] := by
  unfold setT
  rw [List.take_succ_eq_append_getElem (by simpa using hk)]; simp
theorem intsV_get (l : List Nat) (k : Nat) (hk : k < l.length) : (intsV (natI l))[k]? = some (.int .i64 (l[k] : Nat)) := by simp [intsV, natI, hk]

set_option maxRecDepth 100000 in
set_option maxHeartbeats 2000000 in
theorem gtext_any (x : Nat) (w : World) (hx : x < 32) (hT : TzAt w) :
    Calls Tryz.prog 131 #[.int .i64 x] w fun e w' => e = .returned (.string ⟨(setT x).toArray⟩) ∧ Below w.heap.size w w' := by
  have HT := Lib.hid hT
  clear hT
  go_enter Tryz.func131, Tryz.ntmps131
  go_wp2_with fail
  refine calls_gen (fun W => Below w.heap.size w W ∧ Bld w.heap.size w.heap.size [] W) ⟨by go_grown, fresh_bld w⟩ (fun W0 hW0 => ?_)
  obtain ⟨hb0, hB0⟩ := hW0
  have HB0 := Lib.hid hB0
  clear hB0
  refine (gmembers_any x W0 hx (HT.out.up hb0)).mono ?_
  rintro e w1 ⟨v, rfl, hown, hb1⟩
  have HB1 := Lib.hid (HB0.out.up hb1)
  have HOWN := Lib.hid hown
  obtain ⟨av, cv, rfl⟩ := hown.slice
  have hlen := elems_len x
  clear hown
  have HW1 := Lib.hid (ext_trans hb0 hb1)
  go_wp2_with fail
  go_loopw [9] (fun i wr => ∃ k : Nat, k ≤ (elems x).length ∧ i = .int .i64 k ∧ Below w.heap.size w wr ∧ Bld w.heap.size w.heap.size ((setT x).take k) wr ∧ OwnT wr W0.heap.size 3 1 (.slice av (elems x).length cv) (elems x).length (intsV (natI (elems x)))) (fun i _ => (elems x).length - (intOf i).toNat)
  case atStart => exact ⟨0, by omega, rfl, HW1.out, by simpa using HB1.out, HOWN.out⟩
  case round =>
    obtain ⟨k, hk, rfl, hbr, hB, hown⟩ := hrel
    have HBR := Lib.hid hbr
    have HB := Lib.hid hB
    have HO := Lib.hid hown
    clear hbr hB
    by_cases hlt : k < (elems x).length
    · obtain ⟨g, c, hs, hc⟩ := hown.cell k _ (intsV_get _ k hlt)
      injection hs with h1 _ h3
      subst h1 h3
      have HSN := Lib.hid (setT_snoc x k hlt)
      have hv := elems_lt x _ (List.getElem_mem hlt)
      clear hown
      generalize (elems x)[k] = y at hc HSN hv
      have hy : UInt8.ofNat (48 + y) = UInt8.ofNat (48 + y) := rfl
      have hyn : ((UInt8.ofNat (48 + y)).toNat : Int) = 48 + y := by
        have : (UInt8.ofNat (48 + y)).toNat = 48 + y := by rw [UInt8.toNat_ofNat']; omega
        omega
      have hwb := writeByte_any w.heap.size w.heap.size ((setT x).take k) (UInt8.ofNat (48 + y)) wr HB.out (by have := List.length_take_le k (setT x); simp [setT] at *; omega)
      rw [hyn] at hwb
      have HWB := Lib.hid hwb
      have hy0 : (0 : Int) ≤ y := by omega
      have hy1 : (y : Int) ≤ 5 := by omega
      clear hwb hy hyn
      go_wp2_with fail
      refine HWB.out.mono ?_
      rintro e w2 ⟨rfl, hB2, hb2, ho2⟩
      have HB2 := Lib.hid hB2
      clear hc hB2
      go_wp2_with fail
      go_roundw
      case rel => exact ⟨k + 1, by omega, by go_num, HBR.out.trans hb2, by rw [HSN.out]; exact HB2.out, HO.out.oth ho2 HB.out (by decide) (by decide)⟩
      case measure => simp [intOf]; omega
    · clear hown
      have hl : (setT x).take k = setT x := List.take_of_length_le (by simp [setT]; omega)
      rw [hl] at HB
      clear hl
      go_wp2_with fail
      refine (bldString_any _ _ _ _ HB.out).mono ?_
      rintro e w2 ⟨rfl, _, hb2, _⟩
      go_wp2_with fail
      go_ret
      exact ⟨rfl, HBR.out.trans hb2⟩

/-! ### strings.Join over a row of the call's own -/
theorem Tryz.infoStr : (Tryz.prog.info? 9).map (fun i => (i.zero, i.size, i.bytes)) = some (some (.string ⟨#[]⟩), 1, 16) := by kernel_rfl
theorem joinTail_len (sep : List UInt8) (M : Nat) (r : List (List UInt8)) (h : ∀ x ∈ r, x.length ≤ M) : (Lib.joinTail sep r).length ≤ r.length * (sep.length + M) := by
  unfold Lib.joinTail
  induction r with
  | nil => simp
  | cons a r ih =>
    have h1 := ih (fun x hx => h x (by simp [hx]))
    have h2 := h a (by simp)
    simp only [List.map_cons, List.flatten_cons, List.length_append, List.length_cons, Nat.succ_mul] at h1 ⊢
    omega
theorem join_len (sep : List UInt8) (M : Nat) (xs : List (List UInt8)) (h : ∀ x ∈ xs, x.length ≤ M) : (Lib.join xs sep).length ≤ xs.length * (sep.length + M) := by
  cases xs with
  | nil => simp [Lib.join]
  | cons a r =>
    rw [Lib.join_cons]
    have h1 := joinTail_len sep M r (fun x hx => h x (by simp [hx]))
    have h2 := h a (by simp)
    simp only [List.length_append, List.length_cons, Nat.succ_mul]
    omega
def strV (xs : List (List UInt8)) : List Value := xs.map fun s => Value.string ⟨s.toArray⟩
theorem strV_snoc (xs : List (List UInt8)) (k : Nat) (hk : k < xs.length) : strV (xs.take (k + 1)) = strV (xs.take k) ++ [.string ⟨(xs.getD k []).toArray⟩] := by
  unfold strV
  rw [List.take_succ_eq_append_getElem hk, List.map_append, getD_of_lt [] hk]; rfl
theorem join_any (base : Nat) (v : Value) (xs : List (List UInt8)) (sep : ByteArray) (w : World) (hown : OwnT w base 9 1 v xs.length (strV xs)) (hn : xs.length ≤ 2000) (hM : ∀ x ∈ xs, x.length ≤ 1000) (hs : sep.size ≤ 100) :
    Calls Tryz.prog 58 #[v, .string sep] w fun e w' => e = .returned (.string ⟨(Lib.join xs sep.data.toList).toArray⟩) ∧ Below w.heap.size w w' := by
  rcases hown.2 with ⟨rfl, h0⟩ | ⟨g, cap, cur, fz, rfl, _, hg, _, hnc, _, _, ht⟩
  · have : xs = [] := List.eq_nil_of_length_eq_zero h0
    subst this
    exact (Tryz.strings_Join_none none 0 sep w).mono fun e w' ⟨h1, h2⟩ => ⟨by rw [h1]; rfl, by rw [h2]; exact Below.refl _ _⟩
  · have e1 : (xs.map fun s : List UInt8 => (⟨s.toArray⟩ : ByteArray)).map (·.data.toList) = xs := by
      rw [List.map_map]
      conv => rhs; rw [← List.map_id xs]
      exact List.map_congr_left fun a _ => by simp
    have hb := block_lt hg
    have hj := join_len sep.data.toList 1000 xs hM
    have h3 : sep.data.toList.length ≤ 100 := by simpa using hs
    have h4 : xs.length * (sep.data.toList.length + 1000) ≤ 2000 * 1100 := Nat.mul_le_mul hn (by omega)
    have hc := Tryz.strings_Join g 0 cap (xs.map fun s : List UInt8 => (⟨s.toArray⟩ : ByteArray)) sep w (fun j x hx => by
        rw [cell_block hg, Nat.zero_add]
        rw [List.getElem?_map] at hx
        have h1 : (strV xs)[j]? = some (.string x) := by
          unfold strV
          rw [List.getElem?_map]
          cases h : xs[j]? with
          | none => rw [h] at hx; cases hx
          | some y => rw [h] at hx; cases hx; rfl
        rw [← ht, List.getElem?_take] at h1
        split at h1
        · simpa using h1
        · cases h1) hb (by simp; omega) (by simpa using hnc) (by rw [e1]; omega)
    rw [e1] at hc
    simpa using hc

def graphT (g : Gr) : List (List UInt8) := (List.range g.n.toNat).map fun p => setT (g.hear p).toNat
theorem setT_len (x : Nat) : (setT x).length ≤ 5 := by have := elems_len x; simpa [setT] using this
theorem gr_cell (g : Gr) (p : Nat) (hp : p < 5) : (#[.int .i64 g.n, .int .i64 g.h0, .int .i64 g.h1, .int .i64 g.h2, .int .i64 g.h3, .int .i64 g.h4] : Array Value)[1 + p]? = some (.int .i64 (g.hear p)) := by
  have : p = 0 ∨ p = 1 ∨ p = 2 ∨ p = 3 ∨ p = 4 := by omega
  rcases this with h | h | h | h | h <;> subst h <;> rfl

set_option maxRecDepth 100000 in
set_option maxHeartbeats 2000000 in
theorem written_any (g : Gr) (w : World) (hn : 1 ≤ g.n ∧ g.n ≤ 5) (hh : ∀ p, p < 5 → 0 ≤ g.hear p ∧ g.hear p < 32) (hT : TzAt w) :
    Calls Tryz.prog 122 #[g.v] w fun e w' => e = .returned (.string ⟨(Lib.join (graphT g) [32]).toArray⟩) ∧ Below w.heap.size w w' := by
  have HT := Lib.hid hT
  obtain ⟨i0, hi0, hz0, hz1, hz2⟩ := info_parts Tryz.infoStr
  have HH := Lib.hid hh
  obtain ⟨n, hnn⟩ : ∃ n : Nat, g.n = n := ⟨g.n.toNat, by omega⟩
  have hn5 : n ≤ 5 := by omega
  have HL : Hid ((graphT g).length = n) := by (have h : (graphT g).length = n := by (simp [graphT, hnn])); exact h
  have HG : Hid (∀ p, p < n → (graphT g).getD p [] = setT (g.hear p).toNat) := by
    have h : ∀ p, p < n → (graphT g).getD p [] = setT (g.hear p).toNat := fun p hp => by
      rw [getD_of_lt [] (by rw [HL.out]; exact hp)]
      simp [graphT]
    exact h
  have HM : Hid (∀ x ∈ graphT g, x.length ≤ 1000) := by
    have h : ∀ x ∈ graphT g, x.length ≤ 1000 := fun x hx => by
      obtain ⟨p, _, rfl⟩ := List.mem_map.1 hx
      have := setT_len (g.hear p).toNat
      omega
    exact h
  have HC := Lib.hid (gr_cell g)
  generalize graphT g = xs at HL HG HM
  have HNN := Lib.hid hnn
  clear hT hh hn
  unfold Gr.v
  rw [hnn] at HC ⊢
  clear hnn
  go_enter Tryz.func122, Tryz.ntmps122
  go_wp2_with fail
  refine wp_gen (fun W => Below w.heap.size w W ∧ W.heap[w.heap.size]? = some (.cells #[.int .i64 n, .int .i64 g.h0, .int .i64 g.h1, .int .i64 g.h2, .int .i64 g.h3, .int .i64 g.h4] 47)) ⟨by go_grown, alloc_new _ _⟩ (fun W0 hW0 => ?_)
  obtain ⟨hb0, hG0⟩ := hW0
  go_loopw [3, 7] (fun v i wr => ∃ k : Nat, k ≤ n ∧ i = .int .i64 k ∧ Below w.heap.size w wr ∧ wr.heap[w.heap.size]? = some (.cells #[.int .i64 n, .int .i64 g.h0, .int .i64 g.h1, .int .i64 g.h2, .int .i64 g.h3, .int .i64 g.h4] 47) ∧ OwnT wr w.heap.size 9 1 v k (strV (xs.take k))) (fun _ i _ => n - (intOf i).toNat)
  case atStart => exact ⟨0, by omega, rfl, hb0, hG0, OwnT.nil _ _ _ _⟩
  case round =>
    obtain ⟨k, hk, rfl, hbr, hG, hown⟩ := hrel
    have HBR := Lib.hid hbr
    have HGR := Lib.hid hG
    have HO := Lib.hid hown
    obtain ⟨av, cv, rfl⟩ := hown.slice
    have hsz := block_lt hG
    clear hbr hown hb0 hG0
    by_cases hlt : k < n
    · have c1 := cell_block hG (1 + k)
      rw [HC.out k (by omega)] at c1
      have hh := HH.out k (by omega)
      have HSN := Lib.hid (strV_snoc xs k (by have := HL.out; omega))
      rw [HG.out k hlt] at HSN
      generalize g.hear k = y at c1 hh HSN
      obtain ⟨x, rfl⟩ : ∃ x : Nat, y = x := ⟨y.toNat, by omega⟩
      rw [Int.toNat_natCast] at HSN
      have hx : x < 32 := by omega
      have HGT := Lib.hid (gtext_any x wr hx (HT.out.up HBR.out))
      clear hG hh
      generalize setT x = s at HSN HGT
      go_wp2_with fail
      refine HGT.out.mono ?_
      rintro e w1 ⟨rfl, hb1⟩
      have hG1 := block_up hb1 HGR.out
      have hA : Below w1.heap.size w1 (w1.alloc (.cells #[.string ⟨s.toArray⟩] 9)) := by go_grown
      have HO1 := Lib.hid ((HO.out.up hb1).up hA)
      have hnews : ∀ j u', [Value.string ⟨s.toArray⟩][j]? = some u' → (w1.alloc (.cells #[.string ⟨s.toArray⟩] 9)).cell? (Addr.add ⟨w1.heap.size, 0, none⟩ j) = some u' := fun j u' hj => by
        obtain rfl : j = 0 := by by_cases e : j = 0; exact e; simp [e] at hj
        have e1 : (Addr.add ⟨w1.heap.size, 0, none⟩ 0) = ⟨w1.heap.size, 0, none⟩ := by unfold Addr.add; split <;> simp_all
        rw [e1, cell_block (alloc_new w1 _)]
        simpa using hj
      have HNEWS := Lib.hid hnews
      have HG1 := Lib.hid hG1
      have HB1 := Lib.hid hb1
      have hs1 := hb1.size
      clear hnews c1 hG1 hb1
      go_wp2_with (at_builtin; (refine wpList_append_T _ rfl (.tmp 10) (.tmp 16) 118 rfl w.heap.size 9 i0 _ 1 16 Tryz.underlying118 hi0 hz0 hz1 hz2 rfl (by decide) _ k _ rfl HO1.out ⟨w1.heap.size, 0, none⟩ 1 1 [.string ⟨s.toArray⟩] rfl rfl HNEWS.out (by simp [Value.oneCell']) (by unfold maxLen; omega) (by omega) (by simp; omega) ?_; intro v' w3 hown3 hgrow3 hwh3; have HO3 := Lib.hid hown3; have HGR3 := Lib.hid hgrow3; obtain ⟨av', cv', rfl⟩ := hown3.slice; clear hown3 hgrow3 hwh3))
      go_roundw
      case rel =>
        refine ⟨k + 1, by omega, by go_num, Below.grown ((ext_trans HBR.out HB1.out).alloc (by omega) _) HGR3.out (by simp; omega) (fun g hg => (HO1.out.lt g hg).1), ?_, by rw [HSN.out]; exact HO3.out⟩
        exact (HGR3.out.block _ (by have := block_lt HG1.out; simp; omega) (fun e => HO1.out.ne (alloc_old _ HG1.out) (by decide) _ e.symm rfl)).trans (alloc_old _ HG1.out)
      case measure => simp [intOf]; omega
    · obtain rfl : k = n := by omega
      have hl : xs.take k = xs := List.take_of_length_le (by have := HL.out; omega)
      rw [hl] at HO
      have HJ := Lib.hid (join_any w.heap.size _ xs ⟨#[32]⟩ wr (by rw [HL.out]; exact HO.out) (by have := HL.out; omega) HM.out (by decide))
      clear hl
      go_wp2_with fail
      refine HJ.out.mono ?_
      rintro e w2 ⟨rfl, hb2⟩
      go_wp2_with fail
      go_ret
      exact ⟨rfl, ext_trans HBR.out hb2⟩

/-- a well-formed round -/
theorem round_ok {r : Rd} (h : roundE r = 0) : graphE r.g = 0 ∧ 1 ≤ r.g.n ∧ r.g.n ≤ 5 ∧ ∀ p, p < 5 → 0 ≤ r.g.hear p ∧ r.g.hear p < 32 := by
  have hg : graphE r.g = 0 := by
    unfold roundE at h
    by_cases e : graphE r.g = 0
    · exact e
    · rw [if_pos e] at h; exact absurd h e
  have h1 := hg
  unfold graphE at h1
  split at h1
  · cases h1
  · rename_i hn
    refine ⟨hg, by omega, by omega, fun p hp => ?_⟩
    have h2 := firstNZ_all h1 p hp
    have hb : (2 : Int) ^ r.g.n.toNat ≤ 32 := by
      have : r.g.n.toNat = 0 ∨ r.g.n.toNat = 1 ∨ r.g.n.toNat = 2 ∨ r.g.n.toNat = 3 ∨ r.g.n.toNat = 4 ∨ r.g.n.toNat = 5 := by omega
      rcases this with e | e | e | e | e | e <;> rw [e] <;> decide
    unfold hearE at h2
    split at h2
    · split at h2
      · cases h2
      · rename_i e; simp at e; omega
    · split at h2
      · cases h2
      · omega
def gT (g : Gr) : List UInt8 := Lib.join (graphT g) [32]
theorem gT_len (g : Gr) (hn : g.n ≤ 5) : (gT g).length ≤ 30 := by
  have := join_len [32] 5 (graphT g) (fun x hx => by obtain ⟨p, _, rfl⟩ := List.mem_map.1 hx; exact setT_len _)
  have h2 : (graphT g).length ≤ 5 := by simp [graphT]; omega
  unfold gT
  simp only [List.length_cons, List.length_nil] at this
  omega

set_option maxHeartbeats 1000000 in
theorem gformat_any (g : Gr) (w : World) (hg : graphE g = 0) (hn : 1 ≤ g.n ∧ g.n ≤ 5) (hh : ∀ p, p < 5 → 0 ≤ g.hear p ∧ g.hear p < 32) (hT : TzAt w) :
    Calls Tryz.prog 102 #[g.v] w fun e w' => e = .returned (.tuple #[.string ⟨(gT g).toArray⟩, .int .i64 0]) ∧ Below w.heap.size w w' := by
  have HT := Lib.hid hT
  have HC := Lib.hid (fun W => graphCheck_any g W)
  rw [hg] at HC
  have HW := Lib.hid (fun W (h : TzAt W) => written_any g W hn hh h)
  unfold gT
  generalize Lib.join (graphT g) [32] = s at HW
  clear hg hn hh hT
  go_enter Tryz.func102, Tryz.ntmps102
  go_wp2_with fail
  refine calls_gen (fun W => Below w.heap.size w W ∧ W.heap[w.heap.size]? = some (.cells #[.int .i64 g.n, .int .i64 g.h0, .int .i64 g.h1, .int .i64 g.h2, .int .i64 g.h3, .int .i64 g.h4] 47)) ⟨by go_grown, alloc_new _ _⟩ (fun W0 hW0 => ?_)
  obtain ⟨hb0, hG0⟩ := hW0
  have HG0 := Lib.hid hG0
  clear hG0
  refine (HC.out W0).mono ?_
  rintro e w1 ⟨rfl, hb1⟩
  have HB1 := Lib.hid (ext_trans hb0 hb1)
  have t1 := cell_block (block_up hb1 HG0.out)
  go_wp2_with fail
  refine (HW.out w1 (HT.out.up HB1.out)).mono ?_
  rintro e w2 ⟨rfl, hb2⟩
  go_wp2_with fail
  go_ret2
  exact ⟨rfl, ext_trans HB1.out hb2⟩

set_option maxHeartbeats 1000000 in
theorem rtext_any (r : Rd) (w : World) (hr : roundE r = 0) (hf : r.f = 0) (hT : TzAt w) :
    Calls Tryz.prog 57 #[r.v] w fun e w' => e = .returned (.tuple #[.string ⟨(gT r.g).toArray⟩, .int .i64 0]) ∧ Below w.heap.size w w' := by
  obtain ⟨hg, hn1, hn2, hh⟩ := round_ok hr
  have HT := Lib.hid hT
  have HW := Lib.hid (fun W (h : TzAt W) => gformat_any r.g W hg ⟨hn1, hn2⟩ hh h)
  unfold Rd.v
  rw [hf]
  generalize gT r.g = s at HW
  clear hg hn1 hn2 hh hT hr hf
  go_enter Tryz.func57, Tryz.ntmps57
  go_wp2_with fail
  refine calls_gen (fun W => Below w.heap.size w W ∧ W.heap[w.heap.size]? = some (.cells #[.int .i64 r.g.n, .int .i64 r.g.h0, .int .i64 r.g.h1, .int .i64 r.g.h2, .int .i64 r.g.h3, .int .i64 r.g.h4, .int .i64 0] 49)) ⟨by go_grown, alloc_new _ _⟩ (fun W0 hW0 => ?_)
  obtain ⟨hb0, hG0⟩ := hW0
  have HG0 := Lib.hid hG0
  clear hG0
  refine (HW.out W0 (HT.out.up hb0)).mono ?_
  rintro e w1 ⟨rfl, hb1⟩
  have HB1 := Lib.hid (ext_trans hb0 hb1)
  have t1 := cell_block (block_up hb1 HG0.out)
  go_wp2_with fail
  go_ret2
  exact ⟨rfl, HB1.out⟩

def wordT (l : List Rd) : List (List UInt8) := l.map fun r => gT r.g
set_option maxRecDepth 100000 in
set_option maxHeartbeats 2000000 in
theorem rformat_any (n : Nat) (v : Value) (l : List Rd) (w : World) (hv : IsWord w v l) (he : wordE n l = 0) (hl0 : l ≠ []) (hl : l.length ≤ 1024) (hf : ∀ r ∈ l, r.f = 0) (hT : TzAt w) :
    Calls Tryz.prog 30 #[.int .i64 n, v] w fun e w' => e = .returned (.tuple #[.string ⟨(Lib.join (wordT l) [32, 47, 32]).toArray⟩, .int .i64 0]) ∧ Below w.heap.size w w' := by
  obtain ⟨i0, hi0, hz0, hz1, hz2⟩ := info_parts Tryz.infoStr
  have HT := Lib.hid hT
  have HC := Lib.hid (word_any n v l w hv)
  rw [he] at HC
  have HR : Hid (∀ k, k < l.length → roundE l[k]! = 0 ∧ l[k]!.f = 0 ∧ l[k]!.g.n ≤ 5) := by
    have h : ∀ k, k < l.length → roundE l[k]! = 0 ∧ l[k]!.f = 0 ∧ l[k]!.g.n ≤ 5 := fun k hk => by
      have h1 := (wordE_hear he hk).1
      rw [getD_of_lt default hk] at h1
      have h2 : l[k]! = l[k] := by simp [hk]
      rw [h2]
      exact ⟨h1, hf _ (List.getElem_mem hk), (round_ok h1).2.2.1⟩
    exact h
  obtain ⟨pl, cl, rfl, ll1, ll2, el⟩ := hv.at
  have EL := Lib.hid el
  have hlp : 0 < l.length := List.length_pos_iff.2 hl0
  have hlz : ((l.length : Int) == 0) = false := by simp; exact hl0
  have HL : Hid ((wordT l).length = l.length) := by (have h : (wordT l).length = l.length := by (simp [wordT])); exact h
  have HG : Hid (∀ k, k < l.length → (wordT l).getD k [] = gT l[k]!.g) := by
    have h : ∀ k, k < l.length → (wordT l).getD k [] = gT l[k]!.g := fun k hk => by
      rw [getD_of_lt [] (by rw [HL.out]; exact hk)]
      simp [wordT, hk]
    exact h
  have HM : Hid (∀ x ∈ wordT l, x.length ≤ 1000) := by
    have h : ∀ x ∈ wordT l, x.length ≤ 1000 := fun x hx => by
      obtain ⟨k, hk, rfl⟩ := List.mem_iff_getElem.1 hx
      have hk' : k < l.length := by rw [← HL.out]; exact hk
      have h1 := HG.out k hk'
      rw [getD_of_lt [] hk] at h1
      rw [h1]
      have := gT_len l[k]!.g (HR.out k hk').2.2
      omega
    exact h
  generalize wordT l = xs at HL HG HM
  clear hv he hf hT el hl0
  go_enter Tryz.func30, Tryz.ntmps30
  go_wp2_with fail
  refine HC.out.mono ?_
  rintro e w1 ⟨rfl, hb1⟩
  go_wp2_with fail
  clear hlz
  go_loopw [7, 23] (fun v i wr => ∃ k : Nat, k ≤ l.length ∧ i = .int .i64 k ∧ Below w.heap.size w wr ∧ OwnT wr w.heap.size 9 1 v k (strV (xs.take k))) (fun _ i _ => l.length - (intOf i).toNat)
  case atStart => exact ⟨0, by omega, rfl, hb1, OwnT.nil _ _ _ _⟩
  case round =>
    obtain ⟨k, hk, rfl, hbr, hown⟩ := hrel
    have HBR := Lib.hid hbr
    have HO := Lib.hid hown
    obtain ⟨av, cv, rfl⟩ := hown.slice
    clear hown
    by_cases hlt : k < l.length
    · obtain ⟨b1, o1, rfl, ⟨c0, _⟩, ⟨c1, _⟩, ⟨c2, _⟩, ⟨c3, _⟩, ⟨c4, _⟩, ⟨c5, _⟩, ⟨c6, _⟩⟩ := EL.out k hlt
      have d0 := cell_up hbr c0
      have d1 := cell_up hbr c1
      have d2 := cell_up hbr c2
      have d3 := cell_up hbr c3
      have d4 := cell_up hbr c4
      have d5 := cell_up hbr c5
      have d6 := cell_up hbr c6
      clear c0 c1 c2 c3 c4 c5 c6
      have hr := HR.out k hlt
      have hle : l[k]! = l[k] := by simp [hlt]
      have HSN := Lib.hid (strV_snoc xs k (by have := HL.out; omega))
      rw [HG.out k hlt, hle] at HSN
      rw [hle] at hr
      obtain ⟨hr1, hr2, _⟩ := hr
      have hszr := hbr.size
      clear hbr hle
      generalize l[k] = r at d0 d1 d2 d3 d4 d5 d6 hr1 hr2 HSN
      have HRT := Lib.hid (fun W h => rtext_any r W hr1 hr2 h)
      clear hr1 hr2
      generalize gT r.g = s at HSN HRT
      go_wp2_with fail
      refine calls_gen (fun W => Below w.heap.size w W ∧ OwnT W w.heap.size 9 1 (.slice av k cv) k (strV (xs.take k))) ⟨HBR.out.trans (by go_grown), HO.out.up (by go_grown)⟩ (fun W2 hW2 => ?_)
      obtain ⟨hb2, ho2⟩ := hW2
      have HB2 := Lib.hid hb2
      have HO2 := Lib.hid ho2
      have hs2 := hb2.size
      clear ho2 hb2 d0 d1 d2 d3 d4 d5 d6
      refine (HRT.out W2 (HT.out.up HB2.out)).mono ?_
      rintro e w3 ⟨rfl, hb3⟩
      have hA : Below w3.heap.size w3 (w3.alloc (.cells #[.string ⟨s.toArray⟩] 9)) := by go_grown
      have HO3 := Lib.hid ((HO2.out.up hb3).up hA)
      have hnews : ∀ j u', [Value.string ⟨s.toArray⟩][j]? = some u' → (w3.alloc (.cells #[.string ⟨s.toArray⟩] 9)).cell? (Addr.add ⟨w3.heap.size, 0, none⟩ j) = some u' := fun j u' hj => by
        obtain rfl : j = 0 := by by_cases e : j = 0; exact e; simp [e] at hj
        have e1 : (Addr.add ⟨w3.heap.size, 0, none⟩ 0) = ⟨w3.heap.size, 0, none⟩ := by unfold Addr.add; split <;> simp_all
        rw [e1, cell_block (alloc_new w3 _)]
        simpa using hj
      have HNEWS := Lib.hid hnews
      have HB3 := Lib.hid hb3
      have hs3 := hb3.size
      clear hnews hb3
      go_wp2_with (at_builtin; (refine wpList_append_T _ rfl (.tmp 35) (.tmp 37) 118 rfl w.heap.size 9 i0 _ 1 16 Tryz.underlying118 hi0 hz0 hz1 hz2 rfl (by decide) _ k _ rfl HO3.out ⟨w3.heap.size, 0, none⟩ 1 1 [.string ⟨s.toArray⟩] rfl rfl HNEWS.out (by simp [Value.oneCell']) (by unfold maxLen; omega) (by omega) (by simp; omega) ?_; intro v' w4 hown4 hgrow4 hwh4; have HO4 := Lib.hid hown4; have HGR4 := Lib.hid hgrow4; obtain ⟨av', cv', rfl⟩ := hown4.slice; clear hown4 hgrow4 hwh4))
      go_roundw
      case rel =>
        exact ⟨k + 1, by omega, by go_num, Below.grown ((ext_trans HB2.out HB3.out).alloc (by omega) _) HGR4.out (by simp; omega) (fun g hg => (HO3.out.lt g hg).1), by rw [HSN.out]; exact HO4.out⟩
      case measure => simp [intOf]; omega
    · have hl' : xs.take k = xs := List.take_of_length_le (by have := HL.out; omega)
      obtain rfl : k = l.length := by omega
      rw [hl'] at HO
      have HJ := Lib.hid (join_any w.heap.size _ xs ⟨#[32, 47, 32]⟩ wr (by rw [HL.out]; exact HO.out) (by have := HL.out; omega) HM.out (by decide))
      clear hl'
      go_wp2_with fail
      refine HJ.out.mono ?_
      rintro e w2 ⟨rfl, hb2⟩
      go_wp2_with fail
      go_ret2
      exact ⟨rfl, ext_trans HBR.out hb2⟩
end Go.Proofs.YtjmejfgkogjpaaaGreatDoor

namespace Go.Proofs.YtjmejfgkogjpaaaGreatDoor
open Go.RowKit Go Go.Shelf
attribute [local go_sem] Oper.semAt_some

set_option maxHeartbeats 400000 in
theorem wordText_any (s : ByteArray) (w : World) : Calls Tryz.prog 154 #[.string s] w fun e w' => e = .returned (.string s) ∧ Below w.heap.size w w' := by
  go_enter Tryz.func154, Tryz.ntmps154
  go_wp2
  go_ret
  exact ⟨rfl, Below.refl _ _⟩
set_option maxHeartbeats 400000 in
theorem numText_any (n : Nat) (hn : n < 100) (w : World) : Calls Tryz.prog 167 #[.int .i64 n] w fun e w' => e = .returned (.string ⟨(dec2 n).toArray⟩) ∧ Below w.heap.size w w' := by
  have HC := Lib.hid (itoa_any n hn w)
  go_enter Tryz.func167, Tryz.ntmps167
  go_wp2_with fail
  refine HC.out.mono ?_
  rintro e w' ⟨rfl, rfl⟩
  go_wp2_with fail
  go_ret
  exact ⟨rfl, Below.refl _ _⟩
def rowT (l : List Int) : List UInt8 := l.flatMap fun x => 32 :: dec2 x.toNat
theorem rowT_snoc (l : List Int) (k : Nat) (hk : k < l.length) : rowT (l.take (k + 1)) = rowT (l.take k) ++ (32 :: dec2 (l[k]).toNat) := by
  unfold rowT
  rw [List.take_succ_eq_append_getElem hk, List.flatMap_append]; simp
theorem rowT_len (l : List Int) : (rowT l).length ≤ 3 * l.length := by
  unfold rowT
  induction l with
  | nil => simp
  | cons a r ih =>
    rw [List.flatMap_cons, List.length_append]
    have := dec2_len a.toNat
    simp only [List.length_cons]
    omega
def Small (l : List Int) : Prop := l.length ≤ 1000 ∧ ∀ x ∈ l, 0 ≤ x ∧ x < 100

theorem ba_cat (a b : Array UInt8) : ((⟨a⟩ : ByteArray) ++ ⟨b⟩).data.toList = a.toList ++ b.toList := by simp [ByteArray.data_append]
theorem ba_cat_size (a b : Array UInt8) : ((⟨a⟩ : ByteArray) ++ ⟨b⟩).size = a.size + b.size := by simp [ByteArray.size_append]; rfl
set_option maxRecDepth 100000 in
set_option maxHeartbeats 2000000 in
theorem rowText_any (v : Value) (l : List Int) (w : World) (hv : IsInts w v l) (hs : Small l) :
    Calls Tryz.prog 155 #[v] w fun e w' => e = .returned (.string ⟨(rowT l).toArray⟩) ∧ Below w.heap.size w w' := by
  obtain ⟨pl, cl, rfl, ll1, ll2, el⟩ := hv.at
  have EL := Lib.hid el
  have HS := Lib.hid hs
  clear hv el hs
  go_enter Tryz.func155, Tryz.ntmps155
  go_wp2_with fail
  refine wp_gen (fun W => Below w.heap.size w W ∧ Bld w.heap.size w.heap.size [] W) ⟨by go_grown, fresh_bld w⟩ (fun W0 hW0 => ?_)
  obtain ⟨hb0, hB0⟩ := hW0
  go_loopw [8] (fun i wr => ∃ k : Nat, k ≤ l.length ∧ i = .int .i64 k ∧ Below w.heap.size w wr ∧ Bld w.heap.size w.heap.size (rowT (l.take k)) wr) (fun i _ => l.length - (intOf i).toNat)
  case atStart => exact ⟨0, by omega, rfl, hb0, by simpa [rowT] using hB0⟩
  case round =>
    obtain ⟨k, hk, rfl, hbr, hB⟩ := hrel
    have HBR := Lib.hid hbr
    have HB := Lib.hid hB
    clear hB hb0 hB0
    by_cases hlt : k < l.length
    · obtain ⟨b1, o1, rfl, c1, _⟩ := EL.out k hlt
      rw [Nat.mul_one] at c1
      have d1 := cell_up hbr c1
      have hr := HS.out.2 _ (List.getElem_mem hlt)
      have hln := rowT_len (l.take k)
      have hln2 : (l.take k).length ≤ k := List.length_take_le _ _
      have hl1 := HS.out.1
      have HSN := Lib.hid (rowT_snoc l k hlt)
      clear c1
      generalize l[k] = y at d1 hr HSN
      obtain ⟨x, rfl⟩ : ∃ x : Nat, y = x := ⟨y.toNat, by omega⟩
      rw [Int.toNat_natCast] at HSN
      have hx : x < 100 := by omega
      have hd2 := dec2_len x
      have HC := Lib.hid (itoa_any x hx wr)
      have hws := writeString_any w.heap.size w.heap.size (rowT (l.take k)) (⟨#[32]⟩ ++ ⟨(dec2 x).toArray⟩) wr HB.out (by omega) (by rw [ba_cat_size]; simp; omega)
      rw [ba_cat] at hws
      have HWS := Lib.hid hws
      clear hln hln2 hl1 hr hws
      generalize dec2 x = s at *
      go_wp2_with fail
      refine HC.out.mono ?_
      rintro e w' ⟨rfl, rfl⟩
      go_wp2_with fail
      refine HWS.out.mono ?_
      rintro e w2 ⟨rfl, hB2, hb2, _⟩
      have HB2 := Lib.hid hB2
      clear d1 hB2
      go_wp2_with fail
      go_roundw
      case rel => exact ⟨k + 1, by omega, by go_num, HBR.out.trans hb2, by rw [HSN.out]; exact HB2.out⟩
      case measure => simp [intOf]; omega
    · have hl : l.take k = l := List.take_of_length_le (by omega)
      rw [hl] at HB
      clear hl
      go_wp2_with fail
      refine (bldString_any _ _ _ _ HB.out).mono ?_
      rintro e w2 ⟨rfl, _, hb2, _⟩
      go_wp2_with fail
      go_ret
      exact ⟨rfl, HBR.out.trans hb2⟩

/-! ### the line -/
inductive Part where
  | word (s : List UInt8)
  | num (n : Nat)
  | row (l : List Int)
def Part.t : Part → List UInt8
  | .word s => s
  | .num n => dec2 n
  | .row l => rowT l
/-- a part's value; it holds in every world in which what lay in w0 lies unturned -/
def PartV (w0 : World) (v : Value) : Part → Prop
  | .word s => v = .iface 88 (.string ⟨s.toArray⟩) ∧ s.length ≤ 100000
  | .num n => v = .iface 91 (.int .i64 n) ∧ n < 100
  | .row l => ∃ u, v = .iface 89 u ∧ IsInts w0 u l ∧ Small l
theorem PartV.len {w0 : World} {v : Value} {p : Part} (h : PartV w0 v p) : p.t.length ≤ 100000 := by
  cases p with
  | word s => exact h.2
  | num n => have := dec2_len n; show (dec2 n).length ≤ _; omega
  | row l =>
    obtain ⟨u, _, _, h1, _⟩ := h
    have := rowT_len l
    show (rowT l).length ≤ _
    omega
def lineT (ps : List Part) : List UInt8 := ps.flatMap Part.t
theorem lineT_snoc (ps : List Part) (k : Nat) (hk : k < ps.length) : lineT (ps.take (k + 1)) = lineT (ps.take k) ++ ps[k].t := by
  unfold lineT
  rw [List.take_succ_eq_append_getElem hk, List.flatMap_append]; simp

theorem line_any (w0 : World) (B b g cap : Nat) (bs : List UInt8) (vs : List Value) (ps : List Part) (w : World) (hb0 : Below w0.heap.size w0 w) (hB0 : w0.heap.size ≤ B) (hB : Bld B b bs w) (hl : bs.length + 100000 * ps.length < 1073741824) (hps : ps.length ≤ 1000)
    (hg : w.heap[g]? = some (.cells vs.toArray 80)) (hvl : vs.length = ps.length) (hv : ∀ k (hk : k < ps.length), ∃ v, vs[k]? = some v ∧ PartV w0 v ps[k]) :
    Calls Tryz.prog 27 #[.slice (some ⟨g, 0, none⟩) ps.length ps.length, .pointer (some ⟨b, 0, none⟩)] w fun e w' => e = .returned (.tuple #[]) ∧ Bld B b (bs ++ lineT ps ++ [10]) w' ∧ Below B w w' ∧ Oth b w w' := by
  have HB := Lib.hid hB
  have HB0 := Lib.hid hb0
  have HG := Lib.hid hg
  have HV := Lib.hid hv
  have HLL : Hid (∀ k, k ≤ ps.length → (lineT (ps.take k)).length ≤ 100000 * k) := by
    have h : ∀ k, k ≤ ps.length → (lineT (ps.take k)).length ≤ 100000 * k := by
      intro k
      induction k with
      | zero => intro _; simp [lineT]
      | succ k ih =>
        intro hk
        have h1 := ih (by omega)
        obtain ⟨v, _, h2⟩ := HV.out k (by omega)
        have h3 := h2.len
        rw [lineT_snoc ps k (by omega), List.length_append]
        omega
    exact h
  clear hB hb0 hg hv hvl
  go_enter Tryz.func27, Tryz.ntmps27
  go_wp2_with fail
  go_loopw [7] (fun i wr => ∃ k : Nat, k ≤ ps.length ∧ i = .int .i64 k ∧ Below B w wr ∧ Oth b w wr ∧ Bld B b (bs ++ lineT (ps.take k)) wr) (fun i _ => ps.length - (intOf i).toNat)
  case atStart => exact ⟨0, by omega, rfl, Below.refl _ _, Lib.OthersKept.refl _ _ _, by simpa [lineT] using HB.out⟩
  case round =>
    obtain ⟨k, hk, rfl, hbr, ho, hB⟩ := hrel
    have HBR := Lib.hid hbr
    have HO := Lib.hid ho
    have HBk := Lib.hid hB
    clear ho hB
    by_cases hlt : k < ps.length
    · obtain ⟨v, hv1, hv2⟩ := HV.out k hlt
      have cg := cell_block (HO.out.block HB.out HG.out (by decide) (by decide)) k
      rw [List.getElem?_toArray, hv1] at cg
      clear hbr hv1
      have hpl := hv2.len
      have HSN := Lib.hid (lineT_snoc ps k hlt)
      generalize ps[k] = p at hv2 HSN hpl
      have hln := HLL.out k (by omega)
      have hBw : B ≤ wr.heap.size := by have := HBk.out.cells.1; have := HBk.out.lt; omega
      cases p with
      | word s =>
        obtain ⟨rfl, hs⟩ := hv2
        go_wp2_with fail
        refine (wordText_any _ _).mono ?_
        rintro e w1 ⟨rfl, hb1⟩
        have hws := writeString_any B b _ ⟨(s).toArray⟩ w1 (HBk.out.up hb1) (by simp only [List.length_append]; omega) (by show (s).toArray.size < _; simp; omega)
        have HWS := Lib.hid hws
        have HBW := Lib.hid (HBR.out.trans (hb1.mono hBw))
        have HOW := Lib.hid (HO.out.tr (Oth.of_below hb1))
        clear hws cg
        go_wp2_with fail
        refine HWS.out.mono ?_
        rintro e w2 ⟨rfl, hB2, hb2, ho2⟩
        have HB2 := Lib.hid hB2
        clear hB2
        go_wp2_with fail
        go_roundw
        case rel => exact ⟨k + 1, by omega, by go_num, HBW.out.trans hb2, HOW.out.tr ho2, by rw [HSN.out, ← List.append_assoc]; exact HB2.out⟩
        case measure => simp [intOf]; omega
      | num n =>
        obtain ⟨rfl, hs⟩ := hv2
        have hs2 := dec2_len n
        go_wp2_with fail
        refine (numText_any n hs _).mono ?_
        rintro e w1 ⟨rfl, hb1⟩
        have hws := writeString_any B b _ ⟨(dec2 n).toArray⟩ w1 (HBk.out.up hb1) (by simp only [List.length_append]; omega) (by show (dec2 n).toArray.size < _; simp; omega)
        have HWS := Lib.hid hws
        have HBW := Lib.hid (HBR.out.trans (hb1.mono hBw))
        have HOW := Lib.hid (HO.out.tr (Oth.of_below hb1))
        clear hws cg
        go_wp2_with fail
        refine HWS.out.mono ?_
        rintro e w2 ⟨rfl, hB2, hb2, ho2⟩
        have HB2 := Lib.hid hB2
        clear hB2
        go_wp2_with fail
        go_roundw
        case rel => exact ⟨k + 1, by omega, by go_num, HBW.out.trans hb2, HOW.out.tr ho2, by rw [HSN.out, ← List.append_assoc]; exact HB2.out⟩
        case measure => simp [intOf]; omega
      | row l =>
        obtain ⟨u, rfl, hu, hs⟩ := hv2
        have hs2 := rowT_len l
        have hs3 := hs.1
        go_wp2_with fail
        refine (rowText_any u l _ (hu.up up_int (HB0.out.trans (HBR.out.mono hB0))) hs).mono ?_
        rintro e w1 ⟨rfl, hb1⟩
        have hws := writeString_any B b _ ⟨(rowT l).toArray⟩ w1 (HBk.out.up hb1) (by simp only [List.length_append]; omega) (by show (rowT l).toArray.size < _; simp; omega)
        have HWS := Lib.hid hws
        have HBW := Lib.hid (HBR.out.trans (hb1.mono hBw))
        have HOW := Lib.hid (HO.out.tr (Oth.of_below hb1))
        clear hws cg
        go_wp2_with fail
        refine HWS.out.mono ?_
        rintro e w2 ⟨rfl, hB2, hb2, ho2⟩
        have HB2 := Lib.hid hB2
        clear hB2
        go_wp2_with fail
        go_roundw
        case rel => exact ⟨k + 1, by omega, by go_num, HBW.out.trans hb2, HOW.out.tr ho2, by rw [HSN.out, ← List.append_assoc]; exact HB2.out⟩
        case measure => simp [intOf]; omega
    · have hl' : ps.take k = ps := List.take_of_length_le (by omega)
      have hln := HLL.out k (by omega)
      rw [hl'] at HBk hln
      have HWB := Lib.hid (writeByte_any B b _ 10 wr HBk.out (by simp only [List.length_append]; omega))
      clear hl'
      go_wp2_with fail
      refine HWB.out.mono ?_
      rintro e w2 ⟨rfl, hB2, hb2, ho2⟩
      have HB2 := Lib.hid hB2
      clear hB2
      go_wp2_with fail
      go_end0
      exact ⟨rfl, HB2.out, HBR.out.trans hb2, HO.out.tr ho2⟩
end Go.Proofs.YtjmejfgkogjpaaaGreatDoor

namespace Go.Proofs.YtjmejfgkogjpaaaGreatDoor
open Go.RowKit Go Go.Shelf
attribute [local go_sem] Oper.semAt_some

abbrev wP (s : List UInt8) : Part := .word s
def lnT (ps : List Part) : List UInt8 := lineT ps ++ [10]
def msgPs (x : Msg) : List Part := [wP [102, 114, 111, 109, 32], .num x.fr.toNat, wP [32, 116, 111, 32], .num x.to.toNat, wP (58 :: 32 :: hexT x.bs.data.toList)]
/-- the lines of the messages of a round, at the head of a list -/
def msT (k : Nat) : List Msg → List UInt8
  | [] => []
  | x :: r => if x.rd = k then lnT (msgPs x) ++ msT k r else []
/-- what is left behind them -/
def msR (k : Nat) : List Msg → List Msg
  | [] => []
  | x :: r => if x.rd = k then msR k r else x :: r
def remM (t : Tr) : Nat → List Msg
  | 0 => t.msgs
  | k + 1 => msR k (remM t k)
def hdPs (t : Tr) (k : Nat) : List Part := [wP [114, 111, 117, 110, 100, 32], .num (k + 1), wP (58 :: 32 :: gT (t.word.getD k default).g)]
def stPs (t : Tr) (k : Nat) : List Part := [wP [115, 116, 97, 116, 101, 115], .row (t.states.getD k [])]
def inPs (t : Tr) : List Part := [wP [105, 110, 112, 117, 116, 115], .row t.inp]
def dePs (t : Tr) (p : Nat) : List Part :=
  if t.dec.getD p 0 < 0 then [wP [112, 114, 111, 99, 101, 115, 115, 32], .num p, wP [32, 100, 111, 101, 115, 32, 110, 111, 116, 32, 100, 101, 99, 105, 100, 101]]
  else [wP [112, 114, 111, 99, 101, 115, 115, 32], .num p, wP [32, 100, 101, 99, 105, 100, 101, 115, 32], .num (t.dec.getD p 0).toNat, wP [32, 97, 116, 32], .num (t.times.getD p 0).toNat]
def deTail (t : Tr) (p : Nat) : List UInt8 := (List.range' p (t.dec.length - p)).flatMap fun p => lnT (dePs t p)
/-- behind the header of round k, the list of messages that are left being l -/
def midT (t : Tr) (k : Nat) (rest : List UInt8) (l : List Msg) : List UInt8 := msT k l ++ (lnT (stPs t (k + 1)) ++ rest)
def roTail (t : Tr) (k : Nat) : List UInt8 := ((List.range' k (t.word.length - k)).flatMap fun k => lnT (hdPs t k) ++ (msT k (remM t k) ++ lnT (stPs t (k + 1)))) ++ deTail t 0
def formatT (t : Tr) : List UInt8 := lnT (inPs t) ++ (lnT (stPs t 0) ++ roTail t 0)
theorem roTail_step (t : Tr) (k : Nat) (hk : k < t.word.length) : roTail t k = lnT (hdPs t k) ++ midT t k (roTail t (k + 1)) (remM t k) := by
  unfold roTail midT
  rw [show t.word.length - k = (t.word.length - (k + 1)) + 1 by omega, List.range'_succ]
  simp [List.append_assoc]
theorem roTail_end (t : Tr) : roTail t t.word.length = deTail t 0 := by simp [roTail]
theorem deTail_step (t : Tr) (p : Nat) (hp : p < t.dec.length) : deTail t p = lnT (dePs t p) ++ deTail t (p + 1) := by
  unfold deTail
  rw [show t.dec.length - p = (t.dec.length - (p + 1)) + 1 by omega, List.range'_succ]; rfl
theorem deTail_end (t : Tr) : deTail t t.dec.length = [] := by simp [deTail]

/-- what is asked of a trace -/
structure FmtOk (t : Tr) : Prop where
  e : traceE t = 0
  inp : Small t.inp
  wl : t.word.length < 90
  f : ∀ r ∈ t.word, r.f = 0
  st : ∀ l ∈ t.states, Small l
  ml : t.msgs.length ≤ 1000
  ms : ∀ x ∈ t.msgs, (0 ≤ x.fr ∧ x.fr < 100) ∧ (0 ≤ x.to ∧ x.to < 100) ∧ 0 < x.bs.size ∧ x.bs.size ≤ 10000
  de : ∀ x ∈ t.dec, x < 100
  ti : ∀ p, p < t.dec.length → ¬ t.dec.getD p 0 < 0 → 0 ≤ t.times.getD p 0 ∧ t.times.getD p 0 < 100
  dl : t.dec.length < 90
  len : (formatT t).length ≤ 65536

structure FS (w : World) (Bt Bb : Nat) (cs : Array Value) (acc : List UInt8) (W : World) : Prop where
  old : Below w.heap.size w W
  bt : W.heap[Bt]? = some (.cells cs 35)
  bl : Bld Bb Bb acc W
  hB : w.heap.size ≤ Bb
theorem FS.up {w : World} {Bt Bb : Nat} {cs : Array Value} {acc : List UInt8} {W W' : World} (h : FS w Bt Bb cs acc W) (hb : Below W.heap.size W W') : FS w Bt Bb cs acc W' := ⟨ext_trans h.old hb, block_up hb h.bt, h.bl.up hb, h.hB⟩
theorem FS.line {w : World} {Bt Bb : Nat} {cs : Array Value} {acc : List UInt8} {W : World} (h : FS w Bt Bb cs acc W) (g n : Nat) (vs : List Value) (ps : List Part) (hn : n = ps.length) (hl : acc.length ≤ 65536) (hps : ps.length ≤ 1000)
    (hg : W.heap[g]? = some (.cells vs.toArray 80)) (hv : ∀ k (hk : k < ps.length), ∃ v, vs[k]? = some v ∧ PartV w v ps[k]) (hvl : vs.length = ps.length) :
    Calls Tryz.prog 27 #[.slice (some ⟨g, 0, none⟩) n n, .pointer (some ⟨Bb, 0, none⟩)] W fun e W' => e = .returned (.tuple #[]) ∧ FS w Bt Bb cs (acc ++ lnT ps) W' ∧ W.heap.size ≤ W'.heap.size ∧ Oth Bb W W' := by
  subst hn
  refine (line_any w Bb Bb g 0 acc vs ps W h.old h.hB h.bl (by omega) hps hg hvl hv).mono ?_
  rintro e W' ⟨rfl, h1, h2, h3⟩
  exact ⟨rfl, ⟨h.old.trans (h2.mono h.hB), h3.block h.bl h.bt (by decide) (by decide), by rw [lnT, ← List.append_assoc]; exact h1, h.hB⟩, h2.size, h3⟩
theorem list_parts2 {w : World} {v0 v1 : Value} {p0 p1 : Part} (h0 : PartV w v0 p0) (h1 : PartV w v1 p1) : ∀ k (hk : k < [p0, p1].length), ∃ v, [v0, v1][k]? = some v ∧ PartV w v [p0, p1][k] := fun k hk => by
  match k, hk with
  | 0, _ => exact ⟨_, rfl, h0⟩
  | 1, _ => exact ⟨_, rfl, h1⟩
theorem list_parts3 {w : World} {v0 v1 v2 : Value} {p0 p1 p2 : Part} (h0 : PartV w v0 p0) (h1 : PartV w v1 p1) (h2 : PartV w v2 p2) : ∀ k (hk : k < [p0, p1, p2].length), ∃ v, [v0, v1, v2][k]? = some v ∧ PartV w v [p0, p1, p2][k] := fun k hk => by
  match k, hk with
  | 0, _ => exact ⟨_, rfl, h0⟩
  | 1, _ => exact ⟨_, rfl, h1⟩
  | 2, _ => exact ⟨_, rfl, h2⟩
theorem list_parts5 {w : World} {v0 v1 v2 v3 v4 : Value} {p0 p1 p2 p3 p4 : Part} (h0 : PartV w v0 p0) (h1 : PartV w v1 p1) (h2 : PartV w v2 p2) (h3 : PartV w v3 p3) (h4 : PartV w v4 p4) : ∀ k (hk : k < [p0, p1, p2, p3, p4].length), ∃ v, [v0, v1, v2, v3, v4][k]? = some v ∧ PartV w v [p0, p1, p2, p3, p4][k] := fun k hk => by
  match k, hk with
  | 0, _ => exact ⟨_, rfl, h0⟩
  | 1, _ => exact ⟨_, rfl, h1⟩
  | 2, _ => exact ⟨_, rfl, h2⟩
  | 3, _ => exact ⟨_, rfl, h3⟩
  | 4, _ => exact ⟨_, rfl, h4⟩
theorem list_parts6 {w : World} {v0 v1 v2 v3 v4 v5 : Value} {p0 p1 p2 p3 p4 p5 : Part} (h0 : PartV w v0 p0) (h1 : PartV w v1 p1) (h2 : PartV w v2 p2) (h3 : PartV w v3 p3) (h4 : PartV w v4 p4) (h5 : PartV w v5 p5) : ∀ k (hk : k < [p0, p1, p2, p3, p4, p5].length), ∃ v, [v0, v1, v2, v3, v4, v5][k]? = some v ∧ PartV w v [p0, p1, p2, p3, p4, p5][k] := fun k hk => by
  match k, hk with
  | 0, _ => exact ⟨_, rfl, h0⟩
  | 1, _ => exact ⟨_, rfl, h1⟩
  | 2, _ => exact ⟨_, rfl, h2⟩
  | 3, _ => exact ⟨_, rfl, h3⟩
  | 4, _ => exact ⟨_, rfl, h4⟩
  | 5, _ => exact ⟨_, rfl, h5⟩
theorem part_w (w : World) (s : List UInt8) (hs : s.length ≤ 100000) : PartV w (.iface 88 (.string ⟨s.toArray⟩)) (wP s) := ⟨rfl, hs⟩
theorem part_n (w : World) (n : Nat) (hn : n < 100) : PartV w (.iface 91 (.int .i64 n)) (.num n) := ⟨rfl, hn⟩
theorem part_r (w : World) (u : Value) (l : List Int) (h : IsInts w u l) (hs : Small l) : PartV w (.iface 89 u) (.row l) := ⟨u, rfl, h, hs⟩

theorem trace_shape {t : Tr} (h : traceE t = 0) : 1 ≤ t.inp.length ∧ t.inp.length ≤ 5 ∧ wordE t.inp.length t.word = 0 ∧ t.states.length = t.word.length + 1 ∧ t.dec.length = t.inp.length ∧ t.times.length = t.inp.length := by
  unfold traceE at h
  split at h
  · cases h
  split at h
  · cases h
  split at h
  · rename_i q; exact absurd h q
  split at h
  · cases h
  split at h
  · rename_i q; exact absurd h q
  split at h
  · rename_i q; exact absurd h q
  rename_i h1 _ h2 _ h3 _
  have h2' : wordE t.inp.length t.word = 0 := by simpa using h2
  have h3' : statesE t = 0 := by simpa using h3
  refine ⟨by omega, by omega, h2', ?_, ?_⟩
  · unfold statesE at h3'
    split at h3'
    · cases h3'
    · rename_i q; simpa using q
  · unfold decisionsE at h
    split at h
    · cases h
    · rename_i q; omega
theorem word_one {n : Nat} {l : List Rd} (h : wordE n l = 0) {k : Nat} (hk : k < l.length) (hf : l[k].f = 0) : wordE n [l[k]] = 0 := by
  have h1 := wordE_hear h hk
  rw [getD_of_lt default hk] at h1
  have hn : ¬ ((n : Int) < 1 ∨ 5 < (n : Int)) := fun e => by
    unfold wordE at h
    rw [if_pos e] at h
    cases h
  unfold wordE
  rw [if_neg hn, if_neg (by simp)]
  refine firstNZ_zero _ _ fun j hj => ?_
  obtain rfl : j = 0 := by simpa using hj
  unfold wordRE beforeF
  simp only [List.getD_eq_getElem?_getD, List.length_cons, List.length_nil, Nat.zero_add, Nat.lt_add_one, getElem?_pos, List.getElem_cons_zero, Option.getD_some]
  rw [if_neg (by rw [h1.1]; simp), if_neg (by rw [h1.2]; simp), hf]
  rfl
theorem acc_le {t : Tr} (ok : FmtOk t) {a b : List UInt8} (h : a ++ b = formatT t) : a.length ≤ 65536 := by
  have := ok.len
  rw [← h, List.length_append] at this
  omega
end Go.Proofs.YtjmejfgkogjpaaaGreatDoor

namespace Go.Proofs.YtjmejfgkogjpaaaGreatDoor
open Go.RowKit Go Go.Shelf

def rdF : Rd := ⟨⟨2, 3, 3, 0, 0, 0⟩, 0⟩
def rdH : Rd := ⟨⟨2, 1, 3, 0, 0, 0⟩, 0⟩
def trF : Tr := ⟨[0, 1], [rdF], [[0, 1], [0, 1]], [⟨0, 0, 1, bytesOf [0, 0, 1, 0, 0, 7]⟩, ⟨0, 1, 0, bytesOf [0, 1, 0, 0, 0, 6]⟩], [-1, 1], [-1, 1]⟩
theorem play_full : playE exM [0, 1] [rdF] = 0 := by decide +kernel
theorem play_half : playE exM [0, 1] [rdH] = 0 := by decide +kernel
theorem places_full : placesL 2 [rdF] = [(0, 0, 1), (0, 1, 0)] := by decide +kernel
theorem places_half : placesL 2 [rdH] = [(0, 0, 1)] := by decide +kernel
theorem run_full : runL exM [0, 1] [rdF] = [[0, 1], [0, 1]] := by decide +kernel
theorem msg_a : msgL 0 0 1 0 = [0, 0, 1, 0, 0, 7] := by
  unfold msgL
  rw [vint_small 0 (by omega)]
  decide +kernel
theorem msg_b : msgL 0 1 0 0 = [0, 1, 0, 0, 0, 6] := by
  unfold msgL
  rw [vint_small 0 (by omega)]
  decide +kernel
theorem made_full : madeT exM [0, 1] [rdF] = trF := by
  have h1 : exM.n.toNat = 2 := rfl
  unfold madeT
  rw [run_full, h1, places_full]
  unfold trF
  congr 1
  · simp only [List.map_cons, List.map_nil, msgS]
    have e1 : (symS exM 0 0 1 0).toNat = 0 := by decide +kernel
    have e2 : (symS exM 0 1 0 1).toNat = 0 := by decide +kernel
    simp only [List.getD_cons_zero, List.getD_cons_succ, e1, e2, msg_a, msg_b]
    rfl
theorem trace_full : traceE trF = 0 := by decide +kernel
theorem bytes_full : bytesN trF.msgs = 12 := by decide +kernel
def exText : List UInt8 := [105, 110, 112, 117, 116, 115, 32, 48, 32, 49, 10, 115, 116, 97, 116, 101, 115, 32, 48, 32, 49, 10, 114, 111, 117, 110, 100, 32, 49, 58, 32, 48, 49, 32, 48, 49, 10, 102, 114, 111, 109, 32, 48, 32, 116, 111, 32, 49, 58, 32, 48, 48, 48, 48, 48, 49, 48, 48, 48, 48, 48, 55, 10, 102, 114, 111, 109, 32, 49, 32, 116, 111, 32, 48, 58, 32, 48, 48, 48, 49, 48, 48, 48, 48, 48, 48, 48, 54, 10, 115, 116, 97, 116, 101, 115, 32, 48, 32, 49, 10, 112, 114, 111, 99, 101, 115, 115, 32, 48, 32, 100, 111, 101, 115, 32, 110, 111, 116, 32, 100, 101, 99, 105, 100, 101, 10, 112, 114, 111, 99, 101, 115, 115, 32, 49, 32, 100, 101, 99, 105, 100, 101, 115, 32, 49, 32, 97, 116, 32, 49, 10]
theorem format_full : formatT trF = exText := by decide +kernel
instance (l : List Int) : Decidable (Small l) := inferInstanceAs (Decidable (_ ∧ _))
set_option maxRecDepth 100000 in
theorem fmtOk_full : FmtOk trF := ⟨trace_full, by decide, by decide, by decide, by decide, by decide, by decide +kernel, by decide, by decide +kernel, by decide, by rw [format_full]; exact Nat.le_of_ble_eq_true (by kernel_rfl)⟩
theorem check_full : checkE exM = 0 := by decide +kernel
theorem replay_full : replayE exM trF = 0 := by
  have h1 : trF.inp = [0, 1] := rfl
  have h2 : trF.word = [rdF] := rfl
  have h3 : sameT trF trF = true := by decide +kernel
  unfold replayE
  rw [h1, h2, made_full, check_full, trace_full, play_full, h3]
  rfl
theorem half_msgs : (madeT exM [0, 1] [rdH]).msgs.length = 1 := by
  have h1 : exM.n.toNat = 2 := rfl
  unfold madeT
  rw [h1, places_half]
  rfl
end Go.Proofs.YtjmejfgkogjpaaaGreatDoor

namespace Go.Proofs.YtjmejfgkogjpaaaGreatDoor
open Go.RowKit Go Go.Shelf
attribute [local go_sem] Oper.semAt_some

theorem slice_tail (bx ox n cap : Nat) (h : n + 1 ≤ cap) (hc : cap ≤ 9223372036854775807) : ∃ a c, (∀ w, (Instr.slice 33 (.slice (some ⟨bx, ox, none⟩) (n + 1) cap) (some (.int .i64 1)) none none).run Tryz.prog w = .ok (.slice a n c) w) ∧ n ≤ c ∧ c ≤ 9223372036854775807 ∧ a ≠ none ∧ (0 < n → a = some ⟨bx, ox + 4, none⟩) := by
  by_cases h1 : cap = 1
  · subst h1
    obtain rfl : n = 0 := by omega
    exact ⟨some ⟨bx, ox, none⟩, 0, fun w => by kernel_rfl, by omega, by omega, by simp, by omega⟩
  · refine ⟨some ⟨bx, ox + 4, none⟩, cap - 1, fun w => ?_, by omega, by omega, by simp, fun _ => rfl⟩
    have h2 : 1 ≤ n + 1 := by omega
    have h3 : 1 ≤ cap := by omega
    simp [go_sem, h1, h, h3]
    intro h4
    omega
theorem msgs_tail {w : World} {bx ox cap : Nat} {x : Msg} {r : List Msg} (hv : IsMsgs w (.slice (some ⟨bx, ox, none⟩) (r.length + 1) cap) (x :: r)) : ∃ a c, (∀ w, (Instr.slice 33 (.slice (some ⟨bx, ox, none⟩) (r.length + 1) cap) (some (.int .i64 1)) none none).run Tryz.prog w = .ok (.slice a r.length c) w) ∧ IsMsgs w (.slice a r.length c) r := by
  obtain ⟨a', c', e, h1, h2, h3⟩ := hv
  injection e with e1 _ e3
  subst e1 e3
  simp only [List.length_cons] at h1 h2
  obtain ⟨a, c, q1, q2, q3, q4, q5⟩ := slice_tail bx ox r.length cap h1.1 h1.2.1
  refine ⟨a, c, q1, a, c, rfl, ⟨q2, q3, fun e => absurd e q4⟩, by omega, fun i y hy => ?_⟩
  have hi : i < r.length := (List.getElem?_eq_some_iff.1 hy).1
  obtain ⟨b, off, e, hr⟩ := h3 (i + 1) y (by simpa using hy)
  injection e with e
  injection e with e1 e2
  subst e1 e2
  exact ⟨bx, ox + 4, q5 (by omega), by rw [show ox + 4 + i * 4 = ox + (i + 1) * 4 by omega]; exact hr⟩

/-- while the region of a message's line is drawn -/
structure C19 (w : World) (Bt Bb Bm : Nat) (cs mc : Array Value) (acc acc' : List UInt8) (vs : List Value) (D : Nat → Bool) (x : Nat → Value) (W : World) : Prop where
  fs : FS w Bt Bb cs (bif D 15 then acc' else acc) W
  bm : W.heap[Bm]? = some (.cells mc 65)
  sl : D 14 = true → D 15 = false → ∃ g, x 14 = .slice (some ⟨g, 0, none⟩) 5 5 ∧ W.heap[g]? = some (.cells vs.toArray 80)
theorem C19.up {w : World} {Bt Bb Bm : Nat} {cs mc : Array Value} {acc acc' : List UInt8} {vs : List Value} {D : Nat → Bool} {x : Nat → Value} {W W' : World} (h : C19 w Bt Bb Bm cs mc acc acc' vs D x W) (hb : Below W.heap.size W W') : C19 w Bt Bb Bm cs mc acc acc' vs D x W' :=
  ⟨h.fs.up hb, block_up hb h.bm, fun e1 e2 => by obtain ⟨g, q1, q2⟩ := h.sl e1 e2; exact ⟨g, q1, block_up hb q2⟩⟩
end Go.Proofs.YtjmejfgkogjpaaaGreatDoor
