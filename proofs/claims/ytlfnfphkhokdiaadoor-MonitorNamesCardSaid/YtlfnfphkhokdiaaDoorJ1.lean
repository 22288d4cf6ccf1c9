/-
  Parts of the proof, in order. The plain specification of the parts of the program that the statements of this seat reach: numbers and lists alone, no program. It proves nothing by itself. What lies in memory, and small laws of the walk that all texts of this seat share. It proves nothing by itself. A law for a region that draws its order and makes memory: what is said of each operation's value holds once the operation has come up, whatever the order. The last operation waits for all others. It proves nothing of the program. Bits of numbers. It proves nothing of the program. Contracts of the small functions of the program: sets, graphs, rounds, and the library's comparison of numbers and vectors. Conditions: those that each theorem names. Contracts of the program's comparison of graphs and rounds, and of the library's comparison of vectors. Conditions: those that each theorem names. Contracts of the library's functions on slices: Equal, Compare, IndexFunc, ContainsFunc. Conditions: the slices read as lists; the function handed over answers as the premise says. Contracts of the library's slices.Clone at []int and [][]int. Conditions: the argument reads as a list. Contracts of the program's package task: vector, unordered, has, vectors, Check. Conditions: the arguments read as lists.
-/
import Derived.Handy
import Derived.LoopTactic
import Derived.Outline
import Derived.Lib.Hide
import Derived.Deep.QuietTactic
import Derived.BigQuiet
import Derived.Deep.Cut
import Derived.Deep.Light
import Derived.Shelf.Abstract
import Derived.RangeFuncNested
import Derived.WalkKit
import Derived.Test.YtlfnfphkhokdiaaDoorProg
import Derived.ChangeKeysEq
import Derived.WalkSpells
import Derived.Laws.AppendOwnNone
namespace Go.Proofs.YtlfnfphkhokdiaaDoor

structure Gr where
  n : Int
  h0 : Int
  h1 : Int
  h2 : Int
  h3 : Int
  h4 : Int
structure Rd where
  g : Gr
  f : Int
structure Mv where
  r : Rd
  to : Int
structure Adv where
  n : Int
  states : List (List Mv)
structure Cs where
  inp : List Int
  out : List (List Int)
  calm : List (List Int)
structure Tk where
  n : Int
  ins : Int
  outs : Int
  cases : List Cs
structure Pb where
  t : Tk
  a : Adv
  rounds : Int

instance : Inhabited Gr := ⟨⟨0, 0, 0, 0, 0, 0⟩⟩
instance : Inhabited Rd := ⟨⟨default, 0⟩⟩
instance : Inhabited Mv := ⟨⟨default, 0⟩⟩
instance : Inhabited Cs := ⟨⟨[], [], []⟩⟩
instance : DecidableEq Gr := fun a b => decidable_of_iff (a.n = b.n ∧ a.h0 = b.h0 ∧ a.h1 = b.h1 ∧ a.h2 = b.h2 ∧ a.h3 = b.h3 ∧ a.h4 = b.h4) (by cases a; cases b; simp)
instance : DecidableEq Rd := fun a b => decidable_of_iff (a.g = b.g ∧ a.f = b.f) (by cases a; cases b; simp)

def Gr.hear (g : Gr) (k : Nat) : Int := match k with | 0 => g.h0 | 1 => g.h1 | 2 => g.h2 | 3 => g.h3 | 4 => g.h4 | _ => 0

/-- the first number that is not 0 among f 0, .., f (n-1), or 0 -/
def firstNZ (n : Nat) (f : Nat → Int) : Int := match n with | 0 => 0 | m + 1 => if firstNZ m f ≠ 0 then firstNZ m f else f m
theorem firstNZ_zero (n : Nat) (f : Nat → Int) (h : ∀ j, j < n → f j = 0) : firstNZ n f = 0 := by
  induction n with
  | zero => rfl
  | succ m ih => unfold firstNZ; rw [ih (fun j hj => h j (by omega))]; simp; exact h m (by omega)
theorem firstNZ_at (n k : Nat) (f : Nat → Int) (hk : k < n) (h : ∀ j, j < k → f j = 0) (hz : f k ≠ 0) : firstNZ n f = f k := by
  induction n with
  | zero => omega
  | succ m ih =>
    unfold firstNZ
    by_cases e : k = m
    · subst e; rw [firstNZ_zero k f h]; simp
    · rw [ih (by omega)]; simp [hz]
theorem firstNZ_hit {n : Nat} {f : Nat → Int} (k : Nat) (v : Int) (hk : k < n) (h : ∀ j, j < k → f j = 0) (hv : f k = v) (hz : v ≠ 0) : v = firstNZ n f := by
  subst hv; exact (firstNZ_at n k f hk h hz).symm
theorem below_succ {p : Nat → Prop} {k : Nat} (h : ∀ j, j < k → p j) (hk : p k) : ∀ j, j < k + 1 → p j := fun j hj => by
  by_cases e : j = k
  · subst e; exact hk
  · exact h j (by omega)
theorem firstNZ_all {n : Nat} {f : Nat → Int} (h : firstNZ n f = 0) : ∀ j, j < n → f j = 0 := by
  induction n with
  | zero => intro j hj; omega
  | succ m ih =>
    unfold firstNZ at h
    by_cases e : firstNZ m f = 0
    · simp [e] at h
      intro j hj
      by_cases ej : j = m
      · subst ej; exact h
      · exact ih e j (by omega)
    · simp [e] at h
theorem firstNZ_congr (n : Nat) (f g : Nat → Int) (h : ∀ j, j < n → f j = g j) : firstNZ n f = firstNZ n g := by
  induction n with
  | zero => rfl
  | succ m ih => unfold firstNZ; rw [ih (fun j hj => h j (by omega)), h m (by omega)]

/-- the first place below n at which p holds, or -1 -/
def firstIx (n : Nat) (p : Nat → Bool) : Int := match n with | 0 => -1 | m + 1 => if firstIx m p ≠ -1 then firstIx m p else if p m then m else -1
theorem firstIx_none (n : Nat) (p : Nat → Bool) (h : ∀ j, j < n → p j = false) : firstIx n p = -1 := by
  induction n with
  | zero => rfl
  | succ m ih => unfold firstIx; rw [ih (fun j hj => h j (by omega))]; simp [h m (by omega)]
theorem firstIx_at (n k : Nat) (p : Nat → Bool) (hk : k < n) (h : ∀ j, j < k → p j = false) (hz : p k = true) : firstIx n p = k := by
  induction n with
  | zero => omega
  | succ m ih =>
    unfold firstIx
    by_cases e : k = m
    · subst e; rw [firstIx_none k p h]; simp [hz]
    · rw [ih (by omega)]; simp
theorem firstIx_cases (n : Nat) (p : Nat → Bool) : (firstIx n p = -1 ∧ ∀ j, j < n → p j = false) ∨ ∃ k, k < n ∧ firstIx n p = k ∧ p k = true ∧ ∀ j, j < k → p j = false := by
  induction n with
  | zero => exact .inl ⟨rfl, fun j hj => by omega⟩
  | succ m ih =>
    rcases ih with ⟨h, hn⟩ | ⟨k, hk, h, hp, hn⟩
    · by_cases e : p m = true
      · exact .inr ⟨m, by omega, by rw [firstIx_at (m+1) m p (by omega) hn e], e, hn⟩
      · refine .inl ⟨firstIx_none _ _ (fun j hj => ?_), fun j hj => ?_⟩ <;>
        · by_cases ej : j = m
          · subst ej; simpa using e
          · exact hn j (by omega)
    · exact .inr ⟨k, by omega, by rw [firstIx_at (m+1) k p (by omega) hn hp], hp, hn⟩
theorem firstIx_congr (n : Nat) (f g : Nat → Bool) (h : ∀ j, j < n → f j = g j) : firstIx n f = firstIx n g := by
  induction n with
  | zero => rfl
  | succ m ih => unfold firstIx; rw [ih (fun j hj => h j (by omega)), h m (by omega)]

/-- does p hold at some place below n? -/
def anyLt (n : Nat) (p : Nat → Bool) : Bool := match n with | 0 => false | m + 1 => anyLt m p || p m
theorem anyLt_false (n : Nat) (p : Nat → Bool) (h : ∀ j, j < n → p j = false) : anyLt n p = false := by
  induction n with
  | zero => rfl
  | succ m ih => unfold anyLt; rw [ih (fun j hj => h j (by omega)), h m (by omega)]; rfl
theorem anyLt_true (n k : Nat) (p : Nat → Bool) (hk : k < n) (h : p k = true) : anyLt n p = true := by
  induction n with
  | zero => omega
  | succ m ih =>
    unfold anyLt
    by_cases e : k = m
    · subst e; simp [h]
    · rw [ih (by omega)]; rfl
theorem anyLt_iff (n : Nat) (p : Nat → Bool) : anyLt n p = true ↔ ∃ k, k < n ∧ p k = true := by
  constructor
  · intro h
    induction n with
    | zero => simp [anyLt] at h
    | succ m ih =>
      unfold anyLt at h
      cases hm : anyLt m p with
      | true => obtain ⟨k, hk, hp⟩ := ih hm; exact ⟨k, by omega, hp⟩
      | false => rw [hm] at h; exact ⟨m, by omega, by simpa using h⟩
  · rintro ⟨k, hk, hp⟩; exact anyLt_true n k p hk hp
theorem anyLt_eq_false (n : Nat) (p : Nat → Bool) : anyLt n p = false ↔ ∀ k, k < n → p k = false := by
  constructor
  · intro h k hk
    cases hp : p k with
    | false => rfl
    | true => rw [anyLt_true n k p hk hp] at h; cases h
  · exact anyLt_false n p
theorem anyLt_congr (n : Nat) (f g : Nat → Bool) (h : ∀ j, j < n → f j = g j) : anyLt n f = anyLt n g := by
  induction n with
  | zero => rfl
  | succ m ih => unfold anyLt; rw [ih (fun j hj => h j (by omega)), h m (by omega)]
theorem firstIx_any (n : Nat) (p : Nat → Bool) : decide (0 ≤ firstIx n p) = anyLt n p := by
  rcases firstIx_cases n p with ⟨h, hn⟩ | ⟨k, hk, h, hp, _⟩
  · rw [h, anyLt_false n p hn]; rfl
  · rw [h, anyLt_true n k p hk hp]; simp

/-! ### sets, graphs, rounds -/
def procsE (n : Int) : Int := if n < 1 ∨ 5 < n then 1 else 0
def psetE (n set : Int) : Int := if procsE n ≠ 0 then procsE n else if set < 0 ∨ set / 2 ^ n.toNat ≠ 0 then 2 else 0
def hasB (set : Int) (p : Nat) : Bool := set / 2 ^ p % 2 == 1
def hearE (n x : Int) (p : Nat) : Int :=
  if n ≤ p then (if x ≠ 0 then 3 else 0) else if x < 0 ∨ 2 ^ n.toNat - 1 < x then 2 else if hasB x p then 0 else 3
def graphE (g : Gr) : Int := if g.n < 1 ∨ 5 < g.n then 2 else firstNZ 5 fun p => hearE g.n (g.hear p) p
def cmpI (a b : Int) : Int := if a < b then -1 else if b < a then 1 else 0
def graphC (a b : Gr) : Int := if cmpI a.n b.n ≠ 0 then cmpI a.n b.n else firstNZ 5 fun p => cmpI (a.hear p) (b.hear p)
def roundE (r : Rd) : Int := if graphE r.g ≠ 0 then graphE r.g else psetE r.g.n r.f
def roundC (a b : Rd) : Int := if graphC a.g b.g ≠ 0 then graphC a.g b.g else cmpI a.f b.f

/-! ### vectors and tasks -/
theorem drop_cons {α : Type} {l : List α} {k : Nat} (h : k < l.length) : l.drop k = l[k] :: l.drop (k + 1) := (List.drop_eq_getElem_cons h)
/-- the order of two vectors -/
def ordV : List Int → List Int → Int
  | [], [] => 0
  | [], _ :: _ => -1
  | _ :: _, [] => 1
  | a :: r, b :: s => if a < b then -1 else if b < a then 1 else ordV r s
theorem ordV_nil_left (b : List Int) : ordV [] b = if 0 < b.length then -1 else 0 := by cases b <;> simp [ordV]
theorem ordV_self (a : List Int) : ordV a a = 0 := by induction a with | nil => rfl | cons x r ih => simp [ordV, ih]
theorem ordV_zero {a b : List Int} (h : ordV a b = 0) : a = b := by
  induction a generalizing b with
  | nil => cases b with | nil => rfl | cons y s => simp [ordV] at h
  | cons x r ih =>
    cases b with
    | nil => simp [ordV] at h
    | cons y s =>
      unfold ordV at h
      split at h
      · omega
      · split at h
        · omega
        · rw [ih h, show x = y by omega]
def vectorE (v : List Int) (n most : Int) : Int := if (v.length : Int) ≠ n then 15 else if anyLt v.length (fun i => decide (v.getD i 0 < 0) || decide (most ≤ v.getD i 0)) then 2 else 0
def unordB (l : List (List Int)) (i : Nat) : Bool := decide (0 < i) && decide (0 ≤ ordV (l.getD (i - 1) []) (l.getD i []))
def eqV (a b : List Int) : Bool := decide (a = b)
def hasV (l : List (List Int)) (v : List Int) : Bool := anyLt l.length fun i => eqV (l.getD i []) v
def outE (t : Tk) (c : Cs) (i : Nat) : Int := if vectorE (c.out.getD i []) t.n t.outs ≠ 0 then vectorE (c.out.getD i []) t.n t.outs else if unordB c.out i then 14 else 0
def calmE (c : Cs) (i : Nat) : Int := if hasV c.out (c.calm.getD i []) then (if unordB c.calm i then 14 else 0) else 6
def vectorsE (t : Tk) (c : Cs) : Int :=
  if c.out.length < 1 ∨ 1024 < c.out.length then 5
  else if firstNZ c.out.length (outE t c) ≠ 0 then firstNZ c.out.length (outE t c) else firstNZ c.calm.length (calmE c)
def caseE (t : Tk) (i : Nat) : Int :=
  if vectorE (t.cases.getD i default).inp t.n t.ins ≠ 0 then vectorE (t.cases.getD i default).inp t.n t.ins
  else if 0 < i ∧ 0 ≤ ordV (t.cases.getD (i - 1) default).inp (t.cases.getD i default).inp then 14 else vectorsE t (t.cases.getD i default)
def taskE (t : Tk) : Int :=
  if t.n < 1 ∨ 5 < t.n ∨ t.ins < 1 ∨ 8 < t.ins ∨ t.outs < 1 ∨ 8 < t.outs then 2
  else if t.cases.length < 1 ∨ 1024 < t.cases.length then 5 else firstNZ t.cases.length (caseE t)

/-! ### adversaries and problems -/
def movesN (l : List (List Mv)) : Nat := (l.map List.length).sum
def moveE (a : Adv) (l : List Mv) (i : Nat) : Int :=
  if roundE (l.getD i default).r ≠ 0 then roundE (l.getD i default).r
  else if (l.getD i default).r.g.n ≠ a.n then 22
  else if 0 < i ∧ 0 ≤ roundC (l.getD (i - 1) default).r (l.getD i default).r then 14
  else if (l.getD i default).to < 0 ∨ (a.states.length : Int) ≤ (l.getD i default).to then 2 else 0
def stateE (a : Adv) (l : List Mv) : Int := if l.length = 0 then 19 else firstNZ l.length (moveE a l)
/-- is set x inside set y (both sets of at most 5 processes)? -/
def insideB (x y : Int) : Bool := !anyLt 5 fun p => hasB x p && !hasB y p
end Go.Proofs.YtlfnfphkhokdiaaDoor

namespace Go.Proofs.YtlfnfphkhokdiaaDoor
open Go.RowKit Go Go.Shelf

def InR (x : Int) : Prop := -9223372036854775808 ≤ x ∧ x ≤ 9223372036854775807

theorem cell_lt {w : World} {a : Addr} {v : Value} (h : w.cell? a = some v) : a.block < w.heap.size := by
  unfold World.cell? at h
  split at h
  · rename_i hb; exact (Array.getElem?_eq_some_iff.1 hb).1
  · cases h
theorem cell_up {w w' : World} (hb : Below w.heap.size w w') {a : Addr} {v : Value} (h : w.cell? a = some v) : w'.cell? a = some v := (hb.cell (cell_lt h)).trans h
theorem bcell {B : Nat} {W w1 : World} (hb : Below B W w1) : (∀ b o, b < B → w1.cell? ⟨b, o, none⟩ = W.cell? ⟨b, o, none⟩) ∧ (∀ b o, b < B → w1.frozen? ⟨b, o, none⟩ = W.frozen? ⟨b, o, none⟩) :=
  ⟨fun b o h => hb.cell (p := ⟨b, o, none⟩) h, fun b o h => hb.frozen (p := ⟨b, o, none⟩) h⟩
theorem ret_int {k : IntKind} {a b : Int} (h : a = b) : Ending.returned (.int k a) = .returned (.int k b) := by rw [h]
theorem ret_bool {a b : Bool} (h : a = b) : Ending.returned (.bool a) = .returned (.bool b) := by rw [h]
theorem ext_trans {a b c : World} (h : Below a.heap.size a b) (k : Below b.heap.size b c) : Below a.heap.size a c := h.trans (k.mono h.size)

theorem below_drewN {B : Nat} {a w : World} (h : Below B a w) (n : Nat) : Below B a (w.drewN n) := ⟨h.os, h.tape, h.output, h.size, h.block⟩
theorem alloc_new (w : World) (o : Obj) : (w.alloc o).heap[w.heap.size]? = some o := by
  show (w.heap.push o)[w.heap.size]? = some o
  simp
theorem alloc_old {w : World} {k : Nat} {x : Obj} (o : Obj) (h : w.heap[k]? = some x) : (w.alloc o).heap[k]? = some x :=
  (Below.heap_alloc w o k (Array.getElem?_eq_some_iff.1 h).1).trans h
theorem block_lt {w : World} {k : Nat} {x : Obj} (h : w.heap[k]? = some x) : k < w.heap.size := (Array.getElem?_eq_some_iff.1 h).1
theorem block_up {w w' : World} (hb : Below w.heap.size w w') {k : Nat} {x : Obj} (h : w.heap[k]? = some x) : w'.heap[k]? = some x :=
  (hb.block k (Array.getElem?_eq_some_iff.1 h).1).trans h
theorem cell_block {w : World} {B : Nat} {cs : Array Value} {t : TypeId} {f : Nat × Nat} (h : w.heap[B]? = some (.cells cs t f)) (o : Nat) : w.cell? ⟨B, o, none⟩ = cs[o]? := by
  simp [World.cell?, h]
theorem frozen_block {w : World} {B : Nat} {cs : Array Value} {t : TypeId} (h : w.heap[B]? = some (.cells cs t (0, 0))) (o : Nat) : w.frozen? ⟨B, o, none⟩ = false := by
  simp [World.frozen?, h]
/-- The world at hand under a name of its own, with what is to be known of it. -/
theorem wp_gen {P : Program} {c : Code} {Q : Exit → Act → World → Prop} {a : Act} {W : World} (I : World → Prop) (h : I W) (k : ∀ W0, I W0 → c.wp P Q a W0) : c.wp P Q a W := k W h

/-- All rows of cells lie as they lay. -/
def CK (w w' : World) : Prop := ∀ (k : Nat) (o : Obj), w.heap[k]? = some o → o.isCells = true → w'.heap[k]? = some o
theorem CK.of_below {w w' : World} (h : Below w.heap.size w w') : CK w w' := fun _ _ hk _ => block_up h hk
theorem CK.cell {w w' : World} (h : CK w w') {a : Addr} {v : Value} (hc : w.cell? a = some v) : w'.cell? a = some v := by
  unfold World.cell? at hc ⊢
  cases ho : w.heap[a.block]? with
  | none => simp [ho] at hc
  | some o => cases o <;> simp only [ho] at hc <;> first | (rw [h _ _ ho rfl]; exact hc) | cases hc
/-- What is said of a place stays true while all rows of cells lie as they lay. -/
def Up {α : Type} (R : World → Nat → Nat → α → Prop) : Prop := ∀ (w w' : World) (b o : Nat) (x : α), CK w w' → R w b o x → R w' b o x
theorem calls_gen {P : Program} {f : FuncId} {args : Array Value} {R : Ending → World → Prop} {W : World} (I : World → Prop) (h : I W) (k : ∀ W0, I W0 → Calls P f args W0 R) : Calls P f args W R := k W h

/-- A slice value reads as a list; its elements take k cells each. -/
def IsSl {α : Type} (k : Nat) (R : World → Nat → Nat → α → Prop) (w : World) (v : Value) (l : List α) : Prop :=
  ∃ a cap, v = .slice a l.length cap ∧ (l.length ≤ cap ∧ cap ≤ 9223372036854775807 ∧ (a = none → cap = 0)) ∧ l.length ≤ 17592186044416 ∧ ∀ i x, l[i]? = some x → ∃ b off, a = some ⟨b, off, none⟩ ∧ R w b (off + i * k) x

theorem IsSl.ck {α : Type} {k : Nat} {R : World → Nat → Nat → α → Prop} (hR : Up R) {w w' : World} {v : Value} {l : List α} (hb : CK w w') (h : IsSl k R w v l) : IsSl k R w' v l := by
  obtain ⟨a, cap, rfl, h1, h2, h3⟩ := h
  refine ⟨a, cap, rfl, h1, h2, fun i x hx => ?_⟩
  obtain ⟨b, off, ha, hr⟩ := h3 i x hx
  exact ⟨b, off, ha, hR _ _ _ _ _ hb hr⟩
theorem IsSl.up {α : Type} {k : Nat} {R : World → Nat → Nat → α → Prop} (hR : Up R) {w w' : World} {v : Value} {l : List α} (hb : Below w.heap.size w w') (h : IsSl k R w v l) : IsSl k R w' v l := h.ck hR (.of_below hb)
theorem IsSl.at {α : Type} {k : Nat} {R : World → Nat → Nat → α → Prop} {w : World} {v : Value} {l : List α} (h : IsSl k R w v l) :
    ∃ a cap, v = .slice a l.length cap ∧ l.length ≤ cap ∧ l.length ≤ 17592186044416 ∧ ∀ i (hi : i < l.length), ∃ b off, a = some ⟨b, off, none⟩ ∧ R w b (off + i * k) l[i] := by
  obtain ⟨a, cap, rfl, h1, h2, h3⟩ := h
  exact ⟨a, cap, rfl, h1.1, h2, fun i hi => h3 i _ (List.getElem?_eq_getElem hi)⟩
theorem getD_of_lt {α : Type} {l : List α} {i : Nat} (d : α) (h : i < l.length) : l.getD i d = l[i] := by simp [h]
/-- A slice as one cell of memory. -/
def SlAt {α : Type} (k : Nat) (R : World → Nat → Nat → α → Prop) (w : World) (b o : Nat) (l : List α) : Prop := ∃ v, w.cell? ⟨b, o, none⟩ = some v ∧ IsSl k R w v l
theorem up_slAt {α : Type} {k : Nat} {R : World → Nat → Nat → α → Prop} (hR : Up R) : Up (SlAt k R) := fun _ _ _ _ _ hb ⟨v, hc, hs⟩ => ⟨v, hb.cell hc, hs.ck hR hb⟩

def IntAt (w : World) (b o : Nat) (x : Int) : Prop := w.cell? ⟨b, o, none⟩ = some (.int .i64 x) ∧ InR x
theorem up_int : Up IntAt := fun _ _ _ _ _ hb h => ⟨hb.cell h.1, h.2⟩
abbrev IsInts := IsSl 1 IntAt
abbrev IntsAt := SlAt 1 IntAt
theorem up_ints : Up IntsAt := up_slAt up_int
abbrev IsVecs := IsSl 1 IntsAt
abbrev VecsAt := SlAt 1 IntsAt
theorem up_vecs : Up VecsAt := up_slAt up_ints
def CaseAt (w : World) (b o : Nat) (c : Cs) : Prop := IntsAt w b o c.inp ∧ VecsAt w b (o + 1) c.out ∧ VecsAt w b (o + 2) c.calm
theorem up_case : Up CaseAt := fun _ _ _ _ _ hb h => ⟨up_ints _ _ _ _ _ hb h.1, up_vecs _ _ _ _ _ hb h.2.1, up_vecs _ _ _ _ _ hb h.2.2⟩
abbrev IsCases := IsSl 3 CaseAt
def RoundAt (w : World) (b o : Nat) (r : Rd) : Prop :=
  IntAt w b o r.g.n ∧ IntAt w b (o + 1) r.g.h0 ∧ IntAt w b (o + 2) r.g.h1 ∧ IntAt w b (o + 3) r.g.h2 ∧ IntAt w b (o + 4) r.g.h3 ∧ IntAt w b (o + 5) r.g.h4 ∧ IntAt w b (o + 6) r.f
theorem up_round : Up RoundAt := fun _ _ _ _ _ hb ⟨h0, h1, h2, h3, h4, h5, h6⟩ =>
  ⟨up_int _ _ _ _ _ hb h0, up_int _ _ _ _ _ hb h1, up_int _ _ _ _ _ hb h2, up_int _ _ _ _ _ hb h3, up_int _ _ _ _ _ hb h4, up_int _ _ _ _ _ hb h5, up_int _ _ _ _ _ hb h6⟩
abbrev IsWord := IsSl 7 RoundAt
def MoveAt (w : World) (b o : Nat) (m : Mv) : Prop := RoundAt w b o m.r ∧ IntAt w b (o + 7) m.to
theorem up_move : Up MoveAt := fun _ _ _ _ _ hb h => ⟨up_round _ _ _ _ _ hb h.1, up_int _ _ _ _ _ hb h.2⟩
abbrev IsMoves := IsSl 8 MoveAt
abbrev MovesAt := SlAt 8 MoveAt
theorem up_moves : Up MovesAt := up_slAt up_move
abbrev IsStates := IsSl 1 MovesAt

/-- the cells of a round, a graph -/
abbrev Gr.v (g : Gr) : Value := .agg #[.int .i64 g.n, .int .i64 g.h0, .int .i64 g.h1, .int .i64 g.h2, .int .i64 g.h3, .int .i64 g.h4]
abbrev Rd.v (r : Rd) : Value := .agg #[.int .i64 r.g.n, .int .i64 r.g.h0, .int .i64 r.g.h1, .int .i64 r.g.h2, .int .i64 r.g.h3, .int .i64 r.g.h4, .int .i64 r.f]
abbrev Mv.v (m : Mv) : Value := .agg #[.int .i64 m.r.g.n, .int .i64 m.r.g.h0, .int .i64 m.r.g.h1, .int .i64 m.r.g.h2, .int .i64 m.r.g.h3, .int .i64 m.r.g.h4, .int .i64 m.r.f, .int .i64 m.to]

/-- A world in which all that lay in w lies unturned. -/
structure ExtW (w : World) where
  val : World
  ext : Below w.heap.size w val
instance (w : World) : Inhabited (ExtW w) := ⟨⟨w, Below.refl _ _⟩⟩
theorem wp_region_quiet_ext {P : Program} {id : Nat} {Q : Exit → Act → World → Prop} {a : Act} {w : World} {l : List Oper} (hm : P.follows .mixedOrders = true) (hB : Region.lexB .any l.toArray = true)
    (h : wpQuiet P l.toArray (fun w' => ∃ x : ExtW w, w' = x.val) (fun a' => ∀ w', (∃ x : ExtW w, w' = x.val) → Q .normal a' w') l a) : (Code.region id l.toArray true).wp P Q a w :=
  wp_region_quiet (C := fun w' => ∃ x : ExtW w, w' = x.val) hm hB ⟨⟨w.drew, (Below.refl _ _).drew⟩, rfl⟩ (by simpa using h)
theorem Calls.ext_of {P : Program} {f : FuncId} {args : Array Value} {w : World} {x : ExtW w} {v : Value}
    (h : Calls P f args x.val fun e w' => e = .returned v ∧ Below x.val.heap.size x.val w') : Calls P f args x.val fun e w'' => e = .returned v ∧ ∃ p : ExtW w, w'' = p.val :=
  h.mono fun _ w'' ⟨he, hb⟩ => ⟨he, ⟨w'', ext_trans x.ext hb⟩, rfl⟩
theorem ExtW.cell {w : World} (x : ExtW w) {a : Addr} {v : Value} (h : w.cell? a = some v) : x.val.cell? a = some v := cell_up x.ext h

end Go.Proofs.YtlfnfphkhokdiaaDoor

namespace Go.Proofs.YtlfnfphkhokdiaaDoor
open Go.RowKit Go Go.Shelf

def upd (D : Nat → Bool) (i : Nat) : Nat → Bool := fun j => if j = i then true else D j
theorem upd_count (D : Nat → Bool) (i : Nat) (hi : D i = false) (l : List Nat) : l.countP (fun j => !upd D i j) + (if i ∈ l then 1 else 0) ≤ l.countP (fun j => !D j) := by
  induction l with
  | nil => simp
  | cons x t ih =>
    rw [List.countP_cons, List.countP_cons]
    by_cases hx : x = i
    · subst hx
      have h1 : (!upd D x x) = false := by simp [upd]
      have h2 : (!D x) = true := by simp [hi]
      rw [h1, h2]
      simp only [List.mem_cons, true_or, if_true]
      have : t.countP (fun j => !upd D x j) ≤ t.countP (fun j => !D j) := by
        refine Nat.le_trans ?_ ih
        omega
      simp
      omega
    · have h1 : (!upd D i x) = !D x := by simp [upd, hx]
      rw [h1]
      have hm : (if i ∈ x :: t then 1 else 0) = (if i ∈ t then 1 else 0) := by
        have : i ∈ x :: t ↔ i ∈ t := by simp [Ne.symm hx]
        simp only [this]
      rw [hm]
      omega
/-- every edge leads back; the last operation waits for all others -/
def growB (ops : Array Oper) (n : Nat) : Bool :=
  (List.range (n + 1)).all (fun i => match ops[i]? with | some o => o.after.all fun e => decide (e.on < i) | none => false) &&
  (List.range n).all (fun j => match ops[n]? with | some o => o.after.any fun e => Region.binds .any e && decide (e.on = j) | none => false)
theorem growB_back {ops : Array Oper} {n : Nat} (h : growB ops n = true) {i : Nat} {o : Oper} (hi : i < n + 1) (ho : ops[i]? = some o) : ∀ e ∈ o.after, e.on < i := by
  simp only [growB, Bool.and_eq_true, List.all_eq_true] at h
  have := h.1 i (List.mem_range.2 hi)
  rw [ho] at this
  intro e he
  have := Array.all_eq_true'.1 this e he
  simpa using this
theorem growB_last {ops : Array Oper} {n : Nat} (h : growB ops n = true) {o : Oper} (ho : ops[n]? = some o) {j : Nat} (hj : j < n) : ∃ e ∈ o.after, Region.binds .any e = true ∧ e.on = j := by
  simp only [growB, Bool.and_eq_true, List.all_eq_true] at h
  have := h.2 j (List.mem_range.2 hj)
  rw [ho] at this
  obtain ⟨e, he, h2⟩ := Array.any_eq_true'.1 this
  simp at h2
  exact ⟨e, he, h2.1, h2.2⟩

theorem wpOp_mono' {P : Program} {ops : Array Oper} {Q : Exit → Act → World → Prop} {i : Nat} {K K' : Act → World → Prop} {a : Act} {w : World} (h : ∀ a w, K a w → K' a w) (hh : wpOp P ops Q i K a w) : wpOp P ops Q i K' a w := by
  unfold wpOp at hh ⊢
  split at hh
  · exact h _ _ hh
  · split at hh
    · rename_i hw
      rw [if_pos hw]
      rcases hh with hh | hh
      · exact .inl (Oper.wp_mono h hh)
      · exact .inr hh
    · rename_i hw
      rw [if_neg hw]
      exact h _ _ hh

theorem wpAny_grow {P : Program} {ops : Array Oper} {Q : Exit → Act → World → Prop} {n : Nat} (hn : ops.size = n + 1) (hB : growB ops n = true) (Inv : (Nat → Bool) → Act → World → Prop)
    (hstep : ∀ D a w i o, i < n → ops[i]? = some o → D i = false → (∀ e ∈ o.after, Region.binds .any e = true → D e.on = true) → Inv D a w → wpOp P ops Q i (fun a' w' => Inv (upd D i) a' w') a w)
    (hend : ∀ D a w, (∀ j, j < n → D j = true) → Inv D a w → wpOp P ops Q n (fun a' w' => Q .normal a' w') a w) :
    ∀ (fuel : Nat) (L : Array Bool) (a : Act) (w : World), L.size = n + 1 → (List.range (n + 1)).countP (fun j => !L.getD j false) ≤ fuel →
      ((L.getD n true = false ∧ Inv (fun j => L.getD j false) a w) ∨ ((∀ j, j < n + 1 → L.getD j false = true) ∧ Q .normal a w)) → wpAny P .any ops Q fuel L a w := by
  intro fuel
  induction fuel with
  | zero =>
    rintro L a w hL hc (⟨h1, _⟩ | ⟨h1, h2⟩)
    · have h3 : (List.range (n + 1)).countP (fun j => !L.getD j false) = 0 := by omega
      rw [List.countP_eq_zero] at h3
      have := h3 n (List.mem_range.2 (by omega))
      rw [show L.getD n false = L.getD n true by simp [Array.getD, hL]] at this
      rw [h1] at this
      simp at this
    · refine ⟨?_, h2⟩
      refine List.eq_nil_iff_forall_not_mem.2 fun j hj => ?_
      obtain ⟨hj1, o, ho, _⟩ := mem_ready.1 hj
      have hjn : j < n + 1 := by have := (Array.getElem?_eq_some_iff.1 ho).1; omega
      have := h1 j hjn
      rw [show L.getD j false = L.getD j true by simp [Array.getD, hL, hjn]] at this
      rw [hj1] at this; cases this
  | succ fuel ih =>
    rintro L a w hL hc (⟨h1, h2⟩ | ⟨h1, h2⟩)
    · have hDn : L.getD n false = false := by rw [show L.getD n false = L.getD n true by simp [Array.getD, hL]]; exact h1
      refine ⟨fun hr => ?_, fun i hi => ?_⟩
      · exfalso
        have key : ∀ j, j < n + 1 → L.getD j false = true := by
          intro j
          induction j using Nat.strongRecOn with
          | ind j ihj =>
            intro hj
            cases hv : L.getD j false with
            | true => rfl
            | false =>
              exfalso
              obtain ⟨o, ho⟩ : ∃ o, ops[j]? = some o := ⟨ops[j]'(by omega), Array.getElem?_eq_getElem _⟩
              have : j ∈ Region.ready .any ops L := mem_ready.2 ⟨by rw [show L.getD j true = L.getD j false by simp [Array.getD, hL, hj]]; exact hv, o, ho, fun e he _ => by
                have := growB_back hB hj ho e he
                exact ihj e.on this (by omega)⟩
              rw [hr] at this
              cases this
        have := key n (by omega)
        rw [hDn] at this; cases this
      · obtain ⟨hi1, o, ho, hdep⟩ := mem_ready.1 hi
        have hin : i < n + 1 := by have := (Array.getElem?_eq_some_iff.1 ho).1; omega
        have hiD : L.getD i false = false := by rw [show L.getD i false = L.getD i true by simp [Array.getD, hL, hin]]; exact hi1
        have hupd : (fun j => (L.setIfInBounds i true).getD j false) = upd (fun j => L.getD j false) i := by
          funext j
          unfold upd
          by_cases hji : j = i
          · subst hji; simp [Array.getD, hL, hin]
          · rw [if_neg hji]
            simp only [Array.getD, Array.size_setIfInBounds]
            split
            · exact Array.getElem_setIfInBounds_ne _ (Ne.symm hji)
            · rfl
        have hcnt : (List.range (n + 1)).countP (fun j => !(L.setIfInBounds i true).getD j false) ≤ fuel := by
          have h3 := upd_count (fun j => L.getD j false) i hiD (List.range (n + 1))
          rw [if_pos (List.mem_range.2 hin)] at h3
          have h4 : (fun j => !(L.setIfInBounds i true).getD j false) = fun j => !upd (fun j => L.getD j false) i j := by
            funext j; rw [← hupd]
          rw [h4]
          omega
        by_cases hlt : i < n
        · refine wpOp_mono' (fun a' w' h => ih (L.setIfInBounds i true) a' w' (by simpa using hL) hcnt (.inl ⟨?_, by rw [hupd]; exact h⟩)) (hstep (fun j => L.getD j false) a w i o hlt ho hiD hdep h2)
          have h5 := congrFun hupd n
          unfold upd at h5
          rw [if_neg (by omega)] at h5
          dsimp only at h5
          rw [hDn] at h5
          rw [show (L.setIfInBounds i true).getD n true = (L.setIfInBounds i true).getD n false by simp [Array.getD, hL]]
          exact h5
        · obtain rfl : i = n := by omega
          have hall : ∀ j, j < i → L.getD j false = true := fun j hj => by
            obtain ⟨e, he, hb, rfl⟩ := growB_last hB ho hj
            exact hdep e he hb
          refine wpOp_mono' (fun a' w' h => ih (L.setIfInBounds i true) a' w' (by simpa using hL) hcnt (.inr ⟨fun j hj => ?_, h⟩)) (hend (fun j => L.getD j false) a w hall h2)
          have := congrFun hupd j
          rw [this]
          unfold upd
          by_cases hji : j = i
          · simp [hji]
          · rw [if_neg hji]; exact hall j (by omega)
    · have hr : Region.ready .any ops L = [] := by
        refine List.eq_nil_iff_forall_not_mem.2 fun j hj => ?_
        obtain ⟨hj1, o, ho, _⟩ := mem_ready.1 hj
        have hjn : j < n + 1 := by have := (Array.getElem?_eq_some_iff.1 ho).1; omega
        have := h1 j hjn
        rw [show L.getD j false = L.getD j true by simp [Array.getD, hL, hjn]] at this
        rw [hj1] at this; cases this
      exact ⟨fun _ => h2, fun i hi => by rw [hr] at hi; cases hi⟩

/-- The law. -/
theorem wp_region_grow {P : Program} {id : Nat} {l : List Oper} {Q : Exit → Act → World → Prop} {a : Act} {w : World} (n : Nat) (hm : P.follows .mixedOrders = true) (hn : l.toArray.size = n + 1) (hB : growB l.toArray n = true) (Inv : (Nat → Bool) → Act → World → Prop)
    (h0 : Inv (fun _ => false) a w.drew)
    (hstep : ∀ D a w i o, i < n → l.toArray[i]? = some o → D i = false → (∀ e ∈ o.after, Region.binds .any e = true → D e.on = true) → Inv D a w → wpOp P l.toArray Q i (fun a' w' => Inv (upd D i) a' w') a w)
    (hend : ∀ D a w, (∀ j, j < n → D j = true) → Inv D a w → wpOp P l.toArray Q n (fun a' w' => Q .normal a' w') a w) : (Code.region id l.toArray true).wp P Q a w := by
  refine wp_region_any hm ?_
  refine wpAny_grow hn hB Inv hstep hend _ _ _ _ (by rw [Array.size_replicate, hn]) ?_ (.inl ⟨?_, ?_⟩)
  · rw [hn]; exact Nat.le_trans List.countP_le_length (by simp)
  · simp [Array.getD, hn]
  · have : (fun j => (Array.replicate l.toArray.size false).getD j false) = fun _ => false := by
      funext j
      simp only [Array.getD]
      split <;> simp
    rw [this]; exact h0

theorem upon_then {P : Program} {o : Oper} {a : Act} {K next : Act → World → Prop} {Q : Exit → Act → World → Prop} {r : Result Next} (h : o.upon P a next (Exit.then K Q) r) : o.upon P a next Q r := by
  cases r with
  | ok x w' =>
    cases x with
    | enter f args =>
      refine Calls.mono h ?_
      rintro e w'' he
      cases e with
      | returned v => exact he
      | panicked ch => exact he
      | outgrown => exact he
    | _ => exact h
  | halt x w' => cases x <;> exact h
/-- One operation, walked alone. -/
theorem wpOp_one {P : Program} {ops : Array Oper} {Q : Exit → Act → World → Prop} {i : Nat} {o : Oper} {K : Act → World → Prop} {a : Act} {w : World} (ho : ops[i]? = some o)
    (h : wpList P ops (Exit.then K Q) [o] a w) : wpOp P ops Q i K a w := by
  unfold wpOp
  rw [ho]
  unfold wpList at h
  dsimp only
  split at h
  · rename_i hw
    rw [if_pos hw]
    rcases h with h | ⟨h1, h2⟩
    · exact .inl (upon_then h)
    · exact .inr ⟨h1, h2⟩
  · rename_i hw
    rw [if_neg hw]
    exact h
end Go.Proofs.YtlfnfphkhokdiaaDoor

namespace Go.Proofs.YtlfnfphkhokdiaaDoor
open Go

theorem i64_and_nat (a b : Nat) (ha : a < 9223372036854775808) (hb : b < 9223372036854775808) : bits .and .i64 (a : Int) (b : Int) = ((a &&& b : Nat) : Int) := by
  have hx : a &&& b < 2 ^ 63 := Nat.and_lt_two_pow _ (by omega)
  show IntKind.i64.wrap ((BitVec.ofInt 64 (a : Int) &&& BitVec.ofInt 64 (b : Int)).toNat : Int) = _
  rw [BitVec.toNat_and, ofInt_u64 a (by omega), ofInt_u64 b (by omega)]
  simp [IntKind.wrap, IntKind.bits, IntKind.signed]
  omega
theorem i64_and (a b : Int) (h1 : 0 ≤ a) (h2 : a < 9223372036854775808) (h3 : 0 ≤ b) (h4 : b < 9223372036854775808) : bits .and .i64 a b = ((a.toNat &&& b.toNat : Nat) : Int) := by
  obtain ⟨A, rfl⟩ := Int.eq_ofNat_of_zero_le h1
  obtain ⟨B, rfl⟩ := Int.eq_ofNat_of_zero_le h3
  exact i64_and_nat A B (by omega) (by omega)
theorem i64_or_nat (a b : Nat) (ha : a < 9223372036854775808) (hb : b < 9223372036854775808) : bits .or .i64 (a : Int) (b : Int) = ((a ||| b : Nat) : Int) := by
  have hx : a ||| b < 2 ^ 63 := Nat.or_lt_two_pow (by omega) (by omega)
  show IntKind.i64.wrap ((BitVec.ofInt 64 (a : Int) ||| BitVec.ofInt 64 (b : Int)).toNat : Int) = _
  rw [BitVec.toNat_or, ofInt_u64 a (by omega), ofInt_u64 b (by omega)]
  simp [IntKind.wrap, IntKind.bits, IntKind.signed]
  omega
theorem i64_or (a b : Int) (h1 : 0 ≤ a) (h2 : a < 9223372036854775808) (h3 : 0 ≤ b) (h4 : b < 9223372036854775808) : bits .or .i64 a b = ((a.toNat ||| b.toNat : Nat) : Int) := by
  obtain ⟨A, rfl⟩ := Int.eq_ofNat_of_zero_le h1
  obtain ⟨B, rfl⟩ := Int.eq_ofNat_of_zero_le h3
  exact i64_or_nat A B (by omega) (by omega)
/-- the lowest bit -/
theorem i64_and1 (a : Int) : bits .and .i64 a 1 = a % 2 := by
  show IntKind.i64.wrap ((BitVec.ofInt 64 a &&& BitVec.ofInt 64 ((1 : Nat) : Int)).toNat : Int) = _
  rw [BitVec.toNat_and, ofInt_u64 1 (by omega), Nat.and_one_is_mod, BitVec.toNat_ofInt]
  simp [IntKind.wrap, IntKind.bits, IntKind.signed]
  omega
theorem hasB_and1 (x : Int) (p : Nat) : (bits .and .i64 (x / 2 ^ p) 1 == 0) = !hasB x p := by
  rw [i64_and1]; unfold hasB
  rcases (show x / 2 ^ p % 2 = 0 ∨ x / 2 ^ p % 2 = 1 by omega) with h | h <;> rw [h] <;> rfl
theorem hasB_and1' (x : Int) (p : Nat) : (bits .and .i64 (x / 2 ^ p) 1 == 1) = hasB x p := by
  rw [i64_and1]; unfold hasB; rfl
theorem hasB_testBit (x : Int) (h0 : 0 ≤ x) (p : Nat) : hasB x p = x.toNat.testBit p := by
  obtain ⟨A, rfl⟩ := Int.eq_ofNat_of_zero_le h0
  unfold hasB
  rw [Int.toNat_natCast, Nat.testBit_eq_decide_div_mod_eq]
  have : ((A : Int) / 2 ^ p % 2) = ((A / 2 ^ p % 2 : Nat) : Int) := by simp
  rw [this, Bool.eq_iff_iff]
  simp only [beq_iff_eq, decide_eq_true_eq]
  omega
/-- 'x &^ y' of two sets of at most 5 processes -/
theorem andNot_inside (x y : Int) (hx0 : 0 ≤ x) (hx : x < 32) (hy0 : 0 ≤ y) (hy : y < 32) : (bits .andNot .i64 x y != 0) = !insideB x y := by
  obtain ⟨A, rfl⟩ := Int.eq_ofNat_of_zero_le hx0
  obtain ⟨B, rfl⟩ := Int.eq_ofNat_of_zero_le hy0
  have hA : A < 32 := by omega
  have hB : B < 32 := by omega
  have key : ∀ a : Fin 32, ∀ b : Fin 32, (bits .andNot .i64 ((a.val : Nat) : Int) ((b.val : Nat) : Int) != 0) = !insideB ((a.val : Nat) : Int) ((b.val : Nat) : Int) := by decide +kernel
  exact key ⟨A, hA⟩ ⟨B, hB⟩
end Go.Proofs.YtlfnfphkhokdiaaDoor

namespace Go.Proofs.YtlfnfphkhokdiaaDoor
open Go.RowKit Go

set_option maxHeartbeats 400000 in
theorem procs_any (n : Int) (w : World) :
    Calls Tryd.prog 60 #[.int .i64 n] w fun e w' => e = .returned (.int .i64 (procsE n)) ∧ w = w' := by
  go_enter Tryd.func60, Tryd.ntmps60
  go_wp2
  all_goals go_ret; exact ⟨ret_int (by unfold procsE; first | rw [if_pos (by omega)] | rw [if_neg (by omega)]), rfl⟩

set_option maxHeartbeats 400000 in
theorem procsetCheck_any (n x : Int) (w : World) :
    Calls Tryd.prog 52 #[.int .i64 n, .int .i64 x] w fun e w' => e = .returned (.int .i64 (psetE n x)) ∧ w = w' := by
  by_cases hn : n < 1 ∨ 5 < n
  · have hp : procsE n = 1 := by unfold procsE; rw [if_pos hn]
    have hc := procs_any n w
    rw [hp] at hc
    have H := Lib.hid hp; clear hp
    go_enter Tryd.func52, Tryd.ntmps52
    go_wp2_with (go_at_call 60; refine hc.mono ?_; rintro e w' ⟨rfl, rfl⟩)
    go_ret; exact ⟨ret_int (by unfold psetE; rw [H.out]; rfl), rfl⟩
  · have hp : procsE n = 0 := by unfold procsE; rw [if_neg hn]
    have hc := procs_any n w
    rw [hp] at hc
    have H := Lib.hid hp; clear hp
    have h1 : 1 ≤ n := by omega
    have h2 : n ≤ 5 := by omega
    clear hn
    go_enter Tryd.func52, Tryd.ntmps52
    go_wp2_with (go_at_call 60; refine hc.mono ?_; rintro e w' ⟨rfl, rfl⟩)
    all_goals
      go_ret
      refine ⟨ret_int ?_, rfl⟩
      go_light
      unfold psetE
      rw [H.out]
      grind

theorem hear_index (g : Gr) (k : Nat) (hk : k < 5) (w : World) : (Instr.index 40 (.agg #[.int .i64 g.h0, .int .i64 g.h1, .int .i64 g.h2, .int .i64 g.h3, .int .i64 g.h4]) (.int .i64 k)).run Tryd.prog w = .ok (.int .i64 (g.hear k)) w := by
  have : k = 0 ∨ k = 1 ∨ k = 2 ∨ k = 3 ∨ k = 4 := by omega
  rcases this with h | h | h | h | h <;> (subst h; with_reducible refine Eq.trans ?_ (Eq.refl _); kernel_rfl)

set_option maxHeartbeats 400000 in
theorem full_any (n : Int) (w : World) (h1 : 1 ≤ n) (h2 : n ≤ 5) :
    Calls Tryd.prog 59 #[.int .i64 n] w fun e w' => e = .returned (.int .i64 (2 ^ n.toNat - 1)) ∧ w = w' := by
  have : n = 1 ∨ n = 2 ∨ n = 3 ∨ n = 4 ∨ n = 5 := by omega
  rcases this with rfl | rfl | rfl | rfl | rfl
  all_goals
    go_enter Tryd.func59, Tryd.ntmps59
    go_wp2
    go_ret
    exact ⟨rfl, rfl⟩

set_option maxHeartbeats 1000000 in
theorem graphCheck_any (g : Gr) (w : World) :
    Calls Tryd.prog 51 #[g.v] w fun e w' => e = .returned (.int .i64 (graphE g)) ∧ Below w.heap.size w w' := by
  obtain ⟨n, h0, h1, h2, h3, h4⟩ := g
  by_cases hn : n < 1 ∨ 5 < n
  · have H : Hid (graphE ⟨n, h0, h1, h2, h3, h4⟩ = 2) := by unfold graphE; rw [if_pos hn]; rfl
    rcases hn with hn | hn
    · go_enter Tryd.func51, Tryd.ntmps51
      go_wp2
      go_ret; exact ⟨ret_int H.out.symm, by go_grown⟩
    · have hn' : ¬ n < 1 := by omega
      go_enter Tryd.func51, Tryd.ntmps51
      go_wp2
      go_ret; exact ⟨ret_int H.out.symm, by go_grown⟩
  have hn1 : 1 ≤ n := by omega
  have hn2 : n ≤ 5 := by omega
  have HE : Hid (graphE ⟨n, h0, h1, h2, h3, h4⟩ = firstNZ 5 fun p => hearE n (Gr.hear ⟨n, h0, h1, h2, h3, h4⟩ p) p) := by unfold graphE; rw [if_neg hn]; rfl
  clear hn
  go_enter Tryd.func51, Tryd.ntmps51
  go_wp2
  go_loop [15] (fun i => ∃ k : Nat, k ≤ 5 ∧ i = .int .i64 k ∧ ∀ j, j < k → hearE n (Gr.hear ⟨n, h0, h1, h2, h3, h4⟩ j) j = 0) (fun i => 5 - (intOf i).toNat)
  case atStart => exact ⟨0, by omega, rfl, by simp⟩
  case round =>
    obtain ⟨k, hk, rfl, hinv⟩ := hrel
    have H := Lib.hid hinv; clear hinv
    by_cases hlt : k < 5
    · have hx := hear_index ⟨n, h0, h1, h2, h3, h4⟩ k hlt
      have hEx : ∃ x, x = Gr.hear ⟨n, h0, h1, h2, h3, h4⟩ k := ⟨_, rfl⟩
      obtain ⟨x, hxx⟩ := hEx
      rw [← hxx] at hx
      have HX := Lib.hid hxx; clear hxx
      have hbit := hasB_and1 x k
      go_wp2_with (go_at_call 59; refine (full_any _ _ (by omega) (by omega)).mono ?_; rintro e w' ⟨rfl, rfl⟩)
      all_goals first
        | (go_ret
           refine ⟨ret_int ?_, by go_grown⟩
           rw [HE.out]
           go_light
           refine firstNZ_hit k _ hlt H.out ?_ (by decide)
           rw [← HX.out]
           unfold hearE
           grind)
        | (go_round
           case rel =>
             refine ⟨k + 1, by omega, by go_num, below_succ H.out ?_⟩
             go_light
             rw [← HX.out]
             unfold hearE
             grind
           case measure => simp [intOf]; omega)
    · go_wp2
      go_ret; exact ⟨ret_int (by rw [HE.out, firstNZ_zero]; intro j hj; exact H.out j (by omega)), by go_grown⟩

set_option maxHeartbeats 400000 in
theorem cmp_any (a b : Int) (w : World) :
    Calls Tryd.prog 35 #[.int .i64 a, .int .i64 b] w fun e w' => e = .returned (.int .i64 (cmpI a b)) ∧ w = w' := by
  go_enter Tryd.func35, Tryd.ntmps35
  go_wp2
  all_goals
    go_ret
    refine ⟨ret_int ?_, rfl⟩
    go_light
    unfold cmpI
    grind
end Go.Proofs.YtlfnfphkhokdiaaDoor

namespace Go.Proofs.YtlfnfphkhokdiaaDoor
open Go.RowKit Go

theorem eqIn_arr (d : Nat) (a0 a1 a2 a3 a4 b0 b1 b2 b3 b4 : Int) (w : World) : (Op.equalIn (d + 2) 40 (.agg #[.int .i64 a0, .int .i64 a1, .int .i64 a2, .int .i64 a3, .int .i64 a4]) (.agg #[.int .i64 b0, .int .i64 b1, .int .i64 b2, .int .i64 b3, .int .i64 b4])).run Tryd.prog w = .ok (decide (a0 = b0 ∧ a1 = b1 ∧ a2 = b2 ∧ a3 = b3 ∧ a4 = b4)) w := by
  obtain ⟨i, hi⟩ : ∃ i, Tryd.prog.info? 3 = some i := Option.isSome_iff_exists.1 (by kernel_rfl)
  have hc : Tryd.prog.cellsOf 3 = 1 := by kernel_rfl
  rw [run_equalIn_array w (d + 1) _ _ Tryd.underlying40 hi, hc]
  have ag := Tryd.isAgg3
  have u3 := Tryd.underlying3
  have hr : List.range 5 = [0, 1, 2, 3, 4] := rfl
  rw [hr]
  simp only [Op.eqItems, Sem.run_bind, part, ag, Result.andThen_ok]
  simp [run_equalIn_int w d 3 _ .i64 _ _ u3]
  by_cases h0 : a0 = b0
  case neg => simp [h0]
  by_cases h1 : a1 = b1
  case neg => simp [h0, h1]
  by_cases h2 : a2 = b2
  case neg => simp [h0, h1, h2]
  by_cases h3 : a3 = b3
  case neg => simp [h0, h1, h2, h3]
  by_cases h4 : a4 = b4 <;> simp [h0, h1, h2, h3, h4]

theorem eqIn_gr (d : Nat) (a b : Gr) (w : World) : (Op.equalIn (d + 3) 42 a.v b.v).run Tryd.prog w = .ok (decide (a = b)) w := by
  have hS : Tryd.prog.underlying 42 = some (.struct (Tryd.prog.fieldsOf 42)) := by kernel_rfl
  have hp : Tryd.prog.stoodInHeld 42 = false := by kernel_rfl
  rw [run_equalIn_struct w (d + 2) 42 _ _ hS hp]
  have ag := Tryd.isAgg3
  have ah := Tryd.isAgg40
  have zh := Tryd.sizeOf40
  have u3 := Tryd.underlying3
  simp only [Program.fieldsOf, Tryd.underlying42]
  simp [Op.eqFields, part, ag, ah, zh, run_equalIn_int w (d + 1) 3 _ .i64 _ _ u3, eqIn_arr d]
  obtain ⟨n, h0, h1, h2, h3, h4⟩ := a
  obtain ⟨m, g0, g1, g2, g3, g4⟩ := b
  by_cases hn : n = m
  case neg => simp [hn]
  by_cases hh : h0 = g0 ∧ h1 = g1 ∧ h2 = g2 ∧ h3 = g3 ∧ h4 = g4 <;> simp [hn, hh]

theorem eqIn_rd (d : Nat) (a b : Rd) (w : World) : (Op.equalIn (d + 4) 44 a.v b.v).run Tryd.prog w = .ok (decide (a = b)) w := by
  have hS : Tryd.prog.underlying 44 = some (.struct (Tryd.prog.fieldsOf 44)) := by kernel_rfl
  have hp : Tryd.prog.stoodInHeld 44 = false := by kernel_rfl
  rw [run_equalIn_struct w (d + 3) 44 _ _ hS hp]
  have ag := Tryd.isAgg3
  have ah := Tryd.isAgg42
  have zh := Tryd.sizeOf42
  have u3 := Tryd.underlying3
  have hg := eqIn_gr d a.g b.g w
  simp only [Program.fieldsOf, Tryd.underlying44]
  simp [Op.eqFields, part, ag, ah, zh, run_equalIn_int w (d + 2) 3 _ .i64 _ _ u3, hg]
  obtain ⟨ga, fa⟩ := a
  obtain ⟨gb, fb⟩ := b
  by_cases hn : ga = gb
  case neg => simp [hn]
  by_cases hh : fa = fb <;> simp [hn, hh]

theorem eql_gr (a b : Gr) (w : World) : (binOp .eql 42 a.v b.v).run Tryd.prog w = .ok (.bool (decide (a = b))) w := by
  rw [run_eql_struct, eqIn_gr 9997]; rfl
theorem neq_gr (a b : Gr) (w : World) : (binOp .neq 42 a.v b.v).run Tryd.prog w = .ok (.bool (!decide (a = b))) w := by
  rw [run_neq_struct, eqIn_gr 9997]; rfl
theorem eql_rd (a b : Rd) (w : World) : (binOp .eql 44 a.v b.v).run Tryd.prog w = .ok (.bool (decide (a = b))) w := by
  rw [run_eql_struct, eqIn_rd 9996]; rfl

theorem cmpI_self (a : Int) : cmpI a a = 0 := by unfold cmpI; grind
theorem cmpI_zero {a b : Int} (h : cmpI a b = 0) : a = b := by unfold cmpI at h; grind
theorem graphC_self (a : Gr) : graphC a a = 0 := by
  unfold graphC; rw [cmpI_self]; simp; exact firstNZ_zero _ _ (fun j _ => cmpI_self _)
theorem hear_cell (g : Gr) (k : Nat) (hk : k < 5) (w : World) (B : Nat) (hw : w.heap[B]? = some (.cells #[.int .i64 g.n, .int .i64 g.h0, .int .i64 g.h1, .int .i64 g.h2, .int .i64 g.h3, .int .i64 g.h4] 42)) :
    w.cell? ⟨B, 1 + k, none⟩ = some (.int .i64 (g.hear k)) := by
  have : k = 0 ∨ k = 1 ∨ k = 2 ∨ k = 3 ∨ k = 4 := by omega
  rcases this with h | h | h | h | h <;> subst h <;> simp [World.cell?, hw, Gr.hear]

set_option maxHeartbeats 1000000 in
theorem graphCompare_any (a b : Gr) (w : World) :
    Calls Tryd.prog 53 #[a.v, b.v] w fun e w' => e = .returned (.int .i64 (graphC a b)) ∧ Below w.heap.size w w' := by
  by_cases hab : a = b
  · subst hab
    have heq : ∀ w, (binOp .eql 42 a.v a.v).run Tryd.prog w = .ok (.bool true) w := fun w => by rw [eql_gr]; simp
    have H := Lib.hid (graphC_self a)
    obtain ⟨n, h0, h1, h2, h3, h4⟩ := a
    go_enter Tryd.func53, Tryd.ntmps53
    go_wp2
    go_ret; exact ⟨ret_int H.out.symm, by go_grown⟩
  have heq : ∀ w, (binOp .eql 42 a.v b.v).run Tryd.prog w = .ok (.bool false) w := fun w => by rw [eql_gr]; simp [hab]
  clear hab
  by_cases hn : a.n = b.n
  · have hnb : (a.n != b.n) = false := by simp [hn]
    have HC : Hid (graphC a b = firstNZ 5 fun p => cmpI (a.hear p) (b.hear p)) := by (have h : graphC a b = firstNZ 5 fun p => cmpI (a.hear p) (b.hear p) := by (unfold graphC; rw [hn, cmpI_self]; simp)); exact h
    clear hn
    go_enter Tryd.func53, Tryd.ntmps53
    go_wp2
    refine wp_gen (fun W => Below w.heap.size w W ∧ W.heap[w.heap.size]? = some (.cells #[.int .i64 a.n, .int .i64 a.h0, .int .i64 a.h1, .int .i64 a.h2, .int .i64 a.h3, .int .i64 a.h4] 42) ∧ W.heap[w.heap.size + 1]? = some (.cells #[.int .i64 b.n, .int .i64 b.h0, .int .i64 b.h1, .int .i64 b.h2, .int .i64 b.h3, .int .i64 b.h4] 42))
      ⟨by go_grown, alloc_old _ (alloc_new _ _), by have := alloc_new (w.alloc (.cells #[.int .i64 a.n, .int .i64 a.h0, .int .i64 a.h1, .int .i64 a.h2, .int .i64 a.h3, .int .i64 a.h4] 42)); rw [World.size_alloc] at this; exact this _⟩ (fun W0 hW0 => ?_)
    obtain ⟨hb0, hA, hB⟩ := hW0
    have HA := Lib.hid hA; clear hA
    have HB := Lib.hid hB; clear hB
    go_loopw [20] (fun i wr => Below W0.heap.size W0 wr ∧ ∃ k : Nat, k ≤ 5 ∧ i = .int .i64 k ∧ ∀ j, j < k → cmpI (a.hear j) (b.hear j) = 0) (fun i _ => 5 - (intOf i).toNat)
    case atStart => exact ⟨Below.refl _ _, 0, by omega, rfl, by simp⟩
    case round =>
      obtain ⟨hbr, k, hk, rfl, hinv⟩ := hrel
      have H := Lib.hid hinv; clear hinv
      by_cases hlt : k < 5
      · have c1 : ∀ x : ExtW wr, x.val.cell? ⟨w.heap.size, 1 + k, none⟩ = some (.int .i64 (a.hear k)) := fun x => x.cell (hear_cell a k hlt wr _ (block_up hbr HA.out))
        have c2 : ∀ x : ExtW wr, x.val.cell? ⟨w.heap.size + 1, 1 + k, none⟩ = some (.int .i64 (b.hear k)) := fun x => x.cell (hear_cell b k hlt wr _ (block_up hbr HB.out))
        go_wp2
        refine wp_region_quiet_ext (by kernel_rfl) (by kernel_rfl) ?_
        repeat (quiet_step ((go_at_call 35; exact Calls.ext_of ((cmp_any _ _ _).mono fun _ _ ⟨h1, h2⟩ => ⟨h1, h2 ▸ Below.refl _ _⟩))))
        refine wpQuiet_nil ?_
        intro _ hw'
        obtain ⟨xq, hw''⟩ := hw'
        subst hw''
        go_wp2
        · have ht : (cmpI (a.hear k) (b.hear k) != 0) = true := by assumption
          go_ret
          exact ⟨ret_int (by rw [HC.out]; exact firstNZ_hit k _ hlt H.out rfl (by simpa using ht)), ext_trans hb0 (ext_trans hbr xq.ext)⟩
        · have ht : (cmpI (a.hear k) (b.hear k) != 0) = false := by assumption
          go_roundw
          case rel => exact ⟨ext_trans hbr xq.ext, k + 1, by omega, by go_num, below_succ H.out (by simpa using ht)⟩
          case measure => simp [intOf]; omega
      · go_wp2
        go_ret; exact ⟨ret_int (by rw [HC.out, firstNZ_zero]; intro j hj; exact H.out j (by omega)), ext_trans hb0 hbr⟩
  · have hnb : (a.n != b.n) = true := by simp [hn]
    have HC : Hid (graphC a b = cmpI a.n b.n) := by unfold graphC; rw [if_pos]; exact rfl; intro h; exact hn (cmpI_zero h)
    clear hn
    go_enter Tryd.func53, Tryd.ntmps53
    go_wp2_with (go_at_call 35; refine (cmp_any _ _ _).mono ?_; rintro e w' ⟨rfl, rfl⟩)
    go_ret; exact ⟨ret_int HC.out.symm, by go_grown⟩

set_option maxHeartbeats 1000000 in
theorem roundCheck_any (r : Rd) (w : World) :
    Calls Tryd.prog 38 #[r.v] w fun e w' => e = .returned (.int .i64 (roundE r)) ∧ Below w.heap.size w w' := by
  obtain ⟨⟨n, h0, h1, h2, h3, h4⟩, f⟩ := r
  go_enter Tryd.func38, Tryd.ntmps38
  go_wp2_with (first
    | (go_at_call 51; refine (graphCheck_any ⟨_, _, _, _, _, _⟩ _).mono ?_; rintro e w1 ⟨rfl, hb⟩; obtain ⟨hc, hf⟩ := bcell hb)
    | (go_at_call 52; refine (procsetCheck_any _ _ _).mono ?_; rintro e w2 ⟨rfl, rfl⟩))
  all_goals
    go_ret
    refine ⟨ret_int ?_, ?_⟩
    · go_light
      unfold roundE
      grind
    · exact ext_trans (by go_grown) hb

theorem roundC_self (a : Rd) : roundC a a = 0 := by
  unfold roundC; rw [graphC_self, cmpI_self]; simp
theorem hear_ext {a b : Gr} (hn : a.n = b.n) (h : ∀ j, j < 5 → cmpI (a.hear j) (b.hear j) = 0) : a = b := by
  obtain ⟨n, h0, h1, h2, h3, h4⟩ := a
  obtain ⟨m, g0, g1, g2, g3, g4⟩ := b
  have e0 := cmpI_zero (h 0 (by omega)); have e1 := cmpI_zero (h 1 (by omega)); have e2 := cmpI_zero (h 2 (by omega)); have e3 := cmpI_zero (h 3 (by omega)); have e4 := cmpI_zero (h 4 (by omega))
  simp [Gr.hear] at e0 e1 e2 e3 e4 hn
  simp [e0, e1, e2, e3, e4, hn]
theorem graphC_zero {a b : Gr} (h : graphC a b = 0) : a = b := by
  unfold graphC at h
  by_cases hc : cmpI a.n b.n = 0
  · rw [if_neg (by simpa using hc)] at h
    exact hear_ext (cmpI_zero hc) (firstNZ_all h)
  · rw [if_pos hc] at h; exact absurd h hc

set_option maxHeartbeats 1000000 in
theorem roundCompare_any (a b : Rd) (w : World) :
    Calls Tryd.prog 39 #[a.v, b.v] w fun e w' => e = .returned (.int .i64 (roundC a b)) ∧ Below w.heap.size w w' := by
  by_cases hab : a = b
  · subst hab
    have heq : ∀ w, (binOp .eql 44 a.v a.v).run Tryd.prog w = .ok (.bool true) w := fun w => by rw [eql_rd]; simp
    have H := Lib.hid (roundC_self a)
    go_enter Tryd.func39, Tryd.ntmps39
    go_wp2
    go_ret; exact ⟨ret_int H.out.symm, by go_grown⟩
  have heq : ∀ w, (binOp .eql 44 a.v b.v).run Tryd.prog w = .ok (.bool false) w := fun w => by rw [eql_rd]; simp [hab]
  by_cases hg : a.g = b.g
  · have hne : ∀ w, (binOp .neq 42 a.g.v b.g.v).run Tryd.prog w = .ok (.bool false) w := fun w => by rw [neq_gr]; simp [hg]
    have HC : Hid (roundC a b = cmpI a.f b.f) := by (have h : roundC a b = cmpI a.f b.f := by (unfold roundC; rw [hg, graphC_self]; simp)); exact h
    clear hg hab
    go_enter Tryd.func39, Tryd.ntmps39
    go_wp2_with (go_at_call 35; refine (cmp_any _ _ _).mono ?_; rintro e w' ⟨rfl, rfl⟩)
    go_ret; exact ⟨ret_int HC.out.symm, by go_grown⟩
  · have hne : ∀ w, (binOp .neq 42 a.g.v b.g.v).run Tryd.prog w = .ok (.bool true) w := fun w => by rw [neq_gr]; simp [hg]
    have HC : Hid (roundC a b = graphC a.g b.g) := by (have h : roundC a b = graphC a.g b.g := by (unfold roundC; rw [if_pos (fun h => hg (graphC_zero h))])); exact h
    clear hg hab
    go_enter Tryd.func39, Tryd.ntmps39
    go_wp2_with (go_at_call 53; refine (graphCompare_any a.g b.g _).mono ?_; rintro e w1 ⟨rfl, hb⟩)
    go_ret; exact ⟨ret_int HC.out.symm, ext_trans (by go_grown) hb⟩

end Go.Proofs.YtlfnfphkhokdiaaDoor

namespace Go.Proofs.YtlfnfphkhokdiaaDoor
open Go.RowKit Go

set_option maxHeartbeats 1000000 in
theorem slicesEqual_any (va vb : Value) (a b : List Int) (w : World) (ha : IsInts w va a) (hb : IsInts w vb b) :
    Calls Tryd.prog 20 #[va, vb] w fun e w' => e = .returned (.bool (eqV a b)) ∧ Below w.heap.size w w' := by
  obtain ⟨pa, ca, rfl, la1, la2, ea⟩ := ha.at
  obtain ⟨pb, cb, rfl, lb1, lb2, eb⟩ := hb.at
  clear ha hb
  have EA := Lib.hid ea; clear ea
  have EB := Lib.hid eb; clear eb
  by_cases hl : a.length = b.length
  · have hl1 : ((a.length : Int) != (b.length : Int)) = false := by simp [hl]
    have HL := Lib.hid hl; clear hl
    go_enter Tryd.func20, Tryd.ntmps20
    go_wp2
    go_loopw [13] (fun i wr => Below w.heap.size w wr ∧ ∃ k : Nat, k ≤ a.length ∧ i = .int .i64 k ∧ ∀ j, j < k → a.getD j 0 = b.getD j 0) (fun i _ => a.length - (intOf i).toNat)
    case atStart => exact ⟨Below.refl _ _, 0, by omega, rfl, by simp⟩
    case round =>
      obtain ⟨hbr, k, hk, rfl, hinv⟩ := hrel
      have H := Lib.hid hinv; clear hinv
      by_cases hlt : k < a.length
      · obtain ⟨b1, o1, rfl, h1⟩ := EA.out k hlt
        have hlt2 : k < b.length := by have := HL.out; omega
        obtain ⟨b2, o2, rfl, h2⟩ := EB.out k hlt2
        obtain ⟨x, hx⟩ : ∃ x, x = a[k] := ⟨_, rfl⟩
        obtain ⟨y, hy⟩ : ∃ y, y = b[k] := ⟨_, rfl⟩
        rw [← hx, Nat.mul_one] at h1
        rw [← hy, Nat.mul_one] at h2
        have c1 : ∀ n, (wr.drewN n).cell? ⟨b1, o1 + k, none⟩ = some (.int .i64 x) := fun n => cell_up hbr h1.1
        have c2 : ∀ n, (wr.drewN n).cell? ⟨b2, o2 + k, none⟩ = some (.int .i64 y) := fun n => cell_up hbr h2.1
        have HX := Lib.hid hx; clear hx
        have HY := Lib.hid hy; clear hy
        go_wp2
        go_quiet (fail)
        go_wp2
        · have ht : (x != y) = true := by assumption
          go_ret
          refine ⟨ret_bool ?_, below_drewN hbr _⟩
          go_light
          unfold eqV
          simp at ht ⊢
          intro h; subst h; exact ht (HX.out.trans HY.out.symm)
        · have ht : (x != y) = false := by assumption
          go_roundw
          case rel =>
            refine ⟨below_drewN hbr _, k + 1, by omega, by go_num, below_succ H.out ?_⟩
            rw [getD_of_lt 0 hlt, getD_of_lt 0 hlt2, ← HX.out, ← HY.out]; simpa using ht
          case measure => simp [intOf]; omega
      · go_wp2
        go_ret
        refine ⟨ret_bool ?_, hbr⟩
        unfold eqV
        simp
        refine List.ext_getElem HL.out fun i h1 h2 => ?_
        have := H.out i (by omega)
        rwa [getD_of_lt 0 h1, getD_of_lt 0 h2] at this
  · have hl1 : ((a.length : Int) != (b.length : Int)) = true := by simp; omega
    go_enter Tryd.func20, Tryd.ntmps20
    go_wp2
    go_ret
    exact ⟨ret_bool (by unfold eqV; simp; intro h; exact hl (by rw [h])), Below.refl _ _⟩


theorem ordV_step {a b : List Int} {k : Nat} (h1 : k < a.length) (h2 : k < b.length) (hO : ordV a b = ordV (a.drop k) (b.drop k)) : ordV a b = if cmpI a[k] b[k] = 0 then ordV (a.drop (k + 1)) (b.drop (k + 1)) else cmpI a[k] b[k] := by
  rw [hO, drop_cons h1, drop_cons h2, ordV]
  unfold cmpI
  grind

set_option maxHeartbeats 1000000 in
theorem slicesCompare_any (va vb : Value) (a b : List Int) (w : World) (ha : IsInts w va a) (hb : IsInts w vb b) :
    Calls Tryd.prog 26 #[va, vb] w fun e w' => e = .returned (.int .i64 (ordV a b)) ∧ Below w.heap.size w w' := by
  obtain ⟨pa, ca, rfl, la1, la2, ea⟩ := ha.at
  obtain ⟨pb, cb, rfl, lb1, lb2, eb⟩ := hb.at
  clear ha hb
  have EA := Lib.hid ea; clear ea
  have EB := Lib.hid eb; clear eb
  go_enter Tryd.func26, Tryd.ntmps26
  go_wp2
  go_loop [11] (fun i => ∃ k : Nat, k ≤ a.length ∧ i = .int .i64 k ∧ ordV a b = ordV (a.drop k) (b.drop k)) (fun i => a.length - (intOf i).toNat)
  case atStart => exact ⟨0, by omega, rfl, by simp⟩
  case round =>
    obtain ⟨k, hk, rfl, hinv⟩ := hrel
    have H := Lib.hid hinv; clear hinv
    by_cases hlt : k < a.length
    · obtain ⟨b1, o1, rfl, h1⟩ := EA.out k hlt
      obtain ⟨x, hx⟩ : ∃ x, x = a[k] := ⟨_, rfl⟩
      rw [← hx, Nat.mul_one] at h1
      have c1 := h1.1
      have HX := Lib.hid hx; clear hx h1
      by_cases hlt2 : k < b.length
      · obtain ⟨b2, o2, rfl, h2⟩ := EB.out k hlt2
        obtain ⟨y, hy⟩ : ∃ y, y = b[k] := ⟨_, rfl⟩
        rw [← hy, Nat.mul_one] at h2
        have c2 := h2.1
        have HY := Lib.hid hy; clear hy h2
        have HS := ordV_step hlt hlt2 H.out
        rw [← HX.out, ← HY.out] at HS
        have HS' := Lib.hid HS; clear HS
        go_wp2_with (go_at_call 35; refine (cmp_any _ _ _).mono ?_; rintro e w' ⟨rfl, rfl⟩)
        · have ht : (cmpI x y != 0) = true := by assumption
          go_ret
          exact ⟨ret_int (by rw [HS'.out, if_neg (by simpa using ht)]), Below.refl _ _⟩
        · have ht : (cmpI x y != 0) = false := by assumption
          go_round
          case rel => exact ⟨k + 1, by omega, by go_num, by rw [HS'.out, if_pos (by simpa using ht)]⟩
          case measure => simp [intOf]; omega
      · go_wp2
        go_ret
        refine ⟨ret_int ?_, Below.refl _ _⟩
        rw [H.out, drop_cons hlt, List.drop_of_length_le (l := b) (by omega)]; rfl
    · have HR : Hid (ordV a b = if a.length < b.length then -1 else 0) := by
        have h : ordV a b = if a.length < b.length then -1 else 0 := by
          rw [H.out, List.drop_of_length_le (by omega), ordV_nil_left, List.length_drop]
          grind
        exact h
      go_wp2
      all_goals
        go_ret
        refine ⟨ret_int ?_, Below.refl _ _⟩
        rw [HR.out]
        go_light
        grind

set_option maxHeartbeats 1000000 in
theorem indexFuncInts_any (g : Nat) (lb : Array Value) (eg : ∀ args w, (callFunc g args).run Tryd.prog w = .ok (.enter g args) w) (v : Value) (l : List Int) (p : Nat → Bool) (w : World) (hv : IsInts w v l)
    (hp : ∀ i (hi : i < l.length)  W, Below w.heap.size w W → Calls Tryd.prog g (#[.int .i64 l[i]] ++ lb) W fun e W' => e = .returned (.bool (p i)) ∧ Below W.heap.size W W') :
    Calls Tryd.prog 21 #[v, .func (.func g) #[] lb] w fun e w' => e = .returned (.int .i64 (firstIx l.length p)) ∧ Below w.heap.size w w' := by
  obtain ⟨pa, ca, rfl, la1, la2, ea⟩ := hv.at
  clear hv
  have EA := Lib.hid ea; clear ea
  have HP := Lib.hid hp; clear hp
  go_enter Tryd.func21, Tryd.ntmps21
  go_wp2
  go_loopw [8] (fun i wr => Below w.heap.size w wr ∧ ∃ k : Nat, k ≤ l.length ∧ i = .int .i64 k ∧ ∀ j, j < k → p j = false) (fun i _ => l.length - (intOf i).toNat)
  case atStart => exact ⟨Below.refl _ _, 0, by omega, rfl, by simp⟩
  case round =>
    obtain ⟨hbr, k, hk, rfl, hinv⟩ := hrel
    have H := Lib.hid hinv; clear hinv
    by_cases hlt : k < l.length
    · obtain ⟨b1, o1, rfl, h1⟩ := EA.out k hlt
      rw [Nat.mul_one] at h1
      have c1 := cell_up hbr h1.1
      have hcall := HP.out k hlt wr hbr
      clear h1
      generalize l[k] = x at c1 hcall
      cases hpk : p k with
      | true =>
        rw [hpk] at hcall
        have HCALL := Lib.hid hcall; clear hcall
        have HPK := Lib.hid hpk; clear hpk
        go_wp2_with fail
        refine HCALL.out.mono ?_
        rintro e w1 ⟨rfl, hb1⟩
        go_wp2_with fail
        go_ret
        exact ⟨ret_int (firstIx_at _ _ _ hlt H.out HPK.out).symm, ext_trans hbr hb1⟩
      | false =>
        rw [hpk] at hcall
        have HCALL := Lib.hid hcall; clear hcall
        have HPK := Lib.hid hpk; clear hpk
        go_wp2_with fail
        refine HCALL.out.mono ?_
        rintro e w1 ⟨rfl, hb1⟩
        go_wp2_with fail
        go_roundw
        case rel => exact ⟨ext_trans hbr hb1, k + 1, by omega, by go_num, below_succ H.out HPK.out⟩
        case measure => simp [intOf]; omega
    · go_wp2
      go_ret
      exact ⟨ret_int (by rw [firstIx_none]; intro j hj; exact H.out j (by omega)), hbr⟩

set_option maxHeartbeats 1000000 in
theorem indexFuncVecs_any (g : Nat) (lb : Array Value) (eg : ∀ args w, (callFunc g args).run Tryd.prog w = .ok (.enter g args) w) (v : Value) (l : List (List Int)) (p : Nat → Bool) (w : World) (hv : IsVecs w v l)
    (hp : ∀ i (hi : i < l.length) (x : Value) (_ : IsInts w x l[i]) W, Below w.heap.size w W → Calls Tryd.prog g (#[x] ++ lb) W fun e W' => e = .returned (.bool (p i)) ∧ Below W.heap.size W W') :
    Calls Tryd.prog 58 #[v, .func (.func g) #[] lb] w fun e w' => e = .returned (.int .i64 (firstIx l.length p)) ∧ Below w.heap.size w w' := by
  obtain ⟨pa, ca, rfl, la1, la2, ea⟩ := hv.at
  clear hv
  have EA := Lib.hid ea; clear ea
  have HP := Lib.hid hp; clear hp
  go_enter Tryd.func58, Tryd.ntmps58
  go_wp2
  go_loopw [8] (fun i wr => Below w.heap.size w wr ∧ ∃ k : Nat, k ≤ l.length ∧ i = .int .i64 k ∧ ∀ j, j < k → p j = false) (fun i _ => l.length - (intOf i).toNat)
  case atStart => exact ⟨Below.refl _ _, 0, by omega, rfl, by simp⟩
  case round =>
    obtain ⟨hbr, k, hk, rfl, hinv⟩ := hrel
    have H := Lib.hid hinv; clear hinv
    by_cases hlt : k < l.length
    · obtain ⟨b1, o1, rfl, h1⟩ := EA.out k hlt
      rw [Nat.mul_one] at h1
      obtain ⟨x, hc1, hx⟩ := h1
      have c1 := cell_up hbr hc1
      have hcall := HP.out k hlt x hx wr hbr
      clear hc1 hx
      cases hpk : p k with
      | true =>
        rw [hpk] at hcall
        have HCALL := Lib.hid hcall; clear hcall
        have HPK := Lib.hid hpk; clear hpk
        go_wp2_with fail
        refine HCALL.out.mono ?_
        rintro e w1 ⟨rfl, hb1⟩
        go_wp2_with fail
        go_ret
        exact ⟨ret_int (firstIx_at _ _ _ hlt H.out HPK.out).symm, ext_trans hbr hb1⟩
      | false =>
        rw [hpk] at hcall
        have HCALL := Lib.hid hcall; clear hcall
        have HPK := Lib.hid hpk; clear hpk
        go_wp2_with fail
        refine HCALL.out.mono ?_
        rintro e w1 ⟨rfl, hb1⟩
        go_wp2_with fail
        go_roundw
        case rel => exact ⟨ext_trans hbr hb1, k + 1, by omega, by go_num, below_succ H.out HPK.out⟩
        case measure => simp [intOf]; omega
    · go_wp2
      go_ret
      exact ⟨ret_int (by rw [firstIx_none]; intro j hj; exact H.out j (by omega)), hbr⟩

set_option maxHeartbeats 1000000 in
theorem indexFuncCases_any (g : Nat) (lb : Array Value) (eg : ∀ args w, (callFunc g args).run Tryd.prog w = .ok (.enter g args) w) (v : Value) (l : List Cs) (p : Nat → Bool) (w : World) (hv : IsCases w v l)
    (hp : ∀ i (hi : i < l.length) (x0 x1 x2 : Value) (_ : IsInts w x0 l[i].inp) (_ : IsVecs w x1 l[i].out) (_ : IsVecs w x2 l[i].calm) W, Below w.heap.size w W → Calls Tryd.prog g (#[.agg #[x0, x1, x2]] ++ lb) W fun e W' => e = .returned (.bool (p i)) ∧ Below W.heap.size W W') :
    Calls Tryd.prog 18 #[v, .func (.func g) #[] lb] w fun e w' => e = .returned (.int .i64 (firstIx l.length p)) ∧ Below w.heap.size w w' := by
  obtain ⟨pa, ca, rfl, la1, la2, ea⟩ := hv.at
  clear hv
  have EA := Lib.hid ea; clear ea
  have HP := Lib.hid hp; clear hp
  go_enter Tryd.func18, Tryd.ntmps18
  go_wp2
  go_loopw [8] (fun i wr => Below w.heap.size w wr ∧ ∃ k : Nat, k ≤ l.length ∧ i = .int .i64 k ∧ ∀ j, j < k → p j = false) (fun i _ => l.length - (intOf i).toNat)
  case atStart => exact ⟨Below.refl _ _, 0, by omega, rfl, by simp⟩
  case round =>
    obtain ⟨hbr, k, hk, rfl, hinv⟩ := hrel
    have H := Lib.hid hinv; clear hinv
    by_cases hlt : k < l.length
    · obtain ⟨b1, o1, rfl, h1⟩ := EA.out k hlt
      obtain ⟨⟨x0, hc0, hx0⟩, ⟨x1, hc1, hx1⟩, ⟨x2, hc2, hx2⟩⟩ := h1
      have c0 := cell_up hbr hc0
      have c1 := cell_up hbr hc1
      have c2 := cell_up hbr hc2
      have hcall := HP.out k hlt x0 x1 x2 hx0 hx1 hx2 wr hbr
      clear hc0 hc1 hc2 hx0 hx1 hx2
      cases hpk : p k with
      | true =>
        rw [hpk] at hcall
        have HCALL := Lib.hid hcall; clear hcall
        have HPK := Lib.hid hpk; clear hpk
        go_wp2_with fail
        refine HCALL.out.mono ?_
        rintro e w1 ⟨rfl, hb1⟩
        go_wp2_with fail
        go_ret
        exact ⟨ret_int (firstIx_at _ _ _ hlt H.out HPK.out).symm, ext_trans hbr hb1⟩
      | false =>
        rw [hpk] at hcall
        have HCALL := Lib.hid hcall; clear hcall
        have HPK := Lib.hid hpk; clear hpk
        go_wp2_with fail
        refine HCALL.out.mono ?_
        rintro e w1 ⟨rfl, hb1⟩
        go_wp2_with fail
        go_roundw
        case rel => exact ⟨ext_trans hbr hb1, k + 1, by omega, by go_num, below_succ H.out HPK.out⟩
        case measure => simp [intOf]; omega
    · go_wp2
      go_ret
      exact ⟨ret_int (by rw [firstIx_none]; intro j hj; exact H.out j (by omega)), hbr⟩

set_option maxHeartbeats 1000000 in
theorem containsFuncInts_any (g : Nat) (lb : Array Value) (eg : ∀ args w, (callFunc g args).run Tryd.prog w = .ok (.enter g args) w) (v : Value) (l : List Int) (p : Nat → Bool) (w : World) (hv : IsInts w v l)
    (hp : ∀ i (hi : i < l.length)  W, Below w.heap.size w W → Calls Tryd.prog g (#[.int .i64 l[i]] ++ lb) W fun e W' => e = .returned (.bool (p i)) ∧ Below W.heap.size W W') :
    Calls Tryd.prog 12 #[v, .func (.func g) #[] lb] w fun e w' => e = .returned (.bool (anyLt l.length p)) ∧ Below w.heap.size w w' := by
  have hc := indexFuncInts_any g lb eg v l p w hv hp
  have HA := Lib.hid (firstIx_any l.length p)
  generalize firstIx l.length p = r at hc HA
  have HC := Lib.hid hc; clear hc hp
  go_enter Tryd.func12, Tryd.ntmps12
  go_wp2_with fail
  refine HC.out.mono ?_
  rintro e w1 ⟨rfl, hb1⟩
  go_wp2_with fail
  go_ret
  exact ⟨ret_bool HA.out, hb1⟩

set_option maxHeartbeats 1000000 in
theorem containsFuncVecs_any (g : Nat) (lb : Array Value) (eg : ∀ args w, (callFunc g args).run Tryd.prog w = .ok (.enter g args) w) (v : Value) (l : List (List Int)) (p : Nat → Bool) (w : World) (hv : IsVecs w v l)
    (hp : ∀ i (hi : i < l.length) (x : Value) (_ : IsInts w x l[i]) W, Below w.heap.size w W → Calls Tryd.prog g (#[x] ++ lb) W fun e W' => e = .returned (.bool (p i)) ∧ Below W.heap.size W W') :
    Calls Tryd.prog 49 #[v, .func (.func g) #[] lb] w fun e w' => e = .returned (.bool (anyLt l.length p)) ∧ Below w.heap.size w w' := by
  have hc := indexFuncVecs_any g lb eg v l p w hv hp
  have HA := Lib.hid (firstIx_any l.length p)
  generalize firstIx l.length p = r at hc HA
  have HC := Lib.hid hc; clear hc hp
  go_enter Tryd.func49, Tryd.ntmps49
  go_wp2_with fail
  refine HC.out.mono ?_
  rintro e w1 ⟨rfl, hb1⟩
  go_wp2_with fail
  go_ret
  exact ⟨ret_bool HA.out, hb1⟩

end Go.Proofs.YtlfnfphkhokdiaaDoor

namespace Go.Proofs.YtlfnfphkhokdiaaDoor
open Go.RowKit Go Go.Shelf

/-- The cells of a slice whose elements take one cell each. -/
def RawSl (w : World) (v : Value) (xs : List Value) : Prop :=
  ∃ a cap, v = .slice a xs.length cap ∧ (a = none → xs.length = 0 ∧ cap = 0) ∧ (∀ i x, xs[i]? = some x → ∃ b off, a = some ⟨b, off, none⟩ ∧ w.cell? ⟨b, off + i, none⟩ = some x) ∧ ∀ x ∈ xs, x.oneCell' = true

theorem Tryd.infoInt : (Tryd.prog.info? 3).map (fun i => (i.zero, i.size, i.bytes)) = some (some (.int .i64 0), 1, 8) := by kernel_rfl
theorem Tryd.infoInts : (Tryd.prog.info? 47).map (fun i => (i.zero, i.size, i.bytes)) = some (some (.slice none 0 0), 1, 24) := by kernel_rfl

set_option maxHeartbeats 1000000 in
theorem cloneRawInts (v : Value) (xs : List Value) (w : World) (hv : RawSl w v xs) (hn : xs.length ≤ 1099511627776) :
    Calls Tryd.prog 61 #[v] w fun e w' => ∃ u, e = .returned u ∧ w'.ownsRow w.heap.size 3 1 u xs.length xs ∧ Below w.heap.size w w' := by
  obtain ⟨a, cap, rfl, ha, hc, h1⟩ := hv
  obtain ⟨i0, hi, hz0, hz1, hz2⟩ := info_parts Tryd.infoInt
  cases a with
  | none =>
    obtain ⟨hl, rfl⟩ := ha rfl
    obtain rfl : xs = [] := List.eq_nil_of_length_eq_zero hl
    have heq := fun w => Lib.run_eql_slice_nil (P := Tryd.prog) w 47
    go_enter Tryd.func61, Tryd.ntmps61
    go_wp2_with fail
    go_ret
    exact ⟨_, rfl, World.ownsRow_nil _ _ _ _, Below.refl _ _⟩
  | some ad =>
    have heq := fun w => Lib.run_eql_slice_nil (P := Tryd.prog) w 47
    have hnews : ∀ j u, xs[j]? = some u → (w.alloc (.cells #[] 3)).cell? (ad.add j) = some u := fun j u hj => by
      obtain ⟨b, off, e, hcell⟩ := hc j u hj
      cases e
      have : (Addr.add ⟨b, off, none⟩ j) = ⟨b, off + j, none⟩ := by unfold Addr.add; split <;> simp_all
      rw [this]; exact cell_up (by go_grown) hcell
    have hown : (w.alloc (.cells #[] 3)).ownsRow w.heap.size 3 1 (.slice (some ⟨w.heap.size, 0, none⟩) 0 0) 0 [] := ⟨by simp, .inr ⟨w.heap.size, 0, #[], rfl, Nat.le_refl _, alloc_new _ _, by omega, by simp [maxLen], by simp, by simp⟩⟩
    have HNEWS := Lib.hid hnews
    have HOWN := Lib.hid hown
    have H1 := Lib.hid h1
    clear hnews hown h1 hc ha
    go_enter Tryd.func61, Tryd.ntmps61
    go_wp2_with (at_builtin; refine wpList_append_own _ rfl (.tmp 5) (.tmp 6) 47 rfl w.heap.size 3 i0 (.int .i64 0) 1 8 Tryd.underlying47 hi hz0 hz1 hz2 rfl (by decide) _ 0 [] rfl HOWN.out ad xs.length cap xs rfl (by simp) HNEWS.out H1.out (by unfold maxLen; omega) (by omega) (by simp) ?_; intro v' w1 hown1 hgrow1 _)
    go_ret
    refine ⟨_, rfl, by simpa using hown1, Below.grown (w := w.alloc (.cells #[] 3)) (by go_grown) hgrow1 (by simp) (fun k hk => ?_)⟩
    cases hk; exact Nat.le_refl _

set_option maxHeartbeats 1000000 in
theorem cloneRawVecs (v : Value) (xs : List Value) (w : World) (hv : RawSl w v xs) (hn : xs.length ≤ 1099511627776) :
    Calls Tryd.prog 45 #[v] w fun e w' => ∃ u, e = .returned u ∧ w'.ownsRow w.heap.size 47 1 u xs.length xs ∧ Below w.heap.size w w' := by
  obtain ⟨a, cap, rfl, ha, hc, h1⟩ := hv
  obtain ⟨i0, hi, hz0, hz1, hz2⟩ := info_parts Tryd.infoInts
  cases a with
  | none =>
    obtain ⟨hl, rfl⟩ := ha rfl
    obtain rfl : xs = [] := List.eq_nil_of_length_eq_zero hl
    have heq := fun w => Lib.run_eql_slice_nil (P := Tryd.prog) w 52
    go_enter Tryd.func45, Tryd.ntmps45
    go_wp2_with fail
    go_ret
    exact ⟨_, rfl, World.ownsRow_nil _ _ _ _, Below.refl _ _⟩
  | some ad =>
    have heq := fun w => Lib.run_eql_slice_nil (P := Tryd.prog) w 52
    have hnews : ∀ j u, xs[j]? = some u → (w.alloc (.cells #[] 47)).cell? (ad.add j) = some u := fun j u hj => by
      obtain ⟨b, off, e, hcell⟩ := hc j u hj
      cases e
      have : (Addr.add ⟨b, off, none⟩ j) = ⟨b, off + j, none⟩ := by unfold Addr.add; split <;> simp_all
      rw [this]; exact cell_up (by go_grown) hcell
    have hown : (w.alloc (.cells #[] 47)).ownsRow w.heap.size 47 1 (.slice (some ⟨w.heap.size, 0, none⟩) 0 0) 0 [] := ⟨by simp, .inr ⟨w.heap.size, 0, #[], rfl, Nat.le_refl _, alloc_new _ _, by omega, by simp [maxLen], by simp, by simp⟩⟩
    have HNEWS := Lib.hid hnews
    have HOWN := Lib.hid hown
    have H1 := Lib.hid h1
    clear hnews hown h1 hc ha
    go_enter Tryd.func45, Tryd.ntmps45
    go_wp2_with (at_builtin; refine wpList_append_own _ rfl (.tmp 5) (.tmp 6) 52 rfl w.heap.size 47 i0 (.slice none 0 0) 1 24 Tryd.underlying52 hi hz0 hz1 hz2 rfl (by decide) _ 0 [] rfl HOWN.out ad xs.length cap xs rfl (by simp) HNEWS.out H1.out (by unfold maxLen; omega) (by omega) (by simp) ?_; intro v' w1 hown1 hgrow1 _)
    go_ret
    refine ⟨_, rfl, by simpa using hown1, Below.grown (w := w.alloc (.cells #[] 47)) (by go_grown) hgrow1 (by simp) (fun k hk => ?_)⟩
    cases hk; exact Nat.le_refl _


theorem oneCell_slice {w : World} {v : Value} {α : Type} {k : Nat} {R : World → Nat → Nat → α → Prop} {l : List α} (h : IsSl k R w v l) : v.oneCell' = true := by
  obtain ⟨a, cap, rfl, _⟩ := h; rfl
theorem raw_of_ints {w : World} {v : Value} {l : List Int} (h : IsInts w v l) : RawSl w v (l.map (Value.int .i64)) := by
  obtain ⟨a, cap, rfl, h1, h2, h3⟩ := h
  refine ⟨a, cap, by simp, fun e => ?_, fun i x hx => ?_, fun x hx => ?_⟩
  · have := h1.2.2 e; exact ⟨by rw [List.length_map]; omega, this⟩
  · simp only [List.getElem?_map, Option.map_eq_some_iff] at hx
    obtain ⟨y, hy, rfl⟩ := hx
    obtain ⟨b, off, ha, hr⟩ := h3 i y hy
    exact ⟨b, off, ha, by have := hr.1; rwa [Nat.mul_one] at this⟩
  · obtain ⟨y, _, rfl⟩ := List.mem_map.1 hx; rfl
/-- The slices that lie in a slice of slices. -/
theorem vals_of_vecs {w : World} {v : Value} {l : List (List Int)} (h : IsVecs w v l) : ∃ xs : List Value, xs.length = l.length ∧ RawSl w v xs ∧ ∀ i (hi : i < l.length) (hx : i < xs.length), IsInts w xs[i] l[i] := by
  obtain ⟨a, cap, rfl, h1, h2, h3⟩ := h
  have key : ∀ i : Fin l.length, ∃ x : Value, ∃ b off, a = some ⟨b, off, none⟩ ∧ w.cell? ⟨b, off + i.1, none⟩ = some x ∧ IsInts w x l[i.1] := fun i => by
    obtain ⟨b, off, ha, x, hx, hs⟩ := h3 i.1 _ (List.getElem?_eq_getElem i.2)
    exact ⟨x, b, off, ha, by rwa [Nat.mul_one] at hx, hs⟩
  refine ⟨List.ofFn fun i => Classical.choose (key i), by simp, ⟨a, cap, by simp, fun e => ?_, fun i x hx => ?_, fun x hx => ?_⟩, fun i hi hx => ?_⟩
  · have := h1.2.2 e; exact ⟨by rw [List.length_ofFn]; omega, this⟩
  · have hi : i < l.length := by have := (List.getElem?_eq_some_iff.1 hx).1; simpa using this
    have e : x = Classical.choose (key ⟨i, hi⟩) := by
      rw [List.getElem?_ofFn] at hx; simp [hi] at hx; exact hx.symm
    obtain ⟨b, off, ha, hc, _⟩ := Classical.choose_spec (key ⟨i, hi⟩)
    exact ⟨b, off, ha, by rw [e]; exact hc⟩
  · obtain ⟨i, rfl⟩ := (List.mem_ofFn).1 hx
    obtain ⟨_, _, _, _, hs⟩ := Classical.choose_spec (key i)
    exact oneCell_slice hs
  · rw [List.getElem_ofFn]
    obtain ⟨_, _, _, _, hs⟩ := Classical.choose_spec (key ⟨i, hi⟩)
    exact hs
theorem owns_cell {w : World} {base : Nat} {e : TypeId} {v : Value} {n : Nat} {xs : List Value} (h : w.ownsRow base e 1 v n xs) : ∃ a cap, v = .slice a n cap ∧ n ≤ cap ∧ cap ≤ 9223372036854775807 ∧ (a = none → cap = 0) ∧ xs.length = n ∧ ∀ i x, xs[i]? = some x → ∃ b, a = some ⟨b, 0, none⟩ ∧ w.cell? ⟨b, i, none⟩ = some x := by
  obtain ⟨hl, h⟩ := h
  rw [Nat.mul_one] at hl
  rcases h with ⟨rfl, rfl⟩ | ⟨g, cap, cur, rfl, hg, hb, hn, hm, hs, ht⟩
  · exact ⟨none, 0, rfl, by omega, by omega, fun _ => rfl, hl, fun i x hx => by have := (List.getElem?_eq_some_iff.1 hx).1; omega⟩
  · refine ⟨_, cap, rfl, hn, by simpa [maxLen] using hm, (fun e => (by cases e)), hl, fun i x hx => ⟨g, rfl, ?_⟩⟩
    rw [cell_block hb, ← hx, ← ht, Nat.mul_one]
    have hi := (List.getElem?_eq_some_iff.1 hx).1
    rw [List.getElem?_take_of_lt (by omega)]
    simp
theorem ints_of_owns {w : World} {base : Nat} {e : TypeId} {v : Value} {l : List Int} (h : w.ownsRow base e 1 v l.length (l.map (Value.int .i64))) (hr : ∀ x ∈ l, InR x) (hn : l.length ≤ 17592186044416) : IsInts w v l := by
  obtain ⟨a, cap, rfl, h1, h2, h3, _, h4⟩ := owns_cell h
  refine ⟨a, cap, rfl, ⟨h1, h2, h3⟩, hn, fun i x hx => ?_⟩
  obtain ⟨b, ha, hc⟩ := h4 i (.int .i64 x) (by simp [hx])
  exact ⟨b, 0, ha, by simpa using hc, hr x (List.mem_of_getElem? hx)⟩
theorem vecs_of_owns {w : World} {base : Nat} {e : TypeId} {v : Value} {l : List (List Int)} {xs : List Value} (h : w.ownsRow base e 1 v l.length xs) (hx : ∀ i (hi : i < l.length) (hx : i < xs.length), IsInts w xs[i] l[i]) (hn : l.length ≤ 17592186044416) : IsVecs w v l := by
  obtain ⟨a, cap, rfl, h1, h2, h3, hl, h4⟩ := owns_cell h
  refine ⟨a, cap, rfl, ⟨h1, h2, h3⟩, hn, fun i x hi => ?_⟩
  obtain ⟨hi1, hi2⟩ := List.getElem?_eq_some_iff.1 hi
  obtain ⟨b, ha, hc⟩ := h4 i xs[i] (by simp)
  exact ⟨b, 0, ha, xs[i], by simpa using hc, by rw [← hi2]; exact hx i hi1 (by omega)⟩
theorem ints_inR {w : World} {v : Value} {l : List Int} (h : IsInts w v l) : ∀ x ∈ l, InR x := fun x hx => by
  obtain ⟨a, cap, rfl, _, _, h3⟩ := h
  obtain ⟨i, hi, rfl⟩ := List.getElem_of_mem hx
  obtain ⟨b, off, _, hr⟩ := h3 i _ (List.getElem?_eq_getElem hi)
  exact hr.2

theorem cloneInts_any (v : Value) (l : List Int) (w : World) (hv : IsInts w v l) (hn : l.length ≤ 1099511627776) :
    Calls Tryd.prog 61 #[v] w fun e w' => ∃ u, e = .returned u ∧ IsInts w' u l ∧ Below w.heap.size w w' := by
  refine (cloneRawInts v _ w (raw_of_ints hv) (by simpa using hn)).mono ?_
  rintro e w' ⟨u, rfl, ho, hb⟩
  exact ⟨u, rfl, ints_of_owns (by simpa using ho) (ints_inR hv) (by omega), hb⟩

end Go.Proofs.YtlfnfphkhokdiaaDoor

namespace Go.Proofs.YtlfnfphkhokdiaaDoor
open Go.RowKit Go Go.Shelf

set_option maxHeartbeats 400000 in
theorem vector1_any (x most : Int) (B : Nat) (W : World) (hc : W.cell? ⟨B, 0, none⟩ = some (.int .i64 most)) :
    Calls Tryd.prog 34 #[.int .i64 x, .pointer (some ⟨B, 0, none⟩)] W fun e W' => e = .returned (.bool (decide (x < 0) || decide (most ≤ x))) ∧ Below W.heap.size W W' := by
  by_cases hx : x < 0
  · go_enter Tryd.func34, Tryd.ntmps34
    go_wp2
    go_ret
    exact ⟨ret_bool (by simp [hx]), Below.refl _ _⟩
  · go_enter Tryd.func34, Tryd.ntmps34
    go_wp2
    go_ret
    exact ⟨ret_bool (by simp; omega), Below.refl _ _⟩

set_option maxHeartbeats 400000 in
theorem vector_any (v : Value) (l : List Int) (n most : Int) (w : World) (hv : IsInts w v l) :
    Calls Tryd.prog 25 #[v, .int .i64 n, .int .i64 most] w fun e w' => e = .returned (.int .i64 (vectorE l n most)) ∧ Below w.heap.size w w' := by
  have hb0 : Below w.heap.size w (w.alloc (.cells #[.int .i64 most] 3)) := by go_grown
  have hcon := containsFuncInts_any 34 #[.pointer (some ⟨w.heap.size, 0, none⟩)] (enters_of Tryd.func34 (by kernel_rfl) rfl) v l (fun i => decide (l.getD i 0 < 0) || decide (most ≤ l.getD i 0))
    (w.alloc (.cells #[.int .i64 most] 3)) (hv.up up_int hb0) (fun i hi W hW => by
      rw [getD_of_lt 0 hi]
      exact vector1_any _ _ _ _ (cell_up hW (by simp [cell_block (alloc_new _ _)])))
  have HV : Hid (vectorE l n most = if (l.length : Int) ≠ n then 15 else if anyLt l.length (fun i => decide (l.getD i 0 < 0) || decide (most ≤ l.getD i 0)) then 2 else 0) := by exact rfl
  generalize anyLt l.length (fun i => decide (l.getD i 0 < 0) || decide (most ≤ l.getD i 0)) = r at hcon HV
  have HC := Lib.hid hcon; clear hcon
  obtain ⟨pa, ca, rfl, la1, la2, _⟩ := hv.at
  clear hv
  by_cases hl : (l.length : Int) = n
  · have hl1 : ((l.length : Int) != n) = false := by simp [hl]
    have HL := Lib.hid hl; clear hl
    cases r with
    | true =>
      go_enter Tryd.func25, Tryd.ntmps25
      go_wp2_with fail
      refine HC.out.mono ?_
      rintro e w1 ⟨rfl, hb1⟩
      go_wp2_with fail
      go_ret
      exact ⟨ret_int (by rw [HV.out, if_neg (by simpa using HL.out)]; rfl), ext_trans hb0 hb1⟩
    | false =>
      go_enter Tryd.func25, Tryd.ntmps25
      go_wp2_with fail
      refine HC.out.mono ?_
      rintro e w1 ⟨rfl, hb1⟩
      go_wp2_with fail
      go_ret
      exact ⟨ret_int (by rw [HV.out, if_neg (by simpa using HL.out)]; rfl), ext_trans hb0 hb1⟩
  · have hl1 : ((l.length : Int) != n) = true := by simp [hl]
    go_enter Tryd.func25, Tryd.ntmps25
    go_wp2_with fail
    go_ret
    exact ⟨ret_int (by rw [HV.out, if_pos hl]), hb0⟩

set_option maxHeartbeats 1000000 in
theorem unordered_any (v : Value) (l : List (List Int)) (i : Nat) (hi : i < l.length) (w : World) (hv : IsVecs w v l) :
    Calls Tryd.prog 36 #[v, .int .i64 i] w fun e w' => e = .returned (.bool (unordB l i)) ∧ Below w.heap.size w w' := by
  obtain ⟨pa, ca, rfl, la1, la2, ea⟩ := hv.at
  clear hv
  by_cases h0 : 0 < i
  · obtain ⟨j, rfl⟩ : ∃ j, i = j + 1 := ⟨i - 1, by omega⟩
    have hj : j < l.length := by omega
    obtain ⟨b1, o1, rfl, x1, c1, h1⟩ := ea j hj
    obtain ⟨b2, o2, e2, x2, c2, h2⟩ := ea (j + 1) hi
    obtain ⟨rfl, rfl⟩ : b1 = b2 ∧ o1 = o2 := by simpa using e2
    clear e2 ea
    rw [Nat.mul_one] at c1 c2
    have HU : Hid (unordB l (j + 1) = decide (0 ≤ ordV l[j] l[j + 1])) := by
      have h : unordB l (j + 1) = decide (0 ≤ ordV l[j] l[j + 1]) := by
        unfold unordB; rw [Nat.add_sub_cancel, getD_of_lt [] hj, getD_of_lt [] hi]; simp
      exact h
    generalize l[j] = y1 at h1 HU
    generalize l[j + 1] = y2 at h2 HU
    have d1 : ∀ x : ExtW w, x.val.cell? ⟨b1, o1 + j, none⟩ = some x1 := fun x => x.cell c1
    have d2 : ∀ x : ExtW w, x.val.cell? ⟨b1, o1 + (j + 1), none⟩ = some x2 := fun x => x.cell c2
    have hcall : ∀ x : ExtW w, Calls Tryd.prog 26 #[x1, x2] x.val fun e w'' => e = .returned (.int .i64 (ordV y1 y2)) ∧ ∃ p : ExtW w, w'' = p.val :=
      fun x => Calls.ext_of (slicesCompare_any _ _ _ _ _ (h1.up up_int x.ext) (h2.up up_int x.ext))
    have HCALL := Lib.hid hcall; clear hcall
    clear c1 c2 h1 h2
    have hwj : IntKind.i64.wrap (j : Int) = (j : Int) := IntWalk.i64_in _ (by omega)
    have hj1 : (0 : Int) ≤ (j : Int) + 1 := by omega
    have hj2 : (j : Int) + 1 < (l.length : Int) := by omega
    have hj3 : ((j : Int) + 1).toNat = j + 1 := by omega
    go_enter Tryd.func36, Tryd.ntmps36
    go_wp2_with fail
    refine wp_region_quiet_ext (by kernel_rfl) (by kernel_rfl) ?_
    repeat (quiet_step ((go_at_call 26; exact HCALL.out _)))
    refine wpQuiet_nil ?_
    intro _ hw'
    obtain ⟨xq, hw''⟩ := hw'
    subst hw''
    go_wp2_with fail
    go_ret
    exact ⟨ret_bool HU.out.symm, xq.ext⟩
  · obtain rfl : i = 0 := by omega
    go_enter Tryd.func36, Tryd.ntmps36
    go_wp2_with fail
    go_quiet (fail)
    go_wp2_with fail
    go_ret
    exact ⟨ret_bool (by simp [unordB]), below_drewN (Below.refl _ _) _⟩

set_option maxHeartbeats 400000 in
theorem has1_any (x : Value) (v : Value) (y z : List Int) (B : Nat) (W : World) (hc : W.cell? ⟨B, 0, none⟩ = some v) (hx : IsInts W x y) (hv : IsInts W v z) :
    Calls Tryd.prog 50 #[x, .pointer (some ⟨B, 0, none⟩)] W fun e W' => e = .returned (.bool (eqV y z)) ∧ Below W.heap.size W W' := by
  have HC := Lib.hid (slicesEqual_any x v y z W hx hv)
  obtain ⟨_, _, rfl, _⟩ := hv
  clear hx
  go_enter Tryd.func50, Tryd.ntmps50
  go_wp2_with fail
  refine HC.out.mono ?_
  rintro e w1 ⟨rfl, hb1⟩
  go_wp2_with fail
  go_ret
  exact ⟨rfl, hb1⟩

set_option maxHeartbeats 400000 in
theorem has_any (v : Value) (l : List (List Int)) (x : Value) (y : List Int) (w : World) (hv : IsVecs w v l) (hx : IsInts w x y) :
    Calls Tryd.prog 37 #[v, x] w fun e w' => e = .returned (.bool (hasV l y)) ∧ Below w.heap.size w w' := by
  have hb0 : Below w.heap.size w (w.alloc (.cells #[x] 47)) := by go_grown
  have hcon := containsFuncVecs_any 50 #[.pointer (some ⟨w.heap.size, 0, none⟩)] (enters_of Tryd.func50 (by kernel_rfl) rfl) v l (fun i => eqV (l.getD i []) y)
    (w.alloc (.cells #[x] 47)) (hv.up up_ints hb0) (fun i hi z hz W hW => by
      rw [getD_of_lt [] hi]
      exact has1_any _ _ _ _ _ _ (cell_up hW (by simp [cell_block (alloc_new _ _)])) (hz.up up_int hW) ((hx.up up_int hb0).up up_int hW))
  have HC := Lib.hid hcon; clear hcon
  obtain ⟨_, _, rfl, _⟩ := hx
  clear hv
  go_enter Tryd.func37, Tryd.ntmps37
  go_wp2_with fail
  refine HC.out.mono ?_
  rintro e w1 ⟨rfl, hb1⟩
  go_wp2_with fail
  go_ret
  exact ⟨rfl, ext_trans hb0 hb1⟩

end Go.Proofs.YtlfnfphkhokdiaaDoor
