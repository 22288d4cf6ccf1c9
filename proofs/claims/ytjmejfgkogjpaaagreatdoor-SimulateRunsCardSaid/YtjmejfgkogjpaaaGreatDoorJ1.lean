/-
  Parts of the proof, in order. The plain specification of the parts of the program that the statements of this seat reach: numbers and lists alone, no program. It proves nothing by itself. What lies in memory, and small laws of the walk that all texts of this seat share. It proves nothing by itself. What came in, as it is read: rounds, moves, cases, and slices of these, opened to lists. It proves nothing of the program's functions. Bits of numbers. It proves nothing of the program. Contracts of the small functions of the program: sets, graphs, rounds, and the library's comparison of numbers and vectors. Conditions: those that each theorem names. Contracts of the program's comparison of graphs and rounds, and of the library's comparison of vectors. Conditions: those that each theorem names. Contracts of the library's functions on slices: Equal, Compare, IndexFunc, ContainsFunc. Conditions: the slices read as lists; the function handed over answers as the premise says. Plain facts on the moves of an adversary, counted in order. It proves nothing of the program. Plain facts: the order of rounds is a strict order, so the rounds of a state without errors differ; where a word leads. It proves nothing of the program. The plain specification of machines: numbers and lists alone, no program. It proves nothing of the program. What a machine is in memory; contracts of the program's machine.in and machine.all. Conditions: the arguments read as lists. Contract of the program's machine.shaped. Conditions: the argument reads as a machine with few rounds. Contracts of the program's machine.states and machine.ranged. Conditions: the argument reads as a machine of the right shape. The plain specification of what machines do: checks, runs, plays. Numbers and lists alone, no program. It proves nothing of the program.
-/
import Derived.Handy
import Derived.LoopTactic
import Derived.Outline
import Derived.Lib.Hide
import Derived.Deep.QuietTactic
import Derived.BigQuiet
import Derived.Deep.Cut
import Derived.Deep.Light
import Derived.Shelf.Abstract
import Derived.RangeFuncNested
import Derived.WalkKit
import Derived.ProofKit
import Derived.OpenShut
import Derived.ShutString
import Derived.ChangeOld
import Derived.Below
import Derived.SizedLaws
import Derived.Deep.Slices
import Derived.Test.YtjmejfgkogjpaaaGreatDoorRows
import Derived.Test.YtjmejfgkogjpaaaGreatDoorProg
import Derived.ChangeKeysEq
namespace Go.Proofs.YtjmejfgkogjpaaaGreatDoor

structure Gr where
  n : Int
  h0 : Int
  h1 : Int
  h2 : Int
  h3 : Int
  h4 : Int
structure Rd where
  g : Gr
  f : Int
structure Mv where
  r : Rd
  to : Int
structure Adv where
  n : Int
  states : List (List Mv)
structure Cs where
  inp : List Int
  out : List (List Int)
  calm : List (List Int)
structure Tk where
  n : Int
  ins : Int
  outs : Int
  cases : List Cs
structure Pb where
  t : Tk
  a : Adv
  rounds : Int

instance : Inhabited Gr := ⟨⟨0, 0, 0, 0, 0, 0⟩⟩
instance : Inhabited Rd := ⟨⟨default, 0⟩⟩
instance : Inhabited Mv := ⟨⟨default, 0⟩⟩
instance : Inhabited Cs := ⟨⟨[], [], []⟩⟩
instance : DecidableEq Gr := fun a b => decidable_of_iff (a.n = b.n ∧ a.h0 = b.h0 ∧ a.h1 = b.h1 ∧ a.h2 = b.h2 ∧ a.h3 = b.h3 ∧ a.h4 = b.h4) (by cases a; cases b; simp)
instance : DecidableEq Rd := fun a b => decidable_of_iff (a.g = b.g ∧ a.f = b.f) (by cases a; cases b; simp)

def Gr.hear (g : Gr) (k : Nat) : Int := match k with | 0 => g.h0 | 1 => g.h1 | 2 => g.h2 | 3 => g.h3 | 4 => g.h4 | _ => 0

/-- the first number that is not 0 among f 0, .., f (n-1), or 0 -/
def firstNZ (n : Nat) (f : Nat → Int) : Int := match n with | 0 => 0 | m + 1 => if firstNZ m f ≠ 0 then firstNZ m f else f m
theorem firstNZ_zero (n : Nat) (f : Nat → Int) (h : ∀ j, j < n → f j = 0) : firstNZ n f = 0 := by
  induction n with
  | zero => rfl
  | succ m ih => unfold firstNZ; rw [ih (fun j hj => h j (by omega))]; simp; exact h m (by omega)
theorem firstNZ_at (n k : Nat) (f : Nat → Int) (hk : k < n) (h : ∀ j, j < k → f j = 0) (hz : f k ≠ 0) : firstNZ n f = f k := by
  induction n with
  | zero => omega
  | succ m ih =>
    unfold firstNZ
    by_cases e : k = m
    · subst e; rw [firstNZ_zero k f h]; simp
    · rw [ih (by omega)]; simp [hz]
theorem firstNZ_hit {n : Nat} {f : Nat → Int} (k : Nat) (v : Int) (hk : k < n) (h : ∀ j, j < k → f j = 0) (hv : f k = v) (hz : v ≠ 0) : v = firstNZ n f := by
  subst hv; exact (firstNZ_at n k f hk h hz).symm
theorem below_succ {p : Nat → Prop} {k : Nat} (h : ∀ j, j < k → p j) (hk : p k) : ∀ j, j < k + 1 → p j := fun j hj => by
  by_cases e : j = k
  · subst e; exact hk
  · exact h j (by omega)
theorem firstNZ_all {n : Nat} {f : Nat → Int} (h : firstNZ n f = 0) : ∀ j, j < n → f j = 0 := by
  induction n with
  | zero => intro j hj; omega
  | succ m ih =>
    unfold firstNZ at h
    by_cases e : firstNZ m f = 0
    · simp [e] at h
      intro j hj
      by_cases ej : j = m
      · subst ej; exact h
      · exact ih e j (by omega)
    · simp [e] at h
theorem firstNZ_congr (n : Nat) (f g : Nat → Int) (h : ∀ j, j < n → f j = g j) : firstNZ n f = firstNZ n g := by
  induction n with
  | zero => rfl
  | succ m ih => unfold firstNZ; rw [ih (fun j hj => h j (by omega)), h m (by omega)]

/-- the first place below n at which p holds, or -1 -/
def firstIx (n : Nat) (p : Nat → Bool) : Int := match n with | 0 => -1 | m + 1 => if firstIx m p ≠ -1 then firstIx m p else if p m then m else -1
theorem firstIx_none (n : Nat) (p : Nat → Bool) (h : ∀ j, j < n → p j = false) : firstIx n p = -1 := by
  induction n with
  | zero => rfl
  | succ m ih => unfold firstIx; rw [ih (fun j hj => h j (by omega))]; simp [h m (by omega)]
theorem firstIx_at (n k : Nat) (p : Nat → Bool) (hk : k < n) (h : ∀ j, j < k → p j = false) (hz : p k = true) : firstIx n p = k := by
  induction n with
  | zero => omega
  | succ m ih =>
    unfold firstIx
    by_cases e : k = m
    · subst e; rw [firstIx_none k p h]; simp [hz]
    · rw [ih (by omega)]; simp
theorem firstIx_cases (n : Nat) (p : Nat → Bool) : (firstIx n p = -1 ∧ ∀ j, j < n → p j = false) ∨ ∃ k, k < n ∧ firstIx n p = k ∧ p k = true ∧ ∀ j, j < k → p j = false := by
  induction n with
  | zero => exact .inl ⟨rfl, fun j hj => by omega⟩
  | succ m ih =>
    rcases ih with ⟨h, hn⟩ | ⟨k, hk, h, hp, hn⟩
    · by_cases e : p m = true
      · exact .inr ⟨m, by omega, by rw [firstIx_at (m+1) m p (by omega) hn e], e, hn⟩
      · refine .inl ⟨firstIx_none _ _ (fun j hj => ?_), fun j hj => ?_⟩ <;>
        · by_cases ej : j = m
          · subst ej; simpa using e
          · exact hn j (by omega)
    · exact .inr ⟨k, by omega, by rw [firstIx_at (m+1) k p (by omega) hn hp], hp, hn⟩
theorem firstIx_congr (n : Nat) (f g : Nat → Bool) (h : ∀ j, j < n → f j = g j) : firstIx n f = firstIx n g := by
  induction n with
  | zero => rfl
  | succ m ih => unfold firstIx; rw [ih (fun j hj => h j (by omega)), h m (by omega)]

/-- does p hold at some place below n? -/
def anyLt (n : Nat) (p : Nat → Bool) : Bool := match n with | 0 => false | m + 1 => anyLt m p || p m
theorem anyLt_false (n : Nat) (p : Nat → Bool) (h : ∀ j, j < n → p j = false) : anyLt n p = false := by
  induction n with
  | zero => rfl
  | succ m ih => unfold anyLt; rw [ih (fun j hj => h j (by omega)), h m (by omega)]; rfl
theorem anyLt_true (n k : Nat) (p : Nat → Bool) (hk : k < n) (h : p k = true) : anyLt n p = true := by
  induction n with
  | zero => omega
  | succ m ih =>
    unfold anyLt
    by_cases e : k = m
    · subst e; simp [h]
    · rw [ih (by omega)]; rfl
theorem anyLt_iff (n : Nat) (p : Nat → Bool) : anyLt n p = true ↔ ∃ k, k < n ∧ p k = true := by
  constructor
  · intro h
    induction n with
    | zero => simp [anyLt] at h
    | succ m ih =>
      unfold anyLt at h
      cases hm : anyLt m p with
      | true => obtain ⟨k, hk, hp⟩ := ih hm; exact ⟨k, by omega, hp⟩
      | false => rw [hm] at h; exact ⟨m, by omega, by simpa using h⟩
  · rintro ⟨k, hk, hp⟩; exact anyLt_true n k p hk hp
theorem anyLt_eq_false (n : Nat) (p : Nat → Bool) : anyLt n p = false ↔ ∀ k, k < n → p k = false := by
  constructor
  · intro h k hk
    cases hp : p k with
    | false => rfl
    | true => rw [anyLt_true n k p hk hp] at h; cases h
  · exact anyLt_false n p
theorem anyLt_congr (n : Nat) (f g : Nat → Bool) (h : ∀ j, j < n → f j = g j) : anyLt n f = anyLt n g := by
  induction n with
  | zero => rfl
  | succ m ih => unfold anyLt; rw [ih (fun j hj => h j (by omega)), h m (by omega)]
theorem firstIx_any (n : Nat) (p : Nat → Bool) : decide (0 ≤ firstIx n p) = anyLt n p := by
  rcases firstIx_cases n p with ⟨h, hn⟩ | ⟨k, hk, h, hp, _⟩
  · rw [h, anyLt_false n p hn]; rfl
  · rw [h, anyLt_true n k p hk hp]; simp

/-! ### sets, graphs, rounds -/
def procsE (n : Int) : Int := if n < 1 ∨ 5 < n then 1 else 0
def psetE (n set : Int) : Int := if procsE n ≠ 0 then procsE n else if set < 0 ∨ set / 2 ^ n.toNat ≠ 0 then 2 else 0
def hasB (set : Int) (p : Nat) : Bool := set / 2 ^ p % 2 == 1
def hearE (n x : Int) (p : Nat) : Int :=
  if n ≤ p then (if x ≠ 0 then 3 else 0) else if x < 0 ∨ 2 ^ n.toNat - 1 < x then 2 else if hasB x p then 0 else 3
def graphE (g : Gr) : Int := if g.n < 1 ∨ 5 < g.n then 2 else firstNZ 5 fun p => hearE g.n (g.hear p) p
def cmpI (a b : Int) : Int := if a < b then -1 else if b < a then 1 else 0
def graphC (a b : Gr) : Int := if cmpI a.n b.n ≠ 0 then cmpI a.n b.n else firstNZ 5 fun p => cmpI (a.hear p) (b.hear p)
def roundE (r : Rd) : Int := if graphE r.g ≠ 0 then graphE r.g else psetE r.g.n r.f
def roundC (a b : Rd) : Int := if graphC a.g b.g ≠ 0 then graphC a.g b.g else cmpI a.f b.f

/-! ### vectors and tasks -/
theorem drop_cons {α : Type} {l : List α} {k : Nat} (h : k < l.length) : l.drop k = l[k] :: l.drop (k + 1) := (List.drop_eq_getElem_cons h)
/-- the order of two vectors -/
def ordV : List Int → List Int → Int
  | [], [] => 0
  | [], _ :: _ => -1
  | _ :: _, [] => 1
  | a :: r, b :: s => if a < b then -1 else if b < a then 1 else ordV r s
theorem ordV_nil_left (b : List Int) : ordV [] b = if 0 < b.length then -1 else 0 := by cases b <;> simp [ordV]
theorem ordV_self (a : List Int) : ordV a a = 0 := by induction a with | nil => rfl | cons x r ih => simp [ordV, ih]
theorem ordV_zero {a b : List Int} (h : ordV a b = 0) : a = b := by
  induction a generalizing b with
  | nil => cases b with | nil => rfl | cons y s => simp [ordV] at h
  | cons x r ih =>
    cases b with
    | nil => simp [ordV] at h
    | cons y s =>
      unfold ordV at h
      split at h
      · omega
      · split at h
        · omega
        · rw [ih h, show x = y by omega]
def vectorE (v : List Int) (n most : Int) : Int := if (v.length : Int) ≠ n then 15 else if anyLt v.length (fun i => decide (v.getD i 0 < 0) || decide (most ≤ v.getD i 0)) then 2 else 0
def unordB (l : List (List Int)) (i : Nat) : Bool := decide (0 < i) && decide (0 ≤ ordV (l.getD (i - 1) []) (l.getD i []))
def eqV (a b : List Int) : Bool := decide (a = b)
def hasV (l : List (List Int)) (v : List Int) : Bool := anyLt l.length fun i => eqV (l.getD i []) v
def outE (t : Tk) (c : Cs) (i : Nat) : Int := if vectorE (c.out.getD i []) t.n t.outs ≠ 0 then vectorE (c.out.getD i []) t.n t.outs else if unordB c.out i then 14 else 0
def calmE (c : Cs) (i : Nat) : Int := if hasV c.out (c.calm.getD i []) then (if unordB c.calm i then 14 else 0) else 6
def vectorsE (t : Tk) (c : Cs) : Int :=
  if c.out.length < 1 ∨ 1024 < c.out.length then 5
  else if firstNZ c.out.length (outE t c) ≠ 0 then firstNZ c.out.length (outE t c) else firstNZ c.calm.length (calmE c)
def caseE (t : Tk) (i : Nat) : Int :=
  if vectorE (t.cases.getD i default).inp t.n t.ins ≠ 0 then vectorE (t.cases.getD i default).inp t.n t.ins
  else if 0 < i ∧ 0 ≤ ordV (t.cases.getD (i - 1) default).inp (t.cases.getD i default).inp then 14 else vectorsE t (t.cases.getD i default)
def taskE (t : Tk) : Int :=
  if t.n < 1 ∨ 5 < t.n ∨ t.ins < 1 ∨ 8 < t.ins ∨ t.outs < 1 ∨ 8 < t.outs then 2
  else if t.cases.length < 1 ∨ 1024 < t.cases.length then 5 else firstNZ t.cases.length (caseE t)

/-! ### adversaries and problems -/
def movesN (l : List (List Mv)) : Nat := (l.map List.length).sum
def moveE (a : Adv) (l : List Mv) (i : Nat) : Int :=
  if roundE (l.getD i default).r ≠ 0 then roundE (l.getD i default).r
  else if (l.getD i default).r.g.n ≠ a.n then 22
  else if 0 < i ∧ 0 ≤ roundC (l.getD (i - 1) default).r (l.getD i default).r then 14
  else if (l.getD i default).to < 0 ∨ (a.states.length : Int) ≤ (l.getD i default).to then 2 else 0
def stateE (a : Adv) (l : List Mv) : Int := if l.length = 0 then 19 else firstNZ l.length (moveE a l)
/-- is set x inside set y (both sets of at most 5 processes)? -/
def insideB (x y : Int) : Bool := !anyLt 5 fun p => hasB x p && !hasB y p
end Go.Proofs.YtjmejfgkogjpaaaGreatDoor

namespace Go.Proofs.YtjmejfgkogjpaaaGreatDoor
open Go.RowKit Go Go.Shelf

def InR (x : Int) : Prop := -9223372036854775808 ≤ x ∧ x ≤ 9223372036854775807

theorem cell_lt {w : World} {a : Addr} {v : Value} (h : w.cell? a = some v) : a.block < w.heap.size := by
  unfold World.cell? at h
  split at h
  · rename_i hb; exact (Array.getElem?_eq_some_iff.1 hb).1
  · cases h
theorem cell_up {w w' : World} (hb : Below w.heap.size w w') {a : Addr} {v : Value} (h : w.cell? a = some v) : w'.cell? a = some v := (hb.cell (cell_lt h)).trans h
theorem bcell {B : Nat} {W w1 : World} (hb : Below B W w1) : (∀ b o, b < B → w1.cell? ⟨b, o, none⟩ = W.cell? ⟨b, o, none⟩) ∧ (∀ b o, b < B → w1.frozen? ⟨b, o, none⟩ = W.frozen? ⟨b, o, none⟩) :=
  ⟨fun b o h => hb.cell (p := ⟨b, o, none⟩) h, fun b o h => hb.frozen (p := ⟨b, o, none⟩) h⟩
theorem ret_int {k : IntKind} {a b : Int} (h : a = b) : Ending.returned (.int k a) = .returned (.int k b) := by rw [h]
theorem ret_bool {a b : Bool} (h : a = b) : Ending.returned (.bool a) = .returned (.bool b) := by rw [h]
theorem ext_trans {a b c : World} (h : Below a.heap.size a b) (k : Below b.heap.size b c) : Below a.heap.size a c := h.trans (k.mono h.size)

theorem below_drewN {B : Nat} {a w : World} (h : Below B a w) (n : Nat) : Below B a (w.drewN n) := ⟨h.os, h.tape, h.output, h.size, h.block⟩
theorem alloc_new (w : World) (o : Obj) : (w.alloc o).heap[w.heap.size]? = some o := by
  show (w.heap.push o)[w.heap.size]? = some o
  simp
theorem alloc_old {w : World} {k : Nat} {x : Obj} (o : Obj) (h : w.heap[k]? = some x) : (w.alloc o).heap[k]? = some x :=
  (Below.heap_alloc w o k (Array.getElem?_eq_some_iff.1 h).1).trans h
theorem block_lt {w : World} {k : Nat} {x : Obj} (h : w.heap[k]? = some x) : k < w.heap.size := (Array.getElem?_eq_some_iff.1 h).1
theorem block_up {w w' : World} (hb : Below w.heap.size w w') {k : Nat} {x : Obj} (h : w.heap[k]? = some x) : w'.heap[k]? = some x :=
  (hb.block k (Array.getElem?_eq_some_iff.1 h).1).trans h
theorem cell_block {w : World} {B : Nat} {cs : Array Value} {t : TypeId} {f : Nat × Nat} (h : w.heap[B]? = some (.cells cs t f)) (o : Nat) : w.cell? ⟨B, o, none⟩ = cs[o]? := by
  simp [World.cell?, h]
theorem frozen_block {w : World} {B : Nat} {cs : Array Value} {t : TypeId} (h : w.heap[B]? = some (.cells cs t (0, 0))) (o : Nat) : w.frozen? ⟨B, o, none⟩ = false := by
  simp [World.frozen?, h]
/-- The world at hand under a name of its own, with what is to be known of it. -/
theorem wp_gen {P : Program} {c : Code} {Q : Exit → Act → World → Prop} {a : Act} {W : World} (I : World → Prop) (h : I W) (k : ∀ W0, I W0 → c.wp P Q a W0) : c.wp P Q a W := k W h

/-- All rows of cells lie as they lay. -/
def CK (w w' : World) : Prop := ∀ (k : Nat) (o : Obj), w.heap[k]? = some o → o.isCells = true → w'.heap[k]? = some o
theorem CK.of_below {w w' : World} (h : Below w.heap.size w w') : CK w w' := fun _ _ hk _ => block_up h hk
theorem CK.cell {w w' : World} (h : CK w w') {a : Addr} {v : Value} (hc : w.cell? a = some v) : w'.cell? a = some v := by
  unfold World.cell? at hc ⊢
  cases ho : w.heap[a.block]? with
  | none => simp [ho] at hc
  | some o => cases o <;> simp only [ho] at hc <;> first | (rw [h _ _ ho rfl]; exact hc) | cases hc
/-- What is said of a place stays true while all rows of cells lie as they lay. -/
def Up {α : Type} (R : World → Nat → Nat → α → Prop) : Prop := ∀ (w w' : World) (b o : Nat) (x : α), CK w w' → R w b o x → R w' b o x
theorem calls_gen {P : Program} {f : FuncId} {args : Array Value} {R : Ending → World → Prop} {W : World} (I : World → Prop) (h : I W) (k : ∀ W0, I W0 → Calls P f args W0 R) : Calls P f args W R := k W h

/-- A slice value reads as a list; its elements take k cells each. -/
def IsSl {α : Type} (k : Nat) (R : World → Nat → Nat → α → Prop) (w : World) (v : Value) (l : List α) : Prop :=
  ∃ a cap, v = .slice a l.length cap ∧ (l.length ≤ cap ∧ cap ≤ 9223372036854775807 ∧ (a = none → cap = 0)) ∧ l.length ≤ 17592186044416 ∧ ∀ i x, l[i]? = some x → ∃ b off, a = some ⟨b, off, none⟩ ∧ R w b (off + i * k) x

theorem IsSl.ck {α : Type} {k : Nat} {R : World → Nat → Nat → α → Prop} (hR : Up R) {w w' : World} {v : Value} {l : List α} (hb : CK w w') (h : IsSl k R w v l) : IsSl k R w' v l := by
  obtain ⟨a, cap, rfl, h1, h2, h3⟩ := h
  refine ⟨a, cap, rfl, h1, h2, fun i x hx => ?_⟩
  obtain ⟨b, off, ha, hr⟩ := h3 i x hx
  exact ⟨b, off, ha, hR _ _ _ _ _ hb hr⟩
theorem IsSl.up {α : Type} {k : Nat} {R : World → Nat → Nat → α → Prop} (hR : Up R) {w w' : World} {v : Value} {l : List α} (hb : Below w.heap.size w w') (h : IsSl k R w v l) : IsSl k R w' v l := h.ck hR (.of_below hb)
theorem IsSl.at {α : Type} {k : Nat} {R : World → Nat → Nat → α → Prop} {w : World} {v : Value} {l : List α} (h : IsSl k R w v l) :
    ∃ a cap, v = .slice a l.length cap ∧ l.length ≤ cap ∧ l.length ≤ 17592186044416 ∧ ∀ i (hi : i < l.length), ∃ b off, a = some ⟨b, off, none⟩ ∧ R w b (off + i * k) l[i] := by
  obtain ⟨a, cap, rfl, h1, h2, h3⟩ := h
  exact ⟨a, cap, rfl, h1.1, h2, fun i hi => h3 i _ (List.getElem?_eq_getElem hi)⟩
theorem getD_of_lt {α : Type} {l : List α} {i : Nat} (d : α) (h : i < l.length) : l.getD i d = l[i] := by simp [h]
/-- A slice as one cell of memory. -/
def SlAt {α : Type} (k : Nat) (R : World → Nat → Nat → α → Prop) (w : World) (b o : Nat) (l : List α) : Prop := ∃ v, w.cell? ⟨b, o, none⟩ = some v ∧ IsSl k R w v l
theorem up_slAt {α : Type} {k : Nat} {R : World → Nat → Nat → α → Prop} (hR : Up R) : Up (SlAt k R) := fun _ _ _ _ _ hb ⟨v, hc, hs⟩ => ⟨v, hb.cell hc, hs.ck hR hb⟩

def IntAt (w : World) (b o : Nat) (x : Int) : Prop := w.cell? ⟨b, o, none⟩ = some (.int .i64 x) ∧ InR x
theorem up_int : Up IntAt := fun _ _ _ _ _ hb h => ⟨hb.cell h.1, h.2⟩
abbrev IsInts := IsSl 1 IntAt
abbrev IntsAt := SlAt 1 IntAt
theorem up_ints : Up IntsAt := up_slAt up_int
abbrev IsVecs := IsSl 1 IntsAt
abbrev VecsAt := SlAt 1 IntsAt
theorem up_vecs : Up VecsAt := up_slAt up_ints
def CaseAt (w : World) (b o : Nat) (c : Cs) : Prop := IntsAt w b o c.inp ∧ VecsAt w b (o + 1) c.out ∧ VecsAt w b (o + 2) c.calm
theorem up_case : Up CaseAt := fun _ _ _ _ _ hb h => ⟨up_ints _ _ _ _ _ hb h.1, up_vecs _ _ _ _ _ hb h.2.1, up_vecs _ _ _ _ _ hb h.2.2⟩
abbrev IsCases := IsSl 3 CaseAt
def RoundAt (w : World) (b o : Nat) (r : Rd) : Prop :=
  IntAt w b o r.g.n ∧ IntAt w b (o + 1) r.g.h0 ∧ IntAt w b (o + 2) r.g.h1 ∧ IntAt w b (o + 3) r.g.h2 ∧ IntAt w b (o + 4) r.g.h3 ∧ IntAt w b (o + 5) r.g.h4 ∧ IntAt w b (o + 6) r.f
theorem up_round : Up RoundAt := fun _ _ _ _ _ hb ⟨h0, h1, h2, h3, h4, h5, h6⟩ =>
  ⟨up_int _ _ _ _ _ hb h0, up_int _ _ _ _ _ hb h1, up_int _ _ _ _ _ hb h2, up_int _ _ _ _ _ hb h3, up_int _ _ _ _ _ hb h4, up_int _ _ _ _ _ hb h5, up_int _ _ _ _ _ hb h6⟩
abbrev IsWord := IsSl 7 RoundAt
def MoveAt (w : World) (b o : Nat) (m : Mv) : Prop := RoundAt w b o m.r ∧ IntAt w b (o + 7) m.to
theorem up_move : Up MoveAt := fun _ _ _ _ _ hb h => ⟨up_round _ _ _ _ _ hb h.1, up_int _ _ _ _ _ hb h.2⟩
abbrev IsMoves := IsSl 8 MoveAt
abbrev MovesAt := SlAt 8 MoveAt
theorem up_moves : Up MovesAt := up_slAt up_move
abbrev IsStates := IsSl 1 MovesAt

/-- the cells of a round, a graph -/
abbrev Gr.v (g : Gr) : Value := .agg #[.int .i64 g.n, .int .i64 g.h0, .int .i64 g.h1, .int .i64 g.h2, .int .i64 g.h3, .int .i64 g.h4]
abbrev Rd.v (r : Rd) : Value := .agg #[.int .i64 r.g.n, .int .i64 r.g.h0, .int .i64 r.g.h1, .int .i64 r.g.h2, .int .i64 r.g.h3, .int .i64 r.g.h4, .int .i64 r.f]
abbrev Mv.v (m : Mv) : Value := .agg #[.int .i64 m.r.g.n, .int .i64 m.r.g.h0, .int .i64 m.r.g.h1, .int .i64 m.r.g.h2, .int .i64 m.r.g.h3, .int .i64 m.r.g.h4, .int .i64 m.r.f, .int .i64 m.to]

/-- A world in which all that lay in w lies unturned. -/
structure ExtW (w : World) where
  val : World
  ext : Below w.heap.size w val
instance (w : World) : Inhabited (ExtW w) := ⟨⟨w, Below.refl _ _⟩⟩
theorem wp_region_quiet_ext {P : Program} {id : Nat} {Q : Exit → Act → World → Prop} {a : Act} {w : World} {l : List Oper} (hm : P.follows .mixedOrders = true) (hB : Region.lexB .any l.toArray = true)
    (h : wpQuiet P l.toArray (fun w' => ∃ x : ExtW w, w' = x.val) (fun a' => ∀ w', (∃ x : ExtW w, w' = x.val) → Q .normal a' w') l a) : (Code.region id l.toArray true).wp P Q a w :=
  wp_region_quiet (C := fun w' => ∃ x : ExtW w, w' = x.val) hm hB ⟨⟨w.drew, (Below.refl _ _).drew⟩, rfl⟩ (by simpa using h)
theorem Calls.ext_of {P : Program} {f : FuncId} {args : Array Value} {w : World} {x : ExtW w} {v : Value}
    (h : Calls P f args x.val fun e w' => e = .returned v ∧ Below x.val.heap.size x.val w') : Calls P f args x.val fun e w'' => e = .returned v ∧ ∃ p : ExtW w, w'' = p.val :=
  h.mono fun _ w'' ⟨he, hb⟩ => ⟨he, ⟨w'', ext_trans x.ext hb⟩, rfl⟩
theorem ExtW.cell {w : World} (x : ExtW w) {a : Addr} {v : Value} (h : w.cell? a = some v) : x.val.cell? a = some v := cell_up x.ext h

end Go.Proofs.YtjmejfgkogjpaaaGreatDoor

namespace Go.Proofs.YtjmejfgkogjpaaaGreatDoor
open Go.ChangeShapes Go.WideShapes Go.ChangeAt Go.RowKit Go Go.Deep

section
variable {H : Type} {enc : TypeId × Value → H} {w : World}

/-- a reading of the cells cs at type t -/
abbrev Rdg (enc : TypeId × Value → H) (w : World) (fuel : Nat) (t : TypeId) (cs : List Value) (x : DataW H × List MemPlace) : Prop := DataW.trod enc Tryz.prog w 0 (fun _ => true) true fuel t cs = some x
/-- all that is read is within the reach -/
def Szd (t : TypeId) (d : DataW H) : Prop := ∀ n ∈ d.weights Tryz.prog t, n ≤ reachBytes

theorem inR_wf {n : Int} (h : (Lit.int .i64 n).wf = true) : InR n := by
  simp [Lit.wf, IntKind.min, IntKind.max, IntKind.bits, IntKind.signed] at h
  unfold InR
  omega

theorem weightsEach_mem {ts : List TypeId} {ds : List (DataW H)} {j : Nat} {t : TypeId} {d : DataW H} (ht : ts[j]? = some t) (hd : ds[j]? = some d) {n : Nat} (hn : n ∈ d.weights Tryz.prog t) : n ∈ DataW.weightsEach Tryz.prog ts ds := DataW.weights_mem_each ht hd n hn
theorem weightsAll_mem {e : TypeId} {ds : List (DataW H)} {d : DataW H} (hd : d ∈ ds) {n : Nat} (hn : n ∈ d.weights Tryz.prog e) : n ∈ DataW.weightsAll Tryz.prog e ds := by
  induction ds with
  | nil => cases hd
  | cons x r ih =>
    simp only [DataW.weightsAll, List.mem_append]
    rcases List.mem_cons.1 hd with rfl | h
    · exact .inl hn
    · exact .inr (ih h)
/-- the fields of a struct -/
theorem rdg_struct {fs : Array Field} {t : TypeId} {fuel : Nat} {cs : List Value} {x : DataW H × List MemPlace} (ht : Tryz.prog.underlying t = some (.struct fs)) (h : Rdg enc w fuel t cs x) (hz : Szd t x.1) :
    cs.length = Tryz.prog.cellsOf t ∧ ∃ n, ∀ (i : Nat) (f : Field), fs[i]? = some f → ∃ y, Rdg enc w n f.type ((cs.drop f.offset).take (Tryz.prog.cellsOf f.type)) y ∧ Szd f.type y.1 := by
  obtain ⟨xs, n, _, rfl, hl, hx, hf⟩ := DataW.trod_struct ht h
  refine ⟨hl, n, fun i f hi => ?_⟩
  have hlt : i < xs.length := by have := (Array.getElem?_eq_some_iff.1 hi).1; omega
  refine ⟨xs[i], (hf i f hi).trans (List.getElem?_eq_getElem hlt), fun m hm => hz m ?_⟩
  simp only [DataW.weights, ht]
  exact weightsEach_mem (j := i) (by simp [hi]) (by simp [hlt]) hm

/-- every cell is a number -/
def AllInt (enc : TypeId × Value → H) (w : World) (t : TypeId) (k : Nat) : Prop := ∀ fuel cs x, Rdg enc w fuel t cs x → cs.length = k ∧ ∀ j, j < k → ∃ n, cs[j]? = some (.int .i64 n) ∧ InR n
theorem allInt_int {t : TypeId} (ht : Tryz.prog.underlying t = some (.int .i64)) : AllInt enc w t 1 := fun fuel cs x h => by
  obtain ⟨n, rfl, _, hw⟩ := DataW.trod_int ht h
  refine ⟨rfl, fun j hj => ⟨n, ?_, inR_wf hw⟩⟩
  obtain rfl : j = 0 := by omega
  rfl
theorem allInt_array {t e : TypeId} {m : Nat} (ht : Tryz.prog.underlying t = some (.array m e)) (he : Tryz.prog.underlying e = some (.int .i64)) (h1 : Tryz.prog.cellsOf e = 1) (hk : Tryz.prog.cellsOf t = m) : AllInt enc w t m := fun fuel cs x h => by
  obtain ⟨xs, n, _, _, hl, hx, hf⟩ := DataW.trod_array ht h
  refine ⟨by rw [hl, hk], fun j hj => ?_⟩
  have h2 := hf j hj
  rw [h1, Nat.mul_one, List.getElem?_eq_getElem (by omega)] at h2
  obtain ⟨v, e1, _, hw⟩ := DataW.trod_int he h2
  refine ⟨v, ?_, inR_wf hw⟩
  have h3 : ((cs.drop j).take 1)[0]? = cs[j]? := by simp
  rw [← h3, e1]
  rfl
theorem allInt_two {t : TypeId} {f0 f1 : Field} {k0 k1 : Nat} (ht : Tryz.prog.underlying t = some (.struct #[f0, f1])) (o0 : f0.offset = 0) (o1 : f1.offset = k0) (c0 : Tryz.prog.cellsOf f0.type = k0) (c1 : Tryz.prog.cellsOf f1.type = k1) (ct : Tryz.prog.cellsOf t = k0 + k1)
    (h0 : AllInt enc w f0.type k0) (h1 : AllInt enc w f1.type k1) : AllInt enc w t (k0 + k1) := fun fuel cs x h => by
  obtain ⟨xs, n, _, _, hl, hx, hf⟩ := DataW.trod_struct ht h
  refine ⟨by rw [hl, ct], fun j hj => ?_⟩
  have g0 := hf 0 f0 rfl
  have g1 := hf 1 f1 rfl
  have hx2 : xs.length = 2 := hx
  rw [o0, c0, List.getElem?_eq_getElem (by omega)] at g0
  rw [o1, c1, List.getElem?_eq_getElem (by omega)] at g1
  by_cases hj0 : j < k0
  · obtain ⟨v, e, hv⟩ := (h0 _ _ _ g0).2 j hj0
    refine ⟨v, ?_, hv⟩
    rw [← e]
    simp [List.getElem?_take_of_lt hj0]
  · obtain ⟨v, e, hv⟩ := (h1 _ _ _ g1).2 (j - k0) (by omega)
    refine ⟨v, ?_, hv⟩
    rw [← e, List.getElem?_take_of_lt (by omega), List.getElem?_drop, show k0 + (j - k0) = j by omega]

/-- what a type reads as, in memory -/
def Opn {α : Type} (enc : TypeId × Value → H) (w : World) (t : TypeId) (k : Nat) (R : World → Nat → Nat → α → Prop) : Prop :=
  ∀ fuel cs x b off, Rdg enc w fuel t cs x → Szd t x.1 → (∀ j, j < k → w.cell? ⟨b, off + j, none⟩ = cs[j]?) → ∃ a : α, R w b off a

theorem opn_int : Opn enc w 3 1 IntAt := fun fuel cs x b off h _ hc => by
  obtain ⟨n, rfl, _, hw⟩ := DataW.trod_int Tryz.underlying3 h
  exact ⟨n, (hc 0 (by omega)).trans rfl, inR_wf hw⟩
theorem add_zero_spot {a : Addr} {j : Nat} (h : a.spot = none) : a.add j = ⟨a.block, a.off + j, none⟩ := by
  obtain ⟨b, o, s⟩ := a
  simp at h
  subst h
  unfold Addr.add
  split <;> simp_all

/-- a slice -/
theorem opn_val {α : Type} {t e : TypeId} {k : Nat} {R : World → Nat → Nat → α → Prop} (hu : Tryz.prog.underlying t = some (.slice e)) (hk : Tryz.prog.cellsOf e = k) (hk0 : 0 < k) (hby : 8 ≤ Tryz.prog.bytesOf e) (he : Opn enc w e k R)
    {fuel : Nat} {cs : List Value} {x : DataW H × List MemPlace} (h : Rdg enc w fuel t cs x) (hz : Szd t x.1) : ∃ v l, cs = [v] ∧ IsSl k R w v l := by
  rcases open_slice hu h with ⟨rfl, _⟩ | ⟨a, len, cap, m, n, D, Pl, rfl, _, hl, hm, hmm, rfl, hi⟩
  · exact ⟨_, [], rfl, none, 0, rfl, ⟨by simp, by omega, fun _ => rfl⟩, by simp, fun i x hx => by simp at hx⟩
  · have hmc : m = cap := by rw [hmm]; rfl
    subst hmc
    have hw : (((List.range len).map D).length + ((List.range (m - len)).map fun j => D (len + j)).length) * Tryz.prog.bytesOf e ≤ reachBytes := by
      refine hz _ ?_
      simp only [DataW.weights, hu]
      exact List.mem_cons_self
    have hw2 : m * 8 ≤ reachBytes := by
      refine Nat.le_trans (Nat.mul_le_mul_left m hby) ?_
      refine Nat.le_trans ?_ hw
      rw [List.length_map, List.length_map, List.length_range, List.length_range]
      exact Nat.mul_le_mul_right _ (by omega)
    have hw3 : m ≤ 17592186044416 := by unfold reachBytes at hw2; omega
    have hsp0 : 0 < len → a.spot = none := fun h0 => by
      obtain ⟨cs', hc, ht⟩ := hi 0 (by omega)
      rw [hk] at hc
      obtain ⟨_, hcl, hat⟩ := World.cells?_some hc
      have h1 := hat 0 hk0
      rw [List.getElem?_eq_getElem (by omega)] at h1
      have := World.cell?_spot h1
      simpa [Addr.add] using this
    have key : ∀ i : Fin len, ∃ y : α, a.spot = none ∧ R w a.block (a.off + i.1 * k) y := fun i => by
      obtain ⟨cs', hc, ht⟩ := hi i.1 (by have := i.2; omega)
      rw [hk] at hc
      obtain ⟨_, hcl, hat⟩ := World.cells?_some hc
      have hsp := hsp0 (by have := i.2; omega)
      have hz1 : Szd e (D i.1) := fun q hq => hz q (by
        simp only [DataW.weights, hu]
        refine List.mem_cons_of_mem _ (List.mem_append_left _ (weightsAll_mem (d := D i.1) ?_ hq))
        exact List.mem_map.2 ⟨i.1, List.mem_range.2 i.2, rfl⟩)
      obtain ⟨y, hy⟩ := he _ _ _ a.block (a.off + i.1 * k) ht hz1 (fun j hj => by
        rw [← hat j hj, add_zero_spot hsp, add_zero_spot rfl])
      exact ⟨y, hsp, hy⟩
    refine ⟨_, List.ofFn fun i => Classical.choose (key i), rfl, some a, m, by rw [List.length_ofFn], ⟨by rw [List.length_ofFn]; omega, by omega, fun h => by cases h⟩, by rw [List.length_ofFn]; omega, fun i y hy => ?_⟩
    have hil : i < len := by have := (List.getElem?_eq_some_iff.1 hy).1; simpa using this
    have e1 : y = Classical.choose (key ⟨i, hil⟩) := by
      rw [List.getElem?_ofFn] at hy
      simp [hil] at hy
      exact hy.symm
    obtain ⟨hs, hr⟩ := Classical.choose_spec (key ⟨i, hil⟩)
    refine ⟨a.block, a.off, ?_, by rw [e1]; exact hr⟩
    obtain ⟨b, o, s⟩ := a
    simp at hs
    subst hs
    rfl
theorem opn_slice {α : Type} {t e : TypeId} {k : Nat} {R : World → Nat → Nat → α → Prop} (hu : Tryz.prog.underlying t = some (.slice e)) (hk : Tryz.prog.cellsOf e = k) (hk0 : 0 < k) (hby : 8 ≤ Tryz.prog.bytesOf e) (he : Opn enc w e k R) : Opn enc w t 1 (SlAt k R) := fun fuel cs x b off h hz hc => by
  obtain ⟨v, l, rfl, hl⟩ := opn_val hu hk hk0 hby he h hz
  exact ⟨l, v, (hc 0 (by omega)).trans rfl, hl⟩
theorem one_take {cs : List Value} {j : Nat} (h : j < cs.length) : (cs.drop j).take 1 = [cs[j]] := by
  rw [List.drop_eq_getElem_cons h]
  rfl

theorem Tryz.cInt : Tryz.prog.cellsOf 3 = 1 := by kernel_rfl
theorem Tryz.cInts : Tryz.prog.cellsOf 28 = 1 := by kernel_rfl
theorem Tryz.cVecs : Tryz.prog.cellsOf 22 = 1 := by kernel_rfl
theorem Tryz.cGraph : Tryz.prog.cellsOf 47 = 6 := by kernel_rfl
theorem Tryz.cRound : Tryz.prog.cellsOf 49 = 7 := by kernel_rfl
theorem opn_ints : Opn enc w 28 1 IntsAt := opn_slice Tryz.underlying28 Tryz.cInt (by omega) (of_decide_eq_true (by kernel_rfl)) opn_int
theorem opn_vecs : Opn enc w 22 1 VecsAt := opn_slice Tryz.underlying22 Tryz.cInts (by omega) (of_decide_eq_true (by kernel_rfl)) opn_ints
theorem allInt_graph : AllInt enc w 47 6 := allInt_two (k0 := 1) (k1 := 5) Tryz.underlying47 rfl rfl Tryz.cInt (by kernel_rfl) Tryz.cGraph (allInt_int Tryz.underlying3) (allInt_array Tryz.underlying45 Tryz.underlying3 Tryz.cInt (by kernel_rfl))
theorem allInt_round : AllInt enc w 49 7 := allInt_two (k0 := 6) (k1 := 1) Tryz.underlying49 rfl rfl Tryz.cGraph Tryz.cInt Tryz.cRound allInt_graph (allInt_int Tryz.underlying3)
theorem opn_round : Opn enc w 49 7 RoundAt := fun fuel cs x b off h _ hc => by
  have ha := (allInt_round _ _ _ h).2
  obtain ⟨n0, e0, i0⟩ := ha 0 (by omega)
  obtain ⟨n1, e1, i1⟩ := ha 1 (by omega)
  obtain ⟨n2, e2, i2⟩ := ha 2 (by omega)
  obtain ⟨n3, e3, i3⟩ := ha 3 (by omega)
  obtain ⟨n4, e4, i4⟩ := ha 4 (by omega)
  obtain ⟨n5, e5, i5⟩ := ha 5 (by omega)
  obtain ⟨n6, e6, i6⟩ := ha 6 (by omega)
  exact ⟨⟨⟨n0, n1, n2, n3, n4, n5⟩, n6⟩, ⟨(hc 0 (by omega)).trans e0, i0⟩, ⟨(hc 1 (by omega)).trans e1, i1⟩, ⟨(hc 2 (by omega)).trans e2, i2⟩, ⟨(hc 3 (by omega)).trans e3, i3⟩, ⟨(hc 4 (by omega)).trans e4, i4⟩, ⟨(hc 5 (by omega)).trans e5, i5⟩, ⟨(hc 6 (by omega)).trans e6, i6⟩⟩
theorem list7 {l : List Value} (h : l.length = 7) : ∃ c0 c1 c2 c3 c4 c5 c6, l = [c0, c1, c2, c3, c4, c5, c6] := by
  match l, h with
  | [c0, c1, c2, c3, c4, c5, c6], _ => exact ⟨c0, c1, c2, c3, c4, c5, c6, rfl⟩
end
end Go.Proofs.YtjmejfgkogjpaaaGreatDoor

namespace Go.Proofs.YtjmejfgkogjpaaaGreatDoor
open Go

theorem i64_and_nat (a b : Nat) (ha : a < 9223372036854775808) (hb : b < 9223372036854775808) : bits .and .i64 (a : Int) (b : Int) = ((a &&& b : Nat) : Int) := by
  have hx : a &&& b < 2 ^ 63 := Nat.and_lt_two_pow _ (by omega)
  show IntKind.i64.wrap ((BitVec.ofInt 64 (a : Int) &&& BitVec.ofInt 64 (b : Int)).toNat : Int) = _
  rw [BitVec.toNat_and, ofInt_u64 a (by omega), ofInt_u64 b (by omega)]
  simp [IntKind.wrap, IntKind.bits, IntKind.signed]
  omega
theorem i64_and (a b : Int) (h1 : 0 ≤ a) (h2 : a < 9223372036854775808) (h3 : 0 ≤ b) (h4 : b < 9223372036854775808) : bits .and .i64 a b = ((a.toNat &&& b.toNat : Nat) : Int) := by
  obtain ⟨A, rfl⟩ := Int.eq_ofNat_of_zero_le h1
  obtain ⟨B, rfl⟩ := Int.eq_ofNat_of_zero_le h3
  exact i64_and_nat A B (by omega) (by omega)
theorem i64_or_nat (a b : Nat) (ha : a < 9223372036854775808) (hb : b < 9223372036854775808) : bits .or .i64 (a : Int) (b : Int) = ((a ||| b : Nat) : Int) := by
  have hx : a ||| b < 2 ^ 63 := Nat.or_lt_two_pow (by omega) (by omega)
  show IntKind.i64.wrap ((BitVec.ofInt 64 (a : Int) ||| BitVec.ofInt 64 (b : Int)).toNat : Int) = _
  rw [BitVec.toNat_or, ofInt_u64 a (by omega), ofInt_u64 b (by omega)]
  simp [IntKind.wrap, IntKind.bits, IntKind.signed]
  omega
theorem i64_or (a b : Int) (h1 : 0 ≤ a) (h2 : a < 9223372036854775808) (h3 : 0 ≤ b) (h4 : b < 9223372036854775808) : bits .or .i64 a b = ((a.toNat ||| b.toNat : Nat) : Int) := by
  obtain ⟨A, rfl⟩ := Int.eq_ofNat_of_zero_le h1
  obtain ⟨B, rfl⟩ := Int.eq_ofNat_of_zero_le h3
  exact i64_or_nat A B (by omega) (by omega)
/-- the lowest bit -/
theorem i64_and1 (a : Int) : bits .and .i64 a 1 = a % 2 := by
  show IntKind.i64.wrap ((BitVec.ofInt 64 a &&& BitVec.ofInt 64 ((1 : Nat) : Int)).toNat : Int) = _
  rw [BitVec.toNat_and, ofInt_u64 1 (by omega), Nat.and_one_is_mod, BitVec.toNat_ofInt]
  simp [IntKind.wrap, IntKind.bits, IntKind.signed]
  omega
theorem hasB_and1 (x : Int) (p : Nat) : (bits .and .i64 (x / 2 ^ p) 1 == 0) = !hasB x p := by
  rw [i64_and1]; unfold hasB
  rcases (show x / 2 ^ p % 2 = 0 ∨ x / 2 ^ p % 2 = 1 by omega) with h | h <;> rw [h] <;> rfl
theorem hasB_and1' (x : Int) (p : Nat) : (bits .and .i64 (x / 2 ^ p) 1 == 1) = hasB x p := by
  rw [i64_and1]; unfold hasB; rfl
theorem hasB_testBit (x : Int) (h0 : 0 ≤ x) (p : Nat) : hasB x p = x.toNat.testBit p := by
  obtain ⟨A, rfl⟩ := Int.eq_ofNat_of_zero_le h0
  unfold hasB
  rw [Int.toNat_natCast, Nat.testBit_eq_decide_div_mod_eq]
  have : ((A : Int) / 2 ^ p % 2) = ((A / 2 ^ p % 2 : Nat) : Int) := by simp
  rw [this, Bool.eq_iff_iff]
  simp only [beq_iff_eq, decide_eq_true_eq]
  omega
/-- 'x &^ y' of two sets of at most 5 processes -/
theorem andNot_inside (x y : Int) (hx0 : 0 ≤ x) (hx : x < 32) (hy0 : 0 ≤ y) (hy : y < 32) : (bits .andNot .i64 x y != 0) = !insideB x y := by
  obtain ⟨A, rfl⟩ := Int.eq_ofNat_of_zero_le hx0
  obtain ⟨B, rfl⟩ := Int.eq_ofNat_of_zero_le hy0
  have hA : A < 32 := by omega
  have hB : B < 32 := by omega
  have key : ∀ a : Fin 32, ∀ b : Fin 32, (bits .andNot .i64 ((a.val : Nat) : Int) ((b.val : Nat) : Int) != 0) = !insideB ((a.val : Nat) : Int) ((b.val : Nat) : Int) := by decide +kernel
  exact key ⟨A, hA⟩ ⟨B, hB⟩
end Go.Proofs.YtjmejfgkogjpaaaGreatDoor

namespace Go.Proofs.YtjmejfgkogjpaaaGreatDoor
open Go.RowKit Go

set_option maxHeartbeats 400000 in
theorem procs_any (n : Int) (w : World) :
    Calls Tryz.prog 128 #[.int .i64 n] w fun e w' => e = .returned (.int .i64 (procsE n)) ∧ w = w' := by
  go_enter Tryz.func128, Tryz.ntmps128
  go_wp2
  all_goals go_ret; exact ⟨ret_int (by unfold procsE; first | rw [if_pos (by omega)] | rw [if_neg (by omega)]), rfl⟩

set_option maxHeartbeats 400000 in
theorem procsetCheck_any (n x : Int) (w : World) :
    Calls Tryz.prog 107 #[.int .i64 n, .int .i64 x] w fun e w' => e = .returned (.int .i64 (psetE n x)) ∧ w = w' := by
  by_cases hn : n < 1 ∨ 5 < n
  · have hp : procsE n = 1 := by unfold procsE; rw [if_pos hn]
    have hc := procs_any n w
    rw [hp] at hc
    have H := Lib.hid hp; clear hp
    go_enter Tryz.func107, Tryz.ntmps107
    go_wp2_with (go_at_call 128; refine hc.mono ?_; rintro e w' ⟨rfl, rfl⟩)
    go_ret; exact ⟨ret_int (by unfold psetE; rw [H.out]; rfl), rfl⟩
  · have hp : procsE n = 0 := by unfold procsE; rw [if_neg hn]
    have hc := procs_any n w
    rw [hp] at hc
    have H := Lib.hid hp; clear hp
    have h1 : 1 ≤ n := by omega
    have h2 : n ≤ 5 := by omega
    clear hn
    go_enter Tryz.func107, Tryz.ntmps107
    go_wp2_with (go_at_call 128; refine hc.mono ?_; rintro e w' ⟨rfl, rfl⟩)
    all_goals
      go_ret
      refine ⟨ret_int ?_, rfl⟩
      go_light
      unfold psetE
      rw [H.out]
      grind

theorem hear_index (g : Gr) (k : Nat) (hk : k < 5) (w : World) : (Instr.index 45 (.agg #[.int .i64 g.h0, .int .i64 g.h1, .int .i64 g.h2, .int .i64 g.h3, .int .i64 g.h4]) (.int .i64 k)).run Tryz.prog w = .ok (.int .i64 (g.hear k)) w := by
  have : k = 0 ∨ k = 1 ∨ k = 2 ∨ k = 3 ∨ k = 4 := by omega
  rcases this with h | h | h | h | h <;> (subst h; with_reducible refine Eq.trans ?_ (Eq.refl _); kernel_rfl)

set_option maxHeartbeats 400000 in
theorem full_any (n : Int) (w : World) (h1 : 1 ≤ n) (h2 : n ≤ 5) :
    Calls Tryz.prog 127 #[.int .i64 n] w fun e w' => e = .returned (.int .i64 (2 ^ n.toNat - 1)) ∧ w = w' := by
  have : n = 1 ∨ n = 2 ∨ n = 3 ∨ n = 4 ∨ n = 5 := by omega
  rcases this with rfl | rfl | rfl | rfl | rfl
  all_goals
    go_enter Tryz.func127, Tryz.ntmps127
    go_wp2
    go_ret
    exact ⟨rfl, rfl⟩

set_option maxHeartbeats 1000000 in
theorem graphCheck_any (g : Gr) (w : World) :
    Calls Tryz.prog 106 #[g.v] w fun e w' => e = .returned (.int .i64 (graphE g)) ∧ Below w.heap.size w w' := by
  obtain ⟨n, h0, h1, h2, h3, h4⟩ := g
  by_cases hn : n < 1 ∨ 5 < n
  · have H : Hid (graphE ⟨n, h0, h1, h2, h3, h4⟩ = 2) := by unfold graphE; rw [if_pos hn]; rfl
    rcases hn with hn | hn
    · go_enter Tryz.func106, Tryz.ntmps106
      go_wp2
      go_ret; exact ⟨ret_int H.out.symm, by go_grown⟩
    · have hn' : ¬ n < 1 := by omega
      go_enter Tryz.func106, Tryz.ntmps106
      go_wp2
      go_ret; exact ⟨ret_int H.out.symm, by go_grown⟩
  have hn1 : 1 ≤ n := by omega
  have hn2 : n ≤ 5 := by omega
  have HE : Hid (graphE ⟨n, h0, h1, h2, h3, h4⟩ = firstNZ 5 fun p => hearE n (Gr.hear ⟨n, h0, h1, h2, h3, h4⟩ p) p) := by unfold graphE; rw [if_neg hn]; rfl
  clear hn
  go_enter Tryz.func106, Tryz.ntmps106
  go_wp2
  go_loop [15] (fun i => ∃ k : Nat, k ≤ 5 ∧ i = .int .i64 k ∧ ∀ j, j < k → hearE n (Gr.hear ⟨n, h0, h1, h2, h3, h4⟩ j) j = 0) (fun i => 5 - (intOf i).toNat)
  case atStart => exact ⟨0, by omega, rfl, by simp⟩
  case round =>
    obtain ⟨k, hk, rfl, hinv⟩ := hrel
    have H := Lib.hid hinv; clear hinv
    by_cases hlt : k < 5
    · have hx := hear_index ⟨n, h0, h1, h2, h3, h4⟩ k hlt
      have hEx : ∃ x, x = Gr.hear ⟨n, h0, h1, h2, h3, h4⟩ k := ⟨_, rfl⟩
      obtain ⟨x, hxx⟩ := hEx
      rw [← hxx] at hx
      have HX := Lib.hid hxx; clear hxx
      have hbit := hasB_and1 x k
      go_wp2_with (go_at_call 127; refine (full_any _ _ (by omega) (by omega)).mono ?_; rintro e w' ⟨rfl, rfl⟩)
      all_goals first
        | (go_ret
           refine ⟨ret_int ?_, by go_grown⟩
           rw [HE.out]
           go_light
           refine firstNZ_hit k _ hlt H.out ?_ (by decide)
           rw [← HX.out]
           unfold hearE
           grind)
        | (go_round
           case rel =>
             refine ⟨k + 1, by omega, by go_num, below_succ H.out ?_⟩
             go_light
             rw [← HX.out]
             unfold hearE
             grind
           case measure => simp [intOf]; omega)
    · go_wp2
      go_ret; exact ⟨ret_int (by rw [HE.out, firstNZ_zero]; intro j hj; exact H.out j (by omega)), by go_grown⟩

set_option maxHeartbeats 400000 in
theorem cmp_any (a b : Int) (w : World) :
    Calls Tryz.prog 113 #[.int .i64 a, .int .i64 b] w fun e w' => e = .returned (.int .i64 (cmpI a b)) ∧ w = w' := by
  go_enter Tryz.func113, Tryz.ntmps113
  go_wp2
  all_goals
    go_ret
    refine ⟨ret_int ?_, rfl⟩
    go_light
    unfold cmpI
    grind
end Go.Proofs.YtjmejfgkogjpaaaGreatDoor

namespace Go.Proofs.YtjmejfgkogjpaaaGreatDoor
open Go.RowKit Go

theorem eqIn_arr (d : Nat) (a0 a1 a2 a3 a4 b0 b1 b2 b3 b4 : Int) (w : World) : (Op.equalIn (d + 2) 45 (.agg #[.int .i64 a0, .int .i64 a1, .int .i64 a2, .int .i64 a3, .int .i64 a4]) (.agg #[.int .i64 b0, .int .i64 b1, .int .i64 b2, .int .i64 b3, .int .i64 b4])).run Tryz.prog w = .ok (decide (a0 = b0 ∧ a1 = b1 ∧ a2 = b2 ∧ a3 = b3 ∧ a4 = b4)) w := by
  obtain ⟨i, hi⟩ : ∃ i, Tryz.prog.info? 3 = some i := Option.isSome_iff_exists.1 (by kernel_rfl)
  have hc : Tryz.prog.cellsOf 3 = 1 := by kernel_rfl
  rw [run_equalIn_array w (d + 1) _ _ Tryz.underlying45 hi, hc]
  have ag := Tryz.isAgg3
  have u3 := Tryz.underlying3
  have hr : List.range 5 = [0, 1, 2, 3, 4] := rfl
  rw [hr]
  simp only [Op.eqItems, Sem.run_bind, part, ag, Result.andThen_ok]
  simp [run_equalIn_int w d 3 _ .i64 _ _ u3]
  by_cases h0 : a0 = b0
  case neg => simp [h0]
  by_cases h1 : a1 = b1
  case neg => simp [h0, h1]
  by_cases h2 : a2 = b2
  case neg => simp [h0, h1, h2]
  by_cases h3 : a3 = b3
  case neg => simp [h0, h1, h2, h3]
  by_cases h4 : a4 = b4 <;> simp [h0, h1, h2, h3, h4]

theorem eqIn_gr (d : Nat) (a b : Gr) (w : World) : (Op.equalIn (d + 3) 47 a.v b.v).run Tryz.prog w = .ok (decide (a = b)) w := by
  have hS : Tryz.prog.underlying 47 = some (.struct (Tryz.prog.fieldsOf 47)) := by kernel_rfl
  have hp : Tryz.prog.stoodInHeld 47 = false := by kernel_rfl
  rw [run_equalIn_struct w (d + 2) 47 _ _ hS hp]
  have ag := Tryz.isAgg3
  have ah := Tryz.isAgg45
  have zh := Tryz.sizeOf45
  have u3 := Tryz.underlying3
  simp only [Program.fieldsOf, Tryz.underlying47]
  simp [Op.eqFields, part, ag, ah, zh, run_equalIn_int w (d + 1) 3 _ .i64 _ _ u3, eqIn_arr d]
  obtain ⟨n, h0, h1, h2, h3, h4⟩ := a
  obtain ⟨m, g0, g1, g2, g3, g4⟩ := b
  by_cases hn : n = m
  case neg => simp [hn]
  by_cases hh : h0 = g0 ∧ h1 = g1 ∧ h2 = g2 ∧ h3 = g3 ∧ h4 = g4 <;> simp [hn, hh]

theorem eqIn_rd (d : Nat) (a b : Rd) (w : World) : (Op.equalIn (d + 4) 49 a.v b.v).run Tryz.prog w = .ok (decide (a = b)) w := by
  have hS : Tryz.prog.underlying 49 = some (.struct (Tryz.prog.fieldsOf 49)) := by kernel_rfl
  have hp : Tryz.prog.stoodInHeld 49 = false := by kernel_rfl
  rw [run_equalIn_struct w (d + 3) 49 _ _ hS hp]
  have ag := Tryz.isAgg3
  have ah := Tryz.isAgg47
  have zh := Tryz.sizeOf47
  have u3 := Tryz.underlying3
  have hg := eqIn_gr d a.g b.g w
  simp only [Program.fieldsOf, Tryz.underlying49]
  simp [Op.eqFields, part, ag, ah, zh, run_equalIn_int w (d + 2) 3 _ .i64 _ _ u3, hg]
  obtain ⟨ga, fa⟩ := a
  obtain ⟨gb, fb⟩ := b
  by_cases hn : ga = gb
  case neg => simp [hn]
  by_cases hh : fa = fb <;> simp [hn, hh]

theorem eql_gr (a b : Gr) (w : World) : (binOp .eql 47 a.v b.v).run Tryz.prog w = .ok (.bool (decide (a = b))) w := by
  rw [run_eql_struct, eqIn_gr 9997]; rfl
theorem neq_gr (a b : Gr) (w : World) : (binOp .neq 47 a.v b.v).run Tryz.prog w = .ok (.bool (!decide (a = b))) w := by
  rw [run_neq_struct, eqIn_gr 9997]; rfl
theorem eql_rd (a b : Rd) (w : World) : (binOp .eql 49 a.v b.v).run Tryz.prog w = .ok (.bool (decide (a = b))) w := by
  rw [run_eql_struct, eqIn_rd 9996]; rfl

theorem cmpI_self (a : Int) : cmpI a a = 0 := by unfold cmpI; grind
theorem cmpI_zero {a b : Int} (h : cmpI a b = 0) : a = b := by unfold cmpI at h; grind
theorem graphC_self (a : Gr) : graphC a a = 0 := by
  unfold graphC; rw [cmpI_self]; simp; exact firstNZ_zero _ _ (fun j _ => cmpI_self _)
theorem hear_cell (g : Gr) (k : Nat) (hk : k < 5) (w : World) (B : Nat) (hw : w.heap[B]? = some (.cells #[.int .i64 g.n, .int .i64 g.h0, .int .i64 g.h1, .int .i64 g.h2, .int .i64 g.h3, .int .i64 g.h4] 47)) :
    w.cell? ⟨B, 1 + k, none⟩ = some (.int .i64 (g.hear k)) := by
  have : k = 0 ∨ k = 1 ∨ k = 2 ∨ k = 3 ∨ k = 4 := by omega
  rcases this with h | h | h | h | h <;> subst h <;> simp [World.cell?, hw, Gr.hear]

set_option maxHeartbeats 1000000 in
theorem roundCheck_any (r : Rd) (w : World) :
    Calls Tryz.prog 63 #[r.v] w fun e w' => e = .returned (.int .i64 (roundE r)) ∧ Below w.heap.size w w' := by
  obtain ⟨⟨n, h0, h1, h2, h3, h4⟩, f⟩ := r
  go_enter Tryz.func63, Tryz.ntmps63
  go_wp2_with (first
    | (go_at_call 106; refine (graphCheck_any ⟨_, _, _, _, _, _⟩ _).mono ?_; rintro e w1 ⟨rfl, hb⟩; obtain ⟨hc, hf⟩ := bcell hb)
    | (go_at_call 107; refine (procsetCheck_any _ _ _).mono ?_; rintro e w2 ⟨rfl, rfl⟩))
  all_goals
    go_ret
    refine ⟨ret_int ?_, ?_⟩
    · go_light
      unfold roundE
      grind
    · exact ext_trans (by go_grown) hb

theorem roundC_self (a : Rd) : roundC a a = 0 := by
  unfold roundC; rw [graphC_self, cmpI_self]; simp
theorem hear_ext {a b : Gr} (hn : a.n = b.n) (h : ∀ j, j < 5 → cmpI (a.hear j) (b.hear j) = 0) : a = b := by
  obtain ⟨n, h0, h1, h2, h3, h4⟩ := a
  obtain ⟨m, g0, g1, g2, g3, g4⟩ := b
  have e0 := cmpI_zero (h 0 (by omega)); have e1 := cmpI_zero (h 1 (by omega)); have e2 := cmpI_zero (h 2 (by omega)); have e3 := cmpI_zero (h 3 (by omega)); have e4 := cmpI_zero (h 4 (by omega))
  simp [Gr.hear] at e0 e1 e2 e3 e4 hn
  simp [e0, e1, e2, e3, e4, hn]
theorem graphC_zero {a b : Gr} (h : graphC a b = 0) : a = b := by
  unfold graphC at h
  by_cases hc : cmpI a.n b.n = 0
  · rw [if_neg (by simpa using hc)] at h
    exact hear_ext (cmpI_zero hc) (firstNZ_all h)
  · rw [if_pos hc] at h; exact absurd h hc

end Go.Proofs.YtjmejfgkogjpaaaGreatDoor

namespace Go.Proofs.YtjmejfgkogjpaaaGreatDoor
open Go.RowKit Go

set_option maxHeartbeats 1000000 in
theorem slicesEqual_any (va vb : Value) (a b : List Int) (w : World) (ha : IsInts w va a) (hb : IsInts w vb b) :
    Calls Tryz.prog 14 #[va, vb] w fun e w' => e = .returned (.bool (eqV a b)) ∧ Below w.heap.size w w' := by
  obtain ⟨pa, ca, rfl, la1, la2, ea⟩ := ha.at
  obtain ⟨pb, cb, rfl, lb1, lb2, eb⟩ := hb.at
  clear ha hb
  have EA := Lib.hid ea; clear ea
  have EB := Lib.hid eb; clear eb
  by_cases hl : a.length = b.length
  · have hl1 : ((a.length : Int) != (b.length : Int)) = false := by simp [hl]
    have HL := Lib.hid hl; clear hl
    go_enter Tryz.func14, Tryz.ntmps14
    go_wp2
    go_loopw [13] (fun i wr => Below w.heap.size w wr ∧ ∃ k : Nat, k ≤ a.length ∧ i = .int .i64 k ∧ ∀ j, j < k → a.getD j 0 = b.getD j 0) (fun i _ => a.length - (intOf i).toNat)
    case atStart => exact ⟨Below.refl _ _, 0, by omega, rfl, by simp⟩
    case round =>
      obtain ⟨hbr, k, hk, rfl, hinv⟩ := hrel
      have H := Lib.hid hinv; clear hinv
      by_cases hlt : k < a.length
      · obtain ⟨b1, o1, rfl, h1⟩ := EA.out k hlt
        have hlt2 : k < b.length := by have := HL.out; omega
        obtain ⟨b2, o2, rfl, h2⟩ := EB.out k hlt2
        obtain ⟨x, hx⟩ : ∃ x, x = a[k] := ⟨_, rfl⟩
        obtain ⟨y, hy⟩ : ∃ y, y = b[k] := ⟨_, rfl⟩
        rw [← hx, Nat.mul_one] at h1
        rw [← hy, Nat.mul_one] at h2
        have c1 : ∀ n, (wr.drewN n).cell? ⟨b1, o1 + k, none⟩ = some (.int .i64 x) := fun n => cell_up hbr h1.1
        have c2 : ∀ n, (wr.drewN n).cell? ⟨b2, o2 + k, none⟩ = some (.int .i64 y) := fun n => cell_up hbr h2.1
        have HX := Lib.hid hx; clear hx
        have HY := Lib.hid hy; clear hy
        go_wp2
        go_quiet (fail)
        go_wp2
        · have ht : (x != y) = true := by assumption
          go_ret
          refine ⟨ret_bool ?_, below_drewN hbr _⟩
          go_light
          unfold eqV
          simp at ht ⊢
          intro h; subst h; exact ht (HX.out.trans HY.out.symm)
        · have ht : (x != y) = false := by assumption
          go_roundw
          case rel =>
            refine ⟨below_drewN hbr _, k + 1, by omega, by go_num, below_succ H.out ?_⟩
            rw [getD_of_lt 0 hlt, getD_of_lt 0 hlt2, ← HX.out, ← HY.out]; simpa using ht
          case measure => simp [intOf]; omega
      · go_wp2
        go_ret
        refine ⟨ret_bool ?_, hbr⟩
        unfold eqV
        simp
        refine List.ext_getElem HL.out fun i h1 h2 => ?_
        have := H.out i (by omega)
        rwa [getD_of_lt 0 h1, getD_of_lt 0 h2] at this
  · have hl1 : ((a.length : Int) != (b.length : Int)) = true := by simp; omega
    go_enter Tryz.func14, Tryz.ntmps14
    go_wp2
    go_ret
    exact ⟨ret_bool (by unfold eqV; simp; intro h; exact hl (by rw [h])), Below.refl _ _⟩


theorem ordV_step {a b : List Int} {k : Nat} (h1 : k < a.length) (h2 : k < b.length) (hO : ordV a b = ordV (a.drop k) (b.drop k)) : ordV a b = if cmpI a[k] b[k] = 0 then ordV (a.drop (k + 1)) (b.drop (k + 1)) else cmpI a[k] b[k] := by
  rw [hO, drop_cons h1, drop_cons h2, ordV]
  unfold cmpI
  grind

set_option maxHeartbeats 1000000 in
theorem slicesCompare_any (va vb : Value) (a b : List Int) (w : World) (ha : IsInts w va a) (hb : IsInts w vb b) :
    Calls Tryz.prog 114 #[va, vb] w fun e w' => e = .returned (.int .i64 (ordV a b)) ∧ Below w.heap.size w w' := by
  obtain ⟨pa, ca, rfl, la1, la2, ea⟩ := ha.at
  obtain ⟨pb, cb, rfl, lb1, lb2, eb⟩ := hb.at
  clear ha hb
  have EA := Lib.hid ea; clear ea
  have EB := Lib.hid eb; clear eb
  go_enter Tryz.func114, Tryz.ntmps114
  go_wp2
  go_loop [11] (fun i => ∃ k : Nat, k ≤ a.length ∧ i = .int .i64 k ∧ ordV a b = ordV (a.drop k) (b.drop k)) (fun i => a.length - (intOf i).toNat)
  case atStart => exact ⟨0, by omega, rfl, by simp⟩
  case round =>
    obtain ⟨k, hk, rfl, hinv⟩ := hrel
    have H := Lib.hid hinv; clear hinv
    by_cases hlt : k < a.length
    · obtain ⟨b1, o1, rfl, h1⟩ := EA.out k hlt
      obtain ⟨x, hx⟩ : ∃ x, x = a[k] := ⟨_, rfl⟩
      rw [← hx, Nat.mul_one] at h1
      have c1 := h1.1
      have HX := Lib.hid hx; clear hx h1
      by_cases hlt2 : k < b.length
      · obtain ⟨b2, o2, rfl, h2⟩ := EB.out k hlt2
        obtain ⟨y, hy⟩ : ∃ y, y = b[k] := ⟨_, rfl⟩
        rw [← hy, Nat.mul_one] at h2
        have c2 := h2.1
        have HY := Lib.hid hy; clear hy h2
        have HS := ordV_step hlt hlt2 H.out
        rw [← HX.out, ← HY.out] at HS
        have HS' := Lib.hid HS; clear HS
        go_wp2_with (go_at_call 113; refine (cmp_any _ _ _).mono ?_; rintro e w' ⟨rfl, rfl⟩)
        · have ht : (cmpI x y != 0) = true := by assumption
          go_ret
          exact ⟨ret_int (by rw [HS'.out, if_neg (by simpa using ht)]), Below.refl _ _⟩
        · have ht : (cmpI x y != 0) = false := by assumption
          go_round
          case rel => exact ⟨k + 1, by omega, by go_num, by rw [HS'.out, if_pos (by simpa using ht)]⟩
          case measure => simp [intOf]; omega
      · go_wp2
        go_ret
        refine ⟨ret_int ?_, Below.refl _ _⟩
        rw [H.out, drop_cons hlt, List.drop_of_length_le (l := b) (by omega)]; rfl
    · have HR : Hid (ordV a b = if a.length < b.length then -1 else 0) := by
        have h : ordV a b = if a.length < b.length then -1 else 0 := by
          rw [H.out, List.drop_of_length_le (by omega), ordV_nil_left, List.length_drop]
          grind
        exact h
      go_wp2
      all_goals
        go_ret
        refine ⟨ret_int ?_, Below.refl _ _⟩
        rw [HR.out]
        go_light
        grind

set_option maxHeartbeats 1000000 in
theorem indexFuncInts_any (g : Nat) (lb : Array Value) (eg : ∀ args w, (callFunc g args).run Tryz.prog w = .ok (.enter g args) w) (v : Value) (l : List Int) (p : Nat → Bool) (w : World) (hv : IsInts w v l)
    (hp : ∀ i (hi : i < l.length)  W, Below w.heap.size w W → Calls Tryz.prog g (#[.int .i64 l[i]] ++ lb) W fun e W' => e = .returned (.bool (p i)) ∧ Below W.heap.size W W') :
    Calls Tryz.prog 59 #[v, .func (.func g) #[] lb] w fun e w' => e = .returned (.int .i64 (firstIx l.length p)) ∧ Below w.heap.size w w' := by
  obtain ⟨pa, ca, rfl, la1, la2, ea⟩ := hv.at
  clear hv
  have EA := Lib.hid ea; clear ea
  have HP := Lib.hid hp; clear hp
  go_enter Tryz.func59, Tryz.ntmps59
  go_wp2
  go_loopw [8] (fun i wr => Below w.heap.size w wr ∧ ∃ k : Nat, k ≤ l.length ∧ i = .int .i64 k ∧ ∀ j, j < k → p j = false) (fun i _ => l.length - (intOf i).toNat)
  case atStart => exact ⟨Below.refl _ _, 0, by omega, rfl, by simp⟩
  case round =>
    obtain ⟨hbr, k, hk, rfl, hinv⟩ := hrel
    have H := Lib.hid hinv; clear hinv
    by_cases hlt : k < l.length
    · obtain ⟨b1, o1, rfl, h1⟩ := EA.out k hlt
      rw [Nat.mul_one] at h1
      have c1 := cell_up hbr h1.1
      have hcall := HP.out k hlt wr hbr
      clear h1
      generalize l[k] = x at c1 hcall
      cases hpk : p k with
      | true =>
        rw [hpk] at hcall
        have HCALL := Lib.hid hcall; clear hcall
        have HPK := Lib.hid hpk; clear hpk
        go_wp2_with fail
        refine HCALL.out.mono ?_
        rintro e w1 ⟨rfl, hb1⟩
        go_wp2_with fail
        go_ret
        exact ⟨ret_int (firstIx_at _ _ _ hlt H.out HPK.out).symm, ext_trans hbr hb1⟩
      | false =>
        rw [hpk] at hcall
        have HCALL := Lib.hid hcall; clear hcall
        have HPK := Lib.hid hpk; clear hpk
        go_wp2_with fail
        refine HCALL.out.mono ?_
        rintro e w1 ⟨rfl, hb1⟩
        go_wp2_with fail
        go_roundw
        case rel => exact ⟨ext_trans hbr hb1, k + 1, by omega, by go_num, below_succ H.out HPK.out⟩
        case measure => simp [intOf]; omega
    · go_wp2
      go_ret
      exact ⟨ret_int (by rw [firstIx_none]; intro j hj; exact H.out j (by omega)), hbr⟩

set_option maxHeartbeats 1000000 in
theorem indexFuncVecs_any (g : Nat) (lb : Array Value) (eg : ∀ args w, (callFunc g args).run Tryz.prog w = .ok (.enter g args) w) (v : Value) (l : List (List Int)) (p : Nat → Bool) (w : World) (hv : IsVecs w v l)
    (hp : ∀ i (hi : i < l.length) (x : Value) (_ : IsInts w x l[i]) W, Below w.heap.size w W → Calls Tryz.prog g (#[x] ++ lb) W fun e W' => e = .returned (.bool (p i)) ∧ Below W.heap.size W W') :
    Calls Tryz.prog 108 #[v, .func (.func g) #[] lb] w fun e w' => e = .returned (.int .i64 (firstIx l.length p)) ∧ Below w.heap.size w w' := by
  obtain ⟨pa, ca, rfl, la1, la2, ea⟩ := hv.at
  clear hv
  have EA := Lib.hid ea; clear ea
  have HP := Lib.hid hp; clear hp
  go_enter Tryz.func108, Tryz.ntmps108
  go_wp2
  go_loopw [8] (fun i wr => Below w.heap.size w wr ∧ ∃ k : Nat, k ≤ l.length ∧ i = .int .i64 k ∧ ∀ j, j < k → p j = false) (fun i _ => l.length - (intOf i).toNat)
  case atStart => exact ⟨Below.refl _ _, 0, by omega, rfl, by simp⟩
  case round =>
    obtain ⟨hbr, k, hk, rfl, hinv⟩ := hrel
    have H := Lib.hid hinv; clear hinv
    by_cases hlt : k < l.length
    · obtain ⟨b1, o1, rfl, h1⟩ := EA.out k hlt
      rw [Nat.mul_one] at h1
      obtain ⟨x, hc1, hx⟩ := h1
      have c1 := cell_up hbr hc1
      have hcall := HP.out k hlt x hx wr hbr
      clear hc1 hx
      cases hpk : p k with
      | true =>
        rw [hpk] at hcall
        have HCALL := Lib.hid hcall; clear hcall
        have HPK := Lib.hid hpk; clear hpk
        go_wp2_with fail
        refine HCALL.out.mono ?_
        rintro e w1 ⟨rfl, hb1⟩
        go_wp2_with fail
        go_ret
        exact ⟨ret_int (firstIx_at _ _ _ hlt H.out HPK.out).symm, ext_trans hbr hb1⟩
      | false =>
        rw [hpk] at hcall
        have HCALL := Lib.hid hcall; clear hcall
        have HPK := Lib.hid hpk; clear hpk
        go_wp2_with fail
        refine HCALL.out.mono ?_
        rintro e w1 ⟨rfl, hb1⟩
        go_wp2_with fail
        go_roundw
        case rel => exact ⟨ext_trans hbr hb1, k + 1, by omega, by go_num, below_succ H.out HPK.out⟩
        case measure => simp [intOf]; omega
    · go_wp2
      go_ret
      exact ⟨ret_int (by rw [firstIx_none]; intro j hj; exact H.out j (by omega)), hbr⟩

set_option maxHeartbeats 1000000 in
theorem containsFuncInts_any (g : Nat) (lb : Array Value) (eg : ∀ args w, (callFunc g args).run Tryz.prog w = .ok (.enter g args) w) (v : Value) (l : List Int) (p : Nat → Bool) (w : World) (hv : IsInts w v l)
    (hp : ∀ i (hi : i < l.length)  W, Below w.heap.size w W → Calls Tryz.prog g (#[.int .i64 l[i]] ++ lb) W fun e W' => e = .returned (.bool (p i)) ∧ Below W.heap.size W W') :
    Calls Tryz.prog 34 #[v, .func (.func g) #[] lb] w fun e w' => e = .returned (.bool (anyLt l.length p)) ∧ Below w.heap.size w w' := by
  have hc := indexFuncInts_any g lb eg v l p w hv hp
  have HA := Lib.hid (firstIx_any l.length p)
  generalize firstIx l.length p = r at hc HA
  have HC := Lib.hid hc; clear hc hp
  go_enter Tryz.func34, Tryz.ntmps34
  go_wp2_with fail
  refine HC.out.mono ?_
  rintro e w1 ⟨rfl, hb1⟩
  go_wp2_with fail
  go_ret
  exact ⟨ret_bool HA.out, hb1⟩

set_option maxHeartbeats 1000000 in
theorem containsFuncVecs_any (g : Nat) (lb : Array Value) (eg : ∀ args w, (callFunc g args).run Tryz.prog w = .ok (.enter g args) w) (v : Value) (l : List (List Int)) (p : Nat → Bool) (w : World) (hv : IsVecs w v l)
    (hp : ∀ i (hi : i < l.length) (x : Value) (_ : IsInts w x l[i]) W, Below w.heap.size w W → Calls Tryz.prog g (#[x] ++ lb) W fun e W' => e = .returned (.bool (p i)) ∧ Below W.heap.size W W') :
    Calls Tryz.prog 64 #[v, .func (.func g) #[] lb] w fun e w' => e = .returned (.bool (anyLt l.length p)) ∧ Below w.heap.size w w' := by
  have hc := indexFuncVecs_any g lb eg v l p w hv hp
  have HA := Lib.hid (firstIx_any l.length p)
  generalize firstIx l.length p = r at hc HA
  have HC := Lib.hid hc; clear hc hp
  go_enter Tryz.func64, Tryz.ntmps64
  go_wp2_with fail
  refine HC.out.mono ?_
  rintro e w1 ⟨rfl, hb1⟩
  go_wp2_with fail
  go_ret
  exact ⟨ret_bool HA.out, hb1⟩

end Go.Proofs.YtjmejfgkogjpaaaGreatDoor

namespace Go.Proofs.YtjmejfgkogjpaaaGreatDoor

/-- all moves with their states, in order -/
def movesFrom (s : Nat) : List (List Mv) → List (Nat × Mv)
  | [] => []
  | l :: r => l.map (fun m => (s, m)) ++ movesFrom (s + 1) r
def movesL (l : List (List Mv)) : List (Nat × Mv) := movesFrom 0 l
theorem movesFrom_length (s : Nat) (l : List (List Mv)) : (movesFrom s l).length = movesN l := by
  induction l generalizing s with
  | nil => rfl
  | cons x r ih => simp [movesFrom, movesN, ih]
theorem movesL_length (l : List (List Mv)) : (movesL l).length = movesN l := movesFrom_length 0 l
/-- how many moves the states before s have -/
def cnt (l : List (List Mv)) (s : Nat) : Nat := movesN (l.take s)
theorem cnt_zero (l : List (List Mv)) : cnt l 0 = 0 := by simp [cnt, movesN]
theorem cnt_all (l : List (List Mv)) (s : Nat) (h : l.length ≤ s) : cnt l s = movesN l := by simp [cnt, List.take_of_length_le h]
theorem cnt_succ (l : List (List Mv)) (s : Nat) (h : s < l.length) : cnt l (s + 1) = cnt l s + l[s].length := by
  unfold cnt movesN
  rw [List.take_succ_eq_append_getElem h]
  simp only [List.map_append, List.sum_append, List.map_cons, List.map_nil, List.sum_cons, List.sum_nil, Nat.add_zero]
theorem cnt_le (l : List (List Mv)) (s : Nat) (h : s < l.length) : cnt l s + l[s].length ≤ movesN l := by
  rw [← cnt_succ l s h]
  have : movesN l = movesN (l.take (s + 1)) + movesN (l.drop (s + 1)) := by unfold movesN; rw [← List.sum_append, ← List.map_append, List.take_append_drop]
  unfold cnt
  omega
theorem movesFrom_at (t : Nat) (l : List (List Mv)) (s j : Nat) (hs : s < l.length) (hj : j < l[s].length) : (movesFrom t l)[cnt l s + j]? = some (t + s, l[s][j]) := by
  induction l generalizing t s with
  | nil => simp at hs
  | cons x r ih =>
    cases s with
    | zero =>
      simp only [List.getElem_cons_zero] at hj ⊢
      simp [movesFrom, cnt_zero, List.getElem?_append, hj]
    | succ s =>
      have hs' : s < r.length := by simpa using hs
      have hj' : j < r[s].length := by simpa using hj
      have e : cnt (x :: r) (s + 1) = x.length + cnt r s := by simp [cnt, movesN]
      rw [e]
      simp only [movesFrom, List.getElem_cons_succ]
      rw [List.getElem?_append_right (by simp; omega)]
      have : x.length + cnt r s + j - (x.map fun m => (t, m)).length = cnt r s + j := by simp; omega
      rw [this, ih (t + 1) s hs' hj']
      simp; omega
theorem movesL_at (l : List (List Mv)) (s j : Nat) (hs : s < l.length) (hj : j < l[s].length) : (movesL l)[cnt l s + j]? = some (s, l[s][j]) := by
  have := movesFrom_at 0 l s j hs hj
  rw [Nat.zero_add] at this
  exact this
def mvAt (l : List (List Mv)) (i : Nat) : Nat × Mv := (movesL l).getD i (0, default)
theorem mvAt_eq (l : List (List Mv)) (s j : Nat) (hs : s < l.length) (hj : j < l[s].length) : mvAt l (cnt l s + j) = (s, l[s][j]) := by
  unfold mvAt; rw [List.getD_eq_getElem?_getD, movesL_at l s j hs hj]; rfl

/-- the moves behind move number i -/
def nextL (a : Adv) (i : Nat) : List Mv := a.states.getD (mvAt a.states i).2.to.toNat []
def badAt (a : Adv) (i : Nat) : Bool := anyLt (nextL a i).length fun k => !insideB (mvAt a.states i).2.r.f ((nextL a i).getD k default).r.f
def growsB (a : Adv) : Bool := !anyLt (movesN a.states) (badAt a)
def advE (a : Adv) : Int :=
  if a.n < 1 ∨ 5 < a.n then 2
  else if a.states.length < 1 ∨ 256 < a.states.length ∨ 4096 < movesN a.states then 5
  else if firstNZ a.states.length (fun s => stateE a (a.states.getD s [])) ≠ 0 then firstNZ a.states.length (fun s => stateE a (a.states.getD s []))
  else if growsB a then 0 else 21
def probE (p : Pb) : Int :=
  if taskE p.t ≠ 0 then taskE p.t else if advE p.a ≠ 0 then advE p.a
  else if p.t.n ≠ p.a.n then 22 else if p.rounds < 0 ∨ 6 < p.rounds then 2 else 0


/-! ### what a state without errors says of its moves -/
theorem pset_ok {n f : Int} (h : psetE n f = 0) : 0 ≤ f ∧ f < 32 := by
  unfold psetE procsE at h
  by_cases hn : n < 1 ∨ 5 < n
  · rw [if_pos hn] at h; simp at h
  · rw [if_neg hn] at h
    simp only [ne_eq, not_true_eq_false, if_false] at h
    by_cases hf : f < 0 ∨ ¬ f / 2 ^ n.toNat = 0
    · rw [if_pos hf] at h; simp at h
    · have h0 : 0 ≤ f := by omega
      have hq : f / 2 ^ n.toNat = 0 := by omega
      have hlt : f < 2 ^ n.toNat := by
        by_cases h' : f < 2 ^ n.toNat
        · exact h'
        · have h1 : (1 : Int) ≤ f / 2 ^ n.toNat := (Int.le_ediv_iff_mul_le (Int.pow_pos (by decide))).2 (by omega)
          omega
      have hp : (2 : Int) ^ n.toNat ≤ 32 := by
        have : n = 1 ∨ n = 2 ∨ n = 3 ∨ n = 4 ∨ n = 5 := by omega
        rcases this with h | h | h | h | h <;> subst h <;> decide
      exact ⟨h0, by omega⟩
theorem move_ok {a : Adv} {l : List Mv} {j : Nat} (h : moveE a l j = 0) : (0 ≤ (l.getD j default).r.f ∧ (l.getD j default).r.f < 32) ∧ 0 ≤ (l.getD j default).to ∧ (l.getD j default).to < a.states.length := by
  unfold moveE at h
  split at h
  · omega
  · rename_i h1
    have h1' : roundE (l.getD j default).r = 0 := by simpa using h1
    have hp : psetE (l.getD j default).r.g.n (l.getD j default).r.f = 0 := by
      unfold roundE at h1'
      split at h1'
      · omega
      · exact h1'
    split at h
    · omega
    · split at h
      · omega
      · split at h
        · omega
        · exact ⟨pset_ok hp, by omega, by omega⟩
theorem states_ok {a : Adv} (h : ∀ s, s < a.states.length → stateE a (a.states.getD s []) = 0) {s j : Nat} (hs : s < a.states.length) (hj : j < a.states[s].length) :
    (0 ≤ a.states[s][j].r.f ∧ a.states[s][j].r.f < 32) ∧ 0 ≤ a.states[s][j].to ∧ a.states[s][j].to < a.states.length := by
  have h1 := h s hs
  rw [show a.states.getD s [] = a.states[s] by simp [hs]] at h1
  unfold stateE at h1
  rw [if_neg (by omega)] at h1
  have := move_ok (firstNZ_all h1 j hj)
  rwa [show a.states[s].getD j default = a.states[s][j] by simp [hj]] at this
/-- every number below movesN is that of a move of a state -/
theorem cnt_inv (l : List (List Mv)) (i : Nat) (h : i < movesN l) : ∃ s j, ∃ hs : s < l.length, ∃ _ : j < l[s].length, i = cnt l s + j := by
  have key : ∀ n, n ≤ l.length → i < cnt l n → ∃ s j, ∃ hs : s < l.length, ∃ _ : j < l[s].length, i = cnt l s + j := by
    intro n
    induction n with
    | zero => intro _ h; rw [cnt_zero] at h; omega
    | succ n ih =>
      intro hn h
      by_cases hlt : i < cnt l n
      · exact ih (by omega) hlt
      · have hn' : n < l.length := by omega
        rw [cnt_succ l n hn'] at h
        exact ⟨n, i - cnt l n, hn', by omega, by omega⟩
  exact key l.length (Nat.le_refl _) (by rw [cnt_all l _ (Nat.le_refl _)]; exact h)
theorem mvAt_ok {a : Adv} (h : ∀ s, s < a.states.length → stateE a (a.states.getD s []) = 0) {i : Nat} (hi : i < movesN a.states) :
    (0 ≤ (mvAt a.states i).2.r.f ∧ (mvAt a.states i).2.r.f < 32) ∧ 0 ≤ (mvAt a.states i).2.to ∧ (mvAt a.states i).2.to < a.states.length := by
  obtain ⟨s, j, hs, hj, rfl⟩ := cnt_inv a.states i hi
  rw [mvAt_eq a.states s j hs hj]
  exact states_ok h hs hj

end Go.Proofs.YtjmejfgkogjpaaaGreatDoor

namespace Go.Proofs.YtjmejfgkogjpaaaGreatDoor

theorem ordV_cons (x y : Int) (r s : List Int) : ordV (x :: r) (y :: s) = if cmpI x y ≠ 0 then cmpI x y else ordV r s := by
  rw [ordV]; unfold cmpI; grind
theorem firstNZ_left (n : Nat) (f : Nat → Int) : firstNZ (n + 1) f = if f 0 ≠ 0 then f 0 else firstNZ n (fun j => f (j + 1)) := by
  induction n with
  | zero => simp [firstNZ]
  | succ n ih =>
    rw [firstNZ, ih]
    conv => rhs; rw [firstNZ]
    grind
def Rd.list (r : Rd) : List Int := [r.g.n, r.g.h0, r.g.h1, r.g.h2, r.g.h3, r.g.h4, r.f]
theorem roundC_ordV (a b : Rd) : roundC a b = ordV a.list b.list := by
  unfold Rd.list roundC graphC
  rw [firstNZ_left, firstNZ_left, firstNZ_left, firstNZ_left, firstNZ_left]
  simp only [ordV_cons, firstNZ, Gr.hear]
  have h0 : ordV [] [] = 0 := rfl
  rw [h0]
  generalize cmpI a.g.n b.g.n = c0
  generalize cmpI a.g.h0 b.g.h0 = c1
  generalize cmpI a.g.h1 b.g.h1 = c2
  generalize cmpI a.g.h2 b.g.h2 = c3
  generalize cmpI a.g.h3 b.g.h3 = c4
  generalize cmpI a.g.h4 b.g.h4 = c5
  generalize cmpI a.f b.f = c6
  grind
theorem ordV_trans {a b c : List Int} (h1 : ordV a b < 0) (h2 : ordV b c < 0) : ordV a c < 0 := by
  induction a generalizing b c with
  | nil =>
    cases b with
    | nil => simp [ordV] at h1
    | cons y s =>
      cases c with
      | nil => simp [ordV] at h2
      | cons z t => simp [ordV]
  | cons x r ih =>
    cases b with
    | nil => simp [ordV] at h1
    | cons y s =>
      cases c with
      | nil => simp [ordV] at h2
      | cons z t =>
        unfold ordV at h1 h2 ⊢
        by_cases hxy : x < y
        · by_cases hyz : y < z
          · rw [if_pos (by omega)]; omega
          · rw [if_neg hyz] at h2
            by_cases hzy : z < y
            · rw [if_pos hzy] at h2; omega
            · rw [if_pos (by omega)]; omega
        · rw [if_neg hxy] at h1
          by_cases hyx : y < x
          · rw [if_pos hyx] at h1; omega
          · rw [if_neg hyx] at h1
            by_cases hyz : y < z
            · rw [if_pos (by omega)]; omega
            · rw [if_neg hyz] at h2
              by_cases hzy : z < y
              · rw [if_pos hzy] at h2; omega
              · rw [if_neg hzy] at h2
                rw [if_neg (by omega), if_neg (by omega)]
                exact ih h1 h2
theorem move_lt {a : Adv} {l : List Mv} {j : Nat} (h : moveE a l (j + 1) = 0) : roundC (l.getD j default).r (l.getD (j + 1) default).r < 0 := by
  unfold moveE at h
  rw [Nat.add_sub_cancel] at h
  grind
theorem rounds_lt {a : Adv} {l : List Mv} (h : ∀ j, j < l.length → moveE a l j = 0) : ∀ j i, i < j → j < l.length → ordV (l.getD i default).r.list (l.getD j default).r.list < 0 := by
  intro j
  induction j with
  | zero => intro i hi; omega
  | succ j ih =>
    intro i hi hj
    have h1 := move_lt (h (j + 1) hj)
    rw [roundC_ordV] at h1
    by_cases e : i = j
    · subst e; exact h1
    · exact ordV_trans (ih i (by omega) (by omega)) h1
theorem rounds_differ {a : Adv} (h : ∀ s, s < a.states.length → stateE a (a.states.getD s []) = 0) (s : Nat) (hs : s < a.states.length) (j : Nat) (hj : j < a.states[s].length) (i : Nat) (hi : i < j) : a.states[s][i].r ≠ a.states[s][j].r := by
  have h1 := h s hs
  rw [show a.states.getD s [] = a.states[s] by simp [hs]] at h1
  unfold stateE at h1
  rw [if_neg (by omega)] at h1
  have h2 := rounds_lt (firstNZ_all h1) j i hi hj
  rw [show a.states[s].getD i default = a.states[s][i] by simp [show i < a.states[s].length by omega], show a.states[s].getD j default = a.states[s][j] by simp [hj]] at h2
  intro e
  rw [e, ordV_self] at h2
  omega
theorem adv_ok {a : Adv} (h : advE a = 0) : (1 ≤ a.states.length ∧ a.states.length ≤ 256) ∧ (∀ s, s < a.states.length → stateE a (a.states.getD s []) = 0) ∧ growsB a = true ∧ 1 ≤ a.n ∧ a.n ≤ 5 := by
  unfold advE at h
  by_cases h1 : a.n < 1 ∨ 5 < a.n
  · rw [if_pos h1] at h; omega
  · rw [if_neg h1] at h
    by_cases h2 : a.states.length < 1 ∨ 256 < a.states.length ∨ 4096 < movesN a.states
    · rw [if_pos h2] at h; omega
    · rw [if_neg h2] at h
      by_cases h3 : firstNZ a.states.length (fun s => stateE a (a.states.getD s [])) = 0
      · rw [if_neg (by simpa using h3)] at h
        refine ⟨by omega, firstNZ_all h3, ?_, by omega, by omega⟩
        cases hg : growsB a with
        | true => rfl
        | false => rw [hg] at h; simp at h
      · rw [if_pos h3] at h; exact absurd h h3

/-! ### where a word leads -/
def toS (a : Adv) (s : Int) (r : Rd) : Int := (((a.states.getD s.toNat []).find? fun m => decide (r = m.r)).map (·.to)).getD (-1)
def afterS (a : Adv) (s : Int) : List Rd → Int
  | [] => s
  | r :: rest => if toS a s r < 0 then -1 else afterS a (toS a s r) rest
theorem toS_range {a : Adv} (h : ∀ s, s < a.states.length → stateE a (a.states.getD s []) = 0) (s : Nat) (hs : s < a.states.length) (r : Rd) : toS a s r = -1 ∨ (0 ≤ toS a s r ∧ toS a s r < a.states.length) := by
  unfold toS
  rw [Int.toNat_natCast, show a.states.getD s [] = a.states[s] by simp [hs]]
  cases hf : a.states[s].find? (fun m => decide (r = m.r)) with
  | none => left; rfl
  | some m =>
    right
    have hm := List.mem_of_find?_eq_some hf
    obtain ⟨j, hj, rfl⟩ := List.getElem_of_mem hm
    exact (states_ok h hs hj).2

end Go.Proofs.YtjmejfgkogjpaaaGreatDoor

namespace Go.Proofs.YtjmejfgkogjpaaaGreatDoor

structure St where
  rd : Int
  pr : Int
  h0 : Int
  h1 : Int
  h2 : Int
  h3 : Int
  h4 : Int
  to : Int
structure Mac where
  n : Int
  rounds : Int
  ins : Int
  outs : Int
  first : List (List Int)
  syms : List (List (List (List Int)))
  steps : List St
  out : List (List (List Int))
instance : Inhabited St := ⟨⟨0, 0, 0, 0, 0, 0, 0, 0⟩⟩
def St.hear (s : St) (k : Nat) : Int := match k with | 0 => s.h0 | 1 => s.h1 | 2 => s.h2 | 3 => s.h3 | 4 => s.h4 | _ => 0
def St.heard (s : St) : List Int := [s.h0, s.h1, s.h2, s.h3, s.h4]

def inB (n lo hi : Int) : Bool := decide (lo ≤ n) && decide (n ≤ hi)
def allB (l : List Int) (lo hi : Int) : Bool := !anyLt l.length fun i => !inB (l.getD i 0) lo hi
/-- the symbols of a sender in a round have the right lengths -/
def symB (o : List (List Int)) (p : Nat) (l : List (List Int)) : Bool := anyLt l.length fun q => decide ((l.getD q []).length ≠ if p = q then 0 else (o.getD p []).length)
def sendB (n : Int) (o : List (List Int)) (l : List (List (List Int))) (p : Nat) : Bool := decide (((l.getD p []).length : Int) ≠ n) || symB o p (l.getD p [])
def roundB (m : Mac) (k : Nat) : Bool := decide (((m.syms.getD k []).length : Int) ≠ m.n) || anyLt (m.syms.getD k []).length (sendB m.n (m.out.getD k []) (m.syms.getD k []))
def shapedB (m : Mac) : Bool :=
  if (m.first.length : Int) ≠ m.n ∨ (m.out.length : Int) ≠ m.rounds + 1 ∨ (m.syms.length : Int) ≠ m.rounds then false
  else if anyLt m.first.length (fun i => decide (((m.first.getD i []).length : Int) ≠ m.ins)) then false
  else if anyLt m.out.length (fun i => decide (((m.out.getD i []).length : Int) ≠ m.n)) then false
  else !anyLt m.syms.length (roundB m)
def rangedB (m : Mac) : Bool :=
  if anyLt m.first.length (fun p => !allB (m.first.getD p []) (-1) ((((m.out.getD 0 []).getD p []).length : Int) - 1)) then false
  else if anyLt m.out.length (fun k => anyLt (m.out.getD k []).length fun p => !allB ((m.out.getD k []).getD p []) (-1) (m.outs - 1)) then false
  else !anyLt m.syms.length (fun k => anyLt (m.syms.getD k []).length fun p => anyLt ((m.syms.getD k []).getD p []).length fun q => !allB (((m.syms.getD k []).getD p []).getD q []) 0 1048576)
def statesN (m : Mac) : Nat := (m.out.map fun l => (l.map List.length).sum).sum
/-- the number of states of a process behind some rounds -/
def outN (m : Mac) (k p : Int) : Int := (((m.out.getD k.toNat []).getD p.toNat []).length : Int)
def headBad (m : Mac) (s : St) : Bool := !inB s.rd 0 (m.rounds - 1) || !inB s.pr 0 (m.n - 1) || !inB s.to 0 (outN m (s.rd + 1) s.pr - 1)
def hearBad (m : Mac) (s : St) (q : Nat) : Bool := if (q : Int) = s.pr then !inB (s.hear q) 0 (outN m s.rd q - 1) else !inB (s.hear q) (-1) 1048576
def stepE (m : Mac) (s : St) : Int :=
  if headBad m s then 2 else if !allB (s.heard.drop m.n.toNat) (-1) (-1) then 3 else if anyLt m.n.toNat (hearBad m s) then 2 else 0
end Go.Proofs.YtjmejfgkogjpaaaGreatDoor

namespace Go.Proofs.YtjmejfgkogjpaaaGreatDoor
open Go.RowKit Go Go.Shelf

abbrev IsV3 := IsSl 1 VecsAt
abbrev V3At := SlAt 1 VecsAt
theorem up_v3 : Up V3At := up_slAt up_vecs
abbrev IsV4 := IsSl 1 V3At
def StepAt (w : World) (b o : Nat) (s : St) : Prop :=
  IntAt w b o s.rd ∧ IntAt w b (o + 1) s.pr ∧ IntAt w b (o + 2) s.h0 ∧ IntAt w b (o + 3) s.h1 ∧ IntAt w b (o + 4) s.h2 ∧ IntAt w b (o + 5) s.h3 ∧ IntAt w b (o + 6) s.h4 ∧ IntAt w b (o + 7) s.to
theorem up_step : Up StepAt := fun _ _ _ _ _ hb ⟨h0, h1, h2, h3, h4, h5, h6, h7⟩ =>
  ⟨up_int _ _ _ _ _ hb h0, up_int _ _ _ _ _ hb h1, up_int _ _ _ _ _ hb h2, up_int _ _ _ _ _ hb h3, up_int _ _ _ _ _ hb h4, up_int _ _ _ _ _ hb h5, up_int _ _ _ _ _ hb h6, up_int _ _ _ _ _ hb h7⟩
abbrev IsSteps := IsSl 8 StepAt
abbrev macC (m : Mac) (vf vy vt vo : Value) : Array Value := #[.int .i64 m.n, .int .i64 m.rounds, .int .i64 m.ins, .int .i64 m.outs, vf, vy, vt, vo]

set_option maxHeartbeats 400000 in
theorem in_any (n lo hi : Int) (w : World) :
    Calls Tryz.prog 69 #[.int .i64 n, .int .i64 lo, .int .i64 hi] w fun e w' => e = .returned (.bool (inB n lo hi)) ∧ w = w' := by
  by_cases h1 : lo ≤ n
  · go_enter Tryz.func69, Tryz.ntmps69
    go_wp2
    go_ret
    refine ⟨ret_bool ?_, rfl⟩
    unfold inB
    simp [h1]
  · have hd : decide (lo ≤ n) = false := decide_eq_false h1
    have HR : Hid (inB n lo hi = false) := by (have h : inB n lo hi = false := by (unfold inB; rw [hd]; rfl)); exact h
    go_enter Tryz.func69, Tryz.ntmps69
    go_wp2
    go_ret
    exact ⟨ret_bool HR.out.symm, rfl⟩

set_option maxHeartbeats 400000 in
theorem all1_any (n lo hi : Int) (B C : Nat) (W : World) (h1 : W.cell? ⟨B, 0, none⟩ = some (.int .i64 lo)) (h2 : W.cell? ⟨C, 0, none⟩ = some (.int .i64 hi)) :
    Calls Tryz.prog 79 #[.int .i64 n, .pointer (some ⟨B, 0, none⟩), .pointer (some ⟨C, 0, none⟩)] W fun e W' => e = .returned (.bool (!inB n lo hi)) ∧ Below W.heap.size W W' := by
  go_enter Tryz.func79, Tryz.ntmps79
  go_wp2_with fail
  refine (in_any _ _ _ _).mono ?_
  rintro e w1 ⟨rfl, rfl⟩
  go_wp2_with fail
  go_ret
  exact ⟨rfl, Below.refl _ _⟩

set_option maxHeartbeats 400000 in
theorem all_any (v : Value) (l : List Int) (lo hi : Int) (w : World) (hv : IsInts w v l) :
    Calls Tryz.prog 42 #[v, .int .i64 lo, .int .i64 hi] w fun e w' => e = .returned (.bool (allB l lo hi)) ∧ Below w.heap.size w w' := by
  have hb0 : Below w.heap.size w ((w.alloc (.cells #[.int .i64 lo] 3)).alloc (.cells #[.int .i64 hi] 3)) := by go_grown
  have hcon := containsFuncInts_any 79 #[.pointer (some ⟨w.heap.size, 0, none⟩), .pointer (some ⟨w.heap.size + 1, 0, none⟩)] (enters_of Tryz.func79 (by kernel_rfl) rfl) v l (fun i => !inB (l.getD i 0) lo hi)
    ((w.alloc (.cells #[.int .i64 lo] 3)).alloc (.cells #[.int .i64 hi] 3)) (hv.up up_int hb0) (fun i hi' W hW => by
      rw [getD_of_lt 0 hi']
      refine all1_any _ _ _ _ _ _ (cell_up hW (by rw [cell_block (alloc_old _ (alloc_new w _))]; rfl)) (cell_up hW (by rw [cell_block (by simpa using alloc_new (w.alloc (.cells #[.int .i64 lo] 3)) (.cells #[.int .i64 hi] 3))]; rfl)))
  have HV : Hid (allB l lo hi = !anyLt l.length fun i => !inB (l.getD i 0) lo hi) := by exact rfl
  generalize (anyLt l.length fun i => !inB (l.getD i 0) lo hi) = r at hcon HV
  have HC := Lib.hid hcon; clear hcon
  obtain ⟨pa, ca, rfl, la1, la2, _⟩ := hv.at
  clear hv
  go_enter Tryz.func42, Tryz.ntmps42
  go_wp2_with fail
  refine HC.out.mono ?_
  rintro e w1 ⟨rfl, hb1⟩
  go_wp2_with fail
  go_ret
  exact ⟨ret_bool HV.out.symm, ext_trans hb0 hb1⟩
end Go.Proofs.YtjmejfgkogjpaaaGreatDoor

namespace Go.Proofs.YtjmejfgkogjpaaaGreatDoor
open Go.RowKit Go Go.Shelf

theorem anyLt_at {n k : Nat} {p : Nat → Bool} (hk : k < n) (h : p k = true) : anyLt n p = true := anyLt_true n k p hk h
theorem anyLt_none {n : Nat} {p : Nat → Bool} (h : ∀ j, j < n → p j = false) : anyLt n p = false := anyLt_false n p h

set_option maxRecDepth 100000 in
set_option maxHeartbeats 4000000 in
theorem shaped_any (m : Mac) (vf vy vt vo : Value) (w : World) (hr : 0 ≤ m.rounds ∧ m.rounds ≤ 100) (hf : IsVecs w vf m.first) (hy : IsV4 w vy m.syms) (ho : IsV3 w vo m.out) :
    Calls Tryz.prog 70 #[.agg (macC m vf vy vt vo)] w fun e w' => e = .returned (.bool (shapedB m)) ∧ Below w.heap.size w w' := by
  obtain ⟨pf, cf, rfl, lf1, lf2, ef⟩ := hf.at
  obtain ⟨py, cy, rfl, ly1, ly2, ey⟩ := hy.at
  obtain ⟨po, co, rfl, lo1, lo2, eo⟩ := ho.at
  clear hf hy ho
  have EF := Lib.hid ef; clear ef
  have EY := Lib.hid ey; clear ey
  have EO := Lib.hid eo; clear eo
  obtain ⟨hr0, hr1⟩ := hr
  by_cases h1 : (m.first.length : Int) = m.n
  case neg =>
    have d1 : ((m.first.length : Int) != m.n) = true := by simpa using h1
    have HD : Hid (shapedB m = false) := by (have h : shapedB m = false := by (unfold shapedB; rw [if_pos (Or.inl h1)])); exact h
    go_enter Tryz.func70, Tryz.ntmps70
    go_wp2
    go_ret
    exact ⟨ret_bool HD.out.symm, by go_grown⟩
  have d1 : ((m.first.length : Int) != m.n) = false := by simpa using h1
  by_cases h2 : (m.out.length : Int) = m.rounds + 1
  case neg =>
    have d2 : ((m.out.length : Int) != m.rounds + 1) = true := by simpa using h2
    have HD : Hid (shapedB m = false) := by (have h : shapedB m = false := by (unfold shapedB; rw [if_pos (Or.inr (Or.inl h2))])); exact h
    clear h1 h2
    go_enter Tryz.func70, Tryz.ntmps70
    go_wp2
    go_ret
    exact ⟨ret_bool HD.out.symm, by go_grown⟩
  have d2 : ((m.out.length : Int) != m.rounds + 1) = false := by simpa using h2
  by_cases h3 : (m.syms.length : Int) = m.rounds
  case neg =>
    have d3 : ((m.syms.length : Int) != m.rounds) = true := by simpa using h3
    have HD : Hid (shapedB m = false) := by (have h : shapedB m = false := by (unfold shapedB; rw [if_pos (Or.inr (Or.inr h3))])); exact h
    clear h1 h2 h3
    go_enter Tryz.func70, Tryz.ntmps70
    go_wp2
    go_ret
    exact ⟨ret_bool HD.out.symm, by go_grown⟩
  have d3 : ((m.syms.length : Int) != m.rounds) = false := by simpa using h3
  have HD : Hid (shapedB m = if anyLt m.first.length (fun i => decide (((m.first.getD i []).length : Int) ≠ m.ins)) then false
      else if anyLt m.out.length (fun i => decide (((m.out.getD i []).length : Int) ≠ m.n)) then false else !anyLt m.syms.length (roundB m)) := by
    have h : shapedB m = if anyLt m.first.length (fun i => decide (((m.first.getD i []).length : Int) ≠ m.ins)) then false
      else if anyLt m.out.length (fun i => decide (((m.out.getD i []).length : Int) ≠ m.n)) then false else !anyLt m.syms.length (roundB m) := by
      unfold shapedB; rw [if_neg (by omega)]
    exact h
  have HOS : Hid (m.out.length = m.syms.length + 1) := by (have h : m.out.length = m.syms.length + 1 := by omega); exact h
  clear h1 h2 h3
  go_enter Tryz.func70, Tryz.ntmps70
  go_wp2
  refine wp_gen (fun W => Below w.heap.size w W ∧ W.heap[w.heap.size]? = some (.cells (macC m (.slice pf m.first.length cf) (.slice py m.syms.length cy) vt (.slice po m.out.length co)) 27)) ⟨by go_grown, alloc_new _ _⟩ (fun W0 hW0 => ?_)
  obtain ⟨hb0, hA0⟩ := hW0
  have t1 := cell_block hA0
  clear hA0
  go_loop [40] (fun i => ∃ k : Nat, k ≤ m.first.length ∧ i = .int .i64 k ∧ ∀ j, j < k → decide (((m.first.getD j []).length : Int) ≠ m.ins) = false) (fun i => m.first.length - (intOf i).toNat)
  case atStart => exact ⟨0, by omega, rfl, by simp⟩
  case round =>
    obtain ⟨k, hk, rfl, hinv⟩ := hrel
    have H := Lib.hid hinv; clear hinv
    by_cases hlt : k < m.first.length
    · obtain ⟨b1, o1, rfl, x, cx, hx⟩ := EF.out k hlt
      rw [Nat.mul_one] at cx
      have c1 := cell_up hb0 cx
      obtain ⟨px, qx, rfl, lx1, lx2, _⟩ := hx.at
      clear hx cx
      have HG := Lib.hid (getD_of_lt [] hlt)
      generalize m.first[k] = l at c1 lx1 lx2 HG
      by_cases hq : (l.length : Int) = m.ins
      · have dq : ((l.length : Int) != m.ins) = false := by simpa using hq
        have HQ := Lib.hid hq; clear hq
        go_wp2
        go_round
        case rel => exact ⟨k + 1, by omega, by go_num, below_succ H.out (by rw [HG.out]; simpa using HQ.out)⟩
        case measure => simp [intOf]; omega
      · have dq : ((l.length : Int) != m.ins) = true := by simpa using hq
        have HQ := Lib.hid hq; clear hq
        go_wp2
        go_ret
        exact ⟨ret_bool (by rw [HD.out, if_pos (anyLt_at hlt (by rw [HG.out]; simpa using HQ.out))]), hb0⟩
    · obtain rfl : k = m.first.length := by omega
      have HN := Lib.hid (anyLt_none H.out)
      go_wp2
      go_loop [53] (fun i => ∃ k : Nat, k ≤ m.out.length ∧ i = .int .i64 k ∧ ∀ j, j < k → decide (((m.out.getD j []).length : Int) ≠ m.n) = false) (fun i => m.out.length - (intOf i).toNat)
      case atStart => exact ⟨0, by omega, rfl, by simp⟩
      case round =>
        clear hk hlt H
        obtain ⟨k, hk, rfl, hinv⟩ := hrel
        have H := Lib.hid hinv; clear hinv
        by_cases hlt : k < m.out.length
        · obtain ⟨b1, o1, rfl, x, cx, hx⟩ := EO.out k hlt
          rw [Nat.mul_one] at cx
          have c1 := cell_up hb0 cx
          obtain ⟨px, qx, rfl, lx1, lx2, _⟩ := hx.at
          clear hx cx
          have HG := Lib.hid (getD_of_lt [] hlt)
          generalize m.out[k] = l at c1 lx1 lx2 HG
          by_cases hq : (l.length : Int) = m.n
          · have dq : ((l.length : Int) != m.n) = false := by simpa using hq
            have HQ := Lib.hid hq; clear hq
            go_wp2
            go_round
            case rel => exact ⟨k + 1, by omega, by go_num, below_succ H.out (by rw [HG.out]; simpa using HQ.out)⟩
            case measure => simp [intOf]; omega
          · have dq : ((l.length : Int) != m.n) = true := by simpa using hq
            have HQ := Lib.hid hq; clear hq
            go_wp2
            go_ret
            exact ⟨ret_bool (by rw [HD.out, HN.out, if_neg (by simp), if_pos (anyLt_at hlt (by rw [HG.out]; simpa using HQ.out))]), hb0⟩
        · obtain rfl : k = m.out.length := by omega
          have HM := Lib.hid (anyLt_none H.out)
          have HO := Lib.hid H.out
          have HDD : Hid (shapedB m = !anyLt m.syms.length (roundB m)) := by (have h : shapedB m = !anyLt m.syms.length (roundB m) := by (rw [HD.out, HN.out, HM.out]; simp)); exact h
          clear hk hlt H HM HN HD
          go_wp2
          go_loop [66] (fun i => ∃ k : Nat, k ≤ m.syms.length ∧ i = .int .i64 k ∧ ∀ j, j < k → roundB m j = false) (fun i => m.syms.length - (intOf i).toNat)
          case atStart => exact ⟨0, by omega, rfl, by simp⟩
          case round =>
            obtain ⟨k, hk, rfl, hinv⟩ := hrel
            have H := Lib.hid hinv; clear hinv
            by_cases hlt : k < m.syms.length
            · obtain ⟨b1, o1, rfl, x, cx, hx⟩ := EY.out k hlt
              rw [Nat.mul_one] at cx
              have c1 := cell_up hb0 cx
              obtain ⟨px, qx, rfl, lx1, lx2, ex⟩ := hx.at
              clear hx cx
              have hlo : k < m.out.length := by have := HOS.out; omega
              obtain ⟨b2, o2, rfl, y, cy', hy⟩ := EO.out k hlo
              rw [Nat.mul_one] at cy'
              have c2 := cell_up hb0 cy'
              obtain ⟨pz, qz, rfl, lz1, lz2, ez⟩ := hy.at
              clear hy cy'
              have HRB : Hid (roundB m k = (decide ((m.syms[k].length : Int) ≠ m.n) || anyLt m.syms[k].length (sendB m.n m.out[k] m.syms[k]))) := by
                (have h : roundB m k = (decide ((m.syms[k].length : Int) ≠ m.n) || anyLt m.syms[k].length (sendB m.n m.out[k] m.syms[k])) := by (unfold roundB; rw [getD_of_lt [] hlt, getD_of_lt [] hlo])); exact h
              have HOL : Hid ((m.out[k].length : Int) = m.n) := by (have h : (m.out[k].length : Int) = m.n := by (have := HO.out k hlo; rw [getD_of_lt [] hlo] at this; simpa using this)); exact h
              have EX := Lib.hid ex; clear ex
              have EZ := Lib.hid ez; clear ez
              have hlz : (k : Int) < (m.out.length : Int) := by omega
              generalize m.syms[k] = l at c1 lx1 lx2 HRB EX
              generalize m.out[k] = o at c2 lz1 lz2 HRB EZ HOL
              by_cases hq : (l.length : Int) = m.n
              · have dq : ((l.length : Int) != m.n) = false := by simpa using hq
                have hlo' : l.length = o.length := by have := HOL.out; omega
                have HQ := Lib.hid hq; clear hq
                go_wp2
                go_loop [78] (fun i => ∃ p : Nat, p ≤ l.length ∧ i = .int .i64 p ∧ ∀ j, j < p → sendB m.n o l j = false) (fun i => l.length - (intOf i).toNat)
                case atStart => exact ⟨0, by omega, rfl, by simp⟩
                case round =>
                  obtain ⟨p, hp, rfl, hinv⟩ := hrel
                  have H2 := Lib.hid hinv; clear hinv
                  by_cases hpl : p < l.length
                  · obtain ⟨b3, o3, rfl, x, cx, hx⟩ := EX.out p hpl
                    rw [Nat.mul_one] at cx
                    have c3 := cell_up hb0 cx
                    obtain ⟨pu, qu, rfl, lu1, lu2, eu⟩ := hx.at
                    clear hx cx
                    have hpo : p < o.length := by omega
                    obtain ⟨b4, o4, rfl, y, cy', hy⟩ := EZ.out p hpo
                    rw [Nat.mul_one] at cy'
                    have c4 := cell_up hb0 cy'
                    obtain ⟨pv, qv, rfl, lv1, lv2, _⟩ := hy.at
                    clear hy cy'
                    have HSB : Hid (sendB m.n o l p = (decide ((l[p].length : Int) ≠ m.n) || symB o p l[p])) := by (have h : sendB m.n o l p = (decide ((l[p].length : Int) ≠ m.n) || symB o p l[p]) := by (unfold sendB; rw [getD_of_lt [] hpl])); exact h
                    have HSY : Hid (symB o p l[p] = anyLt l[p].length fun q => decide ((l[p].getD q []).length ≠ if p = q then 0 else o[p].length)) := by (have h : symB o p l[p] = anyLt l[p].length fun q => decide ((l[p].getD q []).length ≠ if p = q then 0 else o[p].length) := by (unfold symB; rw [getD_of_lt [] hpo])); exact h
                    have EU := Lib.hid eu; clear eu
                    have hpo' : (p : Int) < (o.length : Int) := by omega
                    generalize l[p] = u at c3 lu1 lu2 HSB HSY EU
                    generalize o[p] = z at c4 lv1 lv2 HSY
                    by_cases hq2 : (u.length : Int) = m.n
                    · have dq2 : ((u.length : Int) != m.n) = false := by simpa using hq2
                      have HQ2 := Lib.hid hq2; clear hq2
                      go_wp2
                      go_loop [90] (fun i => ∃ q : Nat, q ≤ u.length ∧ i = .int .i64 q ∧ ∀ j, j < q → decide ((u.getD j []).length ≠ if p = j then 0 else z.length) = false) (fun i => u.length - (intOf i).toNat)
                      case atStart => exact ⟨0, by omega, rfl, by simp⟩
                      case round =>
                        obtain ⟨q, hq, rfl, hinv⟩ := hrel
                        have H3 := Lib.hid hinv; clear hinv
                        by_cases hql : q < u.length
                        · obtain ⟨b5, o5, rfl, x, cx, hx⟩ := EU.out q hql
                          rw [Nat.mul_one] at cx
                          have c5 := cell_up hb0 cx
                          obtain ⟨ps, qs, rfl, ls1, ls2, _⟩ := hx.at
                          clear hx cx
                          have HG := Lib.hid (getD_of_lt [] hql)
                          generalize u[q] = s at c5 ls1 ls2 HG
                          by_cases hpq : p = q
                          · subst hpq
                            by_cases hz : s.length = 0
                            · have dz : ((s.length : Int) != 0) = false := by simpa using hz
                              have HZ := Lib.hid hz; clear hz
                              go_wp2
                              go_round
                              case rel => exact ⟨p + 1, by omega, by go_num, below_succ H3.out (by rw [HG.out]; simpa using HZ.out)⟩
                              case measure => simp [intOf]; omega
                            · have dz : ((s.length : Int) != 0) = true := by simpa using hz
                              have HZ := Lib.hid hz; clear hz
                              go_wp2
                              go_ret
                              exact ⟨ret_bool (by rw [HDD.out, anyLt_at hlt (by rw [HRB.out, anyLt_at hpl (by rw [HSB.out, HSY.out, anyLt_at hql (by rw [HG.out]; simpa using HZ.out)]; simp)]; simp)]; rfl), hb0⟩
                          · have dpq : ((p : Int) == (q : Int)) = false := by simp; omega
                            by_cases hz : s.length = z.length
                            · have dz : ((s.length : Int) != (z.length : Int)) = false := by simp; omega
                              have HZ := Lib.hid hz; clear hz
                              go_wp2
                              go_round
                              case rel => exact ⟨q + 1, by omega, by go_num, below_succ H3.out (by rw [HG.out, if_neg hpq]; simpa using HZ.out)⟩
                              case measure => simp [intOf]; omega
                            · have dz : ((s.length : Int) != (z.length : Int)) = true := by simp; omega
                              have HZ := Lib.hid hz; clear hz
                              go_wp2
                              go_ret
                              exact ⟨ret_bool (by rw [HDD.out, anyLt_at hlt (by rw [HRB.out, anyLt_at hpl (by rw [HSB.out, HSY.out, anyLt_at hql (by rw [HG.out, if_neg hpq]; simpa using HZ.out)]; simp)]; simp)]; rfl), hb0⟩
                        · obtain rfl : q = u.length := by omega
                          go_wp2
                          go_round
                          case rel => exact ⟨p + 1, by omega, by go_num, below_succ H2.out (by rw [HSB.out, HSY.out, anyLt_none H3.out]; simpa using HQ2.out)⟩
                          case measure => simp [intOf]; omega
                    · have dq2 : ((u.length : Int) != m.n) = true := by simpa using hq2
                      have HQ2 := Lib.hid hq2; clear hq2
                      go_wp2
                      go_ret
                      exact ⟨ret_bool (by rw [HDD.out, anyLt_at hlt (by rw [HRB.out, anyLt_at hpl (by rw [HSB.out]; simp; exact Or.inl HQ2.out)]; simp)]; rfl), hb0⟩
                  · obtain rfl : p = l.length := by omega
                    go_wp2
                    go_round
                    case rel => exact ⟨k + 1, by omega, by go_num, below_succ H.out (by rw [HRB.out, anyLt_none H2.out]; simpa using HQ.out)⟩
                    case measure => simp [intOf]; omega
              · have dq : ((l.length : Int) != m.n) = true := by simpa using hq
                have HQ := Lib.hid hq; clear hq
                go_wp2
                go_ret
                exact ⟨ret_bool (by rw [HDD.out, anyLt_at hlt (by rw [HRB.out]; simp; exact Or.inl HQ.out)]; rfl), hb0⟩
            · obtain rfl : k = m.syms.length := by omega
              go_wp2
              go_ret
              exact ⟨ret_bool (by rw [HDD.out, anyLt_none H.out]; rfl), hb0⟩
end Go.Proofs.YtjmejfgkogjpaaaGreatDoor

namespace Go.Proofs.YtjmejfgkogjpaaaGreatDoor
open Go.RowKit Go Go.Shelf

def lenS (l : List (List Int)) : Nat := (l.map List.length).sum
theorem lenS_snoc (l : List (List Int)) (i : Nat) (hi : i < l.length) : lenS (l.take (i + 1)) = lenS (l.take i) + l[i].length := by
  unfold lenS; rw [List.take_succ_eq_append_getElem hi, List.map_append, List.sum_append, List.map_cons, List.map_nil, List.sum_cons, List.sum_nil, Nat.add_zero]
def lenT (l : List (List (List Int))) : Nat := (l.map lenS).sum
theorem lenT_snoc (l : List (List (List Int))) (i : Nat) (hi : i < l.length) : lenT (l.take (i + 1)) = lenT (l.take i) + lenS l[i] := by
  unfold lenT; rw [List.take_succ_eq_append_getElem hi, List.map_append, List.sum_append, List.map_cons, List.map_nil, List.sum_cons, List.sum_nil, Nat.add_zero]
theorem statesN_eq (m : Mac) : statesN m = lenT m.out := rfl

set_option maxHeartbeats 1000000 in
theorem states_any (m : Mac) (vf vy vt vo : Value) (w : World) (h1 : m.out.length ≤ 7) (h2 : ∀ k (hk : k < m.out.length), m.out[k].length ≤ 5) (ho : IsV3 w vo m.out) :
    Calls Tryz.prog 71 #[.agg (macC m vf vy vt vo)] w fun e w' => e = .returned (.int .i64 (statesN m)) ∧ Below w.heap.size w w' := by
  obtain ⟨po, co, rfl, lo1, lo2, eo⟩ := ho.at
  clear ho
  have EO := Lib.hid eo; clear eo
  have H2 := Lib.hid h2; clear h2
  have HS := Lib.hid (statesN_eq m)
  go_enter Tryz.func71, Tryz.ntmps71
  go_wp2
  refine wp_gen (fun W => Below w.heap.size w W ∧ W.heap[w.heap.size]? = some (.cells (macC m vf vy vt (.slice po m.out.length co)) 27)) ⟨by go_grown, alloc_new _ _⟩ (fun W0 hW0 => ?_)
  obtain ⟨hb0, hA0⟩ := hW0
  have t1 := cell_block hA0
  clear hA0
  go_loop [3, 11] (fun s i => ∃ k n : Nat, k ≤ m.out.length ∧ i = .int .i64 k ∧ s = .int .i64 n ∧ n ≤ k * 87960930222080 ∧ n = lenT (m.out.take k)) (fun _ i => m.out.length - (intOf i).toNat)
  case atStart => exact ⟨0, 0, by omega, rfl, rfl, by omega, by simp [lenT]⟩
  case round =>
    obtain ⟨k, n, hk, rfl, rfl, hn, hs⟩ := hrel
    have HN := Lib.hid hs; clear hs
    by_cases hlt : k < m.out.length
    · obtain ⟨b1, o1, rfl, x, cx, hx⟩ := EO.out k hlt
      rw [Nat.mul_one] at cx
      have c1 := cell_up hb0 cx
      obtain ⟨px, qx, rfl, lx1, lx2, ex⟩ := hx.at
      clear hx cx
      have hl5 := H2.out k hlt
      have HK := Lib.hid (lenT_snoc m.out k hlt)
      have EX := Lib.hid ex; clear ex
      generalize m.out[k] = l at c1 lx1 lx2 EX hl5 HK
      go_wp2
      go_loop [3, 17] (fun s i => ∃ q c : Nat, q ≤ l.length ∧ i = .int .i64 q ∧ s = .int .i64 c ∧ c ≤ k * 87960930222080 + q * 17592186044416 ∧ c = n + lenS (l.take q)) (fun _ i => l.length - (intOf i).toNat)
      case atStart => exact ⟨0, n, by omega, rfl, rfl, (by rw [Nat.zero_mul, Nat.add_zero]; exact hn), by simp [lenS]⟩
      case round =>
        obtain ⟨q, c, hq, rfl, rfl, hc, hs⟩ := hrel
        have HC := Lib.hid hs; clear hs
        by_cases hql : q < l.length
        · obtain ⟨b2, o2, rfl, y, cy, hy⟩ := EX.out q hql
          rw [Nat.mul_one] at cy
          have c2 := cell_up hb0 cy
          obtain ⟨py, qy, rfl, ly1, ly2, _⟩ := hy.at
          clear hy cy
          have HL := Lib.hid (lenS_snoc l q hql)
          generalize l[q] = u at c2 ly1 ly2 HL
          go_wp2
          go_round
          case rel => exact ⟨q + 1, c + u.length, by omega, by go_num, by go_num, by omega, by rw [HL.out, HC.out]; omega⟩
          case measure => simp [intOf]; omega
        · obtain rfl : q = l.length := by omega
          go_wp2
          go_round
          case rel => exact ⟨k + 1, c, by omega, by go_num, rfl, by omega, by rw [HK.out, HC.out, HN.out, List.take_length]⟩
          case measure => simp [intOf]; omega
    · obtain rfl : k = m.out.length := by omega
      go_wp2
      go_ret
      exact ⟨ret_int (by rw [HS.out, HN.out, List.take_length]), hb0⟩

set_option maxHeartbeats 400000 in
theorem ranged1_any (x : Value) (l : List Int) (m : Mac) (vf vy vt vo : Value) (B : Nat) (W : World) (ho : 1 ≤ m.outs ∧ m.outs ≤ 8) (hx : IsInts W x l) (hB : W.heap[B]? = some (.cells (macC m vf vy vt vo) 27)) :
    Calls Tryz.prog 110 #[x, .pointer (some ⟨B, 0, none⟩)] W fun e W' => e = .returned (.bool (!allB l (-1) (m.outs - 1))) ∧ Below W.heap.size W W' := by
  have HC := Lib.hid (all_any x l (-1) (m.outs - 1) W hx)
  obtain ⟨_, _, rfl, _⟩ := hx
  have t1 := cell_block hB
  obtain ⟨ho1, ho2⟩ := ho
  have hlt := block_lt hB
  clear hB
  go_enter Tryz.func110, Tryz.ntmps110
  go_wp2_with fail
  refine HC.out.mono ?_
  rintro e w1 ⟨rfl, hb1⟩
  go_wp2_with fail
  go_ret
  exact ⟨rfl, hb1⟩

set_option maxHeartbeats 400000 in
theorem ranged2_any (x : Value) (l : List Int) (W : World) (hx : IsInts W x l) :
    Calls Tryz.prog 111 #[x] W fun e W' => e = .returned (.bool (!allB l 0 1048576)) ∧ Below W.heap.size W W' := by
  have HC := Lib.hid (all_any x l 0 1048576 W hx)
  obtain ⟨_, _, rfl, _⟩ := hx
  go_enter Tryz.func111, Tryz.ntmps111
  go_wp2_with fail
  refine HC.out.mono ?_
  rintro e w1 ⟨rfl, hb1⟩
  go_wp2_with fail
  go_ret
  exact ⟨rfl, hb1⟩

def outBad (m : Mac) (k : Nat) : Bool := anyLt (m.out.getD k []).length fun p => !allB ((m.out.getD k []).getD p []) (-1) (m.outs - 1)
def sendBad (l : List (List (List Int))) (p : Nat) : Bool := anyLt (l.getD p []).length fun q => !allB ((l.getD p []).getD q []) 0 1048576
def symBad (m : Mac) (k : Nat) : Bool := anyLt (m.syms.getD k []).length (sendBad (m.syms.getD k []))
def firstBad (m : Mac) (p : Nat) : Bool := !allB (m.first.getD p []) (-1) ((((m.out.getD 0 []).getD p []).length : Int) - 1)
theorem rangedB_eq (m : Mac) : rangedB m = if anyLt m.first.length (firstBad m) then false else if anyLt m.out.length (outBad m) then false else !anyLt m.syms.length (symBad m) := rfl

set_option maxRecDepth 100000 in
set_option maxHeartbeats 4000000 in
theorem ranged_any (m : Mac) (vf vy vt vo : Value) (w : World) (h1 : 0 < m.out.length) (h2 : m.first.length ≤ (m.out.getD 0 []).length) (h3 : 1 ≤ m.outs ∧ m.outs ≤ 8) (hf : IsVecs w vf m.first) (hy : IsV4 w vy m.syms) (ho : IsV3 w vo m.out) :
    Calls Tryz.prog 72 #[.agg (macC m vf vy vt vo)] w fun e w' => e = .returned (.bool (rangedB m)) ∧ Below w.heap.size w w' := by
  obtain ⟨pf, cf, rfl, lf1, lf2, ef⟩ := hf.at
  obtain ⟨py, cy, rfl, ly1, ly2, ey⟩ := hy.at
  obtain ⟨po, co, rfl, lo1, lo2, eo⟩ := ho.at
  clear hf hy ho
  have EF := Lib.hid ef; clear ef
  have EY := Lib.hid ey; clear ey
  have EO := Lib.hid eo; clear eo
  have HD := Lib.hid (rangedB_eq m)
  have H3 := Lib.hid h3; clear h3
  have e1 := enters_of Tryz.func110 (by kernel_rfl) rfl
  have e2 := enters_of Tryz.func111 (by kernel_rfl) rfl
  go_enter Tryz.func72, Tryz.ntmps72
  go_wp2
  refine wp_gen (fun W => Below w.heap.size w W ∧ W.heap[w.heap.size]? = some (.cells (macC m (.slice pf m.first.length cf) (.slice py m.syms.length cy) vt (.slice po m.out.length co)) 27)) ⟨by go_grown, alloc_new _ _⟩ (fun W0 hW0 => ?_)
  obtain ⟨hb0, hA0⟩ := hW0
  have HA := Lib.hid hA0; clear hA0
  go_loopw [14] (fun i wr => Below W0.heap.size W0 wr ∧ ∃ k : Nat, k ≤ m.first.length ∧ i = .int .i64 k ∧ ∀ j, j < k → firstBad m j = false) (fun i _ => m.first.length - (intOf i).toNat)
  case atStart => exact ⟨Below.refl _ _, 0, by omega, rfl, by simp⟩
  case round =>
    obtain ⟨hbr0, k, hk, rfl, hinv⟩ := hrel
    have H := Lib.hid hinv; clear hinv
    have hbr := ext_trans hb0 hbr0
    have t1 := cell_block (block_up hbr0 HA.out)
    by_cases hlt : k < m.first.length
    · obtain ⟨b1, o1, rfl, x, cx, hx⟩ := EF.out k hlt
      rw [Nat.mul_one] at cx
      have c1 := cell_up hbr cx
      have hx' := hx.up up_int hbr
      clear cx
      obtain ⟨b2, o2, rfl, y, cy', hy⟩ := EO.out 0 h1
      rw [Nat.zero_mul, Nat.add_zero] at cy'
      have c2 := cell_up hbr cy'
      obtain ⟨pz, qz, rfl, lz1, lz2, ez⟩ := hy.at
      clear hy cy'
      have hko : k < m.out[0].length := by rw [getD_of_lt [] h1] at h2; omega
      obtain ⟨b3, o3, rfl, z, cz, hz⟩ := ez k hko
      rw [Nat.mul_one] at cz
      have c3 := cell_up hbr cz
      obtain ⟨pu, qu, rfl, lu1, lu2, _⟩ := hz.at
      clear hz cz ez
      have HB : Hid (firstBad m k = !allB m.first[k] (-1) ((m.out[0][k].length : Int) - 1)) := by (have h : firstBad m k = !allB m.first[k] (-1) ((m.out[0][k].length : Int) - 1) := by (unfold firstBad; rw [getD_of_lt [] hlt, getD_of_lt [] h1, getD_of_lt [] hko])); exact h
      have HC := Lib.hid (all_any x m.first[k] (-1) ((m.out[0][k].length : Int) - 1) wr hx')
      obtain ⟨px, qx, rfl, lx1, lx2, _⟩ := hx'.at
      clear hx hx'
      generalize m.out[0][k] = u at c3 lu1 lu2 HB HC
      have hko' : (k : Int) < (m.out[0].length : Int) := by omega
      generalize m.out[0] = o at c2 lz1 lz2 hko hko'
      generalize m.first[k] = l at c1 lx1 lx2 HB HC
      generalize allB l (-1) ((u.length : Int) - 1) = r at HB HC
      have h0o : (0 : Int) < (m.out.length : Int) := by omega
      cases r with
      | true =>
        go_wp2_with fail
        refine HC.out.mono ?_
        rintro e w1 ⟨rfl, hb1⟩
        go_wp2_with fail
        go_roundw
        case rel => exact ⟨ext_trans hbr0 hb1, k + 1, by omega, by go_num, below_succ H.out HB.out⟩
        case measure => simp [intOf]; omega
      | false =>
        go_wp2_with fail
        refine HC.out.mono ?_
        rintro e w1 ⟨rfl, hb1⟩
        go_wp2_with fail
        go_ret
        exact ⟨ret_bool (by rw [HD.out, if_pos (anyLt_at hlt HB.out)]), ext_trans hbr hb1⟩
    · obtain rfl : k = m.first.length := by omega
      have HN := Lib.hid (anyLt_none H.out)
      go_wp2
      clear t1 hbr H hk hlt
      go_loopw [35] (fun i ws => Below W0.heap.size W0 ws ∧ ∃ k : Nat, k ≤ m.out.length ∧ i = .int .i64 k ∧ ∀ j, j < k → outBad m j = false) (fun i _ => m.out.length - (intOf i).toNat)
      case atStart => exact ⟨hbr0, 0, by omega, rfl, by simp⟩
      case round =>
        clear hbr0
        rename World => ws
        obtain ⟨hbr0, k, hk, rfl, hinv⟩ := hrel
        have H := Lib.hid hinv; clear hinv
        have hbr := ext_trans hb0 hbr0
        have hA1 := block_up hbr0 HA.out
        have t1 := cell_block hA1
        by_cases hlt : k < m.out.length
        · obtain ⟨b1, o1, rfl, x, cx, hx⟩ := EO.out k hlt
          rw [Nat.mul_one] at cx
          have c1 := cell_up hbr cx
          have hx' := hx.up up_ints hbr
          clear cx
          have HB : Hid (outBad m k = anyLt m.out[k].length fun p => !allB (m.out[k].getD p []) (-1) (m.outs - 1)) := by (have h : outBad m k = anyLt m.out[k].length fun p => !allB (m.out[k].getD p []) (-1) (m.outs - 1) := by (unfold outBad; rw [getD_of_lt [] hlt])); exact h
          have HC := Lib.hid (containsFuncVecs_any 110 #[.pointer (some ⟨w.heap.size, 0, none⟩)] e1 x m.out[k] (fun p => !allB (m.out[k].getD p []) (-1) (m.outs - 1)) ws hx' (fun i hi y hy W hW => by
            rw [getD_of_lt [] hi]
            exact ranged1_any y m.out[k][i] m _ _ _ _ _ W H3.out (hy.up up_int hW) (block_up hW hA1)))
          obtain ⟨px, qx, rfl, lx1, lx2, _⟩ := hx'.at
          clear hx hx'
          generalize m.out[k] = l at c1 lx1 lx2 HB HC
          generalize (anyLt l.length fun p => !allB (l.getD p []) (-1) (m.outs - 1)) = r at HB HC
          cases r with
          | false =>
            go_wp2_with fail
            refine HC.out.mono ?_
            rintro e w1 ⟨rfl, hb1⟩
            go_wp2_with fail
            go_roundw
            case rel => exact ⟨ext_trans hbr0 hb1, k + 1, by omega, by go_num, below_succ H.out HB.out⟩
            case measure => simp [intOf]; omega
          | true =>
            go_wp2_with fail
            refine HC.out.mono ?_
            rintro e w1 ⟨rfl, hb1⟩
            go_wp2_with fail
            go_ret
            exact ⟨ret_bool (by rw [HD.out, HN.out, if_neg (by simp), if_pos (anyLt_at hlt HB.out)]), ext_trans hbr hb1⟩
        · obtain rfl : k = m.out.length := by omega
          have HDD : Hid (rangedB m = !anyLt m.syms.length (symBad m)) := by (have h : rangedB m = !anyLt m.syms.length (symBad m) := by (rw [HD.out, HN.out, anyLt_none H.out]; simp)); exact h
          go_wp2
          clear t1 hbr H hk hlt HN HD hA1
          go_loopw [46] (fun i wt => Below W0.heap.size W0 wt ∧ ∃ k : Nat, k ≤ m.syms.length ∧ i = .int .i64 k ∧ ∀ j, j < k → symBad m j = false) (fun i _ => m.syms.length - (intOf i).toNat)
          case atStart => exact ⟨hbr0, 0, by omega, rfl, by simp⟩
          case round =>
            clear hbr0
            rename World => wt
            obtain ⟨hbr0, k, hk, rfl, hinv⟩ := hrel
            have H := Lib.hid hinv; clear hinv
            have hbr := ext_trans hb0 hbr0
            by_cases hlt : k < m.syms.length
            · obtain ⟨b1, o1, rfl, x, cx, hx⟩ := EY.out k hlt
              rw [Nat.mul_one] at cx
              have c1 := cell_up hbr cx
              obtain ⟨px, qx, rfl, lx1, lx2, ex⟩ := hx.at
              have EX := Lib.hid ex
              clear hx cx ex
              have HB : Hid (symBad m k = anyLt m.syms[k].length (sendBad m.syms[k])) := by (have h : symBad m k = anyLt m.syms[k].length (sendBad m.syms[k]) := by (unfold symBad; rw [getD_of_lt [] hlt])); exact h
              generalize m.syms[k] = l at c1 lx1 lx2 HB EX
              go_wp2
              clear c1
              go_loopw [52] (fun i wu => Below W0.heap.size W0 wu ∧ ∃ p : Nat, p ≤ l.length ∧ i = .int .i64 p ∧ ∀ j, j < p → sendBad l j = false) (fun i _ => l.length - (intOf i).toNat)
              case atStart => exact ⟨hbr0, 0, by omega, rfl, by simp⟩
              case round =>
                clear hbr0 hbr
                rename World => wu
                obtain ⟨hbr0, p, hp, rfl, hinv⟩ := hrel
                have H2 := Lib.hid hinv; clear hinv
                have hbr := ext_trans hb0 hbr0
                by_cases hpl : p < l.length
                · obtain ⟨b2, o2, rfl, x, cx, hx⟩ := EX.out p hpl
                  rw [Nat.mul_one] at cx
                  have c1 := cell_up hbr cx
                  have hx' := hx.up up_ints hbr
                  clear cx
                  have HS : Hid (sendBad l p = anyLt l[p].length fun q => !allB (l[p].getD q []) 0 1048576) := by (have h : sendBad l p = anyLt l[p].length fun q => !allB (l[p].getD q []) 0 1048576 := by (unfold sendBad; rw [getD_of_lt [] hpl])); exact h
                  have HC := Lib.hid (containsFuncVecs_any 111 #[] e2 x l[p] (fun q => !allB (l[p].getD q []) 0 1048576) wu hx' (fun i hi y hy W hW => by
                    rw [getD_of_lt [] hi]
                    exact ranged2_any y l[p][i] W (hy.up up_int hW)))
                  obtain ⟨py, qy, rfl, ly1, ly2, _⟩ := hx'.at
                  clear hx hx'
                  generalize l[p] = u at c1 ly1 ly2 HS HC
                  generalize (anyLt u.length fun q => !allB (u.getD q []) 0 1048576) = r at HS HC
                  cases r with
                  | false =>
                    go_wp2_with fail
                    refine HC.out.mono ?_
                    rintro e w1 ⟨rfl, hb1⟩
                    go_wp2_with fail
                    go_roundw
                    case rel => exact ⟨ext_trans hbr0 hb1, p + 1, by omega, by go_num, below_succ H2.out HS.out⟩
                    case measure => simp [intOf]; omega
                  | true =>
                    go_wp2_with fail
                    refine HC.out.mono ?_
                    rintro e w1 ⟨rfl, hb1⟩
                    go_wp2_with fail
                    go_ret
                    exact ⟨ret_bool (by rw [HDD.out, anyLt_at hlt (by rw [HB.out]; exact anyLt_at hpl HS.out)]; rfl), ext_trans hbr hb1⟩
                · obtain rfl : p = l.length := by omega
                  go_wp2
                  go_roundw
                  case rel => exact ⟨hbr0, k + 1, by omega, by go_num, below_succ H.out (by rw [HB.out]; exact anyLt_none H2.out)⟩
                  case measure => simp [intOf]; omega
            · obtain rfl : k = m.syms.length := by omega
              go_wp2
              go_ret
              exact ⟨ret_bool (by rw [HDD.out, anyLt_none H.out]; rfl), hbr⟩
end Go.Proofs.YtjmejfgkogjpaaaGreatDoor

namespace Go.Proofs.YtjmejfgkogjpaaaGreatDoor

def orI (l : List Int) : Int := firstNZ l.length fun i => l.getD i 0
def orderI (a b : St) : Int := orI [cmpI a.rd b.rd, cmpI a.pr b.pr, ordV a.heard b.heard]
/-- the error of step i: its own, or that of the order -/
def stepsE (m : Mac) (i : Nat) : Int :=
  if stepE m (m.steps.getD i default) ≠ 0 then stepE m (m.steps.getD i default)
  else if 0 < i ∧ 0 ≤ orderI (m.steps.getD (i - 1) default) (m.steps.getD i default) then 14 else 0
def headE (m : Mac) : Bool := !inB m.n 1 5 || !inB m.rounds 0 6 || !inB m.ins 1 8 || !inB m.outs 1 8
def checkE (m : Mac) : Int :=
  if headE m then 2 else if !shapedB m then 15 else if 8192 < statesN m ∨ 65536 < m.steps.length then 5
  else if !rangedB m then 2 else firstNZ m.steps.length (stepsE m)

/-! ### words of rounds -/
def beforeF (l : List Rd) (i : Nat) : Int := if i = 0 then 0 else (l.getD (i - 1) default).f
def wordRE (n : Int) (l : List Rd) (i : Nat) : Int :=
  if roundE (l.getD i default) ≠ 0 then roundE (l.getD i default) else if (l.getD i default).g.n ≠ n then 22 else if !insideB (beforeF l i) (l.getD i default).f then 14 else 0
def wordE (n : Int) (l : List Rd) : Int := if n < 1 ∨ 5 < n then 1 else if 1024 < l.length then 5 else firstNZ l.length (wordRE n l)

/-! ### runs -/
structure Pl where
  rd : Int
  pr : Int
  h0 : Int
  h1 : Int
  h2 : Int
  h3 : Int
  h4 : Int
instance : DecidableEq Pl := fun a b => decidable_of_iff (a.rd = b.rd ∧ a.pr = b.pr ∧ a.h0 = b.h0 ∧ a.h1 = b.h1 ∧ a.h2 = b.h2 ∧ a.h3 = b.h3 ∧ a.h4 = b.h4) (by cases a; cases b; simp)
def St.pl (s : St) : Pl := ⟨s.rd, s.pr, s.h0, s.h1, s.h2, s.h3, s.h4⟩
/-- where a step leads -/
def stepTo (m : Mac) (x : Pl) : Option Int := (m.steps.find? fun s => decide (x = s.pl)).map (·.to)
/-- the symbol of a state of a sender for a receiver -/
def symS (m : Mac) (k q p : Nat) (s : Int) : Int := (((m.syms.getD k []).getD q []).getD p []).getD s.toNat 0
def hearsF (m : Mac) (k p : Nat) (now : List Int) (set : Int) (q : Nat) : Int :=
  if q = p then now.getD p 0 else if (q : Int) < m.n ∧ hasB set q = true then symS m k q p (now.getD q 0) else -1
def hearsP (m : Mac) (k p : Nat) (now : List Int) (set : Int) : Pl :=
  ⟨k, p, hearsF m k p now set 0, hearsF m k p now set 1, hearsF m k p now set 2, hearsF m k p now set 3, hearsF m k p now set 4⟩
def nextP (m : Mac) (k : Nat) (now : List Int) (r : Rd) (p : Nat) : Option Int := stepTo m (hearsP m k p now (r.g.hear p))
/-- the states behind round k, if no step is missing -/
def nextS (m : Mac) (k : Nat) (now : List Int) (r : Rd) : Option (List Int) :=
  if anyLt m.n.toNat (fun p => (nextP m k now r p).isNone) then none else some ((List.range m.n.toNat).map fun p => (nextP m k now r p).getD 0)
def firstS (m : Mac) (inputs : List Int) : List Int := (List.range m.n.toNat).map fun p => (m.first.getD p []).getD (inputs.getD p 0).toNat 0
def runFrom (m : Mac) (k : Nat) (now : List Int) : List Rd → List (List Int)
  | [] => [now]
  | r :: rest => match nextS m k now r with | none => [now] | some x => now :: runFrom m (k + 1) x rest
def runL (m : Mac) (inputs : List Int) (word : List Rd) : List (List Int) :=
  if (firstS m inputs).contains (-1) then [] else runFrom m 0 (firstS m inputs) word
theorem runFrom_head (m : Mac) (k : Nat) (now : List Int) (word : List Rd) : (runFrom m k now word)[0]? = some now := by
  cases word with
  | nil => rfl
  | cons r rest => unfold runFrom; split <;> rfl
theorem runFrom_pos (m : Mac) (k : Nat) (now : List Int) (word : List Rd) : 0 < (runFrom m k now word).length := by
  have := runFrom_head m k now word
  cases h : runFrom m k now word with
  | nil => rw [h] at this; cases this
  | cons x l => simp
theorem runFrom_le (m : Mac) (k : Nat) (now : List Int) (word : List Rd) : (runFrom m k now word).length ≤ word.length + 1 := by
  induction word generalizing k now with
  | nil => simp [runFrom]
  | cons r rest ih =>
    unfold runFrom
    split
    · simp
    · rename_i x _
      have := ih (k + 1) x
      simp; omega
/-- what follows the states with number i -/
theorem runFrom_step (m : Mac) (k : Nat) (now : List Int) (word : List Rd) (i : Nat) (x : List Int) (hx : (runFrom m k now word)[i]? = some x) (hi : i < word.length) :
    (∀ y, nextS m (k + i) x word[i] = some y → (runFrom m k now word)[i + 1]? = some y) ∧ (nextS m (k + i) x word[i] = none → (runFrom m k now word).length = i + 1) := by
  induction word generalizing k now i with
  | nil => simp at hi
  | cons r rest ih =>
    cases i with
    | zero =>
      rw [runFrom_head] at hx
      cases hx
      refine ⟨fun y hy => ?_, fun hy => ?_⟩
      · simp only [Nat.add_zero, List.getElem_cons_zero] at hy
        unfold runFrom
        rw [hy]
        simp only [List.getElem?_cons_succ]
        exact runFrom_head _ _ _ _
      · simp only [Nat.add_zero, List.getElem_cons_zero] at hy
        unfold runFrom
        rw [hy]; rfl
    | succ i =>
      unfold runFrom at hx ⊢
      cases hn : nextS m k now r with
      | none => rw [hn] at hx; simp at hx
      | some z =>
        rw [hn] at hx
        simp only [List.getElem?_cons_succ] at hx
        have := ih (k + 1) z i hx (by simpa using hi)
        simp only [List.getElem_cons_succ, List.getElem?_cons_succ, List.length_cons]
        rw [show k + (i + 1) = k + 1 + i by omega]
        exact ⟨this.1, fun h => by rw [this.2 h]⟩
theorem nextS_length {m : Mac} {k : Nat} {now x : List Int} {r : Rd} (h : nextS m k now r = some x) : x.length = m.n.toNat := by
  unfold nextS at h
  split at h
  · cases h
  · cases h; simp

/-! ### plays -/
def playE (m : Mac) (inputs : List Int) (word : List Rd) : Int :=
  if checkE m ≠ 0 then checkE m else if (inputs.length : Int) ≠ m.n then 15 else if !allB inputs 0 (m.ins - 1) then 2
  else if wordE m.n word ≠ 0 then wordE m.n word else if (word.length : Int) ≠ m.rounds then 15 else if ((runL m inputs word).length : Int) ≠ m.rounds + 1 then 20 else 0
end Go.Proofs.YtjmejfgkogjpaaaGreatDoor
