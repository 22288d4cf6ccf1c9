/-
  Parts of the proof, in order. A law for a region that draws its order and writes: values that are known ahead, and an invariant of one's own over the rest. It proves nothing of the program. What the walk of simulate.Run needs: laws about memory and plain facts. It proves nothing of the program. Plain facts about the trace of a machine. It proves nothing of the program. What stands while region 22 of simulate.Run is drawn. It proves nothing of the program. What stands while a region is drawn that appends one message to the messages of a trace. It proves nothing of the program. Contracts of the reference's Checksum, Byte, Number, Sealed and Message of the wire. Conditions: the numbers are bytes, small numbers. The law of Each2 for regions in which an operation reads a slot that a later one of them sets. It proves nothing of the program. What stands while a region is drawn that appends to two rows of one's own and then sets both variables: operations 5, 6 (first row), 12, 13 (second), 14, 15 (the variables). It proves nothing of the program. What stands while a region is drawn that appends to one row of one's own and then sets its variable: operations 12 (the new value's slice), 13 (the append), 14 (the variable). It proves nothing of the program. Plain facts about runs of machines, and small ones about rows. It proves nothing of the program. Contracts of the reference's functions on sets, graphs and rounds. Conditions: sets are not negative where Has is asked; numbers of processes are small. Contract of the reference's Places of messages. Conditions: the word passes its check. Contract of the reference's decided of traces. Conditions: the arguments read as a machine, the states of its play and a process.
-/
import Derived.Laws.Concat
import Derived.Test.YtjmejfgkogjpaaaGreatDoorJ5
namespace Go.Proofs.YtjmejfgkogjpaaaGreatDoor
open Go.RowKit Go Go.Shelf

/-- every edge that binds leads back -/
def backB2 (ops : Array Oper) (n : Nat) : Bool :=
  (List.range n).all (fun i => match ops[i]? with | some o => o.after.all fun e => !Region.binds .any e || decide (e.on < i) | none => false)
theorem backB2_back {ops : Array Oper} {n : Nat} (h : backB2 ops n = true) {i : Nat} {o : Oper} (hi : i < n) (ho : ops[i]? = some o) : ∀ e ∈ o.after, Region.binds .any e = true → e.on < i := by
  simp only [backB2, List.all_eq_true] at h
  have := h i (List.mem_range.2 hi)
  rw [ho] at this
  intro e he hb
  have := Array.all_eq_true'.1 this e he
  rw [hb] at this
  simpa using this
theorem wpAny_inv2 {P : Program} {ops : Array Oper} {Q : Exit → Act → World → Prop} {n : Nat} (hn : ops.size = n) (hB : backB2 ops n = true) (Inv : (Nat → Bool) → Act → World → Prop)
    (hstep : ∀ D a w i o, i < n → ops[i]? = some o → D i = false → (∀ e ∈ o.after, Region.binds .any e = true → D e.on = true) → Inv D a w → wpOp P ops Q i (fun a' w' => Inv (upd D i) a' w') a w)
    (hend : ∀ D a w, (∀ j, j < n → D j = true) → Inv D a w → Q .normal a w) :
    ∀ (fuel : Nat) (L : Array Bool) (a : Act) (w : World), L.size = n → (List.range n).countP (fun j => !L.getD j false) ≤ fuel → Inv (fun j => L.getD j false) a w → wpAny P .any ops Q fuel L a w := by
  have hnone : ∀ L : Array Bool, L.size = n → (∀ j, j < n → L.getD j false = true) → Region.ready .any ops L = [] := by
    intro L hL h1
    refine List.eq_nil_iff_forall_not_mem.2 fun j hj => ?_
    obtain ⟨hj1, o, ho, _⟩ := mem_ready.1 hj
    have hjn : j < n := by have := (Array.getElem?_eq_some_iff.1 ho).1; omega
    have := h1 j hjn
    rw [show L.getD j false = L.getD j true by simp [Array.getD, hL, hjn]] at this
    rw [hj1] at this; cases this
  intro fuel
  induction fuel with
  | zero =>
    intro L a w hL hc h1
    have h3 : (List.range n).countP (fun j => !L.getD j false) = 0 := by omega
    rw [List.countP_eq_zero] at h3
    have hall : ∀ j, j < n → L.getD j false = true := fun j hj => by simpa using h3 j (List.mem_range.2 hj)
    exact ⟨hnone L hL hall, hend _ a w hall h1⟩
  | succ fuel ih =>
    intro L a w hL hc h2
    refine ⟨fun hr => ?_, fun i hi => ?_⟩
    · refine hend _ a w ?_ h2
      intro j
      induction j using Nat.strongRecOn with
      | ind j ihj =>
        intro hj
        cases hv : L.getD j false with
        | true => rfl
        | false =>
          exfalso
          obtain ⟨o, ho⟩ : ∃ o, ops[j]? = some o := ⟨ops[j]'(by omega), Array.getElem?_eq_getElem _⟩
          have : j ∈ Region.ready .any ops L := mem_ready.2 ⟨by rw [show L.getD j true = L.getD j false by simp [Array.getD, hL, hj]]; exact hv, o, ho, fun e he hbe => by
            have := backB2_back hB hj ho e he hbe
            exact ihj e.on this (by omega)⟩
          rw [hr] at this
          cases this
    · obtain ⟨hi1, o, ho, hdep⟩ := mem_ready.1 hi
      have hin : i < n := by have := (Array.getElem?_eq_some_iff.1 ho).1; omega
      have hiD : L.getD i false = false := by rw [show L.getD i false = L.getD i true by simp [Array.getD, hL, hin]]; exact hi1
      have hupd : (fun j => (L.setIfInBounds i true).getD j false) = upd (fun j => L.getD j false) i := by
        funext j
        unfold upd
        by_cases hji : j = i
        · subst hji; simp [Array.getD, hL, hin]
        · rw [if_neg hji]
          simp only [Array.getD, Array.size_setIfInBounds]
          split
          · exact Array.getElem_setIfInBounds_ne _ (Ne.symm hji)
          · rfl
      have hcnt : (List.range n).countP (fun j => !(L.setIfInBounds i true).getD j false) ≤ fuel := by
        have h3 := upd_count (fun j => L.getD j false) i hiD (List.range n)
        rw [if_pos (List.mem_range.2 hin)] at h3
        have h4 : (fun j => !(L.setIfInBounds i true).getD j false) = fun j => !upd (fun j => L.getD j false) i j := by
          funext j; rw [← hupd]
        rw [h4]
        omega
      exact wpOp_mono' (fun a' w' h => ih (L.setIfInBounds i true) a' w' (by simpa using hL) hcnt (by rw [hupd]; exact h)) (hstep (fun j => L.getD j false) a w i o hin ho hiD hdep h2)

/-- Where an operation of the region may end. -/
def CoreK (F : Array Value) (d : List Deferred) (V : List (Option Value)) (Core : (Nat → Bool) → (Nat → Value) → World → Prop) (D : Nat → Bool) (i s : Nat) (x : Nat → Value) (a' : Act) (W' : World) : Prop :=
  ∃ v, a' = { tmps := F.setIfInBounds s v, defers := d } ∧ (∀ c, V.getD i none = some c → v = c) ∧ Core (upd D i) (updV x i v) W'
theorem CoreK.mk {F : Array Value} {d : List Deferred} {V : List (Option Value)} {Core : (Nat → Bool) → (Nat → Value) → World → Prop} {D : Nat → Bool} {i s : Nat} {x : Nat → Value} {a' : Act} {W' : World} (v : Value) (hv : ∀ c, V.getD i none = some c → v = c) (hc : Core (upd D i) (updV x i v) W') (ha : a' = { tmps := F.setIfInBounds s v, defers := d }) : CoreK F d V Core D i s x a' W' := ⟨v, ha, hv, hc⟩

theorem setAll_getD_ne {T : Array Value} {S : List Nat} {x : Nat → Value} {k : Nat} (hk : k ∉ S) : (setAll T S x).getD k undef = T.getD k undef := by
  have := setFrom_get x S 0 T k hk
  simp only [Array.getD_eq_getD_getElem?]
  exact congrArg (fun o => Option.getD o undef) this
theorem setAll_self1 {T : Array Value} {S : List Nat} {x : Nat → Value} {i s : Nat} (hS : S.Nodup) (hi : S[i]? = some s) : setAll T S x = (setAll T S x).setIfInBounds s (x i) := by
  have h := setAll_upd T S hS x i s (x i) hi
  have e : updV x i (x i) = x := by
    funext j
    by_cases e : j = i
    · subst e; exact updV_same _ _ _
    · exact updV_ne _ _ e
  rw [e] at h
  exact h
theorem setAll_getD {T : Array Value} {S : List Nat} {x : Nat → Value} {i k : Nat} (hS : S.Nodup) (hi : S[i]? = some k) (hT : k < T.size) : (setAll T S x).getD k undef = x i := by
  rw [setAll_self1 (x := x) hS hi]
  have : k < (setAll T S x).size := by unfold setAll; rw [setFrom_size]; exact hT
  simp [Array.getD, this]
/-- a single move -/
theorem core_move {P : Program} {ops : Array Oper} {o : Oper} {a : Act} {w : World} {Q : Exit → Act → World → Prop} (y : Operand) (hg : o.guard = none) (ho : o.op = .move y) (h : Q .normal (a.put o.dst (a.eval y)) w) : wpList P ops Q [o] a w := by
  refine wpList_plain hg fun _ hK => ?_
  unfold Oper.wp execOp
  simp only [ho, Sem.run_pure]
  exact hK _ _ h

/-- The law. -/
theorem wpAny_core {P : Program} {l : List Oper} {Q : Exit → Act → World → Prop} {T : Array Value} {d : List Deferred} {w : World} (n : Nat) (S : List Nat) (V : List (Option Value)) (Core : (Nat → Bool) → (Nat → Value) → World → Prop) (hn : l.toArray.size = n) (hS : S.Nodup) (hSl : S.length = n) (hB : backB2 l.toArray n = true)
    (h0 : ∀ x, Core (fun _ => false) x w.drew)
    (hstep : ∀ x W D i o s F, i < n → l.toArray[i]? = some o → S[i]? = some s → D i = false → x i = T[s]! → (∀ e ∈ o.after, Region.binds .any e = true → D e.on = true) → (∀ j c, j < n → D j = true → V.getD j none = some c → x j = c) → Core D x W → F = setAll T S x →
      wpList P l.toArray (Exit.then (CoreK F d V Core D i s x) Q) [o] { tmps := F, defers := d } W)
    (hend : ∀ x W D F, (∀ j, j < n → D j = true) → (∀ j c, j < n → V.getD j none = some c → x j = c) → Core D x W → F = setAll T S x → Q .normal { tmps := F, defers := d } W) :
    wpAny P .any l.toArray Q l.toArray.size (Array.replicate l.toArray.size false) { tmps := T, defers := d } w.drew := by
  refine wpAny_inv2 hn hB (fun D a W => ∃ x, a = { tmps := setAll T S x, defers := d } ∧ (∀ j s, S[j]? = some s → D j = false → x j = T[s]!) ∧ (∀ j c, j < n → D j = true → V.getD j none = some c → x j = c) ∧ Core D x W) ?_ ?_ _ _ _ _ (by rw [Array.size_replicate, hn]) ?_ ?_
  · rintro D a W i o hi ho hD hdep ⟨x, rfl, hun, hv, hc⟩
    obtain ⟨s, hs⟩ : ∃ s, S[i]? = some s := ⟨S[i], List.getElem?_eq_getElem (by omega)⟩
    refine wpOp_mono' ?_ (wpOp_one ho (hstep x W D i o s _ hi ho hs hD (hun i s hs hD) hdep hv hc rfl))
    rintro a' W' ⟨v, rfl, hv', hc'⟩
    refine ⟨updV x i v, by rw [setAll_upd T S hS x i s v hs], fun j sj hsj hDj => ?_, fun j c hj hDj hV => ?_, hc'⟩
    · by_cases e : j = i
      · subst e; simp [upd] at hDj
      · rw [updV_ne _ _ e]
        exact hun j sj hsj (by simpa [upd, e] using hDj)
    by_cases e : j = i
    · subst e; rw [updV_same]; exact hv' c hV
    · rw [updV_ne _ _ e]
      exact hv j c hj (by simpa [upd, e] using hDj) hV
  · rintro D a W hall ⟨x, rfl, _, hv, hc⟩
    exact hend x W D _ hall (fun j c hj hV => hv j c hj (hall j hj) hV) hc rfl
  · rw [hn]; exact Nat.le_trans List.countP_le_length (by simp)
  · refine ⟨fun i => T[S.getD i 0]!, ?_, fun j s hs _ => by (show T[S.getD j 0]! = _; rw [List.getD_eq_getElem?_getD, hs]; rfl), fun j c hj h => ?_, ?_⟩
    · rw [setAll_self T S hS]
      intro i s hi hs
      rw [List.getD_eq_getElem?_getD, hi]
      rfl
    · exfalso
      simp only [Array.getD] at h
      split at h <;> simp at h
    · have : (fun j => (Array.replicate l.toArray.size false).getD j false) = fun _ => false := by
        funext j
        simp only [Array.getD]
        split <;> simp
      rw [this]; exact h0 _
/-- .. for a region of a function's body -/
theorem wp_region_core {P : Program} {id : Nat} {l : List Oper} {Q : Exit → Act → World → Prop} {T : Array Value} {d : List Deferred} {w : World} (n : Nat) (S : List Nat) (V : List (Option Value)) (Core : (Nat → Bool) → (Nat → Value) → World → Prop) (hm : P.follows .mixedOrders = true) (hn : l.toArray.size = n) (hS : S.Nodup) (hSl : S.length = n) (hB : backB2 l.toArray n = true)
    (h0 : ∀ x, Core (fun _ => false) x w.drew)
    (hstep : ∀ x W D i o s F, i < n → l.toArray[i]? = some o → S[i]? = some s → D i = false → x i = T[s]! → (∀ e ∈ o.after, Region.binds .any e = true → D e.on = true) → (∀ j c, j < n → D j = true → V.getD j none = some c → x j = c) → Core D x W → F = setAll T S x →
      wpList P l.toArray (Exit.then (CoreK F d V Core D i s x) Q) [o] { tmps := F, defers := d } W)
    (hend : ∀ x W D F, (∀ j, j < n → D j = true) → (∀ j c, j < n → V.getD j none = some c → x j = c) → Core D x W → F = setAll T S x → Q .normal { tmps := F, defers := d } W) :
    (Code.region id l.toArray true).wp P Q { tmps := T, defers := d } w :=
  wp_region_any hm (wpAny_core n S V Core hn hS hSl hB h0 hstep hend)
/-- .. for a region of a round's body -/
theorem round_region_core {P : Program} {yl m : Nat} {id : Nat} {l : List Oper} {Q : Exit → Act → World → Prop} {T : Array Value} {d : List Deferred} {w : World} (n : Nat) (S : List Nat) (V : List (Option Value)) (Core : (Nat → Bool) → (Nat → Value) → World → Prop) (hm : P.follows .mixedOrders = true) (hn : l.toArray.size = n) (hS : S.Nodup) (hSl : S.length = n) (hB : backB2 l.toArray n = true) (hQ : ¬ LetsOut Q) (hd : noDefer l.toArray = true)
    (h0 : ∀ x, Core (fun _ => false) x w.drew)
    (hstep : ∀ x W D i o s F, i < n → l.toArray[i]? = some o → S[i]? = some s → D i = false → x i = T[s]! → (∀ e ∈ o.after, Region.binds .any e = true → D e.on = true) → (∀ j c, j < n → D j = true → V.getD j none = some c → x j = c) → Core D x W → F = setAll T S x →
      wpList P l.toArray (Exit.then (CoreK F d V Core D i s x) Q) [o] { tmps := F, defers := d } W)
    (hend : ∀ x W D F, (∀ j, j < n → D j = true) → (∀ j c, j < n → V.getD j none = some c → x j = c) → Core D x W → F = setAll T S x → Q .normal { tmps := F, defers := d } W) :
    (Code.region id l.toArray true).wpIn (Fence.wide.inRound yl) m P Q { tmps := T, defers := d } w :=
  wpIn_region_any hm (anyIn_of hd hQ _ _ _ _ (wpAny_core n S V Core hn hS hSl hB h0 hstep hend))
end Go.Proofs.YtjmejfgkogjpaaaGreatDoor

namespace Go.Proofs.YtjmejfgkogjpaaaGreatDoor
open Go.RowKit Go Go.Shelf

abbrev zeroTr : Array Value := #[.slice none 0 0, .slice none 0 0, .slice none 0 0, .slice none 0 0, .slice none 0 0, .slice none 0 0]
/-- six cells of a block written -/
theorem put6 {W : World} {B : Nat} {cs : Array Value} {t : TypeId} (h : W.heap[B]? = some (.cells cs t)) (hc : cs.size = 6) (a b c d e f : Value) :
    ∀ W', W' = (((((W.setCell ⟨B, 0, none⟩ a).setCell ⟨B, 1, none⟩ b).setCell ⟨B, 2, none⟩ c).setCell ⟨B, 3, none⟩ d).setCell ⟨B, 4, none⟩ e).setCell ⟨B, 5, none⟩ f →
    W'.heap[B]? = some (.cells #[a, b, c, d, e, f] t) ∧ (∀ k, k ≠ B → W'.heap[k]? = W.heap[k]?) ∧ W'.heap.size = W.heap.size ∧ ∀ n w0, n ≤ B → Below n w0 W → Below n w0 W' := by
  rintro W' rfl
  refine ⟨?_, fun k hk => ?_, by simp, fun n w0 hn hb => ?_⟩
  · obtain ⟨x0, x1, x2, x3, x4, x5, rfl⟩ : ∃ x0 x1 x2 x3 x4 x5, cs = #[x0, x1, x2, x3, x4, x5] := by
      obtain ⟨l⟩ := cs
      simp at hc
      match l, hc with
      | [x0, x1, x2, x3, x4, x5], _ => exact ⟨_, _, _, _, _, _, rfl⟩
    rw [setCell_same (setCell_same (setCell_same (setCell_same (setCell_same (setCell_same h _ _) _ _) _ _) _ _) _ _)]
    rfl
  · rw [Below.heap_setCell _ ⟨B, 5, none⟩ _ _ hk, Below.heap_setCell _ ⟨B, 4, none⟩ _ _ hk, Below.heap_setCell _ ⟨B, 3, none⟩ _ _ hk, Below.heap_setCell _ ⟨B, 2, none⟩ _ _ hk, Below.heap_setCell _ ⟨B, 1, none⟩ _ _ hk, Below.heap_setCell _ ⟨B, 0, none⟩ _ _ hk]
  · exact (((((hb.setCell (p := ⟨B, 0, none⟩) hn _).setCell (p := ⟨B, 1, none⟩) hn _).setCell (p := ⟨B, 2, none⟩) hn _).setCell (p := ⟨B, 3, none⟩) hn _).setCell (p := ⟨B, 4, none⟩) hn _).setCell (p := ⟨B, 5, none⟩) hn _


/-- every cell that is no empty slice has stayed -/
def NK (W W' : World) : Prop := ∀ b o c, W.cell? ⟨b, o, none⟩ = some c → c ≠ .slice none 0 0 → W'.cell? ⟨b, o, none⟩ = some c
theorem NK.refl (W : World) : NK W W := fun _ _ _ h _ => h
theorem NK.trans {X Y Z : World} (h : NK X Y) (k : NK Y Z) : NK X Z := fun b o c hc hn => k b o c (h b o c hc hn) hn
theorem NK.of_ck {W W' : World} (h : CK W W') : NK W W' := fun _ _ _ hc _ => h.cell hc
/-- blocks that have stayed, and else blocks of which each cell that is no empty slice has stayed -/
theorem NK.of_blocks {W W' : World} (h : ∀ (k : Nat) (cs : Array Value) (t : TypeId) (f : Nat × Nat), W.heap[k]? = some (Obj.cells cs t f) → ∃ (cs' : Array Value) (t' : TypeId) (f' : Nat × Nat), W'.heap[k]? = some (Obj.cells cs' t' f') ∧ ∀ (o : Nat) (c : Value), cs[o]? = some c → c ≠ .slice none 0 0 → cs'[o]? = some c) : NK W W' := by
  intro b o c hc hn
  unfold World.cell? at hc ⊢
  dsimp only at hc ⊢
  cases ho : W.heap[b]? with
  | none => rw [ho] at hc; cases hc
  | some ob =>
    cases ob with
    | cells cs t f =>
      obtain ⟨cs', t', f', h1, h2⟩ := h b cs t f ho
      rw [ho] at hc
      rw [h1]
      exact h2 o c hc hn
    | _ => rw [ho] at hc; cases hc
theorem put6_nk {W W' : World} {B : Nat} {t t' : TypeId} {cs : Array Value} (h : W.heap[B]? = some (.cells zeroTr t)) (h1 : W'.heap[B]? = some (.cells cs t')) (h2 : ∀ k, k ≠ B → W'.heap[k]? = W.heap[k]?) : NK W W' := by
  refine NK.of_blocks fun k ds u f hk => ?_
  by_cases e : k = B
  · subst e
    rw [h] at hk
    cases hk
    refine ⟨_, _, _, h1, fun o c ho hn => absurd ?_ hn⟩
    have : o < 6 := (Array.getElem?_eq_some_iff.1 ho).1
    rcases (show o = 0 ∨ o = 1 ∨ o = 2 ∨ o = 3 ∨ o = 4 ∨ o = 5 by omega) with rfl | rfl | rfl | rfl | rfl | rfl <;> (simp at ho; exact ho.symm)
  · exact ⟨_, _, _, (h2 k e).trans hk, fun _ _ h _ => h⟩
theorem IntAt.nk {W W' : World} (h : NK W W') {b o : Nat} {x : Int} (hx : IntAt W b o x) : IntAt W' b o x := ⟨h _ _ _ hx.1 (by intro e; cases e), hx.2⟩
theorem IsSl.nk {α : Type} {k : Nat} {R : World → Nat → Nat → α → Prop} {W W' : World} {v : Value} {l : List α} (hR : ∀ b o x, x ∈ l → R W b o x → R W' b o x) (h : IsSl k R W v l) : IsSl k R W' v l := by
  obtain ⟨a, cap, rfl, h1, h2, h3⟩ := h
  refine ⟨a, cap, rfl, h1, h2, fun i x hx => ?_⟩
  obtain ⟨b, off, ha, hr⟩ := h3 i x hx
  exact ⟨b, off, ha, hR _ _ _ (List.mem_of_getElem? hx) hr⟩
theorem ints_nk {W W' : World} (h : NK W W') {v : Value} {l : List Int} (hl : IsInts W v l) : IsInts W' v l := IsSl.nk (fun _ _ _ _ hx => hx.nk h) hl
theorem word_nk {W W' : World} (h : NK W W') {v : Value} {l : List Rd} (hl : IsWord W v l) : IsWord W' v l :=
  IsSl.nk (fun _ _ _ _ ⟨h0, h1, h2, h3, h4, h5, h6⟩ => ⟨h0.nk h, h1.nk h, h2.nk h, h3.nk h, h4.nk h, h5.nk h, h6.nk h⟩) hl
theorem msgs_nk {W W' : World} (h : NK W W') {v : Value} {l : List Msg} (hl : IsMsgs W v l) : IsMsgs W' v l :=
  IsSl.nk (fun _ _ _ _ ⟨h0, h1, h2, h3, h4⟩ => ⟨h0.nk h, h1.nk h, h2.nk h, h _ _ _ h3 (by intro e; cases e), h4⟩) hl
theorem vecs_nk {W W' : World} (h : NK W W') {v : Value} {l : List (List Int)} (hn : ∀ x ∈ l, x ≠ []) (hl : IsVecs W v l) : IsVecs W' v l :=
  IsSl.nk (fun b o x hx ⟨u, hc, hu⟩ => ⟨u, h _ _ _ hc (fun e => by
    subst e
    obtain ⟨a, cap, e1, _⟩ := hu
    injection e1 with _ e2 _
    exact hn x hx (List.eq_nil_of_length_eq_zero e2.symm)), ints_nk h hu⟩) hl
theorem tr_nk {W W' : World} (h : NK W W') {t : Tr} {vi vw vs vm vd vt : Value} (hn : ∀ x ∈ t.states, x ≠ []) (ht : IsTr W t vi vw vs vm vd vt) : IsTr W' t vi vw vs vm vd vt :=
  ⟨ints_nk h ht.inp, word_nk h ht.word, vecs_nk h hn ht.states, msgs_nk h ht.msgs, ints_nk h ht.dec, ints_nk h ht.times⟩

/-- what a play without error has passed -/
structure PlayOk (m : Mac) (inputs : List Int) (word : List Rd) (n r : Nat) : Prop where
  good : Good m n r
  chk : checkE m = 0
  il : inputs.length = n
  ir : ∀ p, p < n → 0 ≤ inputs.getD p 0 ∧ inputs.getD p 0 < m.ins
  we : wordE n word = 0
  wl : word.length = r
  rl : (runL m inputs word).length = r + 1
theorem playE_zero {m : Mac} {inputs : List Int} {word : List Rd} (h : playE m inputs word = 0) : ∃ n r, PlayOk m inputs word n r := by
  unfold playE at h
  split at h
  · rename_i q; exact absurd h q
  rename_i h1
  have h1' : checkE m = 0 := by simpa using h1
  obtain ⟨n, r, g⟩ := checkE_good h1'
  have hn := g.hn
  have hr := g.hr
  split at h
  · cases h
  split at h
  · cases h
  rename_i h2 h3
  split at h
  · rename_i q; exact absurd h q
  rename_i h4
  split at h
  · cases h
  split at h
  · cases h
  rename_i h5 h6
  have h3' : allB inputs 0 (m.ins - 1) = true := by simpa using h3
  have h4' : wordE m.n word = 0 := by simpa using h4
  rw [hn] at h4'
  refine ⟨n, r, g, h1', by omega, fun p hp => ?_, h4', by omega, by omega⟩
  have := allB_true h3' p (by omega)
  omega
theorem placesL_ne {n : Nat} {word : List Rd} {x : Nat × Nat × Nat} (h : x ∈ placesL n word) : x.2.1 ≠ x.2.2 := by
  unfold placesL placesTo filtR at h
  rw [List.mem_filterMap] at h
  obtain ⟨j, hj, hx⟩ := h
  unfold placeAt at hx
  split at hx
  · rename_i hc
    cases hx
    exact hc.2.2.1
  · cases hx
theorem own_ints {w : World} {base : Nat} {v : Value} {l : List Int} (h : OwnT w base 3 1 v l.length (l.map (Value.int .i64))) (hr : ∀ x ∈ l, InR x) (hn : l.length ≤ 17592186044416) : IsInts w v l := by
  have hall := fun i (hi : i < l.length) => h.cell i (.int .i64 l[i]) (by simp [hi])
  rcases h.2 with ⟨rfl, hz⟩ | ⟨g, cap, cur, fz, rfl, _, hg, _, hc1, hc2, _, _⟩
  · refine ⟨none, 0, by rw [hz], ⟨by omega, by omega, fun _ => rfl⟩, hn, fun i x hi => ?_⟩
    have := (List.getElem?_eq_some_iff.1 hi).1
    omega
  · refine ⟨some ⟨g, 0, none⟩, cap, rfl, ⟨hc1, by simp only [maxLen] at hc2; omega, fun e => by cases e⟩, hn, fun i x hi => ⟨g, 0, rfl, ?_⟩⟩
    obtain ⟨hil, rfl⟩ := List.getElem?_eq_some_iff.1 hi
    obtain ⟨g', c', e1, e2⟩ := hall i hil
    have : g = g' := by simp at e1; exact e1.1
    subst this
    exact ⟨by rw [Nat.mul_one, Nat.zero_add]; exact e2, hr _ (List.getElem_mem hil)⟩
theorem OwnT.keep {w w' : World} {base sz : Nat} {e : TypeId} {v : Value} {n : Nat} {xs : List Value} (h : OwnT w base e sz v n xs) (hk : ∀ (g : Nat) (o : Obj), v.ownBlock = some g → w.heap[g]? = some o → w'.heap[g]? = some o) : OwnT w' base e sz v n xs := by
  obtain ⟨hl, h⟩ := h
  refine ⟨hl, ?_⟩
  rcases h with h | ⟨g, cap, cur, fz, rfl, h2, h3, h4⟩
  · exact .inl h
  · exact .inr ⟨g, cap, cur, fz, rfl, h2, hk g _ rfl h3, h4⟩
/-- Between two rounds of the loop over places. -/
structure SI (w W3 : World) (Bt Be : Nat) (va vb vs : Value) (xs : List Msg) (i : Nat) (T : Nat → Prop) (W : World) : Prop where
  old : Below w.heap.size w W
  kept : ∀ (k : Nat) (o : Obj), W3.heap[k]? = some o → o.isCells = true → k ≠ Bt → W.heap[k]? = some o
  size : W3.heap.size ≤ W.heap.size
  lt : ∀ k, T k → k < W.heap.size
  notB : ¬ T Bt
  notE : ¬ T Be
  row : ∃ v, W.heap[Bt]? = some (.cells (trC va vb vs v (.slice none 0 0) (.slice none 0 0)) 35) ∧ OwnT W W3.heap.size 65 4 v i (flatM (xs.take i)) ∧ ∀ g, v.ownBlock = some g → ¬ T g
theorem SI.next {w W3 : World} {Bt Be : Nat} {va vb vs : Value} {xs : List Msg} {i B : Nat} {T T' : Nat → Prop} {A A' : World} (h : SI w W3 Bt Be va vb vs xs i T A) (hE : Be < W3.heap.size) (hB : w.heap.size ≤ B) (hc : Chg B A A') (hw : Wid A A' T T') : SI w W3 Bt Be va vb vs xs i T' A' := by
  obtain ⟨v, h1, h2, h3⟩ := h.row
  have hn : ∀ g, g < A.heap.size → ¬ T g → ¬ T' g := fun g hg h ht => by
    rcases hw.2 g ht with h4 | h4
    · exact h h4
    · omega
  exact ⟨hc.below hB h.old.size h.old, fun k o hk ho hb => hc.ck _ _ (h.kept k o hk ho hb) ho, Nat.le_trans h.size hc.size, fun k hk => by
    rcases hw.2 k hk with h4 | h4
    · exact Nat.lt_of_lt_of_le (h.lt k h4) hc.size
    · exact h4.2, hn _ (block_lt h1) h.notB, hn _ (Nat.lt_of_lt_of_le hE h.size) h.notE, v, hc.ck _ _ h1 rfl, h2.ck hc.ck, fun g hg => hn _ (h2.lt g hg).2 (h3 g hg)⟩
/-- what stands while region 7 is drawn -/
structure C7 (w W2 : World) (Bm Be k p q : Nat) (bs : ByteArray) (D : Nat → Bool) (_x : Nat → Value) (W : World) : Prop where
  old : Below w.heap.size w W
  size : W2.heap.size ≤ W.heap.size
  kept : ∀ (j : Nat) (o : Obj), W2.heap[j]? = some o → j ≠ Bm → j ≠ Be → W.heap[j]? = some o
  be : W.heap[Be]? = some (.cells #[.int .i64 0] 36)
  bm : ∃ s, W.heap[Bm]? = some (.cells #[.int .i64 (k : Int), .int .i64 (p : Int), .int .i64 (q : Int), .string s] 65) ∧ (D 21 = true → s = bs)
theorem C7.grow {w W2 : World} {Bm Be k p q : Nat} {bs : ByteArray} {D : Nat → Bool} {x : Nat → Value} {W W' : World} (h : C7 w W2 Bm Be k p q bs D x W) (hb : Below W.heap.size W W') : C7 w W2 Bm Be k p q bs D x W' := by
  obtain ⟨s, h1, h2⟩ := h.bm
  exact ⟨ext_trans h.old hb, Nat.le_trans h.size hb.size, fun j o hj h3 h4 => block_up hb (h.kept j o hj h3 h4), block_up hb h.be, s, block_up hb h1, h2⟩
/-- Between two rounds of the loop over processes. -/
structure DI (w Wd : World) (Bt : Nat) (va vb vs vm : Value) (ds ts : List Int) (p : Nat) (W : World) : Prop where
  old : Below w.heap.size w W
  size : Wd.heap.size ≤ W.heap.size
  kept : ∀ (k : Nat) (o : Obj), Wd.heap[k]? = some o → k ≠ Bt → W.heap[k]? = some o
  row : ∃ vd vt, W.heap[Bt]? = some (.cells (trC va vb vs vm vd vt) 35) ∧ OwnT W Wd.heap.size 3 1 vd p ((ds.take p).map (Value.int .i64)) ∧ OwnT W Wd.heap.size 3 1 vt p ((ts.take p).map (Value.int .i64)) ∧ ∀ g, vd.ownBlock = some g → vt.ownBlock ≠ some g
theorem DI.drew {w Wd : World} {Bt : Nat} {va vb vs vm : Value} {ds ts : List Int} {p : Nat} {W W' : World} (h : DI w Wd Bt va vb vs vm ds ts p W) (hb : Below W.heap.size W W') : DI w Wd Bt va vb vs vm ds ts p W' := by
  obtain ⟨vd, vt, h1, h2, h3, h4⟩ := h.row
  exact ⟨ext_trans h.old hb, Nat.le_trans h.size hb.size, fun k o hk hb' => block_up hb (h.kept k o hk hb'), vd, vt, block_up hb h1, h2.up hb, h3.up hb, h4⟩
end Go.Proofs.YtjmejfgkogjpaaaGreatDoor

namespace Go.Proofs.YtjmejfgkogjpaaaGreatDoor
open Go.RowKit Go Go.Shelf

theorem PlayOk.fits {m : Mac} {inputs : List Int} {word : List Rd} {n r : Nat} (h : PlayOk m inputs word n r) {k p : Nat} (hk : k < r + 1) (hp : p < n) :
    0 ≤ ((runL m inputs word).getD k []).getD p 0 ∧ ((runL m inputs word).getD k []).getD p 0 < (((m.out.getD k []).getD p []).length : Int) := by
  have hl : k < (runL m inputs word).length := by rw [h.rl]; exact hk
  have := (runL_fits h.good (word := word) h.il h.ir k _ (List.getElem?_eq_getElem hl)).2 p hp
  rw [getD_of_lt [] hl]
  exact this
theorem PlayOk.out {m : Mac} {inputs : List Int} {word : List Rd} {n r : Nat} (h : PlayOk m inputs word n r) {k p : Nat} (hk : k < r + 1) (hp : p < n) :
    -1 ≤ outS m k p (((runL m inputs word).getD k []).getD p 0) ∧ outS m k p (((runL m inputs word).getD k []).getD p 0) < 8 := by
  have h1 := h.fits hk hp
  generalize ((runL m inputs word).getD k []).getD p 0 = s at h1
  have h2 := h.good.outr k p s.toNat hk hp (by omega)
  have h3 := h.good.outs
  unfold outS
  omega
theorem PlayOk.when {m : Mac} {inputs : List Int} {word : List Rd} {n r : Nat} (h : PlayOk m inputs word n r) (p : Nat) : -1 ≤ whenS m (runL m inputs word) p ∧ whenS m (runL m inputs word) p < r + 1 := by
  unfold whenS
  have h1 := h.rl
  rcases firstIx_cases (runL m inputs word).length (fun k => decide (outS m k p (((runL m inputs word).getD k []).getD p 0) ≠ -1)) with ⟨e, _⟩ | ⟨k, hk, e, _⟩ <;> omega
theorem PlayOk.dec {m : Mac} {inputs : List Int} {word : List Rd} {n r : Nat} (h : PlayOk m inputs word n r) {p : Nat} (hp : p < n) : -1 ≤ decS m (runL m inputs word) p ∧ decS m (runL m inputs word) p < 8 := by
  have h1 := h.when p
  unfold decS
  split
  · omega
  · exact h.out (by omega) hp
theorem PlayOk.msg {m : Mac} {inputs : List Int} {word : List Rd} {n r : Nat} (h : PlayOk m inputs word n r) {x : Nat × Nat × Nat} (hk : x.1 < r) (hp : x.2.1 < n) (hq : x.2.2 < n) (hpq : x.2.1 ≠ x.2.2) :
    InR (msgS m (runL m inputs word) x).rd ∧ InR (msgS m (runL m inputs word) x).fr ∧ InR (msgS m (runL m inputs word) x).to ∧ (msgS m (runL m inputs word) x).bs.size ≤ 140737488351232 := by
  obtain ⟨k, p, q⟩ := x
  dsimp only at hk hp hq hpq
  have h5 := h.good.n5
  have h6 := h.good.r6
  have h1 := h.fits (k := k) (by omega) hp
  refine ⟨?_, ?_, ?_, ?_⟩
  · simp [msgS, InR]; omega
  · simp [msgS, InR]; omega
  · simp [msgS, InR]; omega
  · unfold msgS
    dsimp only
    generalize ((runL m inputs word).getD k []).getD p 0 = s at h1
    have h2 := h.good.symr k p q s.toNat hk hp hq (by rw [h.good.yq k p q hk hp hq, if_neg hpq]; omega)
    have h3 : (vint (symS m k p q s).toNat).length ≤ 64 := vint_len _ (by unfold symS; omega)
    show (msgL k p q (symS m k p q s).toNat).toArray.size ≤ _
    simp only [msgL, sealL, List.size_toArray, List.length_append, List.length_cons, List.length_nil]
    omega
end Go.Proofs.YtjmejfgkogjpaaaGreatDoor

namespace Go.Proofs.YtjmejfgkogjpaaaGreatDoor
open Go.RowKit Go Go.Shelf

structure C22 (w Wd Wr : World) (Bt : Nat) (a0 a1 a2 a3 vd vt : Value) (p : Nat) (ds ts : List Value) (d t : Value) (D : Nat → Bool) (x : Nat → Value) (W : World) : Prop where
  old : Below w.heap.size w W
  size : Wr.heap.size ≤ W.heap.size
  kept : ∀ (k : Nat) (o : Obj), Wr.heap[k]? = some o → k ≠ Bt → vd.ownBlock ≠ some k → vt.ownBlock ≠ some k → W.heap[k]? = some o
  rd : OwnT W Wd.heap.size 3 1 (bif D 4 then x 4 else vd) (bif D 4 then p + 1 else p) (bif D 4 then ds ++ [d] else ds)
  rt : OwnT W Wd.heap.size 3 1 (bif D 9 then x 9 else vt) (bif D 9 then p + 1 else p) (bif D 9 then ts ++ [t] else ts)
  ne : ∀ g, (bif D 4 then x 4 else vd).ownBlock = some g → (bif D 9 then x 9 else vt).ownBlock ≠ some g
  box : W.heap[Bt]? = some (.cells (trC a0 a1 a2 a3 (bif D 11 then x 4 else vd) (bif D 13 then x 9 else vt)) 35)
  s3 : D 3 = true → D 4 = false → ∃ g, x 3 = .slice (some ⟨g, 0, none⟩) 1 1 ∧ W.heap[g]? = some (.cells #[d] 3) ∧ vd.ownBlock ≠ some g ∧ (bif D 9 then x 9 else vt).ownBlock ≠ some g
  s8 : D 8 = true → D 9 = false → ∃ g, x 8 = .slice (some ⟨g, 0, none⟩) 1 1 ∧ W.heap[g]? = some (.cells #[t] 3) ∧ (bif D 4 then x 4 else vd).ownBlock ≠ some g ∧ vt.ownBlock ≠ some g
  o11 : D 11 = true → D 1 = true ∧ D 4 = true ∧ D 6 = true ∧ D 9 = true
  o13 : D 13 = true → D 11 = true
theorem C22.grow {w Wd Wr : World} {Bt : Nat} {a0 a1 a2 a3 vd vt : Value} {p : Nat} {ds ts : List Value} {d t : Value} {D : Nat → Bool} {x : Nat → Value} {W W' : World} (h : C22 w Wd Wr Bt a0 a1 a2 a3 vd vt p ds ts d t D x W) (hb : Below W.heap.size W W') : C22 w Wd Wr Bt a0 a1 a2 a3 vd vt p ds ts d t D x W' :=
  ⟨ext_trans h.old hb, Nat.le_trans h.size hb.size, fun k o h1 h2 h3 h4 => block_up hb (h.kept k o h1 h2 h3 h4), h.rd.up hb, h.rt.up hb, h.ne, block_up hb h.box,
    fun h1 h2 => by obtain ⟨g, e, q1, q2⟩ := h.s3 h1 h2; exact ⟨g, e, block_up hb q1, q2⟩, fun h1 h2 => by obtain ⟨g, e, q1, q2⟩ := h.s8 h1 h2; exact ⟨g, e, block_up hb q1, q2⟩, h.o11, h.o13⟩
theorem C22.app4 {w Wd Wr : World} {Bt : Nat} {a0 a1 a2 a3 vd vt : Value} {p : Nat} {ds ts : List Value} {d t : Value} {D : Nat → Bool} {x : Nat → Value} {W : World} (h : C22 w Wd Wr Bt a0 a1 a2 a3 vd vt p ds ts d t D x W) (h4 : D 4 = false) {v' : Value} {w3 : World} (ho : OwnT w3 Wd.heap.size 3 1 v' (p + 1) (ds ++ [d])) (hg : W.grownBy w3 vd.ownBlock) (hw : v'.ownBlock = vd.ownBlock ∨ v'.ownBlock = some W.heap.size) (hd : w.heap.size ≤ Wd.heap.size) :
    C22 w Wd Wr Bt a0 a1 a2 a3 vd vt p ds ts d t (upd D 4) (updV x 4 v') w3 := by
  have h11 : D 11 = false := by
    cases e : D 11 with
    | false => rfl
    | true => exact absurd (h.o11 e).2.1 (by rw [h4]; decide)
  have h13 : D 13 = false := by
    cases e : D 13 with
    | false => rfl
    | true => exact absurd (h.o13 e) (by rw [h11]; decide)
  have rd := h.rd
  rw [h4] at rd
  have ne := h.ne
  rw [h4] at ne
  have hst : ∀ (k : Nat) (o : Obj), W.heap[k]? = some o → vd.ownBlock ≠ some k → w3.heap[k]? = some o := fun k o hk hn => (hg.block k (block_lt hk) (fun e => hn e.symm)).trans hk
  have hne' : ∀ g, v'.ownBlock = some g → (bif D 9 then x 9 else vt).ownBlock ≠ some g := fun g hgv => by
    rcases hw with e | e
    · exact ne g (e ▸ hgv)
    · intro e2
      have := (h.rt.lt g e2).2
      rw [e] at hgv
      cases hgv
      omega
  refine ⟨Below.grown h.old hg h.old.size (fun g hgv => Nat.le_trans hd (rd.lt g hgv).1), Nat.le_trans h.size hg.size, fun k o h1 h2 h3 h5 => hst k o (h.kept k o h1 h2 h3 h5) h3, ho, h.rt.keep (fun g o hgv hk => hst g o hk (fun e => ne g e hgv)), hne', ?_, fun _ e => by simp [upd] at e, fun h8 h9 => ?_, fun e => absurd (h11.symm.trans e) (by decide), fun e => absurd (h13.symm.trans e) (by decide)⟩
  · have hb := h.box
    have : w3.heap[Bt]? = _ := hst Bt _ hb (fun e => rd.ne hb (by decide) Bt e rfl)
    rw [h11, h13] at this
    show w3.heap[Bt]? = some (.cells (trC a0 a1 a2 a3 (bif D 11 then v' else vd) (bif D 13 then x 9 else vt)) 35)
    rw [h11, h13]
    exact this
  · obtain ⟨g, e, q1, q2, q3⟩ := h.s8 h8 h9
    rw [h4] at q2
    refine ⟨g, e, hst g _ q1 q2, ?_, q3⟩
    show v'.ownBlock ≠ some g
    rcases hw with e | e
    · rw [e]; exact q2
    · rw [e]
      intro e2
      cases e2
      have := block_lt q1
      omega
theorem C22.app9 {w Wd Wr : World} {Bt : Nat} {a0 a1 a2 a3 vd vt : Value} {p : Nat} {ds ts : List Value} {d t : Value} {D : Nat → Bool} {x : Nat → Value} {W : World} (h : C22 w Wd Wr Bt a0 a1 a2 a3 vd vt p ds ts d t D x W) (h4 : D 4 = true) (h9 : D 9 = false) {v' : Value} {w3 : World} (ho : OwnT w3 Wd.heap.size 3 1 v' (p + 1) (ts ++ [t])) (hg : W.grownBy w3 vt.ownBlock) (hw : v'.ownBlock = vt.ownBlock ∨ v'.ownBlock = some W.heap.size) (hd : w.heap.size ≤ Wd.heap.size) :
    C22 w Wd Wr Bt a0 a1 a2 a3 vd vt p ds ts d t (upd D 9) (updV x 9 v') w3 := by
  have h11 : D 11 = false := by
    cases e : D 11 with
    | false => rfl
    | true => exact absurd (h.o11 e).2.2.2 (by rw [h9]; decide)
  have h13 : D 13 = false := by
    cases e : D 13 with
    | false => rfl
    | true => exact absurd (h.o13 e) (by rw [h11]; decide)
  have rt := h.rt
  rw [h9] at rt
  have ne := h.ne
  rw [h9] at ne
  have hst : ∀ (k : Nat) (o : Obj), W.heap[k]? = some o → vt.ownBlock ≠ some k → w3.heap[k]? = some o := fun k o hk hn => (hg.block k (block_lt hk) (fun e => hn e.symm)).trans hk
  have hne' : ∀ g, (bif D 4 then x 4 else vd).ownBlock = some g → v'.ownBlock ≠ some g := fun g hgv => by
    rcases hw with e | e
    · rw [e]; exact ne g hgv
    · rw [e]
      intro e2
      cases e2
      have := (h.rd.lt _ hgv).2
      omega
  refine ⟨Below.grown h.old hg h.old.size (fun g hgv => Nat.le_trans hd (rt.lt g hgv).1), Nat.le_trans h.size hg.size, fun k o h1 h2 h3 h5 => hst k o (h.kept k o h1 h2 h3 h5) h5, h.rd.keep (fun g o hgv hk => hst g o hk (ne g hgv)), ho, hne', ?_, fun _ e => absurd (h4.symm.trans e) (by decide), fun _ e => by simp [upd] at e, fun e => absurd (h11.symm.trans e) (by decide), fun e => absurd (h13.symm.trans e) (by decide)⟩
  have hb := h.box
  have : w3.heap[Bt]? = _ := hst Bt _ hb (fun e => rt.ne hb (by decide) Bt e rfl)
  rw [h11, h13] at this
  show w3.heap[Bt]? = some (.cells (trC a0 a1 a2 a3 (bif D 11 then x 4 else vd) (bif D 13 then v' else vt)) 35)
  rw [h11, h13]
  exact this
theorem C22.build3 {w Wd Wr : World} {Bt : Nat} {a0 a1 a2 a3 vd vt : Value} {p : Nat} {ds ts : List Value} {d t : Value} {D : Nat → Bool} {x : Nat → Value} {W : World} (h : C22 w Wd Wr Bt a0 a1 a2 a3 vd vt p ds ts d t D x W) : C22 w Wd Wr Bt a0 a1 a2 a3 vd vt p ds ts d t (upd D 3) (updV x 3 (.slice (some ⟨W.heap.size, 0, none⟩) 1 1)) (W.alloc (.cells #[d] 3)) := by
  have g := h.grow (W' := W.alloc (.cells #[d] 3)) (by go_grown)
  refine ⟨g.old, g.size, g.kept, g.rd, g.rt, g.ne, g.box, fun _ h4 => ⟨W.heap.size, rfl, alloc_new _ _, fun e => ?_, fun e => ?_⟩, g.s8, g.o11, g.o13⟩
  · have h4' : D 4 = false := h4
    have r := h.rd
    rw [h4'] at r
    have := (r.lt _ e).2
    omega
  · have := (h.rt.lt _ e).2
    omega
theorem C22.build8 {w Wd Wr : World} {Bt : Nat} {a0 a1 a2 a3 vd vt : Value} {p : Nat} {ds ts : List Value} {d t : Value} {D : Nat → Bool} {x : Nat → Value} {W : World} (h : C22 w Wd Wr Bt a0 a1 a2 a3 vd vt p ds ts d t D x W) : C22 w Wd Wr Bt a0 a1 a2 a3 vd vt p ds ts d t (upd D 8) (updV x 8 (.slice (some ⟨W.heap.size, 0, none⟩) 1 1)) (W.alloc (.cells #[t] 3)) := by
  have g := h.grow (W' := W.alloc (.cells #[t] 3)) (by go_grown)
  refine ⟨g.old, g.size, g.kept, g.rd, g.rt, g.ne, g.box, g.s3, fun _ h9 => ⟨W.heap.size, rfl, alloc_new _ _, fun e => ?_, fun e => ?_⟩, g.o11, g.o13⟩
  · have := (h.rd.lt _ e).2
    omega
  · have h9' : D 9 = false := h9
    have r := h.rt
    rw [h9'] at r
    have := (r.lt _ e).2
    omega
theorem C22.put {w Wd Wr : World} {Bt : Nat} {a0 a1 a2 a3 vd vt : Value} {p : Nat} {ds ts : List Value} {d t : Value} {D : Nat → Bool} {x : Nat → Value} {W : World} (h : C22 w Wd Wr Bt a0 a1 a2 a3 vd vt p ds ts d t D x W) (h4 : D 4 = true) (h9 : D 9 = true) (hd : w.heap.size ≤ Bt) {D' : Nat → Bool} {x' : Nat → Value} (hD : ∀ j, j ≠ 11 → j ≠ 13 → D' j = D j) (hx4 : x' 4 = x 4) (hx9 : x' 9 = x 9) (o : Nat) (v : Value)
    (hbox : (trC a0 a1 a2 a3 (bif D 11 then x 4 else vd) (bif D 13 then x 9 else vt)).setIfInBounds o v = trC a0 a1 a2 a3 (bif D' 11 then x' 4 else vd) (bif D' 13 then x' 9 else vt)) (h1 : D 1 = true) (h6 : D 6 = true) (h13 : D' 13 = true → D' 11 = true) :
    C22 w Wd Wr Bt a0 a1 a2 a3 vd vt p ds ts d t D' x' (W.setCell ⟨Bt, o, none⟩ v) := by
  have e4 := (hD 4 (by decide) (by decide)).trans h4
  have e9 := (hD 9 (by decide) (by decide)).trans h9
  have rd := h.rd
  have rt := h.rt
  have ne := h.ne
  rw [h4] at rd ne
  rw [h9] at rt ne
  have hb := h.box
  refine ⟨h.old.setCell (p := ⟨Bt, o, none⟩) hd _, by simp; exact h.size, fun k ob h1 h2 h3 h5 => setCell_other (h.kept k ob h1 h2 h3 h5) h2 _ _, ?_, ?_, ?_, ?_, fun _ e => absurd (e4.symm.trans e) (by decide), fun _ e => absurd (e9.symm.trans e) (by decide), fun _ => ⟨(hD 1 (by decide) (by decide)).trans h1, e4, (hD 6 (by decide) (by decide)).trans h6, e9⟩, h13⟩
  · rw [e4, hx4]
    exact rd.put (rd.ne hb (by decide)) _ _
  · rw [e9, hx9]
    exact rt.put (rt.ne hb (by decide)) _ _
  · rw [e4, e9, hx4, hx9]
    exact ne
  · rw [setCell_same hb, hbox]
theorem tk_snoc {f : Nat → Int} {n p : Nat} {ds : List Int} {d : Int} (h : (List.range n).map f = ds) (hp : p < n) (hd : f p = d) : (ds.take (p + 1)).map (Value.int .i64) = (ds.take p).map (Value.int .i64) ++ [.int .i64 d] := by
  have h1 : ds[p]? = some d := by
    rw [← h, ← hd]
    simp [hp]
  rw [List.take_add_one, h1]
  simp
theorem when_at {m : Mac} {L : List (List Int)} {p q : Nat} {y : Int} (hq : q < L.length) (h : ∀ j, j < q → outS m j p ((L.getD j []).getD p 0) = -1) (ho : outS m q p ((L.getD q []).getD p 0) = y) (hy : y ≠ -1) : whenS m L p = q ∧ decS m L p = y := by
  have h1 : whenS m L p = q := firstIx_at _ _ _ hq (fun j hj => by (rw [h j hj]; rfl)) (by rw [ho]; simpa using hy)
  refine ⟨h1, ?_⟩
  unfold decS
  rw [h1, if_neg (by omega), Int.toNat_natCast, ho]
theorem when_none {m : Mac} {L : List (List Int)} {p : Nat} (h : ∀ j, j < L.length → outS m j p ((L.getD j []).getD p 0) = -1) : whenS m L p = -1 ∧ decS m L p = -1 := by
  have h1 : whenS m L p = -1 := firstIx_none _ _ (fun j hj => by (rw [h j hj]; rfl))
  refine ⟨h1, ?_⟩
  unfold decS
  rw [h1]
  rfl
end Go.Proofs.YtjmejfgkogjpaaaGreatDoor

namespace Go.Proofs.YtjmejfgkogjpaaaGreatDoor
open Go.RowKit Go Go.Shelf

structure CM (w Wr : World) (base Bt : Nat) (a0 a1 a2 vm : Value) (p : Nat) (ds : List Value) (d : Array Value) (D : Nat → Bool) (x : Nat → Value) (W : World) : Prop where
  old : Below w.heap.size w W
  size : Wr.heap.size ≤ W.heap.size
  kept : ∀ (k : Nat) (o : Obj), Wr.heap[k]? = some o → k ≠ Bt → vm.ownBlock ≠ some k → W.heap[k]? = some o
  rd : OwnT W base 65 4 (bif D 18 then x 18 else vm) (bif D 18 then p + 1 else p) (bif D 18 then ds ++ d.toList else ds)
  box : W.heap[Bt]? = some (.cells (trC a0 a1 a2 (bif D 20 then x 18 else vm) (.slice none 0 0) (.slice none 0 0)) 35)
  s17 : D 17 = true → D 18 = false → ∃ g, x 17 = .slice (some ⟨g, 0, none⟩) 1 1 ∧ W.heap[g]? = some (.cells d 65) ∧ vm.ownBlock ≠ some g
  o20 : D 20 = true → D 1 = true ∧ D 18 = true
theorem CM.grow {w Wr : World} {base Bt : Nat} {a0 a1 a2 vm : Value} {p : Nat} {ds : List Value} {d : Array Value} {D : Nat → Bool} {x : Nat → Value} {W W' : World} (h : CM w Wr base Bt a0 a1 a2 vm p ds d D x W) (hb : Below W.heap.size W W') : CM w Wr base Bt a0 a1 a2 vm p ds d D x W' :=
  ⟨ext_trans h.old hb, Nat.le_trans h.size hb.size, fun k o h1 h2 h3 => block_up hb (h.kept k o h1 h2 h3), h.rd.up hb, block_up hb h.box,
    fun h1 h2 => by obtain ⟨g, e, q1, q2⟩ := h.s17 h1 h2; exact ⟨g, e, block_up hb q1, q2⟩, h.o20⟩
theorem CM.app {w Wr : World} {base Bt : Nat} {a0 a1 a2 vm : Value} {p : Nat} {ds : List Value} {d : Array Value} {D : Nat → Bool} {x : Nat → Value} {W : World} (h : CM w Wr base Bt a0 a1 a2 vm p ds d D x W) (h18 : D 18 = false) {v' : Value} {w3 : World} (ho : OwnT w3 base 65 4 v' (p + 1) (ds ++ d.toList)) (hg : W.grownBy w3 vm.ownBlock) (hd : w.heap.size ≤ base) :
    CM w Wr base Bt a0 a1 a2 vm p ds d (upd D 18) (updV x 18 v') w3 := by
  have h20 : D 20 = false := by
    cases e : D 20 with
    | false => rfl
    | true => exact absurd (h.o20 e).2 (by rw [h18]; decide)
  have rd := h.rd
  rw [h18] at rd
  have hst : ∀ (k : Nat) (o : Obj), W.heap[k]? = some o → vm.ownBlock ≠ some k → w3.heap[k]? = some o := fun k o hk hn => (hg.block k (block_lt hk) (fun e => hn e.symm)).trans hk
  refine ⟨Below.grown h.old hg h.old.size (fun g hgv => Nat.le_trans hd (rd.lt g hgv).1), Nat.le_trans h.size hg.size, fun k o h1 h2 h3 => hst k o (h.kept k o h1 h2 h3) h3, ho, ?_, fun _ e => by simp [upd] at e, fun e => absurd (h20.symm.trans e) (by decide)⟩
  have hb := h.box
  have : w3.heap[Bt]? = _ := hst Bt _ hb (fun e => rd.ne hb (by decide) Bt e rfl)
  rw [h20] at this
  show w3.heap[Bt]? = some (.cells (trC a0 a1 a2 (bif D 20 then v' else vm) (.slice none 0 0) (.slice none 0 0)) 35)
  rw [h20]
  exact this
theorem CM.build {w Wr : World} {base Bt : Nat} {a0 a1 a2 vm : Value} {p : Nat} {ds : List Value} {d : Array Value} {D : Nat → Bool} {x : Nat → Value} {W : World} (h : CM w Wr base Bt a0 a1 a2 vm p ds d D x W) : CM w Wr base Bt a0 a1 a2 vm p ds d (upd D 17) (updV x 17 (.slice (some ⟨W.heap.size, 0, none⟩) 1 1)) (W.alloc (.cells d 65)) := by
  have g := h.grow (W' := W.alloc (.cells d 65)) (by go_grown)
  refine ⟨g.old, g.size, g.kept, g.rd, g.box, fun _ h4 => ⟨W.heap.size, rfl, alloc_new _ _, fun e => ?_⟩, g.o20⟩
  have h4' : D 18 = false := h4
  have r := h.rd
  rw [h4'] at r
  have := (r.lt _ e).2
  omega
theorem CM.put {w Wr : World} {base Bt : Nat} {a0 a1 a2 vm : Value} {p : Nat} {ds : List Value} {d : Array Value} {D : Nat → Bool} {x : Nat → Value} {W : World} (h : CM w Wr base Bt a0 a1 a2 vm p ds d D x W) (h18 : D 18 = true) (h1 : D 1 = true) (hd : w.heap.size ≤ Bt) :
    CM w Wr base Bt a0 a1 a2 vm p ds d (upd D 20) (updV x 20 undef) (W.setCell ⟨Bt, 3, none⟩ (x 18)) := by
  have rd := h.rd
  rw [h18] at rd
  have hb := h.box
  refine ⟨h.old.setCell (p := ⟨Bt, 3, none⟩) hd _, by simp; exact h.size, fun k ob h1 h2 h3 => setCell_other (h.kept k ob h1 h2 h3) h2 _ _, ?_, ?_, fun _ e => ?_, fun _ => ⟨h1, h18⟩⟩
  · show OwnT _ base 65 4 (bif D 18 then x 18 else vm) (bif D 18 then p + 1 else p) (bif D 18 then ds ++ d.toList else ds)
    rw [h18]
    exact rd.put (rd.ne hb (by decide)) _ _
  · rw [setCell_same hb]
    rfl
  · have e' : D 18 = false := e
    exact absurd (h18.symm.trans e') (by decide)
/-- between two rounds of the loop over places -/
structure MI (w w1 : World) (Bt : Nat) (va vb vs : Value) (xs : List Msg) (i : Nat) (W : World) : Prop where
  old : Below w.heap.size w W
  size : w1.heap.size ≤ W.heap.size
  kept : ∀ (k : Nat) (o : Obj), w1.heap[k]? = some o → k ≠ Bt → W.heap[k]? = some o
  row : ∃ v, W.heap[Bt]? = some (.cells (trC va vb vs v (.slice none 0 0) (.slice none 0 0)) 35) ∧ OwnT W w1.heap.size 65 4 v i (flatM (xs.take i))
theorem MI.up {w w1 : World} {Bt : Nat} {va vb vs : Value} {xs : List Msg} {i : Nat} {W W' : World} (h : MI w w1 Bt va vb vs xs i W) (hb : Below W.heap.size W W') : MI w w1 Bt va vb vs xs i W' := by
  obtain ⟨v, h1, h2⟩ := h.row
  exact ⟨ext_trans h.old hb, Nat.le_trans h.size hb.size, fun k o hk hn => block_up hb (h.kept k o hk hn), v, block_up hb h1, h2.up hb⟩
end Go.Proofs.YtjmejfgkogjpaaaGreatDoor

namespace Go.Proofs.YtjmejfgkogjpaaaGreatDoor
open Go.RowKit Go Go.Shelf

theorem ret_str {a b : ByteArray} (h : a = b) : Ending.returned (.string a) = .returned (.string b) := by rw [h]
theorem bytesOf_append (a b : List UInt8) : bytesOf a ++ bytesOf b = bytesOf (a ++ b) := by
  apply ByteArray.ext
  simp [bytesOf, ByteArray.data_append]
theorem sz_app {a b : ByteArray} {x y z : Int} (h1 : (a.size : Int) ≤ x) (h2 : (b.size : Int) ≤ y) (h : x + y ≤ z) : ((a ++ b).size : Int) ≤ z := by
  rw [ByteArray.size_append]; omega
/-- a string, with a bound for its length -/
theorem sz_of (l : List UInt8) {z : Int} (h : (l.length : Int) ≤ z) : ∃ b, bytesOf l = b ∧ (b.size : Int) ≤ z := ⟨_, rfl, by show ((l.toArray.size : Nat) : Int) ≤ z; simpa using h⟩
theorem bytesOf_size (a : List UInt8) : (bytesOf a).size = a.length := by show a.toArray.size = _; simp

set_option maxHeartbeats 1000000 in
theorem rbyte_any (n : Nat) (hn : n < 256) (w : World) :
    Calls Tryz.prog 99 #[.int .i64 n] w fun e w' => e = .returned (.string (bytesOf [UInt8.ofNat n])) ∧ Below w.heap.size w w' := by
  have hw1 : IntKind.u8.wrap (n : Int) = (n : Int) := by rw [IntKind.wrap_u8]; omega
  have HB := byteV_ofNat n hn
  obtain ⟨_, _, e, hconv⟩ := conv_back (w := w.alloc (.cells #[.int .u8 (n : Int)] 5)) (base := w.heap.size) (v := .slice (some ⟨w.heap.size, 0, none⟩) 1 1) (l := [UInt8.ofNat n])
    ⟨rfl, .inr ⟨w.heap.size, 1, _, (0, 0), rfl, Nat.le_refl _, alloc_new _ _, fun i _ hh => by have := hh.2; simp at this, Nat.le_refl _, by unfold maxLen; omega, rfl, by rw [List.map_cons, HB]; rfl⟩⟩ (by simp)
  clear e HB
  go_enter Tryz.func99, Tryz.ntmps99
  go_wp2_with fail
  go_ret
  exact ⟨rfl, by go_grown⟩

set_option maxRecDepth 100000 in
set_option maxHeartbeats 1000000 in
theorem rchecksum_any (b : ByteArray) (hb : b.size ≤ 140737488351232) (w : World) :
    Calls Tryz.prog 121 #[.string b] w fun e w' => e = .returned (.int .i64 (ckS b.data.toList)) ∧ w = w' := by
  have HK : Hid (ckS b.data.toList = ckAt b.data.toList b.size b.size) := by (have h : ckS b.data.toList = ckAt b.data.toList b.size b.size := by (unfold ckS; simp)); exact h
  go_enter Tryz.func121, Tryz.ntmps121
  go_wp2
  go_loop [3, 4] (fun s i => ∃ k : Nat, k ≤ b.size ∧ i = .int .i64 k ∧ s = .int .i64 (ckAt b.data.toList b.size k)) (fun _ i => b.size - (intOf i).toNat)
  case atStart => exact ⟨0, by omega, rfl, by simp [ckAt]⟩
  case round =>
    obtain ⟨k, hk, rfl, rfl⟩ := hrel
    by_cases hlt : k < b.size
    · have hix := index_run b k hlt
      have hbi : byteI b k = ((b.data.toList.getD k 0).toNat : Int) := rfl
      rw [hbi] at hix
      clear hbi
      have hs := ckAt_lt b.data.toList b.size k
      have HS : Hid (ckAt b.data.toList b.size (k + 1) = (ckAt b.data.toList b.size k + (k + 1) % 65521 * (b.data.toList.getD k 0).toNat) % 65521) := by exact rfl
      have hx := byte_lt (b.data.toList.getD k 0)
      generalize (b.data.toList.getD k 0).toNat = x at hix hx HS
      generalize ckAt b.data.toList b.size k = s at hs HS
      have hm : ((k : Int) + 1) % 65521 * (x : Int) ≤ 65520 * 255 := Int.mul_le_mul (by omega) (by omega) (by omega) (by omega)
      have hm0 : 0 ≤ ((k : Int) + 1) % 65521 * (x : Int) := Int.mul_nonneg (by omega) (by omega)
      have hw1 : IntKind.i64.wrap (((k : Int) + 1) % 65521 * (x : Int)) = ((k : Int) + 1) % 65521 * (x : Int) := IntWalk.i64_in _ (by omega)
      have hw2 : IntKind.i64.wrap ((s : Int) + ((k : Int) + 1) % 65521 * (x : Int)) = (s : Int) + ((k : Int) + 1) % 65521 * (x : Int) := IntWalk.i64_in _ (by omega)
      have HM := Lib.hid (And.intro hm hm0)
      clear hm hm0
      go_wp2
      go_round
      case rel => exact ⟨k + 1, by omega, by go_num, by rw [HS.out, ← ck_cast 65521]; rfl⟩
      case measure => simp [intOf]; omega
    · obtain rfl : k = b.size := by omega
      go_wp2
      go_ret
      exact ⟨ret_int (by rw [HK.out]), rfl⟩

set_option maxHeartbeats 1000000 in
theorem rsealed_any (l : List UInt8) (h1 : l.length ≤ 1048576) (w : World) :
    Calls Tryz.prog 98 #[.string (bytesOf l)] w fun e w' => e = .returned (.string (bytesOf (sealL l))) ∧ Below w.heap.size w w' := by
  have HCK := Lib.hid (rchecksum_any (bytesOf l) (by rw [bytesOf_size]; omega) w)
  have hdl : (bytesOf l).data.toList = l := by simp [bytesOf]
  rw [hdl] at HCK
  have hck := ckS_lt l
  have HSL : Hid (sealL l = l ++ [UInt8.ofNat (ckS l / 256), UInt8.ofNat (ckS l % 256)]) := by exact rfl
  generalize ckS l = ck at hck HCK HSL
  obtain ⟨z1, hz1⟩ : ∃ z1, z1 = ck / 256 := ⟨_, rfl⟩
  obtain ⟨z2, hz2⟩ : ∃ z2, z2 = ck % 256 := ⟨_, rfl⟩
  rw [← hz1, ← hz2] at HSL
  have hd1 : (ck : Int) / 256 = (z1 : Int) := by omega
  have hd2 : (ck : Int) % 256 = (z2 : Int) := by omega
  have hd1' : (ck : Int).tdiv 256 = (z1 : Int) := by rw [Int.tdiv_eq_ediv_of_nonneg (by omega)]; exact hd1
  have hd2' : (ck : Int).tmod 256 = (z2 : Int) := by rw [Int.tmod_eq_emod_of_nonneg (by omega)]; exact hd2
  have hl1 : z1 < 256 := by omega
  have hl2 : z2 < 256 := by omega
  clear hz1 hz2 hdl
  obtain ⟨a, ha, sa⟩ := sz_of l (z := 1048576) (by omega)
  obtain ⟨y1, h1, s1⟩ := sz_of [UInt8.ofNat z1] (z := 8) (by simp)
  obtain ⟨y2, h2, s2⟩ := sz_of [UInt8.ofNat z2] (z := 8) (by simp)
  have s3 : ((a ++ y1).size : Int) ≤ 2097152 := sz_app sa s1 (by omega)
  have sa' : (a.size : Int) ≤ 8388608 := by omega
  have s1' : (y1.size : Int) ≤ 8388608 := by omega
  have s2' : (y2.size : Int) ≤ 8388608 := by omega
  have s3' : ((a ++ y1).size : Int) ≤ 8388608 := by omega
  have HEND : Hid (a ++ y1 ++ y2 = bytesOf (sealL l)) := by
    (have h : a ++ y1 ++ y2 = bytesOf (sealL l) := by (rw [HSL.out, ← ha, ← h1, ← h2, bytesOf_append, bytesOf_append, List.append_assoc]; rfl)); exact h
  have HC1 := Lib.hid (fun w => rbyte_any z1 hl1 w)
  have HC2 := Lib.hid (fun w => rbyte_any z2 hl2 w)
  rw [h1] at HC1
  rw [h2] at HC2
  rw [ha] at HCK ⊢
  clear ha h1 h2 s3 sa s1 s2
  go_enter Tryz.func98, Tryz.ntmps98
  go_wp2_with fail
  refine HCK.out.mono ?_
  rintro e w1 ⟨rfl, rfl⟩
  go_wp2_with fail
  refine (HC1.out _).mono ?_
  rintro e w2 ⟨rfl, hb2⟩
  go_wp2_with fail
  refine (HC2.out _).mono ?_
  rintro e w3 ⟨rfl, hb3⟩
  go_wp2_with fail
  go_ret
  exact ⟨ret_str HEND.out, ext_trans hb2 hb3⟩

set_option maxHeartbeats 2000000 in
theorem rnumber_any (n : Nat) (hn : n ≤ 1048576) (w : World) :
    Calls Tryz.prog 100 #[.int .i64 n] w fun e w' => e = .returned (.string (bytesOf (vint n))) ∧ Below w.heap.size w w' := by
  go_enter Tryz.func100, Tryz.ntmps100
  go_wp2_with fail
  go_loopw [0, 3] (fun i s wr => Below w.heap.size w wr ∧ ∃ (k : Nat) (l : List UInt8), k ≤ 1048576 ∧ i = .int .i64 k ∧ s = .string (bytesOf l) ∧ l.length ≤ 1048576 - k ∧ l ++ vint k = vint n) (fun i _ _ => (intOf i).toNat)
  case atStart => exact ⟨Below.refl _ _, n, [], hn, rfl, rfl, by simp, rfl⟩
  case round =>
    obtain ⟨hbr, k, l, hk, rfl, rfl, hll, hl⟩ := hrel
    obtain ⟨a, ha, sa⟩ := sz_of l (z := 8388608) (by omega)
    have HA := Lib.hid ha
    rw [ha]
    clear ha
    have HL := Lib.hid hl
    clear hl
    by_cases hk1 : 127 < k
    · obtain ⟨q, hq⟩ : ∃ q, q = k / 128 := ⟨_, rfl⟩
      obtain ⟨b, hb⟩ : ∃ b, b = k % 128 + 128 := ⟨_, rfl⟩
      have hk1' : (127 : Int) < (k : Int) := by omega
      have hd1 : (k : Int).tdiv 128 = (q : Int) := by rw [Int.tdiv_eq_ediv_of_nonneg (by omega)]; omega
      have hd1' : (k : Int) / 128 = (q : Int) := by omega
      have hd2 : IntKind.i64.wrap ((k : Int).tmod 128 + 128) = (b : Int) := by rw [Int.tmod_eq_emod_of_nonneg (by omega), IntWalk.i64_in _ (by omega)]; omega
      have hd2' : (k : Int) % 128 + 128 = (b : Int) := by omega
      have hbl : b < 256 := by omega
      have HV : Hid (vint k = UInt8.ofNat b :: vint q) := by (have h : vint k = UInt8.ofNat b :: vint q := by (rw [vint_big k hk1, hb, hq])); exact h
      have hql : q < k := by omega
      clear hq hb
      obtain ⟨y, hy, sy⟩ := sz_of [UInt8.ofNat b] (z := 8388608) (by simp)
      have HC1 := Lib.hid (fun w => rbyte_any b hbl w)
      rw [hy] at HC1
      have HE : Hid (a ++ y = bytesOf (l ++ [UInt8.ofNat b])) := by (have h : a ++ y = bytesOf (l ++ [UInt8.ofNat b]) := by (rw [← HA.out, ← hy, bytesOf_append])); exact h
      clear hy
      go_wp2_with fail
      refine (HC1.out _).mono ?_
      rintro e w2 ⟨rfl, hb2⟩
      go_wp2_with fail
      go_roundw
      case rel => exact ⟨ext_trans hbr hb2, q, l ++ [UInt8.ofNat b], by omega, rfl, by rw [HE.out], by simp; omega, by rw [List.append_assoc, ← HL.out, HV.out]; rfl⟩
      case measure => simp [intOf]; omega
    · have hk1' : ¬ (127 : Int) < (k : Int) := by omega
      obtain ⟨y, hy, sy⟩ := sz_of [UInt8.ofNat k] (z := 8388608) (by simp)
      have HC1 := Lib.hid (fun w => rbyte_any k (by omega) w)
      rw [hy] at HC1
      have HE : Hid (a ++ y = bytesOf (vint n)) := by (have h : a ++ y = bytesOf (vint n) := by (rw [← HA.out, ← hy, bytesOf_append, ← HL.out, vint_small k (by omega)])); exact h
      clear hy
      go_wp2_with fail
      refine (HC1.out _).mono ?_
      rintro e w2 ⟨rfl, hb2⟩
      go_wp2_with fail
      go_ret
      exact ⟨ret_str HE.out, ext_trans hbr hb2⟩

set_option maxHeartbeats 2000000 in
theorem rmessage_any (k p q s : Nat) (hk : k < 256) (hp : p < 256) (hq : q < 256) (hs : s ≤ 1048576) (w : World) :
    Calls Tryz.prog 54 #[.int .i64 k, .int .i64 p, .int .i64 q, .int .i64 s] w fun e w' => e = .returned (.string (bytesOf (msgL k p q s))) ∧ Below w.heap.size w w' := by
  have HM : Hid (msgL k p q s = sealL ([UInt8.ofNat k, UInt8.ofNat p, UInt8.ofNat q] ++ vint s)) := by exact rfl
  have hvl := vint_len s (by omega)
  obtain ⟨y1, h1, s1⟩ := sz_of [UInt8.ofNat k] (z := 8) (by simp)
  obtain ⟨y2, h2, s2⟩ := sz_of [UInt8.ofNat p] (z := 8) (by simp)
  obtain ⟨y3, h3, s3⟩ := sz_of [UInt8.ofNat q] (z := 8) (by simp)
  obtain ⟨y4, h4, s4⟩ := sz_of (vint s) (z := 64) (by omega)
  have s5 : ((y1 ++ y2).size : Int) ≤ 16 := sz_app s1 s2 (by omega)
  have s6 : ((y1 ++ y2 ++ y3).size : Int) ≤ 24 := sz_app s5 s3 (by omega)
  have s1' : (y1.size : Int) ≤ 8388608 := by omega
  have s2' : (y2.size : Int) ≤ 8388608 := by omega
  have s3' : (y3.size : Int) ≤ 8388608 := by omega
  have s4' : (y4.size : Int) ≤ 8388608 := by omega
  have s5' : ((y1 ++ y2).size : Int) ≤ 8388608 := by omega
  have s6' : ((y1 ++ y2 ++ y3).size : Int) ≤ 8388608 := by omega
  have HC1 := Lib.hid (fun w => rbyte_any k hk w)
  have HC2 := Lib.hid (fun w => rbyte_any p hp w)
  have HC3 := Lib.hid (fun w => rbyte_any q hq w)
  have HC4 := Lib.hid (fun w => rnumber_any s hs w)
  have hcat : bytesOf ([UInt8.ofNat k, UInt8.ofNat p, UInt8.ofNat q] ++ vint s) = y1 ++ y2 ++ y3 ++ y4 := by
    rw [← h1, ← h2, ← h3, ← h4, bytesOf_append, bytesOf_append, bytesOf_append]; rfl
  have HC5 := Lib.hid (fun w => rsealed_any ([UInt8.ofNat k, UInt8.ofNat p, UInt8.ofNat q] ++ vint s) (by simp; omega) w)
  rw [hcat] at HC5
  rw [h1] at HC1
  rw [h2] at HC2
  rw [h3] at HC3
  rw [h4] at HC4
  clear h1 h2 h3 h4 hcat s1 s2 s3 s4 s5 s6
  go_enter Tryz.func54, Tryz.ntmps54
  go_wp2_with fail
  refine (HC1.out _).mono ?_
  rintro e w1 ⟨rfl, hb1⟩
  go_wp2_with fail
  refine (HC2.out _).mono ?_
  rintro e w2 ⟨rfl, hb2⟩
  go_wp2_with fail
  refine (HC3.out _).mono ?_
  rintro e w3 ⟨rfl, hb3⟩
  go_wp2_with fail
  refine (HC4.out _).mono ?_
  rintro e w4 ⟨rfl, hb4⟩
  go_wp2_with fail
  refine (HC5.out _).mono ?_
  rintro e w5 ⟨rfl, hb5⟩
  go_wp2_with fail
  go_ret
  exact ⟨by rw [HM.out]; rfl, ext_trans (ext_trans (ext_trans (ext_trans hb1 hb2) hb3) hb4) hb5⟩
end Go.Proofs.YtjmejfgkogjpaaaGreatDoor

namespace Go.Proofs.YtjmejfgkogjpaaaGreatDoor
open Go.RowKit Go Go.Shelf

/-- The law. -/
theorem wpAny_core3 {P : Program} {l : List Oper} {Q : Exit → Act → World → Prop} {T : Array Value} {d : List Deferred} {w : World} (n : Nat) (S : List Nat) (V : List (Option Value)) (Core : (Nat → Bool) → (Nat → Value) → World → Prop) (hn : l.toArray.size = n) (hS : S.Nodup) (hSl : S.length = n) (hB : backB2 l.toArray n = true)
    (h0 : ∀ x, Core (fun _ => false) x w.drew)
    (hstep : ∀ x W D i o s F, i < n → l.toArray[i]? = some o → S[i]? = some s → D i = false → (∀ j s', S[j]? = some s' → D j = false → x j = T[s']!) → (∀ j o', l.toArray[j]? = some o' → D j = true → ∀ e ∈ o'.after, Region.binds .any e = true → D e.on = true) → (∀ e ∈ o.after, Region.binds .any e = true → D e.on = true) → (∀ j c, j < n → D j = true → V.getD j none = some c → x j = c) → Core D x W → F = setAll T S x →
      wpList P l.toArray (Exit.then (CoreK F d V Core D i s x) Q) [o] { tmps := F, defers := d } W)
    (hend : ∀ x W D F, (∀ j, j < n → D j = true) → (∀ j c, j < n → V.getD j none = some c → x j = c) → Core D x W → F = setAll T S x → Q .normal { tmps := F, defers := d } W) :
    wpAny P .any l.toArray Q l.toArray.size (Array.replicate l.toArray.size false) { tmps := T, defers := d } w.drew := by
  refine wpAny_inv2 hn hB (fun D a W => ∃ x, a = { tmps := setAll T S x, defers := d } ∧ (∀ j s, S[j]? = some s → D j = false → x j = T[s]!) ∧ (∀ j o', l.toArray[j]? = some o' → D j = true → ∀ e ∈ o'.after, Region.binds .any e = true → D e.on = true) ∧ (∀ j c, j < n → D j = true → V.getD j none = some c → x j = c) ∧ Core D x W) ?_ ?_ _ _ _ _ (by rw [Array.size_replicate, hn]) ?_ ?_
  · rintro D a W i o hi ho hD hdep ⟨x, rfl, hun, hcl, hv, hc⟩
    obtain ⟨s, hs⟩ : ∃ s, S[i]? = some s := ⟨S[i], List.getElem?_eq_getElem (by omega)⟩
    refine wpOp_mono' ?_ (wpOp_one ho (hstep x W D i o s _ hi ho hs hD hun hcl hdep hv hc rfl))
    rintro a' W' ⟨v, rfl, hv', hc'⟩
    refine ⟨updV x i v, by rw [setAll_upd T S hS x i s v hs], fun j sj hsj hDj => ?_, fun j oj hoj hDj e he hb => ?_, fun j c hj hDj hV => ?_, hc'⟩
    · by_cases e : j = i
      · subst e; simp [upd] at hDj
      · rw [updV_ne _ _ e]
        exact hun j sj hsj (by simpa [upd, e] using hDj)
    · have hgo : D e.on = true := by
        by_cases ej : j = i
        · subst ej
          rw [ho] at hoj
          cases hoj
          exact hdep e he hb
        · exact hcl j oj hoj (by simpa [upd, ej] using hDj) e he hb
      unfold upd
      split
      · rfl
      · exact hgo
    by_cases e : j = i
    · subst e; rw [updV_same]; exact hv' c hV
    · rw [updV_ne _ _ e]
      exact hv j c hj (by simpa [upd, e] using hDj) hV
  · rintro D a W hall ⟨x, rfl, _, _, hv, hc⟩
    exact hend x W D _ hall (fun j c hj hV => hv j c hj (hall j hj) hV) hc rfl
  · rw [hn]; exact Nat.le_trans List.countP_le_length (by simp)
  · refine ⟨fun i => T[S.getD i 0]!, ?_, fun j s hs _ => by (show T[S.getD j 0]! = _; rw [List.getD_eq_getElem?_getD, hs]; rfl), fun j o' _ h => ?_, fun j c hj h => ?_, ?_⟩
    · rw [setAll_self T S hS]
      intro i s hi hs
      rw [List.getD_eq_getElem?_getD, hi]
      rfl
    · exfalso
      simp only [Array.getD] at h
      split at h <;> simp at h
    · exfalso
      simp only [Array.getD] at h
      split at h <;> simp at h
    · have : (fun j => (Array.replicate l.toArray.size false).getD j false) = fun _ => false := by
        funext j
        simp only [Array.getD]
        split <;> simp
      rw [this]; exact h0 _
/-- .. for a region of a function's body -/
theorem wp_region_core3 {P : Program} {id : Nat} {l : List Oper} {Q : Exit → Act → World → Prop} {T : Array Value} {d : List Deferred} {w : World} (n : Nat) (S : List Nat) (V : List (Option Value)) (Core : (Nat → Bool) → (Nat → Value) → World → Prop) (hm : P.follows .mixedOrders = true) (hn : l.toArray.size = n) (hS : S.Nodup) (hSl : S.length = n) (hB : backB2 l.toArray n = true)
    (h0 : ∀ x, Core (fun _ => false) x w.drew)
    (hstep : ∀ x W D i o s F, i < n → l.toArray[i]? = some o → S[i]? = some s → D i = false → (∀ j s', S[j]? = some s' → D j = false → x j = T[s']!) → (∀ j o', l.toArray[j]? = some o' → D j = true → ∀ e ∈ o'.after, Region.binds .any e = true → D e.on = true) → (∀ e ∈ o.after, Region.binds .any e = true → D e.on = true) → (∀ j c, j < n → D j = true → V.getD j none = some c → x j = c) → Core D x W → F = setAll T S x →
      wpList P l.toArray (Exit.then (CoreK F d V Core D i s x) Q) [o] { tmps := F, defers := d } W)
    (hend : ∀ x W D F, (∀ j, j < n → D j = true) → (∀ j c, j < n → V.getD j none = some c → x j = c) → Core D x W → F = setAll T S x → Q .normal { tmps := F, defers := d } W) :
    (Code.region id l.toArray true).wp P Q { tmps := T, defers := d } w :=
  wp_region_any hm (wpAny_core3 n S V Core hn hS hSl hB h0 hstep hend)
end Go.Proofs.YtjmejfgkogjpaaaGreatDoor

namespace Go.Proofs.YtjmejfgkogjpaaaGreatDoor
open Go.RowKit Go Go.Shelf

structure CTwo (w Wr : World) (base : Nat) (vd vt : Value) (p : Nat) (ds ts : List Value) (d t : Value) (D : Nat → Bool) (x : Nat → Value) (W : World) : Prop where
  old : Below w.heap.size w W
  size : Wr.heap.size ≤ W.heap.size
  kept : ∀ (k : Nat) (o : Obj), Wr.heap[k]? = some o → vd.ownBlock ≠ some k → vt.ownBlock ≠ some k → W.heap[k]? = some o
  rd : OwnT W base 3 1 (bif D 6 then x 6 else vd) (bif D 6 then p + 1 else p) (bif D 6 then ds ++ [d] else ds)
  rt : OwnT W base 3 1 (bif D 13 then x 13 else vt) (bif D 13 then p + 1 else p) (bif D 13 then ts ++ [t] else ts)
  ne : ∀ g, (bif D 6 then x 6 else vd).ownBlock = some g → (bif D 13 then x 13 else vt).ownBlock ≠ some g
  s5 : D 5 = true → D 6 = false → ∃ g, x 5 = .slice (some ⟨g, 0, none⟩) 1 1 ∧ W.heap[g]? = some (.cells #[d] 3) ∧ vd.ownBlock ≠ some g ∧ (bif D 13 then x 13 else vt).ownBlock ≠ some g
  s12 : D 12 = true → D 13 = false → ∃ g, x 12 = .slice (some ⟨g, 0, none⟩) 1 1 ∧ W.heap[g]? = some (.cells #[t] 3) ∧ (bif D 6 then x 6 else vd).ownBlock ≠ some g ∧ vt.ownBlock ≠ some g
  a14 : D 14 = true → D 6 = true ∧ x 14 = x 6
  a15 : D 15 = true → D 13 = true ∧ x 15 = x 13
theorem CTwo.grow {w Wr : World} {base : Nat} {vd vt : Value} {p : Nat} {ds ts : List Value} {d t : Value} {D : Nat → Bool} {x : Nat → Value} {W W' : World} (h : CTwo w Wr base vd vt p ds ts d t D x W) (hb : Below W.heap.size W W') : CTwo w Wr base vd vt p ds ts d t D x W' :=
  ⟨ext_trans h.old hb, Nat.le_trans h.size hb.size, fun k o h1 h3 h4 => block_up hb (h.kept k o h1 h3 h4), h.rd.up hb, h.rt.up hb, h.ne,
    fun h1 h2 => by obtain ⟨g, e, q1, q2⟩ := h.s5 h1 h2; exact ⟨g, e, block_up hb q1, q2⟩, fun h1 h2 => by obtain ⟨g, e, q1, q2⟩ := h.s12 h1 h2; exact ⟨g, e, block_up hb q1, q2⟩, h.a14, h.a15⟩
theorem OwnT.keepT {w w' : World} {base sz : Nat} {e : TypeId} {v : Value} {n : Nat} {xs : List Value} (h : OwnT w base e sz v n xs) (hk : ∀ g o, v.ownBlock = some g → w.heap[g]? = some o → w'.heap[g]? = some o) : OwnT w' base e sz v n xs := by
  obtain ⟨hl, h⟩ := h
  refine ⟨hl, ?_⟩
  rcases h with h | ⟨g, cap, cur, fz, rfl, h2, h3, h4⟩
  · exact .inl h
  · exact .inr ⟨g, cap, cur, fz, rfl, h2, hk g _ rfl h3, h4⟩
theorem CTwo.app1 {w Wr : World} {base : Nat} {vd vt : Value} {p : Nat} {ds ts : List Value} {d t : Value} {D : Nat → Bool} {x : Nat → Value} {W : World} (h : CTwo w Wr base vd vt p ds ts d t D x W) (h6 : D 6 = false) {v' : Value} {w3 : World} (ho : OwnT w3 base 3 1 v' (p + 1) (ds ++ [d])) (hg : W.grownBy w3 vd.ownBlock) (hw : v'.ownBlock = vd.ownBlock ∨ v'.ownBlock = some W.heap.size) (hd : w.heap.size ≤ base) :
    CTwo w Wr base vd vt p ds ts d t (upd D 6) (updV x 6 v') w3 := by
  have h14 : D 14 = false := by
    cases e : D 14 with
    | false => rfl
    | true => exact absurd (h.a14 e).1 (by rw [h6]; decide)
  have rd := h.rd
  rw [h6] at rd
  have ne := h.ne
  rw [h6] at ne
  have hst : ∀ (k : Nat) (o : Obj), W.heap[k]? = some o → vd.ownBlock ≠ some k → w3.heap[k]? = some o := fun k o hk hn => (hg.block k (block_lt hk) (fun e => hn e.symm)).trans hk
  have hne' : ∀ g, v'.ownBlock = some g → (bif D 13 then x 13 else vt).ownBlock ≠ some g := fun g hgv => by
    rcases hw with e | e
    · exact ne g (e ▸ hgv)
    · intro e2
      have := (h.rt.lt g e2).2
      rw [e] at hgv
      cases hgv
      omega
  refine ⟨Below.grown h.old hg h.old.size (fun g hgv => Nat.le_trans hd (rd.lt g hgv).1), Nat.le_trans h.size hg.size, fun k o h1 h3 h5 => hst k o (h.kept k o h1 h3 h5) h3, ho, h.rt.keepT (fun g o hgv hk => hst g o hk (fun e => ne g e hgv)), hne', fun _ e => by simp [upd] at e, fun h8 h9 => ?_, fun e => absurd (h14.symm.trans e) (by decide), h.a15⟩
  obtain ⟨g, e, q1, q2, q3⟩ := h.s12 h8 h9
  rw [h6] at q2
  refine ⟨g, e, hst g _ q1 q2, ?_, q3⟩
  show v'.ownBlock ≠ some g
  rcases hw with e | e
  · rw [e]; exact q2
  · rw [e]
    intro e2
    cases e2
    have := block_lt q1
    omega
theorem CTwo.app2 {w Wr : World} {base : Nat} {vd vt : Value} {p : Nat} {ds ts : List Value} {d t : Value} {D : Nat → Bool} {x : Nat → Value} {W : World} (h : CTwo w Wr base vd vt p ds ts d t D x W) (h6 : D 6 = true) (h13 : D 13 = false) {v' : Value} {w3 : World} (ho : OwnT w3 base 3 1 v' (p + 1) (ts ++ [t])) (hg : W.grownBy w3 vt.ownBlock) (hw : v'.ownBlock = vt.ownBlock ∨ v'.ownBlock = some W.heap.size) (hd : w.heap.size ≤ base) :
    CTwo w Wr base vd vt p ds ts d t (upd D 13) (updV x 13 v') w3 := by
  have h15 : D 15 = false := by
    cases e : D 15 with
    | false => rfl
    | true => exact absurd (h.a15 e).1 (by rw [h13]; decide)
  have rt := h.rt
  rw [h13] at rt
  have ne := h.ne
  rw [h13] at ne
  have hst : ∀ (k : Nat) (o : Obj), W.heap[k]? = some o → vt.ownBlock ≠ some k → w3.heap[k]? = some o := fun k o hk hn => (hg.block k (block_lt hk) (fun e => hn e.symm)).trans hk
  have hne' : ∀ g, (bif D 6 then x 6 else vd).ownBlock = some g → v'.ownBlock ≠ some g := fun g hgv => by
    rcases hw with e | e
    · rw [e]; exact ne g hgv
    · rw [e]
      intro e2
      cases e2
      have := (h.rd.lt _ hgv).2
      omega
  exact ⟨Below.grown h.old hg h.old.size (fun g hgv => Nat.le_trans hd (rt.lt g hgv).1), Nat.le_trans h.size hg.size, fun k o h1 h3 h5 => hst k o (h.kept k o h1 h3 h5) h5, h.rd.keepT (fun g o hgv hk => hst g o hk (ne g hgv)), ho, hne', fun _ e => absurd (h6.symm.trans e) (by decide), fun _ e => by simp [upd] at e, h.a14, fun e => absurd (h15.symm.trans e) (by decide)⟩
theorem CTwo.build5 {w Wr : World} {base : Nat} {vd vt : Value} {p : Nat} {ds ts : List Value} {d t : Value} {D : Nat → Bool} {x : Nat → Value} {W : World} (h : CTwo w Wr base vd vt p ds ts d t D x W) : CTwo w Wr base vd vt p ds ts d t (upd D 5) (updV x 5 (.slice (some ⟨W.heap.size, 0, none⟩) 1 1)) (W.alloc (.cells #[d] 3)) := by
  have g := h.grow (W' := W.alloc (.cells #[d] 3)) (by go_grown)
  refine ⟨g.old, g.size, g.kept, g.rd, g.rt, g.ne, fun _ h4 => ⟨W.heap.size, rfl, alloc_new _ _, fun e => ?_, fun e => ?_⟩, g.s12, g.a14, g.a15⟩
  · have h4' : D 6 = false := h4
    have r := h.rd
    rw [h4'] at r
    have := (r.lt _ e).2
    omega
  · have := (h.rt.lt _ e).2
    omega
theorem CTwo.build12 {w Wr : World} {base : Nat} {vd vt : Value} {p : Nat} {ds ts : List Value} {d t : Value} {D : Nat → Bool} {x : Nat → Value} {W : World} (h : CTwo w Wr base vd vt p ds ts d t D x W) : CTwo w Wr base vd vt p ds ts d t (upd D 12) (updV x 12 (.slice (some ⟨W.heap.size, 0, none⟩) 1 1)) (W.alloc (.cells #[t] 3)) := by
  have g := h.grow (W' := W.alloc (.cells #[t] 3)) (by go_grown)
  refine ⟨g.old, g.size, g.kept, g.rd, g.rt, g.ne, g.s5, fun _ h9 => ⟨W.heap.size, rfl, alloc_new _ _, fun e => ?_, fun e => ?_⟩, g.a14, g.a15⟩
  · have := (h.rd.lt _ e).2
    omega
  · have h9' : D 13 = false := h9
    have r := h.rt
    rw [h9'] at r
    have := (r.lt _ e).2
    omega
end Go.Proofs.YtjmejfgkogjpaaaGreatDoor

namespace Go.Proofs.YtjmejfgkogjpaaaGreatDoor
open Go.RowKit Go Go.Shelf

structure COne (w Wr : World) (base : Nat) (vd : Value) (p : Nat) (ds : List Value) (d : Value) (D : Nat → Bool) (x : Nat → Value) (W : World) : Prop where
  old : Below w.heap.size w W
  size : Wr.heap.size ≤ W.heap.size
  kept : ∀ (k : Nat) (o : Obj), Wr.heap[k]? = some o → vd.ownBlock ≠ some k → W.heap[k]? = some o
  rd : OwnT W base 3 1 (bif D 13 then x 13 else vd) (bif D 13 then p + 1 else p) (bif D 13 then ds ++ [d] else ds)
  s12 : D 12 = true → D 13 = false → ∃ g, x 12 = .slice (some ⟨g, 0, none⟩) 1 1 ∧ W.heap[g]? = some (.cells #[d] 3) ∧ vd.ownBlock ≠ some g
  a14 : D 14 = true → D 13 = true ∧ x 14 = x 13
theorem COne.grow {w Wr : World} {base : Nat} {vd : Value} {p : Nat} {ds : List Value} {d : Value} {D : Nat → Bool} {x : Nat → Value} {W W' : World} (h : COne w Wr base vd p ds d D x W) (hb : Below W.heap.size W W') : COne w Wr base vd p ds d D x W' :=
  ⟨ext_trans h.old hb, Nat.le_trans h.size hb.size, fun k o h1 h3 => block_up hb (h.kept k o h1 h3), h.rd.up hb,
    fun h1 h2 => by obtain ⟨g, e, q1, q2⟩ := h.s12 h1 h2; exact ⟨g, e, block_up hb q1, q2⟩, h.a14⟩
theorem COne.app {w Wr : World} {base : Nat} {vd : Value} {p : Nat} {ds : List Value} {d : Value} {D : Nat → Bool} {x : Nat → Value} {W : World} (h : COne w Wr base vd p ds d D x W) (h13 : D 13 = false) {v' : Value} {w3 : World} (ho : OwnT w3 base 3 1 v' (p + 1) (ds ++ [d])) (hg : W.grownBy w3 vd.ownBlock) (hd : w.heap.size ≤ base) :
    COne w Wr base vd p ds d (upd D 13) (updV x 13 v') w3 := by
  have h14 : D 14 = false := by
    cases e : D 14 with
    | false => rfl
    | true => exact absurd (h.a14 e).1 (by rw [h13]; decide)
  have rd := h.rd
  rw [h13] at rd
  have hst : ∀ (k : Nat) (o : Obj), W.heap[k]? = some o → vd.ownBlock ≠ some k → w3.heap[k]? = some o := fun k o hk hn => (hg.block k (block_lt hk) (fun e => hn e.symm)).trans hk
  exact ⟨Below.grown h.old hg h.old.size (fun g hgv => Nat.le_trans hd (rd.lt g hgv).1), Nat.le_trans h.size hg.size, fun k o h1 h3 => hst k o (h.kept k o h1 h3) h3, ho, fun _ e => by simp [upd] at e, fun e => absurd (h14.symm.trans e) (by decide)⟩
theorem COne.build {w Wr : World} {base : Nat} {vd : Value} {p : Nat} {ds : List Value} {d : Value} {D : Nat → Bool} {x : Nat → Value} {W : World} (h : COne w Wr base vd p ds d D x W) : COne w Wr base vd p ds d (upd D 12) (updV x 12 (.slice (some ⟨W.heap.size, 0, none⟩) 1 1)) (W.alloc (.cells #[d] 3)) := by
  have g := h.grow (W' := W.alloc (.cells #[d] 3)) (by go_grown)
  refine ⟨g.old, g.size, g.kept, g.rd, fun _ h4 => ⟨W.heap.size, rfl, alloc_new _ _, fun e => ?_⟩, g.a14⟩
  have h4' : D 13 = false := h4
  have r := h.rd
  rw [h4'] at r
  have := (r.lt _ e).2
  omega
end Go.Proofs.YtjmejfgkogjpaaaGreatDoor

namespace Go.Proofs.YtjmejfgkogjpaaaGreatDoor
open Go.RowKit Go Go.Shelf

theorem hear_ok {word : List Rd} {n : Int} (h : wordE n word = 0) {k : Nat} (hk : k < word.length) {p : Nat} (hp : p < 5) : 0 ≤ word[k].g.hear p ∧ word[k].g.hear p < 32 := by
  unfold wordE at h
  split at h
  · simp at h
  split at h
  · simp at h
  have h1 := firstNZ_all h k hk
  unfold wordRE at h1
  rw [getD_of_lt default hk] at h1
  have h2 : roundE word[k] = 0 := by
    by_cases e : roundE word[k] = 0
    · exact e
    · rw [if_pos e] at h1; exact absurd h1 e
  unfold roundE at h2
  have h3 : graphE word[k].g = 0 := by
    by_cases e : graphE word[k].g = 0
    · exact e
    · rw [if_pos e] at h2; exact absurd h2 e
  unfold graphE at h3
  split at h3
  · simp at h3
  have h4 := firstNZ_all h3 p hp
  unfold hearE at h4
  have h5 : (2 : Int) ^ word[k].g.n.toNat ≤ 32 := by
    have hj : word[k].g.n.toNat ≤ 5 := by omega
    generalize word[k].g.n.toNat = j at hj
    rcases (show j = 0 ∨ j = 1 ∨ j = 2 ∨ j = 3 ∨ j = 4 ∨ j = 5 by omega) with rfl | rfl | rfl | rfl | rfl | rfl <;> decide
  generalize (2 : Int) ^ word[k].g.n.toNat = e2 at h4 h5
  generalize word[k].g.hear p = x at h4
  split at h4
  · split at h4
    · simp at h4
    · omega
  · split at h4
    · simp at h4
    · omega
theorem runL_nil {m : Mac} {inputs : List Int} {word : List Rd} (h : (firstS m inputs).contains (-1) = true) : runL m inputs word = [] := by unfold runL; rw [if_pos h]
theorem runL_first {m : Mac} {inputs : List Int} {word : List Rd} (h : ¬ (firstS m inputs).contains (-1) = true) : (runL m inputs word)[0]? = some (firstS m inputs) := by
  unfold runL; rw [if_neg h]; exact runFrom_head _ _ _ _
theorem runL_next {m : Mac} {inputs : List Int} {word : List Rd} {k : Nat} {x : List Int} (hx : (runL m inputs word)[k]? = some x) (hk : k < word.length) :
    (∀ y, nextS m k x word[k] = some y → (runL m inputs word)[k + 1]? = some y) ∧ (nextS m k x word[k] = none → (runL m inputs word).length = k + 1) := by
  unfold runL at hx ⊢
  split at hx
  · simp at hx
  · rename_i h
    rw [if_neg h]
    have := runFrom_step m 0 (firstS m inputs) word k x hx hk
    rw [Nat.zero_add] at this
    exact this
theorem runL_le (m : Mac) (inputs : List Int) (word : List Rd) : (runL m inputs word).length ≤ word.length + 1 := by
  unfold runL
  split
  · simp
  · exact runFrom_le _ _ _ _
theorem tk_ints {l : List Int} {p : Nat} (hp : p < l.length) : (l.take (p + 1)).map (Value.int .i64) = (l.take p).map (Value.int .i64) ++ [.int .i64 (l.getD p 0)] := by
  rw [List.take_succ_eq_append_getElem hp, List.map_append, getD_of_lt 0 hp]
  rfl
/-- a cell that lies in no own block -/
theorem cell_kept {Wr W : World} {vd : Value} {B : Nat} (hk : ∀ (k : Nat) (o : Obj), Wr.heap[k]? = some o → vd.ownBlock ≠ some k → W.heap[k]? = some o) (hno : ∀ k, k < B → vd.ownBlock ≠ some k) {b o : Nat} {v : Value} (h : b < B ∧ Wr.cell? ⟨b, o, none⟩ = some v) : W.cell? ⟨b, o, none⟩ = some v := by
  obtain ⟨h1, h2⟩ := h
  unfold World.cell? at h2 ⊢
  split at h2
  · rename_i cs t fz hb
    rw [hk _ _ hb (hno _ h1)]
    exact h2
  · cases h2
/-- what the reference's Run hands back -/
def RunR (RL : List (List Int)) (r : Nat) (w : World) (e : Ending) (w' : World) : Prop :=
  ∃ v, e = .returned (.tuple #[v, .int .i64 (if RL.length = r + 1 then 0 else 20)]) ∧ (RL.length = r + 1 → IsVecs w' v RL) ∧ (¬ RL.length = r + 1 → v = .slice none 0 0) ∧ Below w.heap.size w w'
theorem RunR.bad {RL : List (List Int)} {r : Nat} {w w' : World} (h : ¬ RL.length = r + 1) (hb : Below w.heap.size w w') : RunR RL r w (.returned (.tuple #[.slice none 0 0, .int .i64 20])) w' := ⟨_, by rw [if_neg h], fun h' => absurd h' h, fun _ => rfl, hb⟩
theorem RunR.good {RL : List (List Int)} {r : Nat} {w w' : World} {v : Value} (h : RL.length = r + 1) (hv : IsVecs w' v RL) (hb : Below w.heap.size w w') : RunR RL r w (.returned (.tuple #[v, .int .i64 0])) w' := ⟨v, by rw [if_pos h], fun _ => hv, fun h' => absurd h h', hb⟩
/-- between two rounds of the loop over rounds -/
structure RunI (W0 : World) (RL : List (List Int)) (n k : Nat) (vn vo : Value) (W : World) : Prop where
  kept : Below W0.heap.size W0 W
  lt : k < RL.length
  row : ∃ xs : List Value, xs.length = k + 1 ∧ OwnT W W0.heap.size 28 1 vo (k + 1) xs ∧ (∀ j (hj : j < xs.length), OwnT W W0.heap.size 3 1 xs[j] n ((RL.getD j []).map (Value.int .i64))) ∧ xs[k]? = some vn
theorem RunI.now {W0 : World} {RL : List (List Int)} {n k : Nat} {vn vo : Value} {W : World} (h : RunI W0 RL n k vn vo W) : OwnT W W0.heap.size 3 1 vn n ((RL.getD k []).map (Value.int .i64)) := by
  obtain ⟨xs, h1, _, h3, h4⟩ := h.row
  have hk : k < xs.length := by omega
  rw [List.getElem?_eq_getElem hk] at h4
  cases h4
  exact h3 k hk
theorem RunI.out {W0 : World} {RL : List (List Int)} {n k : Nat} {vn vo : Value} {W : World} (h : RunI W0 RL n k vn vo W) : ∃ a c, vo = .slice a (k + 1) c := by
  obtain ⟨xs, _, h2, _⟩ := h.row
  exact h2.slice
/-- the row of rows, read as lists -/
theorem RunI.vecs {W0 : World} {RL : List (List Int)} {n k : Nat} {vn vo : Value} {W : World} (h : RunI W0 RL n k vn vo W) (hk : RL.length = k + 1) (hl : ∀ x ∈ RL, x.length = n ∧ ∀ i, i < x.length → InR (x.getD i 0)) (hn : n ≤ 256) (hk2 : k ≤ 1000) : IsVecs W vo RL := by
  obtain ⟨xs, h1, h2, h3, _⟩ := h.row
  have hat : ∀ i (hi : i < RL.length), IsInts W (xs[i]'(by omega)) RL[i] := fun i hi => by
    have h4 := h3 i (by omega)
    rw [getD_of_lt [] hi] at h4
    have h5 := hl RL[i] (List.getElem_mem hi)
    have h6 : OwnT W W0.heap.size 3 1 (xs[i]'(by omega)) RL[i].length (RL[i].map (Value.int .i64)) := by rw [h5.1]; exact h4
    refine own_ints h6 (fun x hx => ?_) (by omega)
    obtain ⟨j, hj, rfl⟩ := List.getElem_of_mem hx
    have := h5.2 j hj
    rwa [getD_of_lt 0 hj] at this
  rcases h2.2 with ⟨_, hz⟩ | ⟨g, cap, cur, fz, rfl, _, hg, _, hc1, hc2, _, _⟩
  · omega
  · refine ⟨some ⟨g, 0, none⟩, cap, by rw [hk], ⟨by omega, by simp only [maxLen] at hc2; omega, fun e => by cases e⟩, by omega, fun i x hi => ⟨g, 0, rfl, ?_⟩⟩
    obtain ⟨hil, rfl⟩ := List.getElem?_eq_some_iff.1 hi
    obtain ⟨g', c', e1, e2⟩ := h2.cell i (xs[i]'(by omega)) (List.getElem?_eq_getElem (by omega))
    have : g = g' := by simp at e1; exact e1.1
    subst this
    exact ⟨_, by rw [Nat.zero_add, Nat.mul_one]; exact e2, hat i hil⟩
/-- one list more -/
theorem RunI.snoc {W0 : World} {RL : List (List Int)} {n k : Nat} {vo vx v' : Value} {W Wa Wb W3 : World} {xs : List Value} (hkept : Below W0.heap.size W0 W) (h1 : xs.length = k + 1) (h2 : OwnT W W0.heap.size 28 1 vo (k + 1) xs) (h3 : ∀ j (hj : j < xs.length), OwnT W W0.heap.size 3 1 xs[j] n ((RL.getD j []).map (Value.int .i64))) (hb : Below W.heap.size W Wa) (hx : OwnT Wa W.heap.size 3 1 vx n ((RL.getD (k + 1) []).map (Value.int .i64))) (hk : k + 1 < RL.length)
    (hba : Below Wa.heap.size Wa Wb) (ho : OwnT W3 W0.heap.size 28 1 v' (k + 1 + 1) (xs ++ [vx])) (hg : Wb.grownBy W3 vo.ownBlock) : RunI W0 RL n (k + 1) vx v' W3 := by
  have h2b := h2.up (ext_trans hb hba)
  have hs0 := hkept.size
  have hst : ∀ {v : Value} {n : Nat} {ys : List Value} {base : Nat}, OwnT Wb base 3 1 v n ys → OwnT W3 base 3 1 v n ys := fun {v n ys base} hv => hv.keepT fun g o hgv hgo => by
    refine (hg.block g (block_lt hgo) fun e => ?_).trans hgo
    rcases h2b.2 with ⟨rfl, _⟩ | ⟨g', cap, cur, fz, rfl, _, hg', _⟩
    · cases e
    · have : g = g' := by simpa [Value.ownBlock] using e
      subst this
      exact hv.ne hg' (by decide) g hgv rfl
  refine ⟨?_, hk, xs ++ [vx], by simp; omega, ho, fun j hj => ?_, ?_⟩
  · exact Below.grown (ext_trans hkept (ext_trans hb hba)) hg (by have := (ext_trans hkept (ext_trans hb hba)).size; omega) (fun g hgv => (h2.lt g hgv).1)
  · by_cases hjl : j < xs.length
    · rw [List.getElem_append_left hjl]
      exact hst ((h3 j hjl).up (ext_trans hb hba))
    · have hjk : j = k + 1 := by simp at hj; omega
      subst hjk
      rw [List.getElem_append_right (by omega)]
      simp only [h1, Nat.sub_self, List.getElem_cons_zero]
      exact hst ((hx.up hba).base hs0)
  · rw [List.getElem?_append_right (by omega), h1]
    simp
theorem RunI.up {W0 : World} {RL : List (List Int)} {n k : Nat} {vn vo : Value} {W W' : World} (h : RunI W0 RL n k vn vo W) (hb : Below W.heap.size W W') : RunI W0 RL n k vn vo W' := by
  obtain ⟨xs, h1, h2, h3, h4⟩ := h.row
  exact ⟨ext_trans h.kept hb, h.lt, xs, h1, h2.up hb, fun j hj => (h3 j hj).up hb, h4⟩
theorem out_len {w : World} {v : Value} {l : List (List (List Int))} (h : IsV3 w v l) (k p : Nat) : ((l.getD k []).getD p []).length ≤ 17592186044416 := by
  by_cases hk : k < l.length
  · rw [getD_of_lt [] hk]
    obtain ⟨_, _, _, _, _, e⟩ := h.at
    obtain ⟨_, _, _, u, _, hu⟩ := e k hk
    by_cases hp : p < l[k].length
    · rw [getD_of_lt [] hp]
      obtain ⟨_, _, _, _, _, e2⟩ := hu.at
      obtain ⟨_, _, _, u2, _, hu2⟩ := e2 p hp
      obtain ⟨_, _, _, _, h2, _⟩ := hu2.at
      exact h2
    · rw [List.getD_eq_getElem?_getD, List.getElem?_eq_none (by omega)]
      simp
  · rw [show l.getD k [] = [] by rw [List.getD_eq_getElem?_getD, List.getElem?_eq_none (by omega)]; rfl]
    simp
end Go.Proofs.YtjmejfgkogjpaaaGreatDoor

namespace Go.Proofs.YtjmejfgkogjpaaaGreatDoor
open Go.RowKit Go Go.Shelf

theorem pow2_bd (k : Nat) (h : k ≤ 30) : (1 : Int) ≤ 2 ^ k ∧ (2 : Int) ^ k ≤ 1073741824 := by
  have h1 : 2 ^ k ≤ 2 ^ 30 := Nat.pow_le_pow_right (by decide) h
  have h2 : 1 ≤ 2 ^ k := Nat.one_le_two_pow
  have e : ((2 ^ k : Nat) : Int) = 2 ^ k := by simp
  rw [← e]
  omega

set_option maxHeartbeats 400000 in
theorem rpower_any (n : Nat) (h : n ≤ 30) (w : World) :
    Calls Tryz.prog 120 #[.int .i64 n] w fun e w' => e = .returned (.int .i64 (2 ^ n)) ∧ w = w' := by
  go_enter Tryz.func120, Tryz.ntmps120
  go_wp2
  go_loop [3, 4] (fun o i => ∃ k : Nat, k ≤ n ∧ i = .int .i64 k ∧ o = .int .i64 (2 ^ k)) (fun _ i => n - (intOf i).toNat)
  case atStart => exact ⟨0, by omega, rfl, rfl⟩
  case round =>
    obtain ⟨k, hk, rfl, rfl⟩ := hrel
    have hp := pow2_bd k (by omega)
    have HS : Hid ((2 : Int) ^ (k + 1) = 2 ^ k * 2) := by (have h : (2 : Int) ^ (k + 1) = 2 ^ k * 2 := Int.pow_succ _ _); exact h
    have HK : Hid ((2 : Int) ^ k = 2 ^ k) := by exact rfl
    generalize hx : (2 : Int) ^ k = x at hp HS
    have HX := Lib.hid hx; clear hx
    by_cases hlt : k < n
    · go_wp2
      go_round
      case rel => exact ⟨k + 1, by omega, by go_num, by rw [HS.out]⟩
      case measure => simp [intOf]; omega
    · go_wp2
      go_ret
      obtain rfl : k = n := by omega
      exact ⟨ret_int HX.out.symm, rfl⟩

theorem hasB_div (set : Int) (p : Nat) (h : 0 ≤ set) : (Int.tmod (Int.tdiv set (2 ^ p)) 2 == 1) = hasB set p := by
  unfold hasB
  rw [Int.tdiv_eq_ediv_of_nonneg h, Int.tmod_eq_emod_of_nonneg (Int.ediv_nonneg h (by have := Int.pow_pos (n := 2) (m := p) (by decide); omega))]

set_option maxHeartbeats 400000 in
theorem rhas_any (set : Int) (p : Nat) (h : p ≤ 30) (h0 : 0 ≤ set) (h1 : set ≤ 9223372036854775807) (w : World) :
    Calls Tryz.prog 97 #[.int .i64 set, .int .i64 p] w fun e w' => e = .returned (.bool (hasB set p)) ∧ w = w' := by
  have hp := pow2_bd p h
  have HD := Lib.hid (hasB_div set p h0)
  have hc := fun w => rpower_any p h w
  have HC := Lib.hid hc; clear hc
  generalize (2 : Int) ^ p = x at hp HD HC
  go_enter Tryz.func97, Tryz.ntmps97
  go_wp2_with (go_at_call 120; refine (HC.out _).mono ?_; rintro e w' ⟨rfl, rfl⟩)
  go_ret
  refine ⟨ret_bool ?_, rfl⟩
  rw [← HD.out, Int.tdiv_eq_ediv_of_nonneg h0, Int.tmod_eq_emod_of_nonneg (Int.ediv_nonneg h0 (by omega))]

set_option maxHeartbeats 400000 in
theorem rfull_any (n : Nat) (h : n ≤ 30) (w : World) :
    Calls Tryz.prog 130 #[.int .i64 n] w fun e w' => e = .returned (.int .i64 (2 ^ n - 1)) ∧ w = w' := by
  have hp := pow2_bd n h
  have HC := Lib.hid (fun w => rpower_any n h w)
  generalize (2 : Int) ^ n = x at hp HC
  go_enter Tryz.func130, Tryz.ntmps130
  go_wp2_with (go_at_call 120; refine (HC.out _).mono ?_; rintro e w' ⟨rfl, rfl⟩)
  go_ret
  exact ⟨rfl, rfl⟩

set_option maxHeartbeats 400000 in
theorem rprocs_any (n : Int) (w : World) :
    Calls Tryz.prog 92 #[.int .i64 n] w fun e w' => e = .returned (.int .i64 (procsE n)) ∧ w = w' := by
  go_enter Tryz.func92, Tryz.ntmps92
  go_wp2
  all_goals
    go_ret
    refine ⟨ret_int ?_, rfl⟩
    go_light
    unfold procsE
    grind

theorem div_pow (f : Int) (n : Nat) (h : 0 ≤ f) : f / 2 ^ n ≠ 0 ↔ 2 ^ n ≤ f := by
  have hp : (0 : Int) < 2 ^ n := Int.pow_pos (by decide)
  constructor
  · intro h1
    rcases Int.lt_or_le f (2 ^ n) with h2 | h2
    · exact absurd (Int.ediv_eq_zero_of_lt h h2) h1
    · exact h2
  · intro h1 h2
    have : (1 : Int) ≤ f / 2 ^ n := (Int.le_ediv_iff_mul_le hp).2 (by omega)
    omega

set_option maxHeartbeats 1000000 in
theorem rsetCheck_any (n set : Int) (w : World) :
    Calls Tryz.prog 119 #[.int .i64 n, .int .i64 set] w fun e w' => e = .returned (.int .i64 (psetE n set)) ∧ w = w' := by
  by_cases hn : n < 1 ∨ 5 < n
  · have hp : procsE n = 1 := by unfold procsE; rw [if_pos hn]
    have HP : Hid (psetE n set = 1) := by (have h : psetE n set = 1 := by (unfold psetE; rw [hp]; rfl)); exact h
    have HC := Lib.hid (rprocs_any n)
    rw [hp] at HC
    clear hp
    go_enter Tryz.func119, Tryz.ntmps119
    go_wp2_with (go_at_call 92; refine (HC.out _).mono ?_; rintro e w' ⟨rfl, rfl⟩)
    go_ret
    exact ⟨ret_int HP.out.symm, rfl⟩
  · have hp : procsE n = 0 := by unfold procsE; rw [if_neg hn]
    obtain ⟨m, rfl⟩ : ∃ m : Nat, n = m := ⟨n.toNat, by omega⟩
    have HP : Hid (psetE m set = if set < 0 ∨ 2 ^ m ≤ set then 2 else 0) := by
      have h : psetE m set = if set < 0 ∨ 2 ^ m ≤ set then 2 else 0 := by
        unfold psetE
        rw [hp, Int.toNat_natCast, if_neg (by simp)]
        by_cases h0 : set < 0
        · simp [h0]
        · have := div_pow set m (by omega)
          simp only [this]
      exact h
    have HC := Lib.hid (rprocs_any m)
    rw [hp] at HC
    have HC2 := Lib.hid (fun w => rpower_any m (by omega) w)
    generalize (2 : Int) ^ m = x at HP HC2
    clear hp hn
    go_enter Tryz.func119, Tryz.ntmps119
    go_wp2_with (first | (go_at_call 92; refine (HC.out _).mono ?_; rintro e w' ⟨rfl, rfl⟩) | (go_at_call 120; refine (HC2.out _).mono ?_; rintro e w' ⟨rfl, rfl⟩))
    all_goals
      go_ret
      refine ⟨ret_int ?_, rfl⟩
      rw [HP.out]
      go_light
      grind

set_option maxHeartbeats 1000000 in
theorem rinside_any (a b : Int) (h1 : 0 ≤ a ∧ a ≤ 9223372036854775807) (h2 : 0 ≤ b ∧ b ≤ 9223372036854775807) (w : World) :
    Calls Tryz.prog 94 #[.int .i64 a, .int .i64 b] w fun e w' => e = .returned (.bool (insideB a b)) ∧ w = w' := by
  have HV : Hid (insideB a b = !anyLt 5 fun p => hasB a p && !hasB b p) := by exact rfl
  go_enter Tryz.func94, Tryz.ntmps94
  go_wp2
  go_loop [5] (fun i => ∃ k : Nat, k ≤ 5 ∧ i = .int .i64 k ∧ ∀ j, j < k → (hasB a j && !hasB b j) = false) (fun i => 5 - (intOf i).toNat)
  case atStart => exact ⟨0, by omega, rfl, by simp⟩
  case round =>
    obtain ⟨k, hk, rfl, hinv⟩ := hrel
    have H := Lib.hid hinv; clear hinv
    by_cases hlt : k < 5
    · have C1 := Lib.hid (fun w => rhas_any a k (by omega) h1.1 h1.2 w)
      have C2 := Lib.hid (fun w => rhas_any b k (by omega) h2.1 h2.2 w)
      cases hx : hasB a k with
      | false =>
        rw [hx] at C1
        have HX := Lib.hid hx; clear hx
        go_wp2_with (go_at_call 97; refine (C1.out _).mono ?_; rintro e w' ⟨rfl, rfl⟩)
        go_round
        case rel => exact ⟨k + 1, by omega, by go_num, below_succ H.out (by rw [HX.out]; rfl)⟩
        case measure => simp [intOf]; omega
      | true =>
        rw [hx] at C1
        have HX := Lib.hid hx; clear hx
        cases hy : hasB b k with
        | false =>
          rw [hy] at C2
          have HY := Lib.hid hy; clear hy
          go_wp2_with fail
          refine (C1.out _).mono ?_
          rintro e w' ⟨rfl, rfl⟩
          go_wp2_with fail
          refine (C2.out _).mono ?_
          rintro e w' ⟨rfl, rfl⟩
          go_wp2_with fail
          go_ret
          exact ⟨ret_bool (by rw [HV.out, anyLt_true 5 k _ hlt (by rw [HX.out, HY.out]; rfl)]; rfl), rfl⟩
        | true =>
          rw [hy] at C2
          have HY := Lib.hid hy; clear hy
          go_wp2_with fail
          refine (C1.out _).mono ?_
          rintro e w' ⟨rfl, rfl⟩
          go_wp2_with fail
          refine (C2.out _).mono ?_
          rintro e w' ⟨rfl, rfl⟩
          go_wp2_with fail
          go_round
          case rel => exact ⟨k + 1, by omega, by go_num, below_succ H.out (by rw [HX.out, HY.out]; rfl)⟩
          case measure => simp [intOf]; omega
    · go_wp2
      go_ret
      exact ⟨ret_bool (by rw [HV.out, anyLt_false]; rfl; intro j hj; exact H.out j (by omega)), rfl⟩
end Go.Proofs.YtjmejfgkogjpaaaGreatDoor

namespace Go.Proofs.YtjmejfgkogjpaaaGreatDoor
open Go.RowKit Go Go.Shelf

theorem Tryz.infoPlace : (Tryz.prog.info? 114).map (fun i => (i.zero, i.size, i.bytes)) = some (some (.agg #[.int .i64 0, .int .i64 0, .int .i64 0]), 3, 24) := by kernel_rfl
abbrev plC (x : Nat × Nat × Nat) : Array Value := #[.int .i64 x.1, .int .i64 x.2.1, .int .i64 x.2.2]
def flatP (xs : List (Nat × Nat × Nat)) : List Value := xs.flatMap fun x => (plC x).toList
theorem flatP_snoc (xs : List (Nat × Nat × Nat)) (x : Nat × Nat × Nat) : flatP (xs ++ [x]) = flatP xs ++ [.int .i64 x.1, .int .i64 x.2.1, .int .i64 x.2.2] := by simp [flatP]
theorem filtR_len {α : Type} (f : Nat → Option α) (n : Nat) : (filtR f n).length ≤ n := by
  unfold filtR
  exact Nat.le_trans (List.length_filterMap_le _ _) (by simp)
/-- the places found so far -/
abbrev PlI (w : World) (n : Nat) (word : List Rd) (j : Nat) (v : Value) (W : World) : Prop := Below w.heap.size w W ∧ OwnT W w.heap.size 114 3 v (placesTo n word j).length (flatP (placesTo n word j))

set_option maxRecDepth 100000 in
set_option maxHeartbeats 4000000 in
theorem rplaces_any (n : Nat) (hn5 : n ≤ 5) (v : Value) (word : List Rd) (w : World) (hw : IsWord w v word) (hwl : word.length ≤ 1024) (hwe : wordE n word = 0) :
    Calls Tryz.prog 53 #[.int .i64 n, v] w fun e w' => ∃ u, e = .returned u ∧ OwnT w' w.heap.size 114 3 u (placesL n word).length (flatP (placesL n word)) ∧ Below w.heap.size w w' := by
  obtain ⟨pa, ca, rfl, la1, la2, ea⟩ := hw.at
  have EA := Lib.hid ea
  have HWE := Lib.hid hwe
  clear hw ea hwe
  obtain ⟨i0, hi0, hz0, hz1, hz2⟩ := info_parts Tryz.infoPlace
  have HPL : Hid (placesL n word = placesTo n word (word.length * 25)) := by exact rfl
  generalize placesL n word = PL at HPL
  have HLB := Lib.hid (fun j (hj : j ≤ word.length * 25) => show (placesTo n word j).length ≤ 25600 from Nat.le_trans (filtR_len _ j) (by omega))
  go_enter Tryz.func53, Tryz.ntmps53
  go_wp2_with fail
  go_loopw [5, 6] (fun u i wr => ∃ k : Nat, k ≤ word.length ∧ i = .int .i64 k ∧ PlI w n word (k * 25) u wr) (fun _ i _ => word.length - (intOf i).toNat)
  case atStart => exact ⟨0, by omega, rfl, Below.refl _ _, OwnT.nil _ _ _ _⟩
  case round =>
    obtain ⟨k, hk, rfl, hI⟩ := hrel
    have HI := Lib.hid hI
    obtain ⟨au, cu, rfl⟩ := hI.2.slice
    clear hI
    by_cases hkl : k < word.length
    · obtain ⟨b1, o1, rfl, hcells⟩ := EA.out k hkl
      have hcq : ∀ q, q < 5 → w.cell? ⟨b1, o1 + k * 7 + 1 + q, none⟩ = some (.int .i64 (word[k].g.hear q)) := fun q hq => by
        obtain ⟨_, c1, c2, c3, c4, c5, _⟩ := hcells
        rcases (show q = 0 ∨ q = 1 ∨ q = 2 ∨ q = 3 ∨ q = 4 by omega) with rfl | rfl | rfl | rfl | rfl
        · exact c1.1
        · exact c2.1
        · exact c3.1
        · exact c4.1
        · exact c5.1
      have HCQ := Lib.hid hcq
      have HHO := Lib.hid (fun q (hq : q < 5) => hear_ok HWE.out hkl (p := q) hq)
      have HGD := Lib.hid (getD_of_lt default hkl)
      have hkl' : (k : Int) < (word.length : Int) := by omega
      clear hcq hcells
      generalize word[k] = rd at HCQ HHO HGD
      go_wp2_with fail
      go_loopw [5, 7] (fun u i wr => ∃ p : Nat, p ≤ n ∧ i = .int .i64 p ∧ PlI w n word (k * 25 + p * 5) u wr) (fun _ i _ => n - (intOf i).toNat)
      case atStart => exact ⟨0, by omega, rfl, HI.out.1, by rw [Nat.zero_mul, Nat.add_zero]; exact HI.out.2⟩
      case round =>
        clear HI
        obtain ⟨p, hp, rfl, hI⟩ := hrel
        have HI := Lib.hid hI
        obtain ⟨au, cu, rfl⟩ := hI.2.slice
        clear hI
        by_cases hpn : p < n
        · go_wp2_with fail
          go_loopw [5, 8] (fun u i wr => ∃ q : Nat, q ≤ n ∧ i = .int .i64 q ∧ PlI w n word (k * 25 + p * 5 + q) u wr) (fun _ i _ => n - (intOf i).toNat)
          case atStart => exact ⟨0, by omega, rfl, HI.out.1, by rw [Nat.add_zero]; exact HI.out.2⟩
          case round =>
            clear HI
            obtain ⟨q, hq, rfl, hI⟩ := hrel
            have HI := Lib.hid hI
            obtain ⟨au, cu, rfl⟩ := hI.2.slice
            clear hI
            by_cases hqn : q < n
            · by_cases hpq : p = q
              · have hpqb : ((p : Int) != (q : Int)) = false := by simp; omega
                have HSK := Lib.hid (places_skip (n := n) (word := word) (k := k) (p := p) (q := q) (by omega) (by omega) (.inl hpq))
                clear hpq
                go_wp2_with fail
                go_roundw
                case rel => exact ⟨q + 1, by omega, by go_num, HI.out.1, by rw [HSK.out]; exact HI.out.2⟩
                case measure => simp [intOf]; omega
              · have hpqb : ((p : Int) != (q : Int)) = true := by simp; omega
                have c1 := cell_up HI.out.1 (HCQ.out q (by omega))
                have hq5 : (q : Int) < 5 := by omega
                have hho := HHO.out q (by omega)
                cases hb : hasB (rd.g.hear q) p with
                | false =>
                  have HSK := Lib.hid (places_skip (n := n) (word := word) (k := k) (p := p) (q := q) (by omega) (by omega) (.inr (by rw [HGD.out]; exact hb)))
                  have HC := Lib.hid (fun w => rhas_any (rd.g.hear q) p (by omega) hho.1 (by omega) w)
                  rw [hb] at HC
                  clear hb
                  go_wp2_with fail
                  refine (HC.out _).mono ?_
                  rintro e w2 ⟨rfl, rfl⟩
                  go_wp2_with fail
                  go_roundw
                  case rel => exact ⟨q + 1, by omega, by go_num, HI.out.1, by rw [HSK.out]; exact HI.out.2⟩
                  case measure => simp [intOf]; omega
                | true =>
                  have HSK := Lib.hid (places_hit (n := n) (word := word) (k := k) (p := p) (q := q) hn5 hpn hqn hpq (by rw [HGD.out]; exact hb))
                  have HC := Lib.hid (fun w => rhas_any (rd.g.hear q) p (by omega) hho.1 (by omega) w)
                  rw [hb] at HC
                  clear hb
                  have hlb := HLB.out (k * 25 + p * 5 + q) (by omega)
                  have hA : Below wr.heap.size wr (wr.alloc (.cells #[.int .i64 (k : Int), .int .i64 (p : Int), .int .i64 (q : Int)] 114)) := by go_grown
                  have HOWN := Lib.hid (HI.out.2.up hA)
                  have HB := Lib.hid HI.out.1
                  have hsz := HI.out.1.size
                  have HRL := Lib.hid HI.out.2
                  have HSN := Lib.hid (flatP_snoc (placesTo n word (k * 25 + p * 5 + q)) (k, p, q))
                  have hnews : ∀ j u', [Value.int .i64 (k : Int), .int .i64 (p : Int), .int .i64 (q : Int)][j]? = some u' → (wr.alloc (.cells #[.int .i64 (k : Int), .int .i64 (p : Int), .int .i64 (q : Int)] 114)).cell? (Addr.add ⟨wr.heap.size, 0, none⟩ j) = some u' := fun j u' hj => by
                    have e1 : (Addr.add ⟨wr.heap.size, 0, none⟩ j) = ⟨wr.heap.size, j, none⟩ := by unfold Addr.add; split <;> simp_all
                    rw [e1, cell_block (alloc_new wr _)]
                    simpa using hj
                  have HNEWS := Lib.hid hnews
                  clear hnews HI
                  generalize hpt : placesTo n word (k * 25 + p * 5 + q) = T at HOWN HRL HSN HSK hlb
                  clear hpt
                  go_wp2_with fail
                  refine (HC.out _).mono ?_
                  rintro e w2 ⟨rfl, rfl⟩
                  go_wp2_with (at_builtin; (refine wpList_append_T _ rfl (.tmp 40) (.tmp 45) 111 rfl w.heap.size 114 i0 _ 3 24 Tryz.underlying111 hi0 hz0 hz1 hz2 rfl (by decide) _ T.length _ rfl HOWN.out ⟨wr.heap.size, 0, none⟩ 1 1 [.int .i64 (k : Int), .int .i64 (p : Int), .int .i64 (q : Int)] rfl rfl HNEWS.out (by simp [Value.oneCell']) (by unfold maxLen; omega) (by omega) (by simp; omega) ?_; intro v' w3 hown3 hgrow3 hwh3; obtain ⟨av', cv', rfl⟩ := hown3.slice))
                  go_roundw
                  case rel => exact ⟨q + 1, by omega, by go_num, Below.grown (HB.out.alloc hsz _) hgrow3 (by simp; omega) (fun g hg => (HRL.out.lt g hg).1), by rw [HSK.out, HSN.out, List.length_append]; exact hown3⟩
                  case measure => simp [intOf]; omega
            · have HQN : Hid (q = n) := by (have h : q = n := by omega); exact h
              have HSK : Hid (placesTo n word (k * 25 + p * 5 + q) = placesTo n word (k * 25 + (p + 1) * 5)) := by
                (have h : placesTo n word (k * 25 + p * 5 + q) = placesTo n word (k * 25 + (p + 1) * 5) := by (rw [HQN.out]; exact places_q n word k p (by omega) hn5)); exact h
              go_wp2_with fail
              go_roundw
              case rel => exact ⟨p + 1, by omega, by go_num, HI.out.1, by rw [← HSK.out]; exact HI.out.2⟩
              case measure => simp [intOf]; omega
        · have HPN : Hid (p = n) := by (have h : p = n := by omega); exact h
          have HSK : Hid (placesTo n word (k * 25 + p * 5) = placesTo n word ((k + 1) * 25)) := by
            (have h : placesTo n word (k * 25 + p * 5) = placesTo n word ((k + 1) * 25) := by (rw [HPN.out]; exact places_p n word k hn5)); exact h
          go_wp2_with fail
          go_roundw
          case rel => exact ⟨k + 1, by omega, by go_num, HI.out.1, by rw [← HSK.out]; exact HI.out.2⟩
          case measure => simp [intOf]; omega
    · have HKL : Hid (k = word.length) := by (have h : k = word.length := by omega); exact h
      go_wp2_with fail
      go_ret
      exact ⟨_, rfl, by rw [HPL.out, ← HKL.out]; exact HI.out.2, HI.out.1⟩
end Go.Proofs.YtjmejfgkogjpaaaGreatDoor

namespace Go.Proofs.YtjmejfgkogjpaaaGreatDoor
open Go.RowKit Go Go.Shelf

theorem ret_pr {k l : IntKind} {a b c d : Int} (h1 : a = b) (h2 : c = d) : Ending.returned (.tuple #[.int k a, .int l c]) = .returned (.tuple #[.int k b, .int l d]) := by rw [h1, h2]

set_option maxRecDepth 100000 in
set_option maxHeartbeats 4000000 in
theorem rdecided_any (m : Mac) (vf vy vt vo vs : Value) (inputs : List Int) (word : List Rd) (n r p : Nat) (hok : PlayOk m inputs word n r) (hpn : p < n) (w : World) (hf : IsVecs w vf m.first) (hy : IsV4 w vy m.syms) (ht : IsSteps w vt m.steps) (ho : IsV3 w vo m.out) (hs : IsVecs w vs (runL m inputs word)) :
    Calls Tryz.prog 55 #[.agg (macC m vf vy vt vo), vs, .int .i64 p] w fun e w' => e = .returned (.tuple #[.int .i64 (decS m (runL m inputs word) p), .int .i64 (whenS m (runL m inputs word) p)]) ∧ Below w.heap.size w w' := by
  have HOK := Lib.hid hok
  have HL : Hid (∃ L, runL m inputs word = L) := Lib.hid ⟨_, rfl⟩
  obtain ⟨L, hL⟩ := HL.out
  rw [hL] at hs ⊢
  have HL := Lib.hid hL
  clear hL hok
  obtain ⟨pf, cf, rfl, _⟩ := hf.at
  obtain ⟨py, cy, rfl, _⟩ := hy.at
  obtain ⟨pt, ct, rfl, _⟩ := ht.at
  obtain ⟨po, co, rfl, lo1, lo2, eo⟩ := ho.at
  obtain ⟨ps, cs, rfl, ls1, ls2, es⟩ := hs.at
  have EO := Lib.hid eo
  have ES := Lib.hid es
  clear hf hy ht ho hs eo es
  go_enter Tryz.func55, Tryz.ntmps55
  go_wp2_with fail
  refine wp_gen (fun W => Below w.heap.size w W ∧ W.heap[w.heap.size]? = some (.cells (macC m (.slice pf m.first.length cf) (.slice py m.syms.length cy) (.slice pt m.steps.length ct) (.slice po m.out.length co)) 27)) ⟨by go_grown, alloc_new _ _⟩ (fun W0 hW0 => ?_)
  obtain ⟨hb0, hM⟩ := hW0
  have HM := Lib.hid hM
  clear hM
  go_loopw [8] (fun i wr => Below W0.heap.size W0 wr ∧ ∃ q : Nat, q ≤ L.length ∧ i = .int .i64 q ∧ ∀ j, j < q → outS m j p ((L.getD j []).getD p 0) = -1) (fun i _ => L.length - (intOf i).toNat)
  case atStart => exact ⟨Below.refl _ _, 0, by omega, rfl, by simp⟩
  case round =>
    obtain ⟨hbr, q, hq, rfl, hinv⟩ := hrel
    have HINV := Lib.hid hinv
    clear hinv
    have hbw := ext_trans hb0 hbr
    by_cases hqL : q < L.length
    · have hqr : q < r + 1 := by
        have h1 := HOK.out.rl
        rw [HL.out] at h1
        omega
      have hfit := HOK.out.fits hqr hpn
      have hlq := (runL_fits HOK.out.good (word := word) HOK.out.il HOK.out.ir q L[q] (by rw [HL.out]; exact List.getElem?_eq_getElem hqL)).1
      rw [HL.out, getD_of_lt [] hqL, getD_of_lt 0 (show p < L[q].length by omega)] at hfit
      have hol := HOK.out.good.ol
      have hokq := HOK.out.good.ok q hqr
      have hqo : q < m.out.length := by omega
      rw [getD_of_lt [] hqo] at hokq hfit
      have hpo : p < m.out[q].length := by omega
      rw [getD_of_lt [] hpo] at hfit
      have hpq : p < L[q].length := by omega
      obtain ⟨sN, hsN⟩ : ∃ sN : Nat, L[q][p] = sN := ⟨(L[q][p]).toNat, by omega⟩
      rw [hsN] at hfit
      have hso : sN < m.out[q][p].length := by omega
      have HOS : Hid (outS m q p ((L.getD q []).getD p 0) = m.out[q][p][sN]) := by
        have h : outS m q p ((L.getD q []).getD p 0) = m.out[q][p][sN] := by
          unfold outS
          rw [getD_of_lt [] hqL, getD_of_lt 0 hpq, hsN, getD_of_lt [] hqo, getD_of_lt [] hpo, Int.toNat_natCast, getD_of_lt 0 hso]
        exact h
      obtain ⟨b3, o3, rfl, uo, hco, huo⟩ := EO.out q hqo
      obtain ⟨a4, c4, rfl, l41, l42, e4⟩ := huo.at
      obtain ⟨b4, o4, rfl, up, hcp, hup⟩ := e4 p hpo
      obtain ⟨a5, c5, rfl, l51, l52, e5⟩ := hup.at
      obtain ⟨b5, o5, rfl, hcs, hir5⟩ := e5 sN hso
      obtain ⟨b1, o1, rfl, u, hcu, hu⟩ := ES.out q hqL
      obtain ⟨au, cu, rfl, lu1, lu2, eu⟩ := hu.at
      obtain ⟨b2, o2, rfl, hci, hir⟩ := eu p hpq
      rw [hsN] at hci
      rw [Nat.mul_one] at hco hcp hcs hcu hci
      have k3 := Lib.hid (cell_up hbw hco)
      have k4 := Lib.hid (cell_up hbw hcp)
      have k5 := Lib.hid (cell_up hbw hcs)
      have k1 := Lib.hid (cell_up hbw hcu)
      have k2 := Lib.hid (cell_up hbw hci)
      have hoy := HOK.out.out hqr hpn
      rw [HL.out, HOS.out] at hoy
      clear hir hir5 hci hcu hcs hcp hco e5 e4 eu hu hup huo hfit hsN hlq hokq hol
      generalize m.out[q][p][sN] = yv at HOS k5 hoy
      generalize m.out[q][p].length = n5 at k4 hso l51 l52
      generalize m.out[q].length = n4 at k3 hpo l41 l42
      generalize L[q].length = n2 at k1 hpq lu1 lu2
      have x1 : (q : Int) < (L.length : Int) := by omega
      have x2 : (q : Int) < (m.out.length : Int) := by omega
      have x3 : (p : Int) < (n4 : Int) := by omega
      have x4 : (sN : Int) < (n5 : Int) := by omega
      have x5 : (p : Int) < (n2 : Int) := by omega
      have q0 : ∀ y : ExtW wr, ∀ o, y.val.cell? ⟨w.heap.size, o, none⟩ = _ := fun y => cell_block (block_up (ext_trans hbr y.ext) HM.out)
      have q1 : ∀ y : ExtW wr, y.val.cell? ⟨b1, o1 + q, none⟩ = _ := fun y => y.cell k1.out
      have q2 : ∀ y : ExtW wr, y.val.cell? ⟨b2, o2 + p, none⟩ = _ := fun y => y.cell k2.out
      have q3 : ∀ y : ExtW wr, y.val.cell? ⟨b3, o3 + q, none⟩ = _ := fun y => y.cell k3.out
      have q4 : ∀ y : ExtW wr, y.val.cell? ⟨b4, o4 + p, none⟩ = _ := fun y => y.cell k4.out
      have q5 : ∀ y : ExtW wr, y.val.cell? ⟨b5, o5 + sN, none⟩ = _ := fun y => y.cell k5.out
      go_wp2_with fail
      refine wp_region_quiet_ext (by kernel_rfl) (by kernel_rfl) ?_
      repeat (go_big_quiet_step (fail))
      refine wpQuiet_nil ?_
      intro _ hw'
      obtain ⟨xq, hw''⟩ := hw'
      subst hw''
      clear q0 q1 q2 q3 q4 q5
      by_cases hy : yv = -1
      · subst hy
        go_wp2_with fail
        go_roundw
        case rel => exact ⟨ext_trans hbr xq.ext, q + 1, by omega, by go_num, below_succ HINV.out HOS.out⟩
        case measure => simp [intOf]; omega
      · have hy0 : 0 ≤ yv := by omega
        have HW := Lib.hid (when_at hqL HINV.out HOS.out hy)
        go_wp2_with fail
        go_ret2
        exact ⟨ret_pr HW.out.2.symm HW.out.1.symm, ext_trans hbw xq.ext⟩
    · have HW := Lib.hid (when_none (m := m) (L := L) (p := p) (fun j hj => HINV.out j (by omega)))
      go_wp2_with fail
      go_ret2
      exact ⟨ret_pr HW.out.2.symm HW.out.1.symm, hbw⟩
end Go.Proofs.YtjmejfgkogjpaaaGreatDoor
