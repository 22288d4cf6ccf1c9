/-
  Parts of the proof, in order. Laws for 'for .. := range f' over an iterator whose rounds are counted: the caller's side and the shape of an iterator's contract. It proves nothing of the program. Contracts of the program's package adversary: moves (an iterator), sized, state, Check. Conditions: the arguments read as an adversary; all its moves together are fewer than 2^40. The contract of the program's adversary.state. Conditions: the arguments read as an adversary and a list of moves. The contract of the program's adversary.Check. Conditions: the argument reads as an adversary; all its moves together are fewer than 2^40. Regions that draw their order, inside a round of a loop over an iterator: the walks of the plain calculus serve there too. It proves nothing of the program. The contract of the program's adversary.index: a table of maps. Conditions: the argument reads as an adversary with 1 to 256 states, in each of which the rounds differ. Contracts of the program's adversary.State and adversary.Allows. Conditions: the arguments read as an adversary and a word; the adversary's moves together are fewer than 2^40.
-/
import Derived.OwnWalkIn
import Derived.TacticsInMore
import Derived.LoopNIn
import Derived.LoopIn
import Derived.StillTailTactics
import Derived.OrdersIn
import Derived.Test.YtlfnfphkhokdiaaJ2
namespace Go.Proofs.Ytlfnfphkhokdiaa
open Go.RowKit Go Go.Shelf

/-- From A to A' every row of cells, and every block below B, lies as it lay. -/
structure Chg (B : Nat) (A A' : World) : Prop where
  os : A'.os = A.os
  tape : A'.tape = A.tape
  output : A'.output = A.output
  size : A.heap.size ≤ A'.heap.size
  same : ∀ (k : Nat) (o : Obj), A.heap[k]? = some o → (k < B ∨ o.isCells = true) → A'.heap[k]? = some o
theorem Chg.of_below {B : Nat} {A A' : World} (h : Below A.heap.size A A') : Chg B A A' := ⟨h.os, h.tape, h.output, h.size, fun _ _ hk _ => block_up h hk⟩
theorem Chg.ck {B : Nat} {A A' : World} (h : Chg B A A') : CK A A' := fun k o hk ho => h.same k o hk (.inr ho)
theorem Chg.put {B : Nat} {A : World} {l : Nat} {o : Obj} (o' : Obj) (hl : A.heap[l]? = some o) (hB : B ≤ l) (ho : o.isCells = false) : Chg B A (A.putObj l o') :=
  ⟨rfl, rfl, rfl, by simp, fun k x hk hx => by
    by_cases e : k = l
    · subst e; rw [hl] at hk; cases hk
      rcases hx with hx | hx
      · omega
      · rw [ho] at hx; cases hx
    · exact (World.putObj_heap_other e).trans hk⟩
theorem Chg.below {B n : Nat} {w A A' : World} (h : Chg B A A') (hn : n ≤ B) (hs : n ≤ A.heap.size) (hb : Below n w A) : Below n w A' :=
  ⟨h.os.trans hb.os, h.tape.trans hb.tape, h.output.trans hb.output, Nat.le_trans hb.size h.size, fun k hk => by
    have hlt : k < A.heap.size := by omega
    have h1 : A.heap[k]? = some A.heap[k] := Array.getElem?_eq_getElem hlt
    rw [h.same k _ h1 (.inl (by omega)), ← h1]; exact hb.block k hk⟩
/-- What a caller says of the world between two rounds minds no such change. -/
def Sta (B : Nat) (I : World → Prop) : Prop := ∀ A A', Chg B A A' → I A → I A'
theorem Sta.and {B : Nat} {I J : World → Prop} (h : Sta B I) (k : Sta B J) : Sta B (fun W => I W ∧ J W) := fun A A' c x => ⟨h A A' c x.1, k A A' c x.2⟩
theorem Sta.below {B : Nat} {w : World} (h : w.heap.size ≤ B) : Sta B (fun W => Below w.heap.size w W) := fun _ _ c x => c.below h x.size x
theorem Sta.belowN {B n : Nat} {w : World} (h : n ≤ B) (hn : n ≤ w.heap.size) : Sta B (fun W => Below n w W) := fun _ _ c x => c.below h (Nat.le_trans hn x.size) x
theorem Sta.cells {B b : Nat} {c : Array Value} {t : TypeId} {f : Nat × Nat} : Sta B (fun W => W.heap[b]? = some (.cells c t f)) := fun _ _ c x => c.same _ _ x (.inr rfl)
theorem Sta.pure {B : Nat} {p : Prop} : Sta B (fun _ => p) := fun _ _ _ x => x

/-- What a round owes the iterator: the blocks of S lie as they lay; and the loop: whatever is no cells, from B on, lies as it lay. -/
structure Bod (B : Nat) (S : Nat → Prop) (W W' : World) : Prop where
  size : W.heap.size ≤ W'.heap.size
  keep : ∀ k, S k → W'.heap[k]? = W.heap[k]?
  same : ∀ (k : Nat) (o : Obj), B ≤ k → W.heap[k]? = some o → o.isCells = false → W'.heap[k]? = some o
theorem Bod.refl (B : Nat) (S : Nat → Prop) (W : World) : Bod B S W W := ⟨Nat.le_refl _, fun _ _ => rfl, fun _ _ _ h _ => h⟩
theorem Bod.trans {B : Nat} {S : Nat → Prop} {X Y Z : World} (h : Bod B S X Y) (k : Bod B S Y Z) : Bod B S X Z :=
  ⟨Nat.le_trans h.size k.size, fun i hi => (k.keep i hi).trans (h.keep i hi), fun i o hB hi ho => k.same i o hB (h.same i o hB hi ho) ho⟩
theorem Bod.of_below {B : Nat} {S : Nat → Prop} {W W' : World} (hS : ∀ k, S k → k < W.heap.size) (h : Below W.heap.size W W') : Bod B S W W' :=
  ⟨h.size, fun k hk => h.block k (hS k hk), fun _ _ _ hk _ => block_up h hk⟩
theorem Bod.setCell {B : Nat} {S : Nat → Prop} (W : World) (p : Addr) (v : Value) (hp : ¬ S p.block) : Bod B S W (W.setCell p v) :=
  ⟨by simp, fun k hk => Below.heap_setCell _ _ _ _ (fun e => hp (e ▸ hk)), fun k o _ hk ho => (KeepsOthers.setCell W p v).same k o hk ho⟩
theorem Bod.put {S : Nat → Prop} (W : World) {l : Nat} (o' : Obj) (hS : ¬ S l) : Bod (l + 1) S W (W.putObj l o') :=
  ⟨by simp, fun k hk => World.putObj_heap_other (fun e => hS (e ▸ hk)), fun k x hk hx _ => (World.putObj_heap_other (by omega)).trans hx⟩
theorem Bod.mono {B C : Nat} {S : Nat → Prop} {W W' : World} (h : Bod B S W W') (hB : B ≤ C) : Bod C S W W' := ⟨h.size, h.keep, fun k o hk hx ho => h.same k o (Nat.le_trans hB hk) hx ho⟩

/-- An iterator value: called, it hands out encs 0, .., encs (N-1) in turn, till a round says 'no more'. Between two rounds it may make memory, and turns nothing; it leans on the blocks of S. -/
def SeqIx (P : Program) (g : Nat) (lb : Array Value) (encs : Nat → Array Value) (N : Nat) (S : Nat → Prop) (w : World) : Prop :=
  ∀ (l : Nat) (J Jx : Nat → World → Prop) (W : World), Below w.heap.size w W →
    (∀ i A A', J i A → Below A.heap.size A A' → J i A') → (∀ i A A', Jx i A → Below A.heap.size A A' → Jx i A') →
    (∀ i W1, i < N → J i W1 → YieldAt Fence.wide 0 P l (encs i) W1 fun e W' =>
      (e = .returned (.bool true) ∧ J (i + 1) W' ∧ W1.heap.size ≤ W'.heap.size ∧ ∀ k, S k → W'.heap[k]? = W1.heap[k]?) ∨ (e = .returned (.bool false) ∧ Jx (i + 1) W')) →
    J 0 W →
    Calls P g (#[.func (.yield l) #[] #[]] ++ lb) W fun e W' => (∃ v, e = .returned v) ∧ (J N W' ∨ ∃ i, i ≤ N ∧ Jx i W')

/-- How a round may be left. -/
def rpost (B : Nat) (S : Nat → Prop) (I : Nat → World → Prop) (Ix : Code → Nat → World → Prop) (i : Nat) (W : World) : Exit → Act → World → Prop
  | .normal, _, W' => Bod B S W W' ∧ I i W'
  | .ret, _, W' => Bod B S W W' ∧ Ix .ret i W'
  | .exit id, _, W' => Bod B S W W' ∧ Ix (.exit id) i W'
  | .goto t, _, W' => Bod B S W W' ∧ Ix (.goto t) i W'
  | .panic _, _, _ => False
  | .outgrown, _, _ => False

abbrev markOf (D : Nat) : Deferred := { target := .collected D, args := #[] }

/-- One round, from the walk of its two pieces of code. -/
theorem round_of {P : Program} {B : Nat} {S : Nat → Prop} {ps : Array Tmp} {assign body : Code} {tmps : Array Value} {l i : Nat} {I : Nat → World → Prop} {Ix : Code → Nat → World → Prop} {W : World} {args : Array Value} {r : Loop} (R : Ending → World → Prop)
    (hBl : B ≤ l) (hSl : ¬ S l) (hr : r.params = ps ∧ r.assign = assign ∧ r.body = body ∧ r.tmps = tmps ∧ r.state = .ready ∧ r.pending = none) (hl : W.heap[l]? = some (.loop r)) (hps : args.size = ps.size)
    (hround : assign.wpIn (Fence.wide.inRound l) 0 P (Exit.then (fun a1 W1 => Bod B S W W1 ∧ ∃ Ax : World → Prop, Sta B Ax ∧ Ax W1 ∧ ∀ W2, Ax W2 → (∃ r, W2.heap[l]? = some (.loop r)) → body.wpIn (Fence.wide.inRound l) 0 P (rpost B S I Ix (i + 1) W2) a1 W2) (fun _ _ _ => False))
      { tmps := (ps.zip args).foldl (fun t (p, v) => t.setIfInBounds p v) tmps, defers := [] } W)
    (hR1 : ∀ W3 W4, W.heap.size ≤ W3.heap.size → Bod (l + 1) S W W4 → W4.heap[l]? = some (.loop r) → Chg B W3 W4 → I (i + 1) W3 → (∀ k o, B ≤ k → k ≠ l → W.heap[k]? = some o → o.isCells = false → W4.heap[k]? = some o) → R (.returned (.bool true)) W4)
    (hR2 : ∀ c W3 W4, W.heap.size ≤ W3.heap.size → Bod (l + 1) S W W4 → W4.heap[l]? = some (.loop { r with state := .done, pending := some c }) → Chg B W3 W4 → Ix c (i + 1) W3 → (∀ k o, B ≤ k → k ≠ l → W.heap[k]? = some o → o.isCells = false → W4.heap[k]? = some o) → R (.returned (.bool false)) W4) :
    YieldAt Fence.wide 0 P l args W R := by
  obtain ⟨h1, h2, h3, h4, h5, h6⟩ := hr
  refine ⟨r.fn, _, r.assign, r.body, run_yield hl (by rw [h1]; exact hps), roundIn_of_wpIn trivial ?_⟩
  rw [h1, h2, h3, h4]
  refine wpIn_mono hround ?_
  rintro e a1 W1 hp
  cases e <;> first | exact hp.elim | skip
  obtain ⟨hbod, Ax, hAx, hax, hbody⟩ := hp
  have hl1 : W1.heap[l]? = some (.loop r) := hbod.same l _ hBl hl rfl
  have hl2 : (W1.putObj l (.loop { r with state := .busy })).heap[l]? = some (.loop { r with state := .busy }) := World.putObj_heap_same (block_lt hl1)
  have hb2 : Bod (l + 1) S W (W1.putObj l (.loop { r with state := .busy })) := (hbod.mono (by omega)).trans (Bod.put _ _ hSl)
  have hk2 : ∀ k o, B ≤ k → k ≠ l → W.heap[k]? = some o → o.isCells = false → (W1.putObj l (.loop { r with state := .busy })).heap[k]? = some o :=
    fun k o hk hne ho hc => (World.putObj_heap_other hne).trans (hbod.same k o hk ho hc)
  refine ⟨_, run_beginRound hl1 h5, wpIn_mono (hbody _ (hAx _ _ (Chg.put _ hl1 hBl rfl) hax) ⟨_, hl2⟩) ?_⟩
  generalize W1.putObj l (.loop { r with state := .busy }) = W2 at hl2 hb2 hk2
  rintro e a3 W3 hp
  have fin : ∀ (jump : Option Code), Bod B S W2 W3 → (Instr.endRound l jump).run P W3 = .ok (.bool jump.isNone) (W3.putObj l (.loop { r with state := if jump.isNone then .ready else .done, pending := jump })) ∧
      (W3.putObj l (.loop { r with state := if jump.isNone then .ready else .done, pending := jump })).heap[l]? = some (.loop { r with state := if jump.isNone then .ready else .done, pending := jump }) ∧
      Chg B W3 (W3.putObj l (.loop { r with state := if jump.isNone then .ready else .done, pending := jump })) ∧ Bod (l + 1) S W (W3.putObj l (.loop { r with state := if jump.isNone then .ready else .done, pending := jump })) ∧
      (∀ k o, B ≤ k → k ≠ l → W.heap[k]? = some o → o.isCells = false → (W3.putObj l (.loop { r with state := if jump.isNone then .ready else .done, pending := jump })).heap[k]? = some o) := fun jump hb3 => by
    have hl3 := hb3.same l _ hBl hl2 rfl
    exact ⟨run_endRound (r := { r with state := .busy }) jump hl3, World.putObj_heap_same (block_lt hl3), Chg.put _ hl3 hBl rfl, (hb2.trans (hb3.mono (by omega))).trans (Bod.put _ _ hSl),
      fun k o hk hne ho hc => (World.putObj_heap_other hne).trans (hb3.same k o hk (hk2 k o hk hne ho hc) hc)⟩
  cases e with
  | normal =>
    obtain ⟨hb3, hi⟩ := hp
    obtain ⟨f1, f2, f3, f4, f5⟩ := fin none hb3
    refine ⟨_, _, f1, hR1 W3 _ (Nat.le_trans hb2.size hb3.size) f4 ?_ f3 hi f5⟩
    rw [f2]; cases r; simp_all
  | ret =>
    obtain ⟨hb3, hi⟩ := hp
    obtain ⟨f1, f2, f3, f4, f5⟩ := fin (some .ret) hb3
    exact ⟨_, _, f1, hR2 .ret W3 _ (Nat.le_trans hb2.size hb3.size) f4 f2 f3 hi f5⟩
  | exit id =>
    obtain ⟨hb3, hi⟩ := hp
    obtain ⟨f1, f2, f3, f4, f5⟩ := fin (some (.exit id)) hb3
    exact ⟨_, _, f1, hR2 (.exit id) W3 _ (Nat.le_trans hb2.size hb3.size) f4 f2 f3 hi f5⟩
  | goto t =>
    obtain ⟨hb3, hi⟩ := hp
    obtain ⟨f1, f2, f3, f4, f5⟩ := fin (some (.goto t)) hb3
    exact ⟨_, _, f1, hR2 (.goto t) W3 _ (Nat.le_trans hb2.size hb3.size) f4 f2 f3 hi f5⟩
  | panic ch => exact hp.elim
  | outgrown => exact hp.elim

/-- 'for .. := range g { .. }' in a function's own body. -/
theorem wp_range {P : Program} {g : Operand} {ps : Array Tmp} {assign body : Code} {Q : Exit → Act → World → Prop} {a : Act} {w : World}
    {gf : Nat} {lb : Array Value} (hg : a.eval g = .func (.func gf) #[] lb) (eg : ∀ args w, (callFunc gf args).run P w = .ok (.enter gf args) w)
    {encs : Nat → Array Value} {N : Nat} {S : Nat → Prop} {w0 : World} (hseq : SeqIx P gf lb encs N S w0) (hb0 : Below w0.heap.size w0 w) (hS : ∀ k, S k → k < w.heap.size) (hps : ∀ i, (encs i).size = ps.size)
    (I : Nat → World → Prop) (Ix : Code → Nat → World → Prop) (hI : ∀ i, Sta w.heap.size (I i)) (hIx : ∀ c i, Sta w.heap.size (Ix c i)) (h0 : I 0 w)
    (hround : ∀ l i W, i < N → w.heap.size ≤ l → I i W →
      assign.wpIn (Fence.wide.inRound l) 0 P (Exit.then (fun a1 W1 => Bod w.heap.size S W W1 ∧ ∃ Ax : World → Prop, Sta w.heap.size Ax ∧ Ax W1 ∧ ∀ W2, Ax W2 → (∃ r, W2.heap[l]? = some (.loop r)) → body.wpIn (Fence.wide.inRound l) 0 P (rpost w.heap.size S I Ix (i + 1) W2) a1 W2) (fun _ _ _ => False))
        { tmps := (ps.zip (encs i)).foldl (fun t (p, v) => t.setIfInBounds p v) a.tmps, defers := [] } W)
    (hdone : ∀ D W, w.heap.size ≤ D → I N W → W.heap[D]? = some (.deferred (some [])) → Q .normal { a with defers := markOf D :: a.defers } W)
    (hstop : ∀ D c i W, w.heap.size ≤ D → i ≤ N → Ix c i W → W.heap[D]? = some (.deferred (some [])) → c.wp P Q { a with defers := markOf D :: a.defers } W) :
    (Code.rangeFunc g ps assign body).wp P Q a w := by
  refine (wpIn_wide (n := 0)).1 (wpIn_rangeFunc ?_)
  intro fn _
  obtain ⟨rec, hrec⟩ : ∃ rec : Loop, rec = { state := .ready, pending := none, fn, tmps := a.tmps, params := ps, assign, body, defers := w.heap.size } := ⟨_, rfl⟩
  obtain ⟨W1, hW1⟩ : ∃ W1, (w.alloc (.deferred (some []))).alloc (.loop rec) = W1 := ⟨_, rfl⟩
  have hL1 : W1.heap[w.heap.size + 1]? = some (.loop rec) := by
    rw [← hW1]; have := alloc_new (w.alloc (.deferred (some []))) (.loop rec); rwa [World.size_alloc] at this
  have hK1 : W1.heap[w.heap.size]? = some (.deferred (some [])) := by rw [← hW1]; exact alloc_old _ (alloc_new w _)
  have hwW1 : Below w.heap.size w W1 := by rw [← hW1]; exact ((Below.refl _ w).alloc (Nat.le_refl _) _).alloc (by simp) _
  have hS1 : ¬ S (w.heap.size + 1) := fun h => by have := hS _ h; omega
  refine ⟨w.heap.size + 1, [markOf w.heap.size], W1, { target := .fn (.func gf) lb, args := #[.func (.yield (w.heap.size + 1)) #[] #[]] }, W1, gf,
    #[.func (.yield (w.heap.size + 1)) #[] #[]] ++ lb, W1, ?_, ?_, fun _ _ => trivial, ?_, fun h => (by simp [Fence.wide] at h), ?_⟩
  · rw [← hW1, hrec]; exact run_enterLoop_outer _ _ _ _ _
  · simp only [resolve, hg]
    simp [go_sem]
  · simp [invoke, go_sem, eg]
  · refine (callsIn_wide (n := 0 - 1)).2 ?_
    refine (hseq (w.heap.size + 1)
      (fun i W => I i W ∧ W.heap[w.heap.size + 1]? = some (.loop rec) ∧ W.heap[w.heap.size]? = some (.deferred (some [])))
      (fun i W => ∃ c, Ix c i W ∧ W.heap[w.heap.size + 1]? = some (.loop { rec with state := .done, pending := some c }) ∧ W.heap[w.heap.size]? = some (.deferred (some [])))
      W1 (ext_trans hb0 hwW1)
      (fun i A A' h hb => ⟨hI i A A' (.of_below hb) h.1, block_up hb h.2.1, block_up hb h.2.2⟩)
      (fun i A A' h hb => by obtain ⟨c, h1, h2, h3⟩ := h; exact ⟨c, hIx c i A A' (.of_below hb) h1, block_up hb h2, block_up hb h3⟩)
      ?_ ⟨hI 0 _ _ (.of_below hwW1) h0, hL1, hK1⟩).mono ?_
    · rintro i W hi ⟨hii, hl, hk⟩
      refine round_of (B := w.heap.size) (S := S) (ps := ps) (assign := assign) (body := body) (tmps := a.tmps) (i := i) (I := I) (Ix := Ix) _ (by omega) hS1 (by rw [hrec]; simp) hl (hps i) (hround _ i W hi (by omega) hii) ?_ ?_
      · intro W3 W4 _ hb4 hl4 hc hi3 hoth
        exact .inl ⟨rfl, ⟨hI _ _ _ hc hi3, hl4, hoth _ _ (Nat.le_refl _) (by omega) hk rfl⟩, hb4.size, hb4.keep⟩
      · intro c W3 W4 _ _ hl4 hc hi3 hoth
        exact .inr ⟨rfl, c, hIx _ _ _ _ hc hi3, hl4, hoth _ _ (Nat.le_refl _) (by omega) hk rfl⟩
    · rintro e W2 ⟨⟨v, rfl⟩, (⟨hi, hl, hk⟩ | ⟨i, hin, c, hi, hl, hk⟩)⟩
      · exact ⟨none, _, by have := run_endLoop (P := P) hl (by rw [hrec]; simp); rw [this, hrec], hdone _ _ (Nat.le_refl _) (hI _ _ _ (Chg.put _ hl (by omega) rfl) hi) ((World.putObj_heap_other (by omega)).trans hk)⟩
      · exact ⟨some c, _, by have := run_endLoop (P := P) hl (by simp); rw [this], wpIn_wide.2 (hstop _ c i _ (Nat.le_refl _) hin (hIx _ _ _ _ (Chg.put _ hl (by omega) rfl) hi) ((World.putObj_heap_other (by omega)).trans hk))⟩

/-- A function that holds such a loop: its contract from its body. -/
theorem calls_marks {P : Program} {f : FuncId} {fn : Func} {c : Code} {args : Array Value} {w : World} {R : Ending → World → Prop}
    (hf : P.funcs[f]? = some fn) (hb : fn.body = some c)
    (h : c.wp P (bodyPostM Fence.wide 0 P fn R) { tmps := args ++ Array.replicate (fn.ntmps - args.size) undef, defers := [] } w) : Calls P f args w R :=
  callsIn_wide.1 (callsIn_of_wp_marks hf hb trivial (wpIn_wide.2 h))
/-- Such a function returns. -/
theorem marks_ret {P : Program} {fn : Func} {R : Ending → World → Prop} {tmps : Array Value} {D : Nat} {W : World} {v : Value} (hK : W.heap[D]? = some (.deferred (some [])))
    (hv : (results fn tmps).run P (W.putObj D (.deferred none)) = .ok v (W.putObj D (.deferred none))) (h : R (.returned v) (W.putObj D (.deferred none))) :
    bodyPostM Fence.wide 0 P fn R .ret { tmps := tmps, defers := [markOf D] } W :=
  ⟨by simp, .inl ⟨_, _, rfl, run_takeDeferred hK, ⟨v, hv, h⟩⟩⟩
theorem marks_end {P : Program} {fn : Func} {R : Ending → World → Prop} {tmps : Array Value} {D : Nat} {W : World} {v : Value} (hK : W.heap[D]? = some (.deferred (some [])))
    (hv : (results fn tmps).run P (W.putObj D (.deferred none)) = .ok v (W.putObj D (.deferred none))) (h : R (.returned v) (W.putObj D (.deferred none))) :
    bodyPostM Fence.wide 0 P fn R .normal { tmps := tmps, defers := [markOf D] } W :=
  ⟨by simp, .inl ⟨_, _, rfl, run_takeDeferred hK, ⟨v, hv, h⟩⟩⟩
/-- .. ahead of the loop -/
theorem marks_ret0 {P : Program} {fn : Func} {R : Ending → World → Prop} {tmps : Array Value} {W : World} {v : Value}
    (hv : (results fn tmps).run P W = .ok v W) (h : R (.returned v) W) : bodyPostM Fence.wide 0 P fn R .ret { tmps := tmps, defers := [] } W := ⟨v, hv, h⟩
theorem below_put {n : Nat} {w W : World} {D : Nat} {o : Obj} (hn : n ≤ D) (h : Below n w W) : Below n w (W.putObj D o) :=
  ⟨h.os, h.tape, h.output, by simpa using h.size, fun k hk => (World.putObj_heap_other (by omega)).trans (h.block k hk)⟩

end Go.Proofs.Ytlfnfphkhokdiaa

namespace Go.Proofs.Ytlfnfphkhokdiaa
open Go.RowKit Go Go.Shelf
attribute [local go_sem] Oper.semAt_some

theorem setCell_same {W : World} {B : Nat} {cs : Array Value} {t : TypeId} {f : Nat × Nat} (h : W.heap[B]? = some (.cells cs t f)) (o : Nat) (v : Value) : (W.setCell ⟨B, o, none⟩ v).heap[B]? = some (.cells (cs.setIfInBounds o v) t f) := by
  simp [World.setCell, Array.getElem?_modify, h]
theorem setCell_other {W : World} {B C : Nat} {x : Obj} (h : W.heap[C]? = some x) (hne : C ≠ B) (o : Nat) (v : Value) : (W.setCell ⟨B, o, none⟩ v).heap[C]? = some x :=
  (Below.heap_setCell W ⟨B, o, none⟩ v C hne).trans h
/-- Below n the worlds are alike. -/
def Keep (n : Nat) (w w' : World) : Prop := ∀ k, k < n → w'.heap[k]? = w.heap[k]?
theorem Keep.cell {w w' : World} (h : Keep w.heap.size w w') {a : Addr} {v : Value} (hc : w.cell? a = some v) : w'.cell? a = some v := by
  have := cell_lt hc
  rw [World.cell?_of_block (w := w) (h a.block this)]; exact hc
theorem Keep.ck {w w' : World} (h : Keep w.heap.size w w') : CK w w' := fun k _ hk _ => (h k (block_lt hk)).trans hk
theorem Keep.of_below {w w' : World} (h : Below w.heap.size w w') : Keep w.heap.size w w' := h.block
theorem Keep.alloc {w w' : World} (h : Keep w.heap.size w w') (o : Obj) : Keep w.heap.size w (w'.alloc o) := fun k hk => by
  have h1 : w.heap[k]? = some w.heap[k] := Array.getElem?_eq_getElem hk
  rw [h1]; exact alloc_old o ((h k hk).trans h1)
theorem Keep.trans {n : Nat} {a b c : World} (h : Keep n a b) (k : Keep n b c) : Keep n a c := fun i hi => (k i hi).trans (h i hi)

set_option maxHeartbeats 400000 in
theorem moves_any (n : Int) (p : Option Addr) (len cap : Nat) (w : World) :
    Calls Try.prog 54 #[.agg #[.int .i64 n, .slice p len cap]] w fun e w' => e = .returned (.func (.func 70) #[] #[.pointer (some ⟨w.heap.size, 0, none⟩)]) ∧ w' = w.alloc (.cells #[.int .i64 n, .slice p len cap] 27) := by
  go_enter Try.func54, Try.ntmps54
  go_wp2
  go_ret
  exact ⟨rfl, rfl⟩

def encM (l : List (List Mv)) (i : Nat) : Array Value := #[.int .i64 (mvAt l i).1, (mvAt l i).2.v]

set_option maxHeartbeats 2000000 in
theorem moves1_seq (wd : World) (v : Value) (l : List (List Mv)) (hv : IsStates wd v l) (w : World) (hb : Below wd.heap.size wd w) (Bx : Nat) (hx : w.cell? ⟨Bx, 1, none⟩ = some v) :
    SeqIx Try.prog 70 #[.pointer (some ⟨Bx, 0, none⟩)] (encM l) (movesN l) (fun k => k < wd.heap.size) w := by
  intro yl J Jx W hW hJ hJx hY h0
  have hx1 := cell_up hW hx
  have hk0 : Keep wd.heap.size wd W := (Keep.of_below hb).trans (fun k hk => hW.block k (Nat.lt_of_lt_of_le hk hb.size))
  obtain ⟨pa, ca, rfl, la1, la2, ea⟩ := hv.at
  clear hv hx hW hb
  have EA := Lib.hid ea; clear ea
  have HJ := Lib.hid hJ; clear hJ
  have HJX := Lib.hid hJx; clear hJx
  have HY := Lib.hid hY; clear hY
  refine (callsIn_wide (n := 0)).1 ?_
  refine callsIn_of_wp Try.func70 rfl trivial ?_ rfl
  simp only [Try.ntmps70, List.size_toArray, List.length_cons, List.length_nil, Nat.reduceAdd, Nat.reduceSub, Array.replicate_succ, Array.replicate_zero, List.push_toArray, List.append_toArray, List.nil_append, List.cons_append]
  gi_wp2
  gi_loopw [10] (fun i wr => ∃ s : Nat, s ≤ l.length ∧ i = .int .i64 s ∧ Keep wd.heap.size wd wr ∧ J (cnt l s) wr) (fun i _ => l.length - (intOf i).toNat)
  case atStart => exact ⟨0, by omega, rfl, hk0, by rw [cnt_zero]; exact h0⟩
  case round =>
    obtain ⟨s, hs, rfl, hkr, hj⟩ := hrel
    have HKR := Lib.hid hkr; clear hkr
    have HJR := Lib.hid hj; clear hj
    by_cases hlt : s < l.length
    · obtain ⟨b1, o1, rfl, x, cx, hxs⟩ := EA.out s hlt
      rw [Nat.mul_one] at cx
      have d1 := HKR.out.cell cx
      obtain ⟨p2, c2, rfl, m1, m2, e2⟩ := hxs.at
      clear hxs cx
      have E2 := Lib.hid e2; clear e2
      gi_wp2
      obtain ⟨W0, hW0⟩ : ∃ W0 : World, W0 = wr := ⟨_, rfl⟩
      rw [← hW0] at HKR HJR d1 ⊢
      clear hW0 wr
      gi_loopw [17] (fun i wr => ∃ j : Nat, j ≤ l[s].length ∧ i = .int .i64 j ∧ Keep wd.heap.size wd wr ∧ J (cnt l s + j) wr) (fun i _ => l[s].length - (intOf i).toNat)
      case atStart => exact ⟨0, by omega, rfl, HKR.out, HJR.out⟩
      case round =>
        obtain ⟨j, hj, rfl, hkr, hjr⟩ := hrel
        have HKR2 := Lib.hid hkr; clear hkr
        have HJR2 := Lib.hid hjr; clear hjr
        by_cases hjt : j < l[s].length
        · obtain ⟨b2, o2, rfl, ⟨⟨c0, _⟩, ⟨c1, _⟩, ⟨c2, _⟩, ⟨c3, _⟩, ⟨c4, _⟩, ⟨c5, _⟩, ⟨c6, _⟩⟩, c7, _⟩ := E2.out j hjt
          have d0 := HKR2.out.cell c0
          have d1 := HKR2.out.cell c1
          have d2 := HKR2.out.cell c2
          have d3 := HKR2.out.cell c3
          have d4 := HKR2.out.cell c4
          have d5 := HKR2.out.cell c5
          have d6 := HKR2.out.cell c6
          have d7 := HKR2.out.cell c7
          clear c0 c1 c2 c3 c4 c5 c6 c7
          have hmv := mvAt_eq l s j hlt hjt
          have hle := cnt_le l s hlt
          generalize hm : l[s][j] = m at d0 d1 d2 d3 d4 d5 d6 d7 hmv
          obtain ⟨fn, tmps, assign, body, hy, hR⟩ := HY.out (cnt l s + j) (wr.alloc (.cells #[.int .i64 m.r.g.n, .int .i64 m.r.g.h0, .int .i64 m.r.g.h1, .int .i64 m.r.g.h2, .int .i64 m.r.g.h3, .int .i64 m.r.g.h4, .int .i64 m.r.f, .int .i64 m.to] 84)) (by omega) (HJ.out _ _ _ HJR2.out (by go_grown))
          unfold encM at hy
          rw [hmv] at hy
          dsimp only at hy
          have HR := Lib.hid hR; clear hR hmv hm
          gi_wp2
          refine ⟨rfl, HR.out.mono ?_⟩
          rintro e W3 (⟨rfl, hJ3, hz3, hk3⟩ | ⟨rfl, hJx3⟩)
          · gi_wp2
            go_roundw
            case rel => exact ⟨j + 1, by omega, by go_num, Keep.trans (HKR2.out.alloc _) hk3, hJ3⟩
            case measure => simp [intOf]; omega
          · gi_wp2
            refine bodyPost_ret (results_none rfl _ _ _) rfl ?_
            exact ⟨⟨_, rfl⟩, .inr ⟨_, by omega, hJx3⟩⟩
        · gi_wp2
          go_roundw
          case rel =>
            refine ⟨s + 1, by omega, by go_num, HKR2.out, ?_⟩
            have e : l[s].length = j := by omega
            rw [cnt_succ l s hlt, e]; exact HJR2.out
          case measure => simp [intOf]; omega
    · gi_wp2
      go_end0
      exact ⟨⟨_, rfl⟩, .inl (by rw [← cnt_all l s (by omega)]; exact HJR.out)⟩

def sizedE (a : Adv) : Int := if a.states.length < 1 ∨ 256 < a.states.length ∨ 4096 < movesN a.states then 5 else 0

set_option maxHeartbeats 2000000 in
theorem sized_any (a : Adv) (v : Value) (w : World) (hv : IsStates w v a.states) (hN : movesN a.states < 1099511627776) :
    Calls Try.prog 52 #[.agg #[.int .i64 a.n, v]] w fun e w' => e = .returned (.int .i64 (sizedE a)) ∧ Below w.heap.size w w' := by
  have G := Lib.hid hv
  obtain ⟨pa, ca, rfl, la1, la2, _⟩ := hv.at
  clear hv
  refine calls_marks Try.func52 rfl ?_
  simp only [Try.ntmps52, List.size_toArray, List.length_cons, List.length_nil, Nat.reduceAdd, Nat.reduceSub, Array.replicate_succ, Array.replicate_zero, List.push_toArray, List.append_toArray, List.nil_append, List.cons_append]
  go_wp2_with fail
  refine (moves_any _ _ _ _ _).mono ?_
  rintro e w1 ⟨rfl, rfl⟩
  go_wp2_with fail
  refine wp_gen (fun W => Below w.heap.size w W ∧ W.heap[w.heap.size]? = some (.cells #[.int .i64 a.n, .slice pa a.states.length ca] 27) ∧ W.heap[w.heap.size + 1]? = some (.cells #[.int .i64 0] 3) ∧ W.heap[w.heap.size + 1 + 1]? = some (.cells #[.int .i64 a.n, .slice pa a.states.length ca] 27))
    ⟨by go_grown, alloc_old _ (alloc_old _ (alloc_new _ _)), alloc_old _ (by simpa using alloc_new (w.alloc (.cells #[.int .i64 a.n, .slice pa a.states.length ca] 27)) (.cells #[.int .i64 0] 3)), by simpa using alloc_new ((w.alloc (.cells #[.int .i64 a.n, .slice pa a.states.length ca] 27)).alloc (.cells #[.int .i64 0] 3)) (.cells #[.int .i64 a.n, .slice pa a.states.length ca] 27)⟩ (fun W0 hW0 => ?_)
  obtain ⟨hb0, hA, hn0, hX⟩ := hW0
  have hseq := moves1_seq w _ a.states G.out W0 hb0 (w.heap.size + 1 + 1) (by simp [cell_block hX])
  have hsz := block_lt hX
  refine wp_range (gf := 70) (lb := #[.pointer (some ⟨w.heap.size + 1 + 1, 0, none⟩)]) rfl (enters_of Try.func70 (by kernel_rfl) rfl) hseq (Below.refl _ _) (fun k hk => Nat.lt_of_lt_of_le hk hb0.size) (fun i => rfl)
    (fun i W => Below w.heap.size w W ∧ W.heap[w.heap.size]? = some (.cells #[.int .i64 a.n, .slice pa a.states.length ca] 27) ∧ W.heap[w.heap.size + 1]? = some (.cells #[.int .i64 i] 3))
    (fun _ _ _ => False) (fun i => (Sta.below (by omega)).and (Sta.cells.and Sta.cells)) (fun _ _ => Sta.pure) ⟨hb0, hA, hn0⟩ ?round ?done ?stop
  case round =>
    intro l i W hi hl hI
    unfold encM
    gi_wp2
    refine ⟨Bod.refl _ _ _, _, (Sta.below (w := w) (by omega)).and (Sta.cells.and Sta.cells), hI, fun W2 h2 _ => ?_⟩
    obtain ⟨g1, g2, g3⟩ := h2
    have c1 := cell_block g3 0
    have f1 := frozen_block g3 0
    simp at c1
    have HG := Lib.hid (And.intro g1 (And.intro g2 g3))
    clear g1 g2 g3 hI hseq
    gi_wp2
    obtain ⟨g1, g2, g3⟩ := HG.out
    refine ⟨Bod.setCell _ _ _ (by simp), g1.setCell (by simp) _, setCell_other g2 (by omega) _ _, ?_⟩
    rw [setCell_same g3]
    simp
  case done =>
    intro D W hD hI hK
    obtain ⟨g1, g2, g3⟩ := hI
    have HG := Lib.hid (And.intro g1 (And.intro g2 g3))
    have t1 := cell_block g2
    have t2 := cell_block g3
    clear g1 g2 g3 hseq
    go_wp2
    all_goals
      refine marks_ret hK (results_tmp rfl _ _ _) ?_
      refine ⟨ret_int ?_, below_put (by omega) HG.out.1⟩
      go_light
      unfold sizedE
      grind
  case stop =>
    intro D c i W _ _ h
    exact h.elim
end Go.Proofs.Ytlfnfphkhokdiaa

namespace Go.Proofs.Ytlfnfphkhokdiaa
open Go.RowKit Go Go.Shelf

set_option maxHeartbeats 2000000 in
theorem state_any (a : Adv) (ps : Option Addr) (cs : Nat) (v : Value) (l : List Mv) (w : World) (hv : IsMoves w v l) :
    Calls Try.prog 53 #[.agg #[.int .i64 a.n, .slice ps a.states.length cs], v] w fun e w' => e = .returned (.int .i64 (stateE a l)) ∧ Below w.heap.size w w' := by
  obtain ⟨pa, ca, rfl, l1, m1, e1⟩ := hv.at
  clear hv
  have E := Lib.hid e1; clear e1
  by_cases hz : l.length = 0
  · have hz1 : ((l.length : Int) == 0) = true := beq_iff_eq.2 (by omega)
    have HV : Hid (stateE a l = 19) := by (have h : stateE a l = 19 := by (unfold stateE; rw [if_pos hz])); exact h
    clear hz
    go_enter Try.func53, Try.ntmps53
    go_wp2_with fail
    go_ret
    exact ⟨ret_int HV.out.symm, by go_grown⟩
  have hz1 : ((l.length : Int) == 0) = false := beq_eq_false_iff_ne.2 (by omega)
  have HV : Hid (stateE a l = firstNZ l.length (moveE a l)) := by (have h : stateE a l = firstNZ l.length (moveE a l) := by (unfold stateE; rw [if_neg hz])); exact h
  clear hz
  go_enter Try.func53, Try.ntmps53
  go_wp2_with fail
  refine wp_gen (fun W => Below w.heap.size w W ∧ W.heap[w.heap.size]? = some (.cells #[.int .i64 a.n, .slice ps a.states.length cs] 27))
    ⟨by go_grown, alloc_new _ _⟩ (fun W0 hW0 => ?_)
  obtain ⟨hb0, hT⟩ := hW0
  have HT := Lib.hid hT; clear hT hz1
  go_loopw [13] (fun i wr => Below W0.heap.size W0 wr ∧ ∃ k : Nat, k ≤ l.length ∧ i = .int .i64 k ∧ ∀ j, j < k → moveE a l j = 0) (fun i _ => l.length - (intOf i).toNat)
  case atStart => exact ⟨Below.refl _ _, 0, by omega, rfl, by simp⟩
  case round =>
    obtain ⟨hbr, k, hk, rfl, hinv⟩ := hrel
    have H := Lib.hid hinv; clear hinv
    have hbW := ext_trans hb0 hbr
    by_cases hlt : k < l.length
    · obtain ⟨b1, o1, rfl, ⟨⟨c0, _⟩, ⟨c1, _⟩, ⟨c2, _⟩, ⟨c3, _⟩, ⟨c4, _⟩, ⟨c5, _⟩, ⟨c6, _⟩⟩, c7, _⟩ := E.out k hlt
      have d0 := cell_up hbW c0
      have d1 := cell_up hbW c1
      have d2 := cell_up hbW c2
      have d3 := cell_up hbW c3
      have d4 := cell_up hbW c4
      have d5 := cell_up hbW c5
      have d6 := cell_up hbW c6
      have d7 := cell_up hbW c7
      clear c0 c1 c2 c3 c4 c5 c6 c7
      have HO : Hid (moveE a l k = if roundE l[k].r ≠ 0 then roundE l[k].r else if l[k].r.g.n ≠ a.n then 22 else if 0 < k ∧ 0 ≤ roundC (l.getD (k - 1) default).r l[k].r then 14 else if l[k].to < 0 ∨ (a.states.length : Int) ≤ l[k].to then 2 else 0) := by
        have h : moveE a l k = if roundE l[k].r ≠ 0 then roundE l[k].r else if l[k].r.g.n ≠ a.n then 22 else if 0 < k ∧ 0 ≤ roundC (l.getD (k - 1) default).r l[k].r then 14 else if l[k].to < 0 ∨ (a.states.length : Int) ≤ l[k].to then 2 else 0 := by unfold moveE; rw [getD_of_lt default hlt]
        exact h
      generalize l[k] = m at d0 d1 d2 d3 d4 d5 d6 d7 HO
      go_wp2_with fail
      refine calls_gen (fun W => Below wr.heap.size wr W ∧ W.heap[wr.heap.size]? = some (.cells #[.int .i64 m.r.g.n, .int .i64 m.r.g.h0, .int .i64 m.r.g.h1, .int .i64 m.r.g.h2, .int .i64 m.r.g.h3, .int .i64 m.r.g.h4, .int .i64 m.r.f, .int .i64 m.to] 84)) ⟨by go_grown, alloc_new _ _⟩ (fun V hV => ?_)
      obtain ⟨hbV, hC⟩ := hV
      have HC := Lib.hid hC; clear hC
      have hWV := ext_trans hbW hbV
      refine (roundCheck_any m.r _).mono ?_
      rintro e w1 ⟨rfl, hb1⟩
      clear d0 d1 d2 d3 d4 d5 d6 d7
      have hWU := ext_trans hWV hb1
      have hrU := ext_trans hbr (ext_trans hbV hb1)
      have s1 := cell_block (block_up hrU HT.out)
      have s2 := cell_block (block_up hb1 HC.out)
      generalize roundE m.r = er at HO
      by_cases her : er = 0
      case neg =>
        have her' : (er != 0) = true := by simpa using her
        go_wp2_with fail
        go_ret
        exact ⟨ret_int (by rw [HV.out, ← firstNZ_hit k er hlt H.out (by rw [HO.out, if_pos her]) her]), hWU⟩
      subst her
      by_cases hmn : m.r.g.n = a.n
      case neg =>
        have hmn' : (m.r.g.n != a.n) = true := by simpa using hmn
        go_wp2_with fail
        go_ret
        exact ⟨ret_int (by rw [HV.out, ← firstNZ_hit k 22 hlt H.out (by rw [HO.out, if_neg (by simp), if_pos hmn]) (by decide)]), hWU⟩
      have hmn' : (m.r.g.n != a.n) = false := by simpa using hmn
      have HO1 : Hid (moveE a l k = if 0 < k ∧ 0 ≤ roundC (l.getD (k - 1) default).r m.r then 14 else if m.to < 0 ∨ (a.states.length : Int) ≤ m.to then 2 else 0) := by
        have h : moveE a l k = if 0 < k ∧ 0 ≤ roundC (l.getD (k - 1) default).r m.r then 14 else if m.to < 0 ∨ (a.states.length : Int) ≤ m.to then 2 else 0 := by rw [HO.out, if_neg (by simp), if_neg (by simpa using hmn)]
        exact h
      clear HO hmn
      go_wp2_with fail
      clear hmn'
      by_cases hk0 : k = 0
      · have HO2 : Hid (moveE a l k = if m.to < 0 ∨ (a.states.length : Int) ≤ m.to then 2 else 0) := by (have h : moveE a l k = if m.to < 0 ∨ (a.states.length : Int) ≤ m.to then 2 else 0 := by (rw [HO1.out, if_neg (by omega)])); exact h
        have hd : decide ((0 : Int) < (k : Int)) = false := by simp; omega
        have hd2 : decide (0 < k) = false := by simp; omega
        clear HO1 hk0 s1 s2
        refine wp_region_quiet_ext (by kernel_rfl) (by kernel_rfl) ?_
        repeat (go_big_quiet_step (fail))
        refine wpQuiet_nil ?_
        intro _ hw'
        obtain ⟨xq, hw''⟩ := hw'
        subst hw''
        clear hd hd2
        have r1 := cell_block (block_up (ext_trans hrU xq.ext) HT.out)
        have r2 := cell_block (block_up (ext_trans hb1 xq.ext) HC.out)
        have hWX := ext_trans hWU xq.ext
        go_wp2_with fail
        all_goals first
          | (go_ret
             refine ⟨ret_int ?_, hWX⟩
             rw [HV.out]
             go_light
             refine firstNZ_hit k _ hlt H.out ?_ (by decide)
             rw [HO2.out]
             grind)
          | (go_roundw
             case rel =>
               refine ⟨ext_trans (ext_trans hrU xq.ext) (Below.refl _ _), k + 1, by omega, by go_num, below_succ H.out ?_⟩
               go_light
               rw [HO2.out]
               grind
             case measure => simp [intOf]; omega)
      · obtain ⟨j, hj⟩ : ∃ j, k = j + 1 := ⟨k - 1, by omega⟩
        have hjl : j < l.length := by omega
        have HJ := Lib.hid hj
        obtain ⟨b2, o2, e2, ⟨⟨c0, _⟩, ⟨c1, _⟩, ⟨c2, _⟩, ⟨c3, _⟩, ⟨c4, _⟩, ⟨c5, _⟩, ⟨c6, _⟩⟩, _⟩ := E.out j hjl
        obtain ⟨rfl, rfl⟩ : b1 = b2 ∧ o1 = o2 := by simpa using e2
        clear e2
        have hd : decide ((0 : Int) < (k : Int)) = true := by simp; omega
        have hd2 : 0 < k := by omega
        have HO2 : Hid (moveE a l k = if 0 ≤ roundC l[j].r m.r then 14 else if m.to < 0 ∨ (a.states.length : Int) ≤ m.to then 2 else 0) := by
          have h : moveE a l k = if 0 ≤ roundC l[j].r m.r then 14 else if m.to < 0 ∨ (a.states.length : Int) ≤ m.to then 2 else 0 := by
            rw [HO1.out]
            have e : k - 1 = j := by omega
            rw [e, getD_of_lt default hjl]
            grind
          exact h
        clear HO1 hk0 hj s1 s2
        have hw1 : IntKind.i64.wrap ((k : Int) - 1) = (j : Int) := by rw [HJ.out]; rw [IntWalk.i64_in _ (by omega)]; omega
        generalize l[j] = m2 at c0 c1 c2 c3 c4 c5 c6 HO2
        have q1 : ∀ x : ExtW w1, ∀ o, x.val.cell? ⟨w.heap.size, o, none⟩ = _ := fun x => cell_block (block_up (ext_trans hrU x.ext) HT.out)
        have q2 : ∀ x : ExtW w1, ∀ o, x.val.cell? ⟨wr.heap.size, o, none⟩ = _ := fun x => cell_block (block_up (ext_trans hb1 x.ext) HC.out)
        have k0 : ∀ x : ExtW w1, x.val.cell? _ = _ := fun x => x.cell (cell_up hWU c0)
        have k1 : ∀ x : ExtW w1, x.val.cell? _ = _ := fun x => x.cell (cell_up hWU c1)
        have k2 : ∀ x : ExtW w1, x.val.cell? _ = _ := fun x => x.cell (cell_up hWU c2)
        have k3 : ∀ x : ExtW w1, x.val.cell? _ = _ := fun x => x.cell (cell_up hWU c3)
        have k4 : ∀ x : ExtW w1, x.val.cell? _ = _ := fun x => x.cell (cell_up hWU c4)
        have k5 : ∀ x : ExtW w1, x.val.cell? _ = _ := fun x => x.cell (cell_up hWU c5)
        have k6 : ∀ x : ExtW w1, x.val.cell? _ = _ := fun x => x.cell (cell_up hWU c6)
        clear c0 c1 c2 c3 c4 c5 c6
        refine wp_region_quiet_ext (by kernel_rfl) (by kernel_rfl) ?_
        repeat (go_big_quiet_step ((go_at_call 69; exact Calls.ext_of (roundCompare_any m2.r m.r _))))
        refine wpQuiet_nil ?_
        intro _ hw'
        obtain ⟨xq, hw''⟩ := hw'
        subst hw''
        have r1 := q1 xq
        have r2 := q2 xq
        clear q1 q2 k0 k1 k2 k3 k4 k5 k6 hd hd2 hw1
        have hWX := ext_trans hWU xq.ext
        generalize roundC m2.r m.r = oo at HO2
        go_wp2_with fail
        all_goals first
          | (go_ret
             refine ⟨ret_int ?_, hWX⟩
             rw [HV.out]
             go_light
             refine firstNZ_hit k _ hlt H.out ?_ (by decide)
             rw [HO2.out]
             grind)
          | (go_roundw
             case rel =>
               refine ⟨ext_trans (ext_trans hrU xq.ext) (Below.refl _ _), k + 1, by omega, by go_num, below_succ H.out ?_⟩
               go_light
               rw [HO2.out]
               grind
             case measure => simp [intOf]; omega)
    · go_wp2_with fail
      go_ret
      exact ⟨ret_int (by rw [HV.out, firstNZ_zero]; intro j hj; exact H.out j (by omega)), hbW⟩

end Go.Proofs.Ytlfnfphkhokdiaa

namespace Go.Proofs.Ytlfnfphkhokdiaa
open Go.RowKit Go Go.Shelf
attribute [local go_sem] Oper.semAt_some

theorem alloc2_new (w : World) (a b : Obj) : ((w.alloc a).alloc b).heap[w.heap.size + 1]? = some b := by simpa using alloc_new (w.alloc a) b
theorem alloc3_new (w : World) (a b c : Obj) : (((w.alloc a).alloc b).alloc c).heap[w.heap.size + 1 + 1]? = some c := by simpa using alloc_new ((w.alloc a).alloc b) c

theorem check_results (tmps : Array Value) (B : Nat) (W : World) (x : Int) (ty : TypeId) (ht : tmps[2]?.getD undef = .pointer (some ⟨B, 0, none⟩)) (hb : W.heap[B]? = some (.cells #[.int .i64 x] ty)) :
    (results Try.f36 tmps).run Try.prog W = .ok (.int .i64 x) W := by
  have c := cell_block hb 0
  simp at c
  simp [results, Try.results36, go_sem, ht, c]

set_option maxHeartbeats 4000000 in
theorem advCheck_any (a : Adv) (v : Value) (w : World) (hv : IsStates w v a.states) (hN : movesN a.states < 1099511627776) :
    Calls Try.prog 36 #[.agg #[.int .i64 a.n, v]] w fun e w' => e = .returned (.int .i64 (advE a)) ∧ Below w.heap.size w w' := by
  have G := Lib.hid hv
  obtain ⟨pa, ca, rfl, la1, la2, ea⟩ := hv.at
  clear hv
  have E := Lib.hid ea; clear ea
  refine calls_marks Try.func36 rfl ?_
  simp only [Try.ntmps36, List.size_toArray, List.length_cons, List.length_nil, Nat.reduceAdd, Nat.reduceSub, Array.replicate_succ, Array.replicate_zero, List.push_toArray, List.append_toArray, List.nil_append, List.cons_append]
  by_cases hn : a.n < 1 ∨ 5 < a.n
  · have HV : Hid (advE a = 2) := by (have h : advE a = 2 := by (unfold advE; rw [if_pos hn])); exact h
    rcases hn with hn | hn
    · go_wp2_with fail
      refine marks_ret0 (check_results _ _ _ 2 _ rfl (alloc2_new _ _ _)) ?_
      exact ⟨ret_int HV.out.symm, by go_grown⟩
    · go_wp2_with fail
      refine marks_ret0 (check_results _ _ _ 2 _ rfl (alloc2_new _ _ _)) ?_
      exact ⟨ret_int HV.out.symm, by go_grown⟩
  have hn1 : 1 ≤ a.n := by omega
  have hn2 : a.n ≤ 5 := by omega
  have HV : Hid (advE a = if sizedE a ≠ 0 then sizedE a else if firstNZ a.states.length (fun s => stateE a (a.states.getD s [])) ≠ 0 then firstNZ a.states.length (fun s => stateE a (a.states.getD s [])) else if growsB a then 0 else 21) := by
    have h : advE a = if sizedE a ≠ 0 then sizedE a else if firstNZ a.states.length (fun s => stateE a (a.states.getD s [])) ≠ 0 then firstNZ a.states.length (fun s => stateE a (a.states.getD s [])) else if growsB a then 0 else 21 := by
      unfold advE sizedE; rw [if_neg hn]; grind
    exact h
  clear hn
  go_wp2_with fail
  refine calls_gen (fun W => Below w.heap.size w W ∧ W.heap[w.heap.size]? = some (.cells #[.int .i64 a.n, .slice pa a.states.length ca] 27) ∧ W.heap[w.heap.size + 1]? = some (.cells #[.int .i64 0] 37)) ⟨by go_grown, alloc_old _ (alloc_new _ _), alloc2_new _ _ _⟩ (fun W0 hW0 => ?_)
  obtain ⟨hb0, hA0, hR0⟩ := hW0
  refine (sized_any a _ W0 (G.out.up up_moves hb0) hN).mono ?_
  rintro e w1 ⟨rfl, hb1⟩
  have hA1 := block_up hb1 hA0
  have hR1 := block_up hb1 hR0
  have hbw1 := ext_trans hb0 hb1
  have c1 := cell_block hR1 0
  have f1 := frozen_block hR1 0
  simp at c1
  have t1 := cell_block hA1
  generalize sizedE a = es at HV
  have HA1 := Lib.hid hA1; have HR1 := Lib.hid hR1
  clear hA0 hR0 hb0 hb1 W0 hA1 hR1
  by_cases hes : es = 0
  case neg =>
    have hes' : (es != 0) = true := by simpa using hes
    go_wp2_with fail
    refine marks_ret0 (check_results _ _ _ es _ rfl (by rw [setCell_same HR1.out]; rfl)) ?_
    exact ⟨ret_int (by rw [HV.out, if_pos hes]), hbw1.setCell (by simp) _⟩
  subst hes
  go_wp2_with fail
  clear t1 c1 f1
  go_loopw [27] (fun i wr => Below w1.heap.size w1 wr ∧ ∃ k : Nat, k ≤ a.states.length ∧ i = .int .i64 k ∧ ∀ j, j < k → stateE a (a.states.getD j []) = 0) (fun i _ => a.states.length - (intOf i).toNat)
  case atStart => exact ⟨Below.refl _ _, 0, by omega, rfl, by simp⟩
  case round =>
    obtain ⟨hbr, k, hk, rfl, hinv⟩ := hrel
    have H := Lib.hid hinv; clear hinv
    have hbW := ext_trans hbw1 hbr
    have hAr := block_up hbr HA1.out
    have hRr := block_up hbr HR1.out
    have t1 := cell_block hAr
    by_cases hlt : k < a.states.length
    · obtain ⟨b1, o1, rfl, x, cx, hx⟩ := E.out k hlt
      rw [Nat.mul_one] at cx
      have d1 := cell_up hbW cx
      have HX := Lib.hid (hx.up up_move hbW)
      obtain ⟨px, qx, rfl, _⟩ := hx
      clear cx
      have HRr := Lib.hid hRr; clear hAr hRr
      go_wp2_with fail
      refine (state_any a _ _ _ _ _ HX.out).mono ?_
      rintro e w2 ⟨rfl, hb2⟩
      have hR2 := block_up hb2 HRr.out
      have c1 := cell_block hR2 0
      have f1 := frozen_block hR2 0
      simp at c1
      have HR2 := Lib.hid hR2; clear hR2
      have HS : Hid (stateE a (a.states.getD k []) = stateE a a.states[k]) := by (have h : stateE a (a.states.getD k []) = stateE a a.states[k] := by (rw [getD_of_lt [] hlt])); exact h
      generalize stateE a a.states[k] = ek at HS
      clear t1 d1
      by_cases hek : ek = 0
      · subst hek
        go_wp2_with fail
        go_roundw
        case rel => exact ⟨ext_trans hbr hb2, k + 1, by omega, by go_num, below_succ H.out HS.out⟩
        case measure => simp [intOf]; omega
      · have hek' : (ek != 0) = true := by simpa using hek
        go_wp2_with fail
        refine marks_ret0 (check_results _ _ _ ek _ rfl (by rw [setCell_same HR2.out]; rfl)) ?_
        exact ⟨ret_int (by rw [HV.out, if_neg (by simp), ← firstNZ_hit (f := fun s => stateE a (a.states.getD s [])) k ek hlt H.out HS.out hek, if_pos hek]), (ext_trans hbW hb2).setCell (by simp) _⟩
    · have hall : ∀ j, j < a.states.length → stateE a (a.states.getD j []) = 0 := fun j hj => H.out j (by omega)
      have HV2 : Hid (advE a = if growsB a then 0 else 21) := by
        have h : advE a = if growsB a then 0 else 21 := by rw [HV.out, if_neg (by simp), firstNZ_zero _ _ hall]; simp
        exact h
      have HALL := Lib.hid hall; clear hall H HV
      have HAr := Lib.hid hAr; have HRr := Lib.hid hRr; clear hAr hRr
      go_wp2_with fail
      refine (moves_any _ _ _ _ _).mono ?_
      rintro e w2 ⟨rfl, rfl⟩
      clear t1
      go_wp2_with fail
      refine wp_gen (fun W => Below w.heap.size w W ∧ W.heap[w.heap.size]? = some (.cells #[.int .i64 a.n, .slice pa a.states.length ca] 27) ∧ W.heap[w.heap.size + 1]? = some (.cells #[.int .i64 0] 37) ∧ W.heap[wr.heap.size]? = some (.cells #[.int .i64 a.n, .slice pa a.states.length ca] 27))
        ⟨hbW.alloc hbW.size _, alloc_old _ HAr.out, alloc_old _ HRr.out, alloc_new _ _⟩ (fun W0 hW0 => ?_)
      obtain ⟨hb0, hA, hR, hX⟩ := hW0
      have hseq := moves1_seq w _ a.states G.out W0 hb0 wr.heap.size (by simp [cell_block hX])
      have hsz := block_lt hX
      have hsw := hbW.size
      have hsR := block_lt HRr.out
      refine wp_range (gf := 70) (lb := #[.pointer (some ⟨wr.heap.size, 0, none⟩)]) rfl (enters_of Try.func70 (by kernel_rfl) rfl) hseq (Below.refl _ _) (fun k hk => Nat.lt_of_lt_of_le hk hb0.size) (fun i => rfl)
        (fun i W => Below w.heap.size w W ∧ W.heap[w.heap.size]? = some (.cells #[.int .i64 a.n, .slice pa a.states.length ca] 27) ∧ W.heap[w.heap.size + 1]? = some (.cells #[.int .i64 0] 37) ∧ ∀ j, j < i → badAt a j = false)
        (fun c _ W => c = .ret ∧ Below w.heap.size w W ∧ W.heap[w.heap.size + 1]? = some (.cells #[.int .i64 21] 37) ∧ growsB a = false)
        (fun i => (Sta.below (by omega)).and (Sta.cells.and (Sta.cells.and Sta.pure))) (fun c i => Sta.pure.and ((Sta.below (by omega)).and (Sta.cells.and Sta.pure))) ⟨hb0, hA, hR, by simp⟩ ?round ?done ?stop
      case round =>
        intro yl i W hi hl hI
        unfold encM
        have hok := mvAt_ok HALL.out hi
        have HB : Hid (badAt a i = anyLt (nextL a i).length fun k => !insideB (mvAt a.states i).2.r.f ((nextL a i).getD k default).r.f) := by (have h : badAt a i = anyLt (nextL a i).length fun k => !insideB (mvAt a.states i).2.r.f ((nextL a i).getD k default).r.f := rfl); exact h
        have HNL : Hid (nextL a i = a.states.getD (mvAt a.states i).2.to.toNat []) := by (have h : nextL a i = a.states.getD (mvAt a.states i).2.to.toNat [] := rfl); exact h
        generalize mvAt a.states i = sm at hok HB HNL
        obtain ⟨sx, m⟩ := sm
        dsimp only at hok HB HNL
        obtain ⟨⟨hf0, hf1⟩, ht0, ht1⟩ := hok
        have HI := Lib.hid hI; clear hI
        have hszW := HI.out.1.size
        gi_wp2
        refine ⟨Bod.of_below (fun k hk => Nat.lt_of_lt_of_le hk hszW) (by go_grown), (fun W' => Below w.heap.size w W' ∧ W'.heap[w.heap.size]? = some (.cells #[.int .i64 a.n, .slice pa a.states.length ca] 27) ∧ W'.heap[w.heap.size + 1]? = some (.cells #[.int .i64 0] 37) ∧ W'.heap[W.heap.size]? = some (.cells #[.int .i64 m.r.g.n, .int .i64 m.r.g.h0, .int .i64 m.r.g.h1, .int .i64 m.r.g.h2, .int .i64 m.r.g.h3, .int .i64 m.r.g.h4, .int .i64 m.r.f, .int .i64 m.to] 84)),
          (Sta.below (by omega)).and (Sta.cells.and (Sta.cells.and Sta.cells)), ⟨HI.out.1.alloc hszW _, alloc_old _ HI.out.2.1, alloc_old _ HI.out.2.2.1, alloc_new _ _⟩, fun W2 h2 _ => ?_⟩
        obtain ⟨g1, g2, g3, g4⟩ := h2
        have HINV := Lib.hid HI.out.2.2.2
        have hsz2 := g1.size
        have hszR := block_lt g3
        have hszM := block_lt g4
        have tA := cell_block g2
        have tM := cell_block g4
        have HG1 := Lib.hid g1; have HG3 := Lib.hid g3; have HG2 := Lib.hid g2
        have HG4 := Lib.hid g4
        clear g1 g2 g3 g4 HI hseq hA hR hX
        obtain ⟨b1, o1, rfl, x, cx, hx⟩ := E.out m.to.toNat (by omega)
        have HL : Hid (nextL a i = a.states[m.to.toNat]) := by (have h : nextL a i = a.states[m.to.toNat] := by (rw [HNL.out, getD_of_lt [] (by omega)])); exact h
        rw [Nat.mul_one] at cx
        have d1 := cell_up HG1.out cx
        obtain ⟨p2, c2, rfl, m1, m2, e2⟩ := hx.at
        clear hx cx
        have E2 := Lib.hid e2; clear e2
        generalize hLL : a.states[m.to.toNat] = L at HL E2 d1 m1 m2
        have HLL := Lib.hid hLL; clear hLL
        gi_wp2
        clear tA tM d1
        gi_loopw [49] (fun i wr => Below W2.heap.size W2 wr ∧ ∃ q : Nat, q ≤ L.length ∧ i = .int .i64 q ∧ ∀ j, j < q → insideB m.r.f (L.getD j default).r.f = true) (fun i _ => L.length - (intOf i).toNat)
        case atStart => exact ⟨Below.refl _ _, 0, by omega, rfl, by simp⟩
        case round =>
          obtain ⟨hbr2, q, hq, rfl, hinv2⟩ := hrel
          have H2 := Lib.hid hinv2; clear hinv2
          have tM := cell_block (block_up hbr2 HG4.out)
          have hR3 := block_up hbr2 HG3.out
          have c1' := cell_block hR3 0
          have f1' := frozen_block hR3 0
          simp at c1'
          have HR3 := Lib.hid hR3; clear hR3
          have hwr := ext_trans HG1.out hbr2
          have hs2 := hbr2.size
          have hM3 : W.heap.size < wr.heap.size := by omega
          have hR3' : w.heap.size + 1 < wr.heap.size := by omega
          by_cases hqt : q < L.length
          · have hyok : 0 ≤ L[q].r.f ∧ L[q].r.f < 32 := by
              have := (states_ok HALL.out (s := m.to.toNat) (j := q) (by omega) (by rw [HLL.out]; exact hqt)).1
              simpa [HLL.out] using this
            have HYQ : Hid (L.getD q default = L[q]) := getD_of_lt default hqt
            obtain ⟨b2, o2, rfl, ⟨⟨c0, _⟩, ⟨c1, _⟩, ⟨c2, _⟩, ⟨c3, _⟩, ⟨c4, _⟩, ⟨c5, _⟩, ⟨c6, _⟩⟩, c7, _⟩ := E2.out q hqt
            have d0 := cell_up hwr c0
            have d1 := cell_up hwr c1
            have d2 := cell_up hwr c2
            have d3 := cell_up hwr c3
            have d4 := cell_up hwr c4
            have d5 := cell_up hwr c5
            have d6 := cell_up hwr c6
            have d7 := cell_up hwr c7
            clear c0 c1 c2 c3 c4 c5 c6 c7
            generalize L[q] = y at hyok HYQ d0 d1 d2 d3 d4 d5 d6 d7
            have hbit := andNot_inside m.r.f y.r.f hf0 hf1 hyok.1 hyok.2
            clear hyok
            cases hin : insideB m.r.f y.r.f with
            | true =>
              rw [hin] at hbit
              have HIN := Lib.hid hin; clear hin
              gi_wp2
              go_roundw
              case rel => exact ⟨hbr2.alloc hbr2.size _, q + 1, by omega, by go_num, below_succ H2.out (by rw [HYQ.out]; exact HIN.out)⟩
              case measure => simp [intOf]; omega
            | false =>
              rw [hin] at hbit
              have HIN := Lib.hid hin; clear hin
              gi_wp2
              refine ⟨((Bod.of_below (fun k hk => Nat.lt_of_lt_of_le hk hsz2) hbr2).trans (Bod.setCell _ ⟨w.heap.size + 1, 0, none⟩ _ (fun h => by dsimp only at h; omega))).trans (Bod.of_below (fun k hk => by simp only [World.size_setCell]; omega) (by go_grown)), rfl, (hwr.setCell (p := ⟨w.heap.size + 1, 0, none⟩) (by dsimp only; omega) _).alloc (by simp only [World.size_setCell]; omega) _, ?_, ?_⟩
              · exact alloc_old _ (by rw [setCell_same HR3.out]; rfl)
              · unfold growsB
                rw [anyLt_true _ i _ hi (by rw [HB.out, HL.out]; exact anyLt_true _ q _ hqt (by rw [HYQ.out, HIN.out]; rfl))]; rfl
          · gi_wp2
            refine ⟨Bod.of_below (fun k hk => Nat.lt_of_lt_of_le hk hsz2) hbr2, hwr, block_up hbr2 HG2.out, HR3.out, below_succ HINV.out ?_⟩
            rw [HB.out, HL.out]
            exact anyLt_false _ _ (fun j hj => by rw [H2.out j (by omega)]; rfl)
      case done =>
        intro D W hD hI hK
        obtain ⟨g1, g2, g3, g4⟩ := hI
        have HG := Lib.hid (And.intro g1 (And.intro g2 (And.intro g3 g4)))
        have c1 := cell_block g3 0
        have f1 := frozen_block g3 0
        simp at c1
        clear g1 g2 g3 g4 hseq hA hR hX
        go_wp2_with fail
        refine marks_ret (by rw [← hK]; exact Below.heap_setCell _ _ _ _ (by dsimp only; omega)) (check_results _ _ _ 0 _ rfl ((World.putObj_heap_other (by omega)).trans (by rw [setCell_same HG.out.2.2.1]; rfl))) ?_
        refine ⟨ret_int ?_, below_put (by omega) (HG.out.1.setCell (by simp) _)⟩
        rw [HV2.out]
        unfold growsB
        rw [anyLt_false _ _ HG.out.2.2.2]; rfl
      case stop =>
        rintro D c i W hD hi ⟨rfl, g1, g2, g3⟩ hK
        have HG := Lib.hid (And.intro g1 (And.intro g2 g3))
        clear g1 g2 g3 hseq hA hR hX
        go_wp2_with fail
        refine marks_ret hK (check_results _ _ _ 21 _ rfl ((World.putObj_heap_other (by omega)).trans HG.out.2.1)) ?_
        exact ⟨ret_int (by rw [HV2.out, HG.out.2.2]; rfl), below_put (by omega) HG.out.1⟩
end Go.Proofs.Ytlfnfphkhokdiaa

namespace Go.Proofs.Ytlfnfphkhokdiaa
open Go.RowKit Go Go.Shelf

def noDefer (ops : Array Oper) : Bool := ops.all fun o => match o.op with | .defer _ => false | _ => true
theorem noDefer_spec {ops : Array Oper} (h : noDefer ops = true) {i : Nat} {o : Oper} (ho : ops[i]? = some o) : ∀ c, o.op ≠ .defer c := by
  intro c hc
  have h1 := Array.all_eq_true'.1 h o (Array.mem_of_getElem? ho)
  rw [hc] at h1
  cases h1

theorem operIn_of {P : Program} {yl n : Nat} {o : Oper} {a : Act} {w : World} {K K' : Act → World → Prop} {Q : Exit → Act → World → Prop} (hd : ∀ c, o.op ≠ .defer c) (hQ : ¬ LetsOut Q) (hK : ∀ a w, K a w → K' a w)
    (h : o.wp P a w K Q) : o.wpIn (Fence.wide.inRound yl) n P a w K' Q := by
  refine ⟨fun _ _ => trivial, ?_⟩
  rw [Oper.semAt_eq _ _ _ hd]
  unfold Oper.wp at h
  generalize (execOp a.eval o).run P w = r at h
  cases r with
  | ok x w' =>
    cases x with
    | value v => exact hK _ _ h
    | skip => exact hK _ _ h
    | defer d => exact hK _ _ h
    | enter f args =>
      refine ⟨fun h' => (by simp [Fence.wide, Fence.inRound] at h'), CallsIn.inRound yl ((callsIn_wide (n := n - 1)).2 ?_)⟩
      refine Calls.mono h ?_
      rintro e w'' he
      cases e with
      | returned v => exact hK _ _ he
      | panicked ch => exact he
      | outgrown => exact he
    | row r args =>
      refine ⟨fun h' => (by simp [Fence.wide, Fence.inRound] at h'), fun c cs _ => ?_⟩
      obtain ⟨v, w'', hv, hs⟩ := h c cs
      exact ⟨v, w'', hK _ _ hv, stepsIn_wide.2 hs⟩
    | _ => exact h.elim
  | halt x w' =>
    cases x with
    | panic v => exact h
    | _ => exact h.elim

theorem anyIn_of {P : Program} {yl n : Nat} {ops : Array Oper} {md : Region.Mode} {Q : Exit → Act → World → Prop} (hd : noDefer ops = true) (hQ : ¬ LetsOut Q) :
    ∀ (fuel : Nat) (listed : Array Bool) (a : Act) (w : World), wpAny P md ops Q fuel listed a w → wpAnyIn (Fence.wide.inRound yl) n P md ops Q fuel listed a w
  | 0, _, _, _, h => h
  | fuel + 1, listed, a, w, h => ⟨h.1, fun i hi => by
    have h2 := h.2 i hi
    unfold wpOp at h2
    unfold wpOpIn
    cases ho : ops[i]? with
    | none => rw [ho] at h2; exact anyIn_of hd hQ fuel _ _ _ h2
    | some o =>
      rw [ho] at h2
      dsimp only at h2 ⊢
      split
      · rename_i hw
        rw [if_pos hw] at h2
        rcases h2 with h2 | h2
        · exact operIn_of (noDefer_spec hd ho) hQ (fun a w h => anyIn_of hd hQ fuel _ a w h) h2
        · exact absurd h2.2 hQ
      · rename_i hw
        rw [if_neg hw] at h2
        exact ⟨fun _ _ => trivial, anyIn_of hd hQ fuel _ _ _ h2⟩⟩

theorem round_region_quiet {P : Program} {yl n : Nat} {id : Nat} {Q : Exit → Act → World → Prop} {a : Act} {w : World} {l : List Oper} (hQ : ¬ LetsOut Q) (hm : P.follows .mixedOrders = true) (hB : Region.lexB .any l.toArray = true) (hd : noDefer l.toArray = true)
    (h : wpQuiet P l.toArray (fun w' => ∃ x : ExtW w, w' = x.val) (fun a' => ∀ w', (∃ x : ExtW w, w' = x.val) → Q .normal a' w') l a) : (Code.region id l.toArray true).wpIn (Fence.wide.inRound yl) n P Q a w := by
  simp only [Region.lexB, Bool.and_eq_true] at hB
  refine wpIn_region_any hm (anyIn_of hd hQ _ _ _ _ (wpAny_of_quiet (C := fun w' => ∃ x : ExtW w, w' = x.val) (Q := fun a' => ∀ w', (∃ x : ExtW w, w' = x.val) → Q .normal a' w') (fun _ w' hw' h => h w' hw') _ _ _ _ ⟨⟨w.drew, (Below.refl _ _).drew⟩, rfl⟩ ?_))
  have := wpAnyQ_lex (C := fun w' => ∃ x : ExtW w, w' = x.val) (md := .any) hB.1 l 0 (Array.replicate l.toArray.size false) a (by simp) (by simpa using hB.2) h
  simpa using this

theorem round_region_tail {P : Program} {yl m : Nat} {id : Nat} {Q : Exit → Act → World → Prop} {a : Act} {w : World} {l : List Oper} (n : Nat) (hQ : ¬ LetsOut Q) (hm : P.follows .mixedOrders = true) (hB : Region.lexTailB .any l.toArray n = true) (hd : noDefer l.toArray = true)
    (h : wpStill P l.toArray w.drew (fun a' => wpList P l.toArray Q (l.drop n) a' w.drew) (l.take n) a) : (Code.region id l.toArray true).wpIn (Fence.wide.inRound yl) m P Q a w := by
  simp only [Region.lexTailB, Bool.and_eq_true, decide_eq_true_eq] at hB
  obtain ⟨⟨⟨⟨hsel, hn⟩, hs⟩, hc⟩, hlex⟩ := hB
  have hn' : n < l.length := by simpa using hn
  have htl : (l.take n).length = n := by simp; omega
  have hdl : (l.drop n).length = l.toArray.size - n := by simp
  have inv0 : HeadInv .any l.toArray n (Array.replicate l.toArray.size false) :=
    ⟨by simp, fun j oj _ hl => (by rw [getD_replicate_false] at hl; cases hl), fun t _ ht => getD_in (by simpa using ht) (getD_replicate_false _ _)⟩
  have H := wpAnyL_lex (md := .any) (g := l.toArray.size - n) hsel hs hc hn (l.take n) 0 _ a (fun j hj => by
    have hj' : j < n := by rw [htl] at hj; exact hj
    simp [hj']) (by simpa using htl) inv0 (by rw [htl]; exact hlex) h
  refine wpIn_region_any hm (anyIn_of hd hQ _ _ _ _ ?_)
  have := wpAny_of_head (Q' := Q) (g := l.toArray.size - n) (fun listed a' hL => by
    have := wpAny_of_seq (md := .any) (Q' := Q) (l.drop n) n listed a' w.drew (fun j => by simp [List.getElem?_drop]) (by rw [hdl]; exact hL.1) hL.2
    rwa [hdl] at this) _ _ _ H
  rw [htl, show n + (l.toArray.size - n) = l.toArray.size by omega] at this
  exact this

/-- .. with what follows behind a name -/
theorem round_region_tail' {P : Program} {yl m : Nat} {id : Nat} {Q : Exit → Act → World → Prop} {a : Act} {w : World} {l : List Oper} (n : Nat) (hQ : ¬ LetsOut Q) (hm : P.follows .mixedOrders = true) (hB : Region.lexTailB .any l.toArray n = true) (hd : noDefer l.toArray = true)
    (h : ∀ (ops : Array Oper) (Lq : Act → Prop), ops = l.toArray → (∀ a', wpList P l.toArray Q (l.drop n) a' w.drew → Lq a') → wpStill P ops w.drew Lq (l.take n) a) : (Code.region id l.toArray true).wpIn (Fence.wide.inRound yl) m P Q a w :=
  round_region_tail n hQ hm hB hd (h _ _ rfl (fun _ h => h))
end Go.Proofs.Ytlfnfphkhokdiaa

namespace Go.Proofs.Ytlfnfphkhokdiaa
open Go.RowKit Go Go.Shelf
attribute [local go_sem] Oper.semAt_some

def tabCells (M n s : Nat) : Array Value := ((List.range n).map fun j => if j < s then Value.map (some (M + j)) else Value.map none).toArray
theorem tabCells_size (M n s : Nat) : (tabCells M n s).size = n := by simp [tabCells]
theorem tabCells_get (M n s j : Nat) (hj : j < n) : (tabCells M n s)[j]? = some (if j < s then Value.map (some (M + j)) else Value.map none) := by simp [tabCells, hj]
theorem tabCells_set (M n s : Nat) (hs : s < n) : (tabCells M n s).setIfInBounds s (.map (some (M + s))) = tabCells M n (s + 1) := by
  apply Array.ext_getElem?
  intro j
  rw [Array.getElem?_setIfInBounds]
  by_cases hj : j < n
  · rw [tabCells_get _ _ _ _ hj, tabCells_get _ _ _ _ hj]
    by_cases e : s = j
    · subst e; simp [tabCells_size, hj]
    · rw [if_neg e]
      by_cases h : j < s
      · rw [if_pos h, if_pos (by omega)]
      · rw [if_neg h, if_neg (by omega)]
  · have h1 : (tabCells M n s)[j]? = none := by rw [Array.getElem?_eq_none]; rw [tabCells_size]; omega
    have h2 : (tabCells M n (s + 1))[j]? = none := by rw [Array.getElem?_eq_none]; rw [tabCells_size]; omega
    rw [h1, h2, if_neg (by omega)]

theorem tabCells_zero (M N n : Nat) : tabCells M n 0 = tabCells N n 0 := by simp [tabCells]
theorem made_replicate (n : Nat) : madeCells (Value.map none).cells n = tabCells 0 n 0 := by
  apply Array.ext
  · simp [madeCells, tabCells]
  · intro i h1 h2
    simp [madeCells, tabCells, Value.cells, Nat.mod_one]
theorem make_table (n : Nat) (hn : n ≤ 256) (w : World) : (Instr.makeSlice 136 (.int .i64 (n : Int)) (.int .i64 (n : Int))).run Try.prog w = .ok (.slice (some ⟨w.heap.size, 0, none⟩) n n) (w.alloc (.cells (tabCells 0 n 0) 138)) := by
  have hinfo : (Try.prog.info? 138).map (fun i => (i.zero, i.size, i.bytes)) = some (some (.map none), 1, 8) := by kernel_rfl
  obtain ⟨i, hi, hz0, hz1, hz2⟩ := info_parts hinfo
  have := run_make (P := Try.prog) w 136 138 i (.map none) Try.underlying136 hi hz0 .i64 .i64 (n : Int) (n : Int) (by omega) (by omega) (by rw [hz2]; omega) (by omega)
  rw [this, hz1, Nat.mul_one]
  simp only [Int.toNat_natCast, made_replicate]

/-- what the map of state s holds behind i moves -/
def doneL (l : List (List Mv)) (i s : Nat) : List (Rd × Int) := ((l.getD s []).take (i - cnt l s)).map fun m => (m.r, m.to)
theorem cnt_mono (l : List (List Mv)) {s t : Nat} (h : s ≤ t) : cnt l s ≤ cnt l t := by
  induction t with
  | zero => obtain rfl : s = 0 := by omega
            exact Nat.le_refl _
  | succ t ih =>
    by_cases e : s = t + 1
    · subst e; exact Nat.le_refl _
    · have h1 := ih (by omega)
      by_cases ht : t < l.length
      · rw [cnt_succ l t ht]; omega
      · rw [cnt_all l t (by omega)] at h1; rw [cnt_all l (t + 1) (by omega)]; exact h1
theorem doneL_zero (l : List (List Mv)) (s : Nat) : doneL l 0 s = [] := by simp [doneL]
theorem doneL_at (l : List (List Mv)) (s j : Nat) (hs : s < l.length) : doneL l (cnt l s + j) s = (l[s].take j).map fun m => (m.r, m.to) := by
  simp [doneL, hs]
theorem doneL_same (l : List (List Mv)) (s j : Nat) (hs : s < l.length) (hj : j < l[s].length) : doneL l (cnt l s + j + 1) s = doneL l (cnt l s + j) s ++ [(l[s][j].r, l[s][j].to)] := by
  rw [Nat.add_assoc, doneL_at l s (j + 1) hs, doneL_at l s j hs, List.take_succ_eq_append_getElem hj]
  simp only [List.map_append, List.map_cons, List.map_nil]
theorem doneL_other (l : List (List Mv)) (s j t : Nat) (hs : s < l.length) (hj : j < l[s].length) (ht : t < l.length) (hne : t ≠ s) : doneL l (cnt l s + j + 1) t = doneL l (cnt l s + j) t := by
  unfold doneL
  rw [getD_of_lt [] ht]
  rcases Nat.lt_or_gt_of_ne hne with h | h
  · have h1 := cnt_mono l (show t + 1 ≤ s by omega)
    rw [cnt_succ l t ht] at h1
    rw [List.take_of_length_le (by omega), List.take_of_length_le (by omega)]
  · have h1 := cnt_mono l (show s + 1 ≤ t by omega)
    rw [cnt_succ l s hs] at h1
    have e1 : cnt l s + j + 1 - cnt l t = 0 := by omega
    have e2 : cnt l s + j - cnt l t = 0 := by omega
    rw [e1, e2]
theorem doneL_all (l : List (List Mv)) (s : Nat) (hs : s < l.length) : doneL l (movesN l) s = l[s].map fun m => (m.r, m.to) := by
  unfold doneL
  rw [getD_of_lt [] hs, List.take_of_length_le]
  have := cnt_le l s hs
  omega
theorem rdGet_none {f : List (Rd × Int)} {r : Rd} (h : ∀ p ∈ f, p.1 ≠ r) : rdGet f r = none := by
  simp only [rdGet, Option.map_eq_none_iff, List.find?_eq_none]
  intro p hp
  simpa using fun e => h p hp e.symm
theorem nodup_take {l : List Mv} {j : Nat} (hj : j < l.length) (h : ∀ i (hi : i < j), l[i].r ≠ l[j].r) : ∀ p ∈ (l.take j).map (fun m => (m.r, m.to)), p.1 ≠ l[j].r := by
  intro p hp e
  obtain ⟨m, hm, rfl⟩ := List.mem_map.1 hp
  obtain ⟨q, hq, hqm⟩ := List.mem_take_iff_getElem.1 hm
  dsimp only at e
  exact h q (by omega) (by rw [hqm]; exact e)
theorem MapIs.lt {w : World} {b : Nat} {f : List (Rd × Int)} (h : MapIs w b f) : b < w.heap.size := by
  obtain ⟨_, _, he, _⟩ := h
  exact block_lt he
theorem MapIs.chg {B : Nat} {A A' : World} {b : Nat} {f : List (Rd × Int)} (c : Chg B A A') (hb : b < B) (h : MapIs A b f) : MapIs A' b f := by
  obtain ⟨es, clock, he, hf⟩ := h
  exact ⟨es, clock, c.same _ _ he (.inl hb), hf⟩
theorem MapIs.kept {A A' : World} {b : Nat} {f : List (Rd × Int)} (h : MapIs A b f) (he : A'.heap[b]? = A.heap[b]?) : MapIs A' b f := by
  obtain ⟨es, clock, h1, hf⟩ := h
  exact ⟨es, clock, he.trans h1, hf⟩
def TableIs (w : World) (v : Value) (l : List (List Mv)) : Prop :=
  ∃ B, v = .slice (some ⟨B, 0, none⟩) l.length l.length ∧ ∀ s (hs : s < l.length), ∃ b, w.cell? ⟨B, s, none⟩ = some (.map (some b)) ∧ MapIs w b (l[s].map fun m => (m.r, m.to))

set_option maxRecDepth 100000 in
set_option maxHeartbeats 4000000 in
theorem index_any (a : Adv) (v : Value) (w : World) (hv : IsStates w v a.states) (h1 : 1 ≤ a.states.length) (h2 : a.states.length ≤ 256) (hd : ∀ s (hs : s < a.states.length) j (hj : j < a.states[s].length) i (hi : i < j), a.states[s][i].r ≠ a.states[s][j].r) :
    Calls Try.prog 87 #[.agg #[.int .i64 a.n, v]] w fun e w' => ∃ u, e = .returned u ∧ TableIs w' u a.states ∧ Below w.heap.size w w' := by
  have G := Lib.hid hv
  obtain ⟨pa, ca, rfl, la1, la2, _⟩ := hv.at
  clear hv
  have HD := Lib.hid hd; clear hd
  have hmk := make_table a.states.length h2
  refine calls_marks Try.func87 rfl ?_
  simp only [Try.ntmps87, List.size_toArray, List.length_cons, List.length_nil, Nat.reduceAdd, Nat.reduceSub, Array.replicate_succ, Array.replicate_zero, List.push_toArray, List.append_toArray, List.nil_append, List.cons_append]
  go_wp2_with fail
  clear hmk
  refine wp_gen (fun W => W.heap.size = w.heap.size + 3 ∧ Below w.heap.size w W ∧ W.heap[w.heap.size]? = some (.cells #[.int .i64 a.n, .slice pa a.states.length ca] 27) ∧ W.heap[w.heap.size + 1]? = some (.cells (tabCells (w.heap.size + 3) a.states.length 0) 138) ∧ W.heap[w.heap.size + 1 + 1]? = some (.cells #[.slice (some ⟨w.heap.size + 1, 0, none⟩) a.states.length a.states.length] 136))
    ⟨by simp, by go_grown, alloc_old _ (alloc_old _ (alloc_new _ _)), by rw [tabCells_zero _ 0]; exact alloc_old _ (alloc2_new _ _ _), alloc3_new _ _ _ _⟩ (fun W0 hW0 => ?_)
  obtain ⟨hz0, hb0, hA0, hC0, hT0⟩ := hW0
  have HW0 := Lib.hid (And.intro hz0 (And.intro hb0 (And.intro hA0 (And.intro hC0 hT0))))
  clear hz0 hb0 hA0 hC0 hT0
  go_loopw [13] (fun i wr => ∃ s : Nat, s ≤ a.states.length ∧ i = .int .i64 s ∧ wr.heap.size = w.heap.size + 3 + s ∧ Below w.heap.size w wr ∧ wr.heap[w.heap.size]? = some (.cells #[.int .i64 a.n, .slice pa a.states.length ca] 27) ∧ wr.heap[w.heap.size + 1]? = some (.cells (tabCells (w.heap.size + 3) a.states.length s) 138) ∧ wr.heap[w.heap.size + 1 + 1]? = some (.cells #[.slice (some ⟨w.heap.size + 1, 0, none⟩) a.states.length a.states.length] 136) ∧ ∀ j, j < s → MapIs wr (w.heap.size + 3 + j) []) (fun i _ => a.states.length - (intOf i).toNat)
  case atStart => exact ⟨0, by omega, rfl, by simpa using HW0.out.1, HW0.out.2.1, HW0.out.2.2.1, HW0.out.2.2.2.1, HW0.out.2.2.2.2, by simp⟩
  case round =>
    obtain ⟨s, hs, rfl, hz, hb, hA, hC, hT, hM⟩ := hrel
    have tT := cell_block hT
    by_cases hlt : s < a.states.length
    · have cC := cell_block hC s
      rw [tabCells_get _ _ _ _ hlt, if_neg (by omega)] at cC
      have fC := frozen_block hC s
      have hl1 := block_lt hC
      have hl2 := block_lt hT
      have HH := Lib.hid (And.intro hz (And.intro hb (And.intro hA (And.intro hC (And.intro hT hM)))))
      clear hz hb hA hC hT hM
      have hmm := @run_makeMap Try.prog
      go_wp2_with fail
      obtain ⟨hz, hb, hA, hC, hT, hM⟩ := HH.out
      go_roundw
      case rel =>
        go_light
        refine ⟨s + 1, by omega, by go_num, by simp [hz]; omega, (hb.setCell (p := ⟨w.heap.size + 1, s, none⟩) (by dsimp only; omega) _).alloc (by simp only [World.size_setCell]; omega) _, alloc_old _ (setCell_other hA (by omega) _ _), ?_, alloc_old _ (setCell_other hT (by omega) _ _), ?_⟩
        · refine alloc_old _ ?_
          rw [setCell_same hC, hz, tabCells_set _ _ _ hlt]
        · intro j hj
          by_cases e : j < s
          · obtain ⟨es, clock, he, hf⟩ := hM j e
            exact ⟨es, clock, alloc_old _ (setCell_other he (by omega) _ _), hf⟩
          · obtain rfl : j = s := by omega
            refine ⟨#[], 0, ?_, rfl⟩
            have := alloc_new (wr.setCell ⟨w.heap.size + 1, j, none⟩ (.map (some wr.heap.size))) (.map #[] 0)
            rw [World.size_setCell, hz] at this
            rw [hz]; exact this
      case measure => simp [intOf]; omega
    · obtain rfl : s = a.states.length := by omega
      have tA := cell_block hA
      have hl1 := block_lt hC
      have hl2 := block_lt hT
      have HH := Lib.hid (And.intro hz (And.intro hb (And.intro hA (And.intro hC (And.intro hT hM)))))
      clear hz hb hA hC hT hM
      go_wp2_with fail
      refine (moves_any _ _ _ _ _).mono ?_
      rintro e w2 ⟨rfl, rfl⟩
      clear tA tT
      go_wp2_with fail
      refine wp_gen (fun W => W.heap.size = w.heap.size + 3 + a.states.length + 1 ∧ Below w.heap.size w W ∧ W.heap[w.heap.size + 1]? = some (.cells (tabCells (w.heap.size + 3) a.states.length a.states.length) 138) ∧ W.heap[w.heap.size + 1 + 1]? = some (.cells #[.slice (some ⟨w.heap.size + 1, 0, none⟩) a.states.length a.states.length] 136) ∧ W.heap[wr.heap.size]? = some (.cells #[.int .i64 a.n, .slice pa a.states.length ca] 27) ∧ ∀ j, j < a.states.length → MapIs W (w.heap.size + 3 + j) [])
        ⟨by simp [HH.out.1], HH.out.2.1.alloc HH.out.2.1.size _, alloc_old _ HH.out.2.2.2.1, alloc_old _ HH.out.2.2.2.2.1, alloc_new _ _, fun j hj => (HH.out.2.2.2.2.2 j hj).kept (Below.heap_alloc _ _ _ (by rw [HH.out.1]; omega))⟩ (fun W0 hW0 => ?_)
      obtain ⟨hz0, hb0, hC0, hT0, hX0, hM0⟩ := hW0
      have hseq := moves1_seq w _ a.states G.out W0 hb0 wr.heap.size (by simp [cell_block hX0])
      have HZ0 := Lib.hid hz0; clear hz0
      refine wp_range (gf := 70) (lb := #[.pointer (some ⟨wr.heap.size, 0, none⟩)]) rfl (enters_of Try.func70 (by kernel_rfl) rfl) hseq (Below.refl _ _) (fun k hk => Nat.lt_of_lt_of_le hk hb0.size) (fun i => rfl)
        (fun i W => Below w.heap.size w W ∧ W.heap[w.heap.size + 1]? = some (.cells (tabCells (w.heap.size + 3) a.states.length a.states.length) 138) ∧ W.heap[w.heap.size + 1 + 1]? = some (.cells #[.slice (some ⟨w.heap.size + 1, 0, none⟩) a.states.length a.states.length] 136) ∧ ∀ s, s < a.states.length → MapIs W (w.heap.size + 3 + s) (doneL a.states i s))
        (fun _ _ _ => False)
        (fun i => (Sta.below hb0.size).and (Sta.cells.and (Sta.cells.and (fun A A' c x s hs => (x s hs).chg c (by rw [HZ0.out]; omega))))) (fun c i => Sta.pure) ⟨hb0, hC0, hT0, fun s hs => by rw [doneL_zero]; exact hM0 s hs⟩ ?round ?done ?stop
      case round =>
        intro yl i W hi hl hI
        unfold encM
        obtain ⟨s, j, hs, hj, rfl⟩ := cnt_inv a.states i hi
        rw [mvAt_eq a.states s j hs hj]
        have HNONE : Hid (rdGet (doneL a.states (cnt a.states s + j) s) a.states[s][j].r = none) := by
          have h : rdGet (doneL a.states (cnt a.states s + j) s) a.states[s][j].r = none := by rw [doneL_at _ _ _ hs]; exact rdGet_none (nodup_take hj (HD.out s hs j hj))
          exact h
        have HSAME := Lib.hid (doneL_same a.states s j hs hj)
        generalize a.states[s][j] = m at HNONE HSAME
        dsimp only
        have HI := Lib.hid hI; clear hI
        have hszW := HI.out.1.size
        gi_wp2
        refine ⟨Bod.of_below (fun k hk => Nat.lt_of_lt_of_le hk hszW) (by go_grown), (fun W' => Below w.heap.size w W' ∧ W'.heap[w.heap.size + 1]? = some (.cells (tabCells (w.heap.size + 3) a.states.length a.states.length) 138) ∧ W'.heap[w.heap.size + 1 + 1]? = some (.cells #[.slice (some ⟨w.heap.size + 1, 0, none⟩) a.states.length a.states.length] 136) ∧ W'.heap[W.heap.size]? = some (.cells #[.int .i64 m.r.g.n, .int .i64 m.r.g.h0, .int .i64 m.r.g.h1, .int .i64 m.r.g.h2, .int .i64 m.r.g.h3, .int .i64 m.r.g.h4, .int .i64 m.r.f, .int .i64 m.to] 84) ∧ ∀ t, t < a.states.length → MapIs W' (w.heap.size + 3 + t) (doneL a.states (cnt a.states s + j) t)),
          (Sta.below hb0.size).and (Sta.cells.and (Sta.cells.and (Sta.cells.and (fun A A' c x s hs => (x s hs).chg c (by rw [HZ0.out]; omega))))), ⟨HI.out.1.alloc hszW _, alloc_old _ HI.out.2.1, alloc_old _ HI.out.2.2.1, alloc_new _ _, fun t ht => (HI.out.2.2.2 t ht).kept (Below.heap_alloc _ _ _ (HI.out.2.2.2 t ht).lt)⟩, fun W2 h2 _ => ?_⟩
        obtain ⟨g1, g2, g3, g4, g5⟩ := h2
        have t3 := cell_block g3
        have tM := cell_block g4
        have tC := cell_block g2 s
        rw [tabCells_get _ _ _ _ hs, if_pos hs] at tC
        have hup := update_rd (w := W2.drew) (b := w.heap.size + 3 + s) (f := doneL a.states (cnt a.states s + j) s) (g5 s hs) m.r m.to HNONE.out
        obtain ⟨o, hup1, hup2⟩ := hup
        have HG := Lib.hid (And.intro g1 (And.intro g2 (And.intro g3 (And.intro g4 g5))))
        have HUP2 := Lib.hid hup2
        clear g1 g2 g3 g4 g5 hup2 hseq hC0 hT0 hX0 hM0
        gi_wp2
        refine round_region_tail' 8 (fun ⟨_, _, h⟩ => h) (by kernel_rfl) (by kernel_rfl) (by kernel_rfl) (fun ops Lq hops hLq => ?_)
        simp only [List.take_succ_cons, List.take_zero, List.drop_succ_cons, List.drop_zero] at hLq ⊢
        have HLQ := Lib.hid hLq; clear hLq
        have HOPS := Lib.hid hops; clear hops
        repeat still_step
        refine wpStill_nil ?_
        refine HLQ.out _ ?_
        go_wp2_with fail
        obtain ⟨g1, g2, g3, g4, g5⟩ := HG.out
        have hz := HZ0.out
        refine ⟨⟨by simp, fun k hk => World.putObj_heap_other (by omega), fun k x hk hx _ => (World.putObj_heap_other (by omega)).trans hx⟩, below_put (by omega) g1.drew, (World.putObj_heap_other (by omega)).trans g2, (World.putObj_heap_other (by omega)).trans g3, fun t ht => ?_⟩
        by_cases e : t = s
        · subst e
          rw [HSAME.out]; exact HUP2.out
        · rw [doneL_other a.states s j t hs hj ht e]
          exact (g5 t ht).kept (World.putObj_heap_other (by omega))
      case done =>
        intro D W hD hI hK
        obtain ⟨g1, g2, g3, g4⟩ := hI
        have HG := Lib.hid (And.intro g1 (And.intro g2 (And.intro g3 g4)))
        have t3 := cell_block g3
        clear g1 g2 g3 g4 hseq hC0 hT0 hX0 hM0
        go_wp2_with fail
        refine marks_ret hK (results_tmp rfl _ _ _) ?_
        obtain ⟨g1, g2, g3, g4⟩ := HG.out
        have hz := HZ0.out
        refine ⟨_, rfl, ⟨w.heap.size + 1, rfl, fun s hs => ⟨w.heap.size + 3 + s, ?_, ?_⟩⟩, below_put (by omega) g1⟩
        · rw [cell_block ((World.putObj_heap_other (by omega)).trans g2), tabCells_get _ _ _ _ hs, if_pos hs]
        · have h4 := g4 s hs
          rw [doneL_all _ _ hs] at h4
          exact h4.kept (World.putObj_heap_other (by omega))
      case stop =>
        intro D c i W _ _ h
        exact h.elim
end Go.Proofs.Ytlfnfphkhokdiaa

namespace Go.Proofs.Ytlfnfphkhokdiaa
open Go.RowKit Go Go.Shelf

theorem MapIs.up {w w' : World} {b : Nat} {f : List (Rd × Int)} (h : MapIs w b f) (hb : Below w.heap.size w w') : MapIs w' b f := h.kept (hb.block _ h.lt)
theorem TableIs.up {w w' : World} {v : Value} {l : List (List Mv)} (h : TableIs w v l) (hb : Below w.heap.size w w') : TableIs w' v l := by
  obtain ⟨B, rfl, h⟩ := h
  refine ⟨B, rfl, fun s hs => ?_⟩
  obtain ⟨b, h1, h2⟩ := h s hs
  exact ⟨b, cell_up hb h1, h2.up hb⟩
theorem rdGet_map (l : List Mv) (r : Rd) : rdGet (l.map fun m => (m.r, m.to)) r = (l.find? fun m => decide (r = m.r)).map (·.to) := by
  unfold rdGet
  rw [List.find?_map]
  simp only [Option.map_map]
  rfl
theorem toS_get (a : Adv) (s : Nat) (hs : s < a.states.length) (r : Rd) : toS a s r = (rdGet (a.states[s].map fun m => (m.r, m.to)) r).getD (-1) := by
  unfold toS
  rw [rdGet_map, Int.toNat_natCast, getD_of_lt [] hs]

theorem get_ok {a : Adv} (h : ∀ s, s < a.states.length → stateE a (a.states.getD s []) = 0) {s : Nat} (hs : s < a.states.length) {r : Rd} {x : Int} (hg : rdGet (a.states[s].map fun m => (m.r, m.to)) r = some x) : 0 ≤ x ∧ x < a.states.length := by
  rw [rdGet_map] at hg
  cases hf : a.states[s].find? (fun m => decide (r = m.r)) with
  | none => rw [hf] at hg; simp at hg
  | some m =>
    rw [hf] at hg
    have hm := List.mem_of_find?_eq_some hf
    obtain ⟨j, hj, rfl⟩ := List.getElem_of_mem hm
    simp only [Option.map_some, Option.some.injEq] at hg
    rw [← hg]
    exact (states_ok h hs hj).2
theorem ret_pair {k l : IntKind} {a b c d : Int} (h1 : a = b) (h2 : c = d) : Ending.returned (.tuple #[.int k a, .int l c]) = .returned (.tuple #[.int k b, .int l d]) := by rw [h1, h2]

def stateR (a : Adv) (word : List Rd) : Int × Int := if advE a ≠ 0 then (0, advE a) else if afterS a 0 word < 0 then (0, 25) else (afterS a 0 word, 0)

theorem afterS_drop (a : Adv) (s : Int) (word : List Rd) (k : Nat) (hk : k < word.length) : afterS a s (word.drop k) = if toS a s word[k] < 0 then -1 else afterS a (toS a s word[k]) (word.drop (k + 1)) := by
  rw [drop_cons hk, afterS]

set_option maxRecDepth 100000 in
set_option maxHeartbeats 4000000 in
theorem state2_any (a : Adv) (v u : Value) (word : List Rd) (w : World) (hv : IsStates w v a.states) (hu : IsWord w u word) (hN : movesN a.states < 1099511627776) :
    Calls Try.prog 71 #[.agg #[.int .i64 a.n, v], u] w fun e w' => e = .returned (.tuple #[.int .i64 (stateR a word).1, .int .i64 (stateR a word).2]) ∧ Below w.heap.size w w' := by
  have G := Lib.hid hv
  obtain ⟨pa, ca, rfl, la1, la2, _⟩ := hv.at
  obtain ⟨pu, cu, rfl, lu1, lu2, eu⟩ := hu.at
  clear hv hu
  have EU := Lib.hid eu; clear eu
  go_enter Try.func71, Try.ntmps71
  go_wp2_with fail
  refine calls_gen (fun W => Below w.heap.size w W ∧ W.heap[w.heap.size]? = some (.cells #[.int .i64 a.n, .slice pa a.states.length ca] 27)) ⟨by go_grown, alloc_new _ _⟩ (fun W0 hW0 => ?_)
  obtain ⟨hb0, hA0⟩ := hW0
  refine (advCheck_any a _ W0 (G.out.up up_moves hb0) hN).mono ?_
  rintro e w1 ⟨rfl, hb1⟩
  have hb1' := ext_trans hb0 hb1
  have hA1 := block_up hb1 hA0
  have t1 := cell_block hA1
  by_cases he : advE a = 0
  case neg =>
    have HV : Hid (stateR a word = (0, advE a)) := by (have h : stateR a word = (0, advE a) := by (unfold stateR; rw [if_pos he])); exact h
    generalize advE a = ea at he HV
    have he' : (ea != 0) = true := by simpa using he
    clear hA1 hA0
    go_wp2_with fail
    go_ret2
    refine ⟨ret_pair ?_ ?_, hb1'⟩ <;> rw [HV.out]
  have HV : Hid (stateR a word = if afterS a 0 word < 0 then (0, 25) else (afterS a 0 word, 0)) := by (have h : stateR a word = if afterS a 0 word < 0 then (0, 25) else (afterS a 0 word, 0) := by (unfold stateR; rw [if_neg (by simpa using he)])); exact h
  obtain ⟨⟨hs1, hs2⟩, hst, _⟩ := adv_ok he
  rw [he]
  have HST := Lib.hid hst; clear hst he
  have HA1 := Lib.hid hA1; clear hA1 hA0
  go_wp2_with fail
  refine (index_any a _ w1 (G.out.up up_moves hb1') hs1 hs2 (rounds_differ HST.out)).mono ?_
  rintro e w2 ⟨ut, rfl, htab, hb2⟩
  have hb2' := ext_trans hb1' hb2
  have HTAB := Lib.hid htab
  obtain ⟨B, rfl, _⟩ := htab
  clear t1 hb2 hb1 hb0 W0
  go_wp2_with fail
  go_loopw [8, 22] (fun st i wr => Below w2.heap.size w2 wr ∧ ∃ (k s : Nat), k ≤ word.length ∧ i = .int .i64 k ∧ s < a.states.length ∧ st = .int .i64 s ∧ afterS a 0 word = afterS a s (word.drop k)) (fun _ i _ => word.length - (intOf i).toNat)
  case atStart => exact ⟨Below.refl _ _, 0, 0, by omega, rfl, by omega, rfl, by simp⟩
  case round =>
    obtain ⟨hbr, k, s, hk, rfl, hs, rfl, hinv⟩ := hrel
    have H := Lib.hid hinv; clear hinv
    have hbW := ext_trans hb2' hbr
    by_cases hlt : k < word.length
    · obtain ⟨b1, o1, rfl, ⟨c0, _⟩, ⟨c1, _⟩, ⟨c2, _⟩, ⟨c3, _⟩, ⟨c4, _⟩, ⟨c5, _⟩, ⟨c6, _⟩⟩ := EU.out k hlt
      have d0 := cell_up hbW c0
      have d1 := cell_up hbW c1
      have d2 := cell_up hbW c2
      have d3 := cell_up hbW c3
      have d4 := cell_up hbW c4
      have d5 := cell_up hbW c5
      have d6 := cell_up hbW c6
      clear c0 c1 c2 c3 c4 c5 c6
      have HSTEP := Lib.hid (afterS_drop a s word k hlt)
      generalize word[k] = r at d0 d1 d2 d3 d4 d5 d6 HSTEP
      have HRNG := Lib.hid (toS_range HST.out s hs r)
      obtain ⟨b, hcb, hmb⟩ := (by obtain ⟨B', e, h⟩ := HTAB.out; cases e; exact h s hs : ∃ b, w2.cell? ⟨B, s, none⟩ = some (.map (some b)) ∧ MapIs w2 b (a.states[s].map fun m => (m.r, m.to)))
      have HGET := Lib.hid (toS_get a s hs r)
      go_wp2_with fail
      clear d0 d1 d2 d3 d4 d5 d6
      refine wp_gen (fun W => Below wr.heap.size wr W ∧ W.heap[wr.heap.size]? = some (.cells #[.int .i64 r.g.n, .int .i64 r.g.h0, .int .i64 r.g.h1, .int .i64 r.g.h2, .int .i64 r.g.h3, .int .i64 r.g.h4, .int .i64 r.f] 62)) ⟨by go_grown, alloc_new _ _⟩ (fun V hV => ?_)
      obtain ⟨hbV, hR⟩ := hV
      have k1 : ∀ x : ExtW V, ∀ o, x.val.cell? ⟨wr.heap.size, o, none⟩ = _ := fun x => cell_block (block_up x.ext hR)
      have k2 : ∀ x : ExtW V, x.val.cell? ⟨B, s, none⟩ = some (.map (some b)) := fun x => x.cell (cell_up (ext_trans hbr hbV) hcb)
      have hmx : ∀ x : ExtW V, MapIs x.val b (a.states[s].map fun m => (m.r, m.to)) := fun x => hmb.up (ext_trans (ext_trans hbr hbV) x.ext)
      have HMX := Lib.hid hmx
      clear hR hcb hmb hmx
      have hsI : (s : Int) < (a.states.length : Int) := by omega
      have hs0 : (0 : Int) ≤ (s : Int) := by omega
      cases hg : rdGet (a.states[s].map fun m => (m.r, m.to)) r with
      | none =>
        have k3 : ∀ x : ExtW V, (Instr.lookup 138 (.map (some b)) r.v true).run Try.prog x.val = .ok (.tuple #[.int .i64 0, .bool false]) x.val := fun x => (lookup_rd (HMX.out x) r).1 hg
        have HT : Hid (toS a s r = -1) := by (have h : toS a s r = -1 := by (rw [HGET.out, hg]; rfl)); exact h
        clear hg
        refine wp_region_quiet_ext (by kernel_rfl) (by kernel_rfl) ?_
        repeat (go_big_quiet_step (fail))
        refine wpQuiet_nil ?_
        intro _ hw'
        obtain ⟨xq, hw''⟩ := hw'
        subst hw''
        clear k1 k2 k3
        go_wp2_with fail
        go_ret2
        refine ⟨ret_pair ?_ ?_, ext_trans (ext_trans hbW hbV) xq.ext⟩ <;> (rw [HV.out, H.out, HSTEP.out, HT.out]; rfl)
      | some x0 =>
        have k3 : ∀ x : ExtW V, (Instr.lookup 138 (.map (some b)) r.v true).run Try.prog x.val = .ok (.tuple #[.int .i64 x0, .bool true]) x.val := fun x => (lookup_rd (HMX.out x) r).2 x0 hg
        have HT : Hid (toS a s r = x0) := by (have h : toS a s r = x0 := by (rw [HGET.out, hg]; rfl)); exact h
        obtain ⟨hx0, hx1⟩ := get_ok HST.out hs hg
        clear hg
        refine wp_region_quiet_ext (by kernel_rfl) (by kernel_rfl) ?_
        repeat (go_big_quiet_step (fail))
        refine wpQuiet_nil ?_
        intro _ hw'
        obtain ⟨xq, hw''⟩ := hw'
        subst hw''
        clear k1 k2 k3
        go_wp2_with fail
        go_roundw
        case rel =>
          refine ⟨ext_trans (ext_trans hbr hbV) xq.ext, k + 1, x0.toNat, by omega, by go_num, by omega, by rw [Int.toNat_of_nonneg hx0], ?_⟩
          rw [H.out, HSTEP.out, HT.out, if_neg (by omega), Int.toNat_of_nonneg hx0]
        case measure => simp [intOf]; omega
    · go_wp2_with fail
      go_ret2
      refine ⟨ret_pair ?_ ?_, hbW⟩ <;>
      · rw [HV.out, H.out, List.drop_of_length_le (by omega), afterS, if_neg (by omega)]

def allowsR (a : Adv) (word : List Rd) : Bool × Int := if advE a ≠ 0 then (false, advE a) else (decide (0 ≤ afterS a 0 word), 0)
theorem ret_bpair {l : IntKind} {a b : Bool} {c d : Int} (h1 : a = b) (h2 : c = d) : Ending.returned (.tuple #[.bool a, .int l c]) = .returned (.tuple #[.bool b, .int l d]) := by rw [h1, h2]

set_option maxHeartbeats 1000000 in
theorem allows_any (a : Adv) (v u : Value) (word : List Rd) (w : World) (hv : IsStates w v a.states) (hu : IsWord w u word) (hN : movesN a.states < 1099511627776) (hne : advE a ≠ 25) :
    Calls Try.prog 55 #[.agg #[.int .i64 a.n, v], u] w fun e w' => e = .returned (.tuple #[.bool (allowsR a word).1, .int .i64 (allowsR a word).2]) ∧ Below w.heap.size w w' := by
  have hb0 : Below w.heap.size w (w.alloc (.cells #[.int .i64 a.n, v] 27)) := by go_grown
  have HC := Lib.hid (state2_any a v u word _ (hv.up up_moves hb0) (hu.up up_round hb0) hN)
  obtain ⟨pa, ca, rfl, _⟩ := hv.at
  obtain ⟨pu, cu, rfl, _⟩ := hu.at
  clear hv hu
  go_enter Try.func55, Try.ntmps55
  go_wp2_with fail
  refine HC.out.mono ?_
  rintro e w1 ⟨rfl, hb1⟩
  have hb1' := ext_trans hb0 hb1
  by_cases he : advE a = 0
  · by_cases hs : afterS a 0 word < 0
    · have h1 : stateR a word = (0, 25) := by unfold stateR; rw [if_neg (by simpa using he), if_pos hs]
      have HV : Hid (allowsR a word = (false, 0)) := by (have h : allowsR a word = (false, 0) := by (unfold allowsR; rw [if_neg (by simpa using he)]; simp; omega)); exact h
      rw [h1]
      clear h1 he hs hne
      go_wp2_with fail
      go_ret2
      refine ⟨ret_bpair ?_ ?_, hb1'⟩ <;> rw [HV.out]
    · have h1 : stateR a word = (afterS a 0 word, 0) := by unfold stateR; rw [if_neg (by simpa using he), if_neg hs]
      have HV : Hid (allowsR a word = (true, 0)) := by (have h : allowsR a word = (true, 0) := by (unfold allowsR; rw [if_neg (by simpa using he)]; simp; omega)); exact h
      rw [h1]
      clear h1 he hs hne
      go_wp2_with fail
      go_ret2
      refine ⟨ret_bpair ?_ ?_, hb1'⟩ <;> rw [HV.out]
  · have h1 : stateR a word = (0, advE a) := by unfold stateR; rw [if_pos he]
    have HV : Hid (allowsR a word = (false, advE a)) := by (have h : allowsR a word = (false, advE a) := by (unfold allowsR; rw [if_pos he])); exact h
    rw [h1]
    generalize advE a = ea at he hne HV
    have he1 : (ea == 0) = false := by simpa using he
    have he2 : (ea == 25) = false := by simpa using hne
    clear h1 he hne
    go_wp2_with fail
    go_ret2
    refine ⟨ret_bpair ?_ ?_, hb1'⟩ <;> rw [HV.out]

end Go.Proofs.Ytlfnfphkhokdiaa
