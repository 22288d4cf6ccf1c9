/-
  Parts of the proof, in order. Laws for 'for .. := range f' over an iterator that writes memory of its own between its rounds: the caller's side and the shape of such an iterator's contract. It proves nothing of the program. Contracts of the program's (monitor.scene).filtered and of the predicate in it. Conditions: the arguments read as a scene; the vectors are long enough. Contract of the program's (monitor.scene).filtered: the iterator. Conditions: the scene is one of a task whose allowed vectors have as many elements as there are processes. Contract of the program's monitor.output. Conditions: the argument reads as a scene of a problem without errors. Contracts of the program's monitor.schedule, monitor.judge, monitor.Blame. Conditions: the arguments read as a problem, inputs, a word and decisions. Contract of the program's monitor.Blame. Conditions: the arguments read as a problem, inputs, a word and decisions; there are fewer than 2^40 moves.
-/
import Derived.Test.YtjmejfgkogjpaaaGreatJ6
namespace Go.Proofs.YtjmejfgkogjpaaaGreat
open Go.RowKit Go Go.Shelf

/-- What a round owes such an iterator: its own blocks (from n on) and the blocks of S lie as they lay. -/
def Own (n : Nat) (S : Nat → Prop) (W W' : World) : Prop := W.heap.size ≤ W'.heap.size ∧ ∀ k, S k ∨ n ≤ k → k < W.heap.size → W'.heap[k]? = W.heap[k]?

/-- An iterator value: called, it hands out rounds 0, .., N-1 in turn (E tells of the arguments), till a round says 'no more'. Between two rounds it may make memory and write the memory that it made. -/
def SeqOwn (P : Program) (g : Nat) (lb : Array Value) (E : Nat → Array Value → Prop) (N : Nat) (S : Nat → Prop) (w : World) : Prop :=
  ∀ (l : Nat) (J Jx : Nat → World → Prop) (W : World), Below w.heap.size w W → l < W.heap.size →
    (∀ i A A', J i A → Below W.heap.size A A' → J i A') → (∀ i A A', Jx i A → Below W.heap.size A A' → Jx i A') →
    (∀ i W1 args, i < N → E i args → W.heap.size ≤ W1.heap.size → J i W1 → YieldAt Fence.wide 0 P l args W1 fun e W' =>
      Own W.heap.size S W1 W' ∧ ((e = .returned (.bool true) ∧ J (i + 1) W') ∨ (e = .returned (.bool false) ∧ Jx (i + 1) W'))) →
    J 0 W →
    Calls P g (#[.func (.yield l) #[] #[]] ++ lb) W fun e W' => (∃ v, e = .returned v) ∧ (J N W' ∨ ∃ i, i ≤ N ∧ Jx i W')

theorem Chg.belowN {B n : Nat} {A A' : World} (h : Chg B A A') (hn : n ≤ B) (hs : n ≤ A.heap.size) : Below n A A' := h.below hn hs (Below.refl _ _)

/-- 'for .. := range g { .. }' in a function's own body, over such an iterator. -/
theorem wp_rangeOwn {P : Program} {g : Operand} {ps : Array Tmp} {assign body : Code} {Q : Exit → Act → World → Prop} {a : Act} {w : World}
    {gf : Nat} {lb : Array Value} (hg : a.eval g = .func (.func gf) #[] lb) (eg : ∀ args w, (callFunc gf args).run P w = .ok (.enter gf args) w)
    {E : Nat → Array Value → Prop} {N : Nat} {S : Nat → Prop} {w0 : World} (hseq : SeqOwn P gf lb E N S w0) (hb0 : Below w0.heap.size w0 w) (hS : ∀ k, S k → k < w.heap.size) (hps : ∀ i args, E i args → args.size = ps.size)
    (I : Nat → World → Prop) (Ix : Code → Nat → World → Prop) (hI : ∀ i A A', I i A → Below w.heap.size A A' → I i A') (hIx : ∀ c i A A', Ix c i A → Below w.heap.size A A' → Ix c i A') (h0 : I 0 w)
    (hround : ∀ l i W args, i < N → w.heap.size < l → l < W.heap.size → E i args → I i W →
      assign.wpIn (Fence.wide.inRound l) 0 P (Exit.then (fun a1 W1 => Bod w.heap.size (fun k => (S k ∨ w.heap.size + 2 ≤ k) ∧ k < W.heap.size) W W1 ∧ ∃ Ax : World → Prop, Sta w.heap.size Ax ∧ Ax W1 ∧ ∀ W2, Ax W2 → (∃ r, W2.heap[l]? = some (.loop r)) → body.wpIn (Fence.wide.inRound l) 0 P (rpost w.heap.size (fun k => (S k ∨ w.heap.size + 2 ≤ k) ∧ k < W.heap.size) I Ix (i + 1) W2) a1 W2) (fun _ _ _ => False))
        { tmps := (ps.zip args).foldl (fun t (p, v) => t.setIfInBounds p v) a.tmps, defers := [] } W)
    (hdone : ∀ D W, w.heap.size ≤ D → I N W → W.heap[D]? = some (.deferred (some [])) → Q .normal { a with defers := markOf D :: a.defers } W)
    (hstop : ∀ D c i W, w.heap.size ≤ D → i ≤ N → Ix c i W → W.heap[D]? = some (.deferred (some [])) → c.wp P Q { a with defers := markOf D :: a.defers } W) :
    (Code.rangeFunc g ps assign body).wp P Q a w := by
  refine (wpIn_wide (n := 0)).1 (wpIn_rangeFunc ?_)
  intro fn _
  obtain ⟨rec, hrec⟩ : ∃ rec : Loop, rec = { state := .ready, pending := none, fn, tmps := a.tmps, params := ps, assign, body, defers := w.heap.size } := ⟨_, rfl⟩
  obtain ⟨W1, hW1⟩ : ∃ W1, (w.alloc (.deferred (some []))).alloc (.loop rec) = W1 := ⟨_, rfl⟩
  have hL1 : W1.heap[w.heap.size + 1]? = some (.loop rec) := by
    rw [← hW1]; have := alloc_new (w.alloc (.deferred (some []))) (.loop rec); rwa [World.size_alloc] at this
  have hK1 : W1.heap[w.heap.size]? = some (.deferred (some [])) := by rw [← hW1]; exact alloc_old _ (alloc_new w _)
  have hz1 : W1.heap.size = w.heap.size + 2 := by rw [← hW1]; simp
  have hwW1 : Below w.heap.size w W1 := by rw [← hW1]; exact ((Below.refl _ w).alloc (Nat.le_refl _) _).alloc (by simp) _
  have hS1 : ¬ S (w.heap.size + 1) := fun h => by have := hS _ h; omega
  have hlow : ∀ {A A' : World}, Below W1.heap.size A A' → Below w.heap.size A A' := fun h => h.mono (by omega)
  have hI1 : ∀ {i : Nat} {A A' : World}, Chg w.heap.size A A' → w.heap.size ≤ A.heap.size → I i A → I i A' := fun hc hs h => hI _ _ _ h (hc.belowN (Nat.le_refl _) hs)
  have hIx1 : ∀ {c : Code} {i : Nat} {A A' : World}, Chg w.heap.size A A' → w.heap.size ≤ A.heap.size → Ix c i A → Ix c i A' := fun hc hs h => hIx _ _ _ _ h (hc.belowN (Nat.le_refl _) hs)
  refine ⟨w.heap.size + 1, [markOf w.heap.size], W1, { target := .fn (.func gf) lb, args := #[.func (.yield (w.heap.size + 1)) #[] #[]] }, W1, gf,
    #[.func (.yield (w.heap.size + 1)) #[] #[]] ++ lb, W1, ?_, ?_, fun _ _ => trivial, ?_, fun h => (by simp [Fence.wide] at h), ?_⟩
  · rw [← hW1, hrec]; exact run_enterLoop_outer _ _ _ _ _
  · simp only [resolve, hg]
    simp [go_sem]
  · simp [invoke, go_sem, eg]
  · refine (callsIn_wide (n := 0 - 1)).2 ?_
    refine (hseq (w.heap.size + 1)
      (fun i W => I i W ∧ W.heap[w.heap.size + 1]? = some (.loop rec) ∧ W.heap[w.heap.size]? = some (.deferred (some [])))
      (fun i W => ∃ c, Ix c i W ∧ W.heap[w.heap.size + 1]? = some (.loop { rec with state := .done, pending := some c }) ∧ W.heap[w.heap.size]? = some (.deferred (some [])))
      W1 (ext_trans hb0 hwW1) (by omega)
      (fun i A A' h hb => ⟨hI i A A' h.1 (hlow hb), (hb.block _ (by omega)).trans h.2.1, (hb.block _ (by omega)).trans h.2.2⟩)
      (fun i A A' h hb => by obtain ⟨c, h1, h2, h3⟩ := h; exact ⟨c, hIx c i A A' h1 (hlow hb), (hb.block _ (by omega)).trans h2, (hb.block _ (by omega)).trans h3⟩)
      ?_ ⟨hI 0 _ _ h0 hwW1, hL1, hK1⟩).mono ?_
    · rintro i W args hi hE hsz ⟨hii, hl, hk⟩
      refine round_of (B := w.heap.size) (S := fun k => (S k ∨ w.heap.size + 2 ≤ k) ∧ k < W.heap.size) (ps := ps) (assign := assign) (body := body) (tmps := a.tmps) (i := i) (I := I) (Ix := Ix) _ (by omega) (fun h => by have := h.1; rcases this with h | h; exact hS1 h; omega) (by rw [hrec]; simp) hl (hps i args hE) (hround _ i W args hi (by omega) (by omega) hE hii) ?_ ?_
      · intro W3 W4 hs3 hb4 hl4 hc hi3 hoth
        exact ⟨⟨hb4.size, fun k hk hlt => hb4.keep k ⟨by rw [hz1] at hk; exact hk, hlt⟩⟩, .inl ⟨rfl, hI1 hc (by omega) hi3, hl4, hoth _ _ (Nat.le_refl _) (by omega) hk rfl⟩⟩
      · intro c W3 W4 hs3 hb4 hl4 hc hi3 hoth
        exact ⟨⟨hb4.size, fun k hk hlt => hb4.keep k ⟨by rw [hz1] at hk; exact hk, hlt⟩⟩, .inr ⟨rfl, c, hIx1 hc (by omega) hi3, hl4, hoth _ _ (Nat.le_refl _) (by omega) hk rfl⟩⟩
    · rintro e W2 ⟨⟨v, rfl⟩, (⟨hi, hl, hk⟩ | ⟨i, hin, c, hi, hl, hk⟩)⟩
      · have hl2 := block_lt hl
        exact ⟨none, _, by have := run_endLoop (P := P) hl (by rw [hrec]; simp); rw [this, hrec], hdone _ _ (Nat.le_refl _) (hI1 (Chg.put _ hl (by omega) rfl) (by omega) hi) ((World.putObj_heap_other (by omega)).trans hk)⟩
      · have hl2 := block_lt hl
        exact ⟨some c, _, by have := run_endLoop (P := P) hl (by simp); rw [this], wpIn_wide.2 (hstop _ c i _ (Nat.le_refl _) hin (hIx1 (Chg.put _ hl (by omega) rfl) (by omega) hi) ((World.putObj_heap_other (by omega)).trans hk))⟩

theorem callsIn_round {l n : Nat} {P : Program} {f : FuncId} {args : Array Value} {w : World} {R : Ending → World → Prop} (h : Calls P f args w R) : CallsIn (Fence.wide.inRound l) n P f args w R := (callsIn_wide (n := n)).2 h

theorem roundIn_round {l l' n : Nat} {P : Program} {f : FuncId} {tmps : Array Value} {assign body : Code} {w : World} {R : Ending → World → Prop} (h : RoundIn Fence.wide n P l f tmps assign body w R) : RoundIn (Fence.wide.inRound l') n P l f tmps assign body w R := h

end Go.Proofs.YtjmejfgkogjpaaaGreat

namespace Go.Proofs.YtjmejfgkogjpaaaGreat
open Go.RowKit Go Go.Shelf
attribute [local go_sem] Oper.semAt_some

set_option maxHeartbeats 400000 in
theorem filtered_any (p : Pb) (pc : Option Addr) (nc cc : Nat) (ps : Option Addr) (ns cs : Nat) (i : Int) (pu : Option Addr) (nu cu : Nat) (pd : Option Addr) (nd cd : Nat) (f : Int) (w : World) :
    Calls Tryz.prog 87 #[.agg (scC p (.slice pc nc cc) (.slice ps ns cs) i (.slice pu nu cu) (.slice pd nd cd) f)] w fun e w' => e = .returned (.func (.func 114) #[] #[.pointer (some ⟨w.heap.size, 0, none⟩)]) ∧ w' = w.alloc (.cells (scC p (.slice pc nc cc) (.slice ps ns cs) i (.slice pu nu cu) (.slice pd nd cd) f) 75) := by
  go_enter Tryz.func87, Tryz.ntmps87
  go_wp2
  go_ret
  exact ⟨rfl, rfl⟩

set_option maxRecDepth 100000 in
set_option maxHeartbeats 1000000 in
theorem pred_any (p : Pb) (vc vs : Value) (ix : Int) (u : Value) (f : Int) (xv vd : Value) (v dec : List Int) (pr : Nat) (Bp Bx : Nat) (w : World) (hv : RawSl w xv (v.map (Value.int .i64))) (hp : w.heap[Bp]? = some (.cells #[.int .i64 pr] 3)) (hx : w.heap[Bx]? = some (.cells (scC p vc vs ix u vd f) 75)) (hd : IsInts w vd dec) (h1 : pr < v.length) (h2 : pr < dec.length) :
    Calls Tryz.prog 118 #[xv, .pointer (some ⟨Bp, 0, none⟩), .pointer (some ⟨Bx, 0, none⟩)] w fun e w' => e = .returned (.bool (v.getD pr 0 != dec.getD pr 0)) ∧ Below w.heap.size w w' := by
  obtain ⟨pa, ca, rfl, la1, ea, la3⟩ := hv
  rw [List.length_map] at la1 ⊢
  obtain ⟨pd, cd, rfl, ld1, ld2, ed⟩ := hd.at
  obtain ⟨b1, o1, rfl, c1⟩ := ea pr (.int .i64 v[pr]) (by simp [h1])
  obtain ⟨b2, o2, rfl, c2, _⟩ := ed pr h2
  rw [Nat.mul_one] at c2
  have H1 : Hid (v.getD pr 0 = v[pr]) := getD_of_lt 0 h1
  have H2 : Hid (dec.getD pr 0 = dec[pr]) := getD_of_lt 0 h2
  generalize v[pr] = x at c1 H1
  generalize dec[pr] = y at c2 H2
  have t1 := cell_block hp 0
  have t2 := cell_block hx 9
  simp at t1 t2
  have d1 : ∀ n, (w.drewN n).cell? ⟨b1, o1 + pr, none⟩ = some (.int .i64 x) := fun n => c1
  have d2 : ∀ n, (w.drewN n).cell? ⟨b2, o2 + pr, none⟩ = some (.int .i64 y) := fun n => c2
  have d3 : ∀ n, (w.drewN n).cell? ⟨Bp, 0, none⟩ = some (.int .i64 pr) := fun n => t1
  have d4 : ∀ n, (w.drewN n).cell? ⟨Bx, 9, none⟩ = some (.slice (some ⟨b2, o2, none⟩) dec.length cd) := fun n => t2
  clear ea ed hd hp hx la1 la3 c1 c2 t1 t2
  go_enter Tryz.func118, Tryz.ntmps118
  go_wp2_with fail
  go_quiet (fail)
  go_wp2_with fail
  go_ret
  exact ⟨ret_bool (by rw [H1.out, H2.out]), below_drewN (Below.refl _ _) _⟩

/-- From w to w' all that lies below base, and all that is no row of slices of numbers, lies as it lay. -/
structure Rest (base : Nat) (w w' : World) : Prop where
  os : w'.os = w.os
  tape : w'.tape = w.tape
  output : w'.output = w.output
  size : w.heap.size ≤ w'.heap.size
  keep : ∀ (k : Nat) (o : Obj), w.heap[k]? = some o → (k < base ∨ ∀ c f, o ≠ .cells c 36 f) → w'.heap[k]? = some o
theorem Rest.below {base : Nat} {w w' : World} (h : Rest base w w') (hs : base ≤ w.heap.size) : Below base w w' :=
  ⟨h.os, h.tape, h.output, h.size, fun k hk => by
    have h1 : w.heap[k]? = some w.heap[k] := Array.getElem?_eq_getElem (by omega)
    rw [h.keep k _ h1 (.inl hk), h1]⟩
theorem Rest.cells {base : Nat} {w w' : World} (h : Rest base w w') {k : Nat} {c : Array Value} {t : TypeId} {f : Nat × Nat} (hk : w.heap[k]? = some (.cells c t f)) (ht : t ≠ 36) : w'.heap[k]? = some (.cells c t f) :=
  h.keep k _ hk (.inr fun c' f' e => ht (by cases e; rfl))
theorem Rest.row {base : Nat} {w w' : World} (h : Rest base w w') {v : Value} {n : Nat} {xs : List Value} (hv : w.ownsRow base 3 1 v n xs) : w'.ownsRow base 3 1 v n xs := by
  obtain ⟨hl, hv⟩ := hv
  refine ⟨hl, ?_⟩
  rcases hv with hv | ⟨g, cap, cur, h1, h2, h3, h4⟩
  · exact .inl hv
  · exact .inr ⟨g, cap, cur, h1, h2, h.cells h3 (by decide), h4⟩
theorem rest_of_grown {base : Nat} {w w' : World} {v : Value} {n : Nat} {xs : List Value} (hv : w.ownsRow base 36 1 v n xs) (hg : w.grownBy w' v.ownBlock) : Rest base w w' :=
  ⟨hg.os, hg.tape, hg.output, hg.size, fun k o hk ho => by
    refine (hg.block k (block_lt hk) (fun e => ?_)).trans hk
    rcases hv.2 with ⟨rfl, _⟩ | ⟨g, cap, cur, rfl, h2, h3, _⟩
    · cases e
    · cases e
      rw [hk] at h3
      cases h3
      rcases ho with ho | ho
      · dsimp only at ho; omega
      · exact ho _ _ rfl⟩
theorem raw_of_owns {w : World} {base : Nat} {e : TypeId} {v : Value} {n : Nat} {xs : List Value} (h : w.ownsRow base e 1 v n xs) (h1 : ∀ x ∈ xs, x.oneCell' = true) : RawSl w v xs := by
  obtain ⟨a, cap, rfl, h2, h3, h4, rfl, h5⟩ := owns_cell h
  exact ⟨a, cap, rfl, fun e => ⟨by have := h4 e; omega, h4 e⟩, fun i x hx => by obtain ⟨b, hb, hc⟩ := h5 i x hx; exact ⟨b, 0, hb, by simpa using hc⟩, h1⟩
theorem keptV_length {α β : Type} (p : Nat → Bool) (xs : List α) (ys : List β) (d : α) (e : β) (h : xs.length = ys.length) : (keptV p xs d).length = (keptV p ys e).length := by
  simp [keptV, h]

theorem deleteVecs_any (g : Nat) (lb : Array Value) (eg : ∀ args w, (callFunc g args).run Tryz.prog w = .ok (.enter g args) w) (base : Nat) (v : Value) (ls : List (List Int)) (q : List Int → Bool) (w : World)
    (hf : FreshVecs w base v ls) (hn : ls.length ≤ 17592186044416)
    (hcall : ∀ xv l W, l ∈ ls → Rest base w W → RawSl W xv (l.map (Value.int .i64)) → Calls Tryz.prog g (#[xv] ++ lb) W fun e W' => e = .returned (.bool (q l)) ∧ Below W.heap.size W W') :
    Calls Tryz.prog 117 #[v, .func (.func g) #[] lb] w fun e w' => ∃ a c, e = .returned (.slice a (ls.filter fun l => !q l).length c) ∧ FreshVecs w' base (.slice a (ls.filter fun l => !q l).length c) (ls.filter fun l => !q l) ∧ Rest base w w' := by
  obtain ⟨xs, h1, h2⟩ := hf
  have hl : xs.length = ls.length := by have := h1.1; omega
  rw [← hl] at h1
  have hsl : ∀ x ∈ xs, ∃ a n c, x = .slice a n c := fun x hx => by
    obtain ⟨i, hi, rfl⟩ := List.getElem_of_mem hx
    obtain ⟨a, c, e, _⟩ := owns_cell (h2 i (by omega) hi)
    exact ⟨a, _, c, e⟩
  refine (deleteFunc_any g lb eg base v xs (fun i => q (ls.getD i [])) w h1 (by omega) hsl ?_).mono ?_
  · intro i hi W hW
    have hr := rest_of_grown h1 hW
    rw [show ls.getD i [] = ls[i] by simp [show i < ls.length by omega]]
    exact hcall _ _ _ (List.getElem_mem _) hr (raw_of_owns (hr.row (h2 i (by omega) hi)) (fun x hx => by obtain ⟨y, _, rfl⟩ := List.mem_map.1 hx; rfl))
  · rintro e w' ⟨u, rfl, _, ho, hg⟩
    have hr := rest_of_grown h1 hg
    have ef : (ls.filter fun l => !q l) = (keptIx (fun i => q (ls.getD i [])) xs.length).map fun i => ls.getD i [] := by rw [← keptV_filter q ls [], hl]; rfl
    have e0 : keptV (fun i => q (ls.getD i [])) xs undef = (keptIx (fun i => q (ls.getD i [])) xs.length).map fun i => xs.getD i undef := rfl
    have hK : ∀ j ∈ keptIx (fun i => q (ls.getD i [])) xs.length, j < xs.length := fun j hj => (keptIx_lt hj).1
    rw [e0] at ho
    rw [ef]
    generalize keptIx (fun i => q (ls.getD i [])) xs.length = K at ho hK
    rw [List.length_map] at ho ⊢
    obtain ⟨a, c, rfl, _⟩ := owns_cell ho
    refine ⟨a, c, rfl, ⟨_, by rw [List.length_map]; exact ho, fun i hi hx => ?_⟩, hr⟩
    rw [List.length_map] at hi
    have hj := hK K[i] (List.getElem_mem hi)
    rw [List.getElem_map, List.getElem_map, getD_of_lt undef hj, getD_of_lt [] (by omega)]
    exact hr.row (h2 _ (by omega) hj)
end Go.Proofs.YtjmejfgkogjpaaaGreat

namespace Go.Proofs.YtjmejfgkogjpaaaGreat
open Go.RowKit Go Go.Shelf
attribute [local go_sem] Oper.semAt_some

theorem owns_keep {w w' : World} {base : Nat} {e : TypeId} {v : Value} {n : Nat} {xs : List Value} (h : w.ownsRow base e 1 v n xs) (hc : ∀ k c f, base ≤ k → w.heap[k]? = some (.cells c e f) → w'.heap[k]? = some (.cells c e f)) : w'.ownsRow base e 1 v n xs := by
  obtain ⟨hl, h⟩ := h
  refine ⟨hl, ?_⟩
  rcases h with h | ⟨g, cap, cur, h1, h2, h3, h4⟩
  · exact .inl h
  · exact .inr ⟨g, cap, cur, h1, h2, hc _ _ _ h2 h3, h4⟩
theorem fresh_keep {w w' : World} {base : Nat} {v : Value} {l : List (List Int)} (h : FreshVecs w base v l) (hc : ∀ k c t f, base ≤ k → t = 36 ∨ t = 3 → w.heap[k]? = some (.cells c t f) → w'.heap[k]? = some (.cells c t f)) : FreshVecs w' base v l := by
  obtain ⟨xs, h1, h2⟩ := h
  exact ⟨xs, owns_keep h1 fun k c f hk => hc k c _ f hk (.inl rfl), fun i hi hx => owns_keep (h2 i hi hx) fun k c f hk => hc k c _ f hk (.inr rfl)⟩
theorem fresh_slice {w : World} {base : Nat} {v : Value} {l : List (List Int)} (h : FreshVecs w base v l) : ∃ a c, v = .slice a l.length c := by
  obtain ⟨xs, h1, _⟩ := h
  obtain ⟨a, c, e, _⟩ := owns_cell h1
  exact ⟨a, c, e⟩
theorem fresh_raw {w : World} {base : Nat} {v : Value} {l : List (List Int)} (h : FreshVecs w base v l) : ∃ xs, xs.length = l.length ∧ RawSl w v xs ∧ ∀ i (hi : i < l.length) (hx : i < xs.length), w.ownsRow base 3 1 xs[i] l[i].length (l[i].map (Value.int .i64)) := by
  obtain ⟨xs, h1, h2⟩ := h
  have hl : xs.length = l.length := by have := h1.1; omega
  refine ⟨xs, hl, raw_of_owns h1 (fun x hx => ?_), h2⟩
  obtain ⟨i, hi, rfl⟩ := List.getElem_of_mem hx
  obtain ⟨a, c, e, _⟩ := owns_cell (h2 i (by omega) hi)
  rw [e]; rfl

/-- Between two rounds. n0: the first block of the iterator's own; B3: the box of the list; Bx, By: boxes of the scene. -/
structure FI (Wm : World) (n0 l B3 Bx By : Nat) (sc : Array Value) (J : Nat → World → Prop) (ls : Nat → List (List Int)) (i : Nat) (W : World) : Prop where
  size : n0 ≤ W.heap.size
  j : J i W
  old : CK Wm W
  sx : W.heap[Bx]? = some (.cells sc 75)
  sy : W.heap[By]? = some (.cells sc 75)
  yb : W.heap[n0]? = some (.cells #[.func (.yield l) #[] #[]] 173)
  row : ∃ v, W.heap[B3]? = some (.cells #[v] 30) ∧ FreshVecs W n0 v (ls i)
theorem FI.sta {Wm : World} {n0 l B3 Bx By : Nat} {sc : Array Value} {J : Nat → World → Prop} {ls : Nat → List (List Int)} {i B : Nat} (hJ : ∀ i A A', J i A → Below n0 A A' → J i A') (hB : n0 ≤ B) : Sta B (FI Wm n0 l B3 Bx By sc J ls i) := fun A A' hc h => by
  obtain ⟨v, hv, hf⟩ := h.row
  exact ⟨Nat.le_trans h.size hc.size, hJ _ _ _ h.j (hc.belowN hB h.size), fun k o hk ho => hc.ck k o (h.old k o hk ho) ho, hc.ck _ _ h.sx rfl, hc.ck _ _ h.sy rfl, hc.ck _ _ h.yb rfl, v, hc.ck _ _ hv rfl, fresh_keep hf fun k c t f _ _ hk => hc.ck k _ hk rfl⟩

def encF (n : Nat) (f : Int) (dec : List Int) (L : List (List Int)) (i : Nat) (args : Array Value) : Prop := ∃ a c, args = #[.int .i64 ((oblL n f).getD i 0), .slice a (fS n f dec L (i + 1)).length c]

set_option maxRecDepth 100000 in
set_option maxHeartbeats 4000000 in
theorem filtered1_seq (p : Pb) (pc : Option Addr) (nc cc : Nat) (ps : Option Addr) (ns cs : Nat) (ix : Int) (pu : Option Addr) (nu cu : Nat) (pd : Option Addr) (cd : Nat) (dec : List Int) (f : Int) (n : Nat) (hn : p.t.n = n) (hn5 : n ≤ 5) (hdl : dec.length = n) (Wm w : World) (Bx : Nat)
    (hm : Below Wm.heap.size Wm w) (hc : IsCases Wm (.slice pc nc cc) p.t.cases) (hd : IsInts Wm (.slice pd dec.length cd) dec)
    (hx : w.heap[Bx]? = some (.cells (scC p (.slice pc nc cc) (.slice ps ns cs) ix (.slice pu nu cu) (.slice pd dec.length cd) f) 75))
    (hL : (allowedS p.t ix f).length ≤ 1024 ∧ ∀ v ∈ allowedS p.t ix f, v.length = n) :
    SeqOwn Tryz.prog 114 #[.pointer (some ⟨Bx, 0, none⟩)] (encF n f dec (allowedS p.t ix f)) (oblL n f).length (fun k => k < Wm.heap.size ∨ k = Bx) w := by
  intro yl J Jx W hW hyl hJ hJx hY h0
  have hx1 := block_up hW hx
  have hbm := ext_trans hm hW
  clear hx hW hm
  have HN := Lib.hid hn; clear hn
  have HJ := Lib.hid hJ; clear hJ
  have HJX := Lib.hid hJx; clear hJx
  have HY := Lib.hid hY; clear hY
  have HDL := Lib.hid hdl; clear hdl
  have HL := Lib.hid hL; clear hL
  have HC := Lib.hid hc; clear hc
  have HX1 := Lib.hid hx1
  have hbx := block_lt hx1
  have t1 := cell_block hx1
  clear hx1
  refine calls_marks Tryz.func114 rfl ?_
  simp only [Tryz.ntmps114, List.size_toArray, List.length_cons, List.length_nil, Nat.reduceAdd, Nat.reduceSub, Array.replicate_succ, Array.replicate_zero, List.push_toArray, List.append_toArray, List.nil_append, List.cons_append]
  go_wp2_with fail
  refine calls_gen (fun W0 => Below W.heap.size W W0 ∧ W0.heap[W.heap.size]? = some (.cells #[.func (.yield yl) #[] #[]] 173)) ⟨by go_grown, alloc_new _ _⟩ (fun W0 hW0 => ?_)
  obtain ⟨hb0, hY0⟩ := hW0
  refine (allowed_any p.t _ ix f W0 (HC.out.up up_case (ext_trans hbm hb0))).mono ?_
  rintro e w1 ⟨u, rfl, hu, hb1⟩
  have hY1 := block_up hb1 hY0
  have hb1' := ext_trans hb0 hb1
  have hz0 := hb0.size
  have hz1 := hb1'.size
  have hu' : FreshVecs w1 W.heap.size u (allowedS p.t ix f) := by
    obtain ⟨xs, q1, q2⟩ := hu
    exact ⟨xs, owns_base q1 hz0, fun i hi hx => owns_base (q2 i hi hx) hz0⟩
  have HU := Lib.hid hu'
  obtain ⟨au, cu', rfl⟩ := fresh_slice hu'
  have HY1 := Lib.hid hY1
  clear hu hu' hY0 hY1 t1
  go_wp2_with fail
  refine calls_gen (fun W2 => Below w1.heap.size w1 W2 ∧ W2.heap[w1.heap.size]? = some (.cells #[.slice au (allowedS p.t ix f).length cu'] 30)) ⟨by go_grown, by first | exact alloc_new _ _ | (rw [setCell_same (alloc_new _ _)]; rfl)⟩ (fun W2 hW2 => ?_)
  obtain ⟨hb2, hB2⟩ := hW2
  have hu2 := fresh_keep HU.out (fun k c t f _ _ hk => block_up hb2 hk)
  obtain ⟨xs, hxl, hxr, hxo⟩ := fresh_raw hu2
  refine (cloneRawVecs _ xs W2 hxr (by have := HL.out.1; omega)).mono ?_
  rintro e w3 ⟨u3, rfl, ho3, hb3⟩
  have hz2 := hb2.size
  have hz3 := hb3.size
  have hu3 : FreshVecs w3 W.heap.size u3 (allowedS p.t ix f) :=
    ⟨xs, owns_base (by rw [hxl] at ho3; exact ho3) (by omega), fun i hi hx => owns_up (hxo i hi hx) hb3⟩
  have hB3 := block_up hb3 hB2
  have hX3 := block_up hb3 (block_up hb2 (block_up hb1' HX1.out))
  have hY3 := block_up hb3 (block_up hb2 HY1.out)
  have hbW3 : Below W.heap.size W w3 := ext_trans hb1' (ext_trans hb2 hb3)
  have c1 := cell_block hB3 0
  have f1 := frozen_block hB3 0
  simp at c1
  have t1 := cell_block hX3
  have HF3 := Lib.hid hu3
  obtain ⟨a3, c3, rfl⟩ := fresh_slice hu3
  have HB3 := Lib.hid hB3
  have HX3 := Lib.hid hX3
  have HY3 := Lib.hid hY3
  have hbx3 : Bx < w3.heap.size := block_lt hX3
  have hw13 : w1.heap.size < w3.heap.size := block_lt hB3
  have hyy : W.heap.size < w1.heap.size := block_lt HY1.out
  have hbx1 : ¬ Bx = w1.heap.size := by have := hb1'.size; omega
  have hbx1' : ¬ w1.heap.size = Bx := by omega
  clear hu2 hxl hxr hxo ho3 hB2 hu3 hB3 hX3 hY3
  go_wp2_with fail
  refine calls_gen (fun W4 => Below W.heap.size w3 W4 ∧ FI Wm W.heap.size yl w1.heap.size Bx Bx (scC p (.slice pc nc cc) (.slice ps ns cs) ix (.slice pu nu cu) (.slice pd dec.length cd) f) J (fS n f dec (allowedS p.t ix f)) 0 W4) ?_ (fun W4 hW4 => ?_)
  · have hb4 : Below W.heap.size w3 (w3.setCell ⟨w1.heap.size, 0, none⟩ (.slice a3 (allowedS p.t ix f).length c3)) := (Below.refl _ _).setCell (p := ⟨w1.heap.size, 0, none⟩) (by dsimp only; omega) _
    refine ⟨hb4, ⟨Nat.le_trans hbW3.size hb4.size, ?_, ?_, ?_, ?_, ?_, ?_⟩⟩
    · exact HJ.out 0 _ _ h0 (hbW3.trans hb4)
    · exact .of_below ((ext_trans hbm hbW3).setCell (p := ⟨w1.heap.size, 0, none⟩) (by have := hbm.size; dsimp only; omega) _)
    · exact setCell_other HX3.out hbx1 _ _
    · exact setCell_other HX3.out hbx1 _ _
    · exact setCell_other HY3.out (by omega) _ _
    · refine ⟨_, setCell_same HB3.out _ _, ?_⟩
      rw [fS_zero]
      refine fresh_keep HF3.out fun k c t f _ ht hk => setCell_other hk (fun e => ?_) _ _
      subst e
      have := HB3.out
      rw [hk] at this
      cases this
      rcases ht with ht | ht <;> cases ht
  obtain ⟨hb4, hFI⟩ := hW4
  refine (obliged_any p _ _ _ _ _ _ _ _ _ _ _ _ _ _ _).mono ?_
  rintro e w5 ⟨rfl, rfl⟩
  clear t1 c1 f1
  go_wp2_with fail
  refine wp_gen (fun W5 => W4.heap.size < W5.heap.size ∧ FI Wm W.heap.size yl w1.heap.size Bx W4.heap.size (scC p (.slice pc nc cc) (.slice ps ns cs) ix (.slice pu nu cu) (.slice pd dec.length cd) f) J (fS n f dec (allowedS p.t ix f)) 0 W5) ?_ (fun W5 hW5 => ?_)
  · have h5 := FI.sta (B := W.heap.size) HJ.out (Nat.le_refl _) W4 (W4.alloc (.cells (scC p (.slice pc nc cc) (.slice ps ns cs) ix (.slice pu nu cu) (.slice pd dec.length cd) f) 75)) (.of_below (by go_grown)) hFI
    exact ⟨by simp, ⟨h5.size, h5.j, h5.old, h5.sx, alloc_new _ _, h5.yb, h5.row⟩⟩
  obtain ⟨hz5, hF5⟩ := hW5
  have hseq := obliged1_seq p _ _ ix _ _ f n HN.out hn5 W5 W4.heap.size hF5.sy
  have hn5' : W.heap.size ≤ W4.heap.size := hFI.size
  have HF5 := Lib.hid hF5
  have HD := Lib.hid hd
  have hz4 := hb4.size
  clear hF5 hFI hb4 h0 hd
  refine wp_range (gf := 113) (lb := #[.pointer (some ⟨W4.heap.size, 0, none⟩)]) rfl (enters_of Tryz.func113 (by kernel_rfl) rfl) hseq (Below.refl _ _) (fun k hk => by subst hk; exact hz5) (fun i => rfl)
    (FI Wm W.heap.size yl w1.heap.size Bx W4.heap.size (scC p (.slice pc nc cc) (.slice ps ns cs) ix (.slice pu nu cu) (.slice pd dec.length cd) f) J (fS n f dec (allowedS p.t ix f)))
    (fun c i W' => c = .ret ∧ W.heap.size ≤ W'.heap.size ∧ Jx i W')
    (fun i => FI.sta HJ.out (by omega)) (fun c i => fun A A' hc h => ⟨h.1, Nat.le_trans h.2.1 hc.size, HJX.out _ _ _ h.2.2 (hc.belowN (by omega) h.2.1)⟩) HF5.out ?round ?done ?stop
  case round =>
    intro l2 i W6 hi hl2 hI
    unfold encO
    have hob := oblL_lt hi
    have HOB : Hid ((oblL n f).getD i 0 = (oblL n f)[i]) := getD_of_lt 0 hi
    rw [getD_of_lt 0 hi]
    have HSU := Lib.hid (fS_succ n f dec (allowedS p.t ix f) i hi)
    generalize (oblL n f)[i] = pr at hob HOB HSU
    have HI := Lib.hid hI
    have hz6 := block_lt hI.sy
    have hs6 := hI.size
    clear hI hseq
    gi_wp2
    refine ⟨Bod.of_below (fun k hk => by omega) (by go_grown), fun W' => FI Wm W.heap.size yl w1.heap.size Bx W4.heap.size (scC p (.slice pc nc cc) (.slice ps ns cs) ix (.slice pu nu cu) (.slice pd dec.length cd) f) J (fS n f dec (allowedS p.t ix f)) i W' ∧ W'.heap[W6.heap.size]? = some (.cells #[.int .i64 pr] 3), (FI.sta HJ.out (by omega)).and Sta.cells, ⟨FI.sta (B := W.heap.size) HJ.out (Nat.le_refl _) _ _ (.of_below (by go_grown)) HI.out, alloc_new _ _⟩, fun W7 h7 _ => ?_⟩
    obtain ⟨h7, hp7⟩ := h7
    obtain ⟨v, hv, hf⟩ := h7.row
    have hbx7 := block_lt h7.sx
    have hb37 := block_lt hv
    have c1 := cell_block hv 0
    have f1 := frozen_block hv 0
    simp at c1
    have HDEL := Lib.hid (deleteVecs_any 118 #[.pointer (some ⟨W6.heap.size, 0, none⟩), .pointer (some ⟨Bx, 0, none⟩)] (enters_of Tryz.func118 (by kernel_rfl) rfl) W.heap.size v (fS n f dec (allowedS p.t ix f) i) (fun l => l.getD pr 0 != dec.getD pr 0) W7 hf
      (Nat.le_trans (List.length_filter_le _ _) (by have := HL.out.1; omega))
      (fun xv l W8 hl hr hraw => pred_any p _ _ ix _ f xv _ l dec pr W6.heap.size Bx W8 hraw (hr.cells hp7 (by decide)) (hr.cells h7.sx (by decide)) (HD.out.ck up_int (fun k o hk ho => hr.keep k o (h7.old k o hk ho) (.inl (by have := block_lt hk; have := hbm.size; omega)))) (by rw [HL.out.2 l (fS_mem hl)]; exact hob.1) (by rw [HDL.out]; exact hob.1)))
    have HP7 := Lib.hid hp7
    have H7 := Lib.hid h7
    obtain ⟨a7, c7, rfl⟩ := fresh_slice hf
    have HV7 := Lib.hid hv
    have hb36 : w1.heap.size < W6.heap.size := by obtain ⟨v', q1, _⟩ := HI.out.row; exact block_lt q1
    clear h7 hp7 hf hv
    gi_wp2
    refine ⟨trivial, rfl, callsIn_round (HDEL.out.mono ?_)⟩
    rintro e w8 ⟨a8, c8, rfl, hf8, hr8⟩
    rw [← HSU.out] at hf8 ⊢
    have hB8 := hr8.cells HV7.out (by decide)
    have hY8 := hr8.cells H7.out.yb (by decide)
    have hP8 := hr8.cells HP7.out (by decide)
    have hs8 := hr8.size
    have hs7 := H7.out.size
    have hbl : Below W.heap.size W7 (w8.setCell ⟨w1.heap.size, 0, none⟩ (.slice a8 (fS n f dec (allowedS p.t ix f) (i + 1)).length c8)) := (hr8.below hs7).setCell (p := ⟨w1.heap.size, 0, none⟩) (by dsimp only; omega) _
    obtain ⟨fn, tmps, assign, body, hy, hR⟩ := HY.out i _ #[.int .i64 pr, .slice a8 (fS n f dec (allowedS p.t ix f) (i + 1)).length c8] hi ⟨a8, c8, by rw [HOB.out]⟩ (Nat.le_trans hs7 hbl.size) (HJ.out i _ _ H7.out.j hbl)
    have HR := Lib.hid hR
    have c1 := cell_block hB8 0
    have f1 := frozen_block hB8 0
    have c2 := cell_block hY8 0
    have c3 := cell_block hP8 0
    simp at c1 c2 c3
    have HB8 := Lib.hid hB8
    have HY8 := Lib.hid hY8
    have HP8 := Lib.hid hP8
    have HF8 := Lib.hid hf8
    have HR8 := Lib.hid hr8
    have e1 : ¬ W.heap.size = w1.heap.size := by omega
    have e2 : ¬ W6.heap.size = w1.heap.size := by omega
    have HBL := Lib.hid hbl
    clear hR hB8 hY8 hP8 hf8 hr8 hbl
    gi_wp2
    refine ⟨rfl, (roundIn_round HR.out).mono ?_⟩
    rintro e W10 ⟨hown, hend⟩
    have hs9 := HBL.out.size
    have hs10 := hown.1
    have key : ∀ k o, W7.heap[k]? = some o → k ≠ w1.heap.size → (k < W.heap.size ∨ ∀ c f, o ≠ .cells c 36 f) → ((k < Wm.heap.size ∨ k = Bx) ∨ W.heap.size ≤ k) → W10.heap[k]? = some o := fun k o hk hne ho hS => by
      have h9 := setCell_other (B := w1.heap.size) (HR8.out.keep k o hk ho) hne 0 (.slice a8 (fS n f dec (allowedS p.t ix f) (i + 1)).length c8)
      exact (hown.2 k hS (block_lt h9)).trans h9
    have hbod : Bod W5.heap.size (fun k => k = W4.heap.size) W7 W10 := ⟨Nat.le_trans hs9 hs10, fun k hk => by
        subst hk
        rw [key _ _ H7.out.sy (by omega) (.inr fun c f e => by cases e) (.inr hn5'), H7.out.sy],
      fun k o hB hk ho => key k o hk (by omega) (.inr fun c f e => by subst e; cases ho) (.inr (by omega))⟩
    rcases hend with ⟨rfl, hj⟩ | ⟨rfl, hjx⟩
    · have hfi : FI Wm W.heap.size yl w1.heap.size Bx W4.heap.size (scC p (.slice pc nc cc) (.slice ps ns cs) ix (.slice pu nu cu) (.slice pd dec.length cd) f) J (fS n f dec (allowedS p.t ix f)) (i + 1) W10 := by
        refine ⟨by omega, hj, fun k o hk ho => ?_, key _ _ H7.out.sx hbx1 (.inr fun c f e => by cases e) (.inl (.inr rfl)), key _ _ H7.out.sy (by omega) (.inr fun c f e => by cases e) (.inr hn5'), key _ _ H7.out.yb (by omega) (.inr fun c f e => by cases e) (.inr (Nat.le_refl _)), ?_⟩
        · have h1 := block_lt hk
          have h2 := hbm.size
          exact key k o (H7.out.old k o hk ho) (by omega) (.inl (by omega)) (.inl (.inl h1))
        · have hb9 := setCell_same HB8.out 0 (.slice a8 (fS n f dec (allowedS p.t ix f) (i + 1)).length c8)
          refine ⟨_, (hown.2 _ (.inr (by omega)) (block_lt hb9)).trans hb9, fresh_keep HF8.out fun k c t fz hk ht hc => ?_⟩
          have h9 := setCell_other (B := w1.heap.size) hc (fun e => by
            subst e
            have := HB8.out
            rw [hc] at this
            cases this
            rcases ht with ht | ht <;> cases ht) 0 (.slice a8 (fS n f dec (allowedS p.t ix f) (i + 1)).length c8)
          exact (hown.2 k (.inr hk) (block_lt h9)).trans h9
      have HFI := Lib.hid (And.intro hbod hfi)
      clear hs9 hs10 key hfi hbod
      gi_wp2
      exact HFI.out
    · gi_wp2
      exact ⟨hbod, rfl, by omega, hjx⟩
  case done =>
    intro D W6 hD hI hK
    refine marks_end hK (results_none rfl _ _ _) ?_
    exact ⟨⟨_, rfl⟩, .inl (HJ.out _ _ _ hI.j (below_put (by omega) (Below.refl _ _)))⟩
  case stop =>
    rintro D c i W6 hD hi ⟨rfl, g1, g2⟩ hK
    clear hseq
    go_wp2_with fail
    refine marks_ret hK (results_none rfl _ _ _) ?_
    exact ⟨⟨_, rfl⟩, .inr ⟨_, hi, HJX.out _ _ _ g2 (below_put (by omega) (Below.refl _ _))⟩⟩
end Go.Proofs.YtjmejfgkogjpaaaGreat

namespace Go.Proofs.YtjmejfgkogjpaaaGreat
open Go.RowKit Go Go.Shelf
attribute [local go_sem] Oper.semAt_some

def agreedTo (n : Nat) (f : Int) (dec : List Int) (L : List (List Int)) (q : Nat) : Prop := ∀ j, j < q → noneB f dec L ((oblL n f).getD j 0) = false

set_option maxRecDepth 100000 in
set_option maxHeartbeats 4000000 in
theorem output_any (p : Pb) (vc : Value) (ps : Option Addr) (ns cs : Nat) (i : Int) (pu : Option Addr) (nu cu : Nat) (vd : Value) (dec : List Int) (f : Int) (n : Nat) (hn : p.t.n = n) (hn5 : n ≤ 5) (hl : dec.length = n) (w : World) (hc : IsCases w vc p.t.cases) (hd : IsInts w vd dec)
    (hL : (allowedS p.t i f).length ≤ 1024 ∧ ∀ v ∈ allowedS p.t i f, v.length = n) :
    Calls Tryz.prog 51 #[.agg (scC p vc (.slice ps ns cs) i (.slice pu nu cu) vd f)] w fun e w' => e = .returned (.tuple #[.int .i64 (outpE n f dec (allowedS p.t i f)), .bool (decide (0 ≤ outpE n f dec (allowedS p.t i f)))]) ∧ Below w.heap.size w w' := by
  generalize hLe : allowedS p.t i f = L at hL ⊢
  have HLE := Lib.hid hLe; clear hLe
  have HD := Lib.hid hd
  have HC := Lib.hid hc
  obtain ⟨pd, cd, rfl, _⟩ := hd
  obtain ⟨pc, cc, rfl, _⟩ := hc
  have HL := Lib.hid hl; clear hl
  have HLL := Lib.hid hL; clear hL
  refine calls_marks Tryz.func51 rfl ?_
  simp only [Tryz.ntmps51, List.size_toArray, List.length_cons, List.length_nil, Nat.reduceAdd, Nat.reduceSub, Array.replicate_succ, Array.replicate_zero, List.push_toArray, List.append_toArray, List.nil_append, List.cons_append]
  have HN := Lib.hid hn; clear hn
  go_wp2_with fail
  refine (filtered_any p _ _ _ _ _ _ _ _ _ _ _ _ _ _ _).mono ?_
  rintro e w1 ⟨rfl, rfl⟩
  go_wp2_with fail
  refine wp_gen (fun W => Below w.heap.size w W ∧ W.heap[w.heap.size + 1]? = some (.cells #[.int .i64 0] 3) ∧ W.heap[w.heap.size + 1 + 1]? = some (.cells #[.bool false] 4) ∧ W.heap[w.heap.size + 1 + 1 + 1]? = some (.cells (scC p (.slice pc p.t.cases.length cc) (.slice ps ns cs) i (.slice pu nu cu) (.slice pd dec.length cd) f) 75))
    ⟨by go_grown, alloc_old _ (alloc_old _ (alloc2_new _ _ _)), alloc_old _ (alloc3_new _ _ _ _), by simpa using alloc_new (((w.alloc _).alloc _).alloc _) _⟩ (fun W0 hW0 => ?_)
  obtain ⟨hb0, hR1, hR2, hX⟩ := hW0
  have hseq := filtered1_seq p _ _ _ _ _ _ i _ _ _ _ _ dec f n HN.out hn5 HL.out w W0 (w.heap.size + 1 + 1 + 1) hb0 HC.out HD.out hX (by rw [HLE.out]; exact HLL.out)
  rw [HLE.out] at hseq
  have hsz := block_lt hX
  refine wp_rangeOwn (gf := 114) (lb := #[.pointer (some ⟨w.heap.size + 1 + 1 + 1, 0, none⟩)]) rfl (enters_of Tryz.func114 (by kernel_rfl) rfl) hseq (Below.refl _ _) (fun k hk => by omega) (fun i args h => by obtain ⟨a, c, rfl⟩ := h; rfl)
    (fun q W => Below w.heap.size w W ∧ W.heap[w.heap.size + 1]? = some (.cells #[.int .i64 0] 3) ∧ W.heap[w.heap.size + 1 + 1]? = some (.cells #[.bool false] 4) ∧ agreedTo n f dec L q)
    (fun c _ W => c = .ret ∧ Below w.heap.size w W ∧ 0 ≤ outpE n f dec L ∧ W.heap[w.heap.size + 1]? = some (.cells #[.int .i64 (outpE n f dec L)] 3) ∧ W.heap[w.heap.size + 1 + 1]? = some (.cells #[.bool true] 4))
    (fun i A A' h hb => ⟨h.1.trans (hb.mono (by omega)), (hb.block _ (by omega)).trans h.2.1, (hb.block _ (by omega)).trans h.2.2.1, h.2.2.2⟩)
    (fun c i A A' h hb => ⟨h.1, h.2.1.trans (hb.mono (by omega)), h.2.2.1, (hb.block _ (by omega)).trans h.2.2.2.1, (hb.block _ (by omega)).trans h.2.2.2.2⟩) ⟨hb0, hR1, hR2, fun j hj => by omega⟩ ?round ?done ?stop
  case round =>
    rintro yl q W args hq hl hlw ⟨a, c, rfl⟩ hI
    have HNO := Lib.hid (noneB_obl n f dec L q hq)
    have hob := oblL_lt hq
    have HOB : Hid ((oblL n f).getD q 0 = (oblL n f)[q]) := getD_of_lt 0 hq
    rw [getD_of_lt 0 hq]
    generalize (oblL n f)[q] = pr at hob HOB
    generalize (fS n f dec L (q + 1)).length = m at HNO
    have HI := Lib.hid hI; clear hI hseq
    gi_wp2
    refine ⟨Bod.refl _ _ _, fun W => Below w.heap.size w W ∧ W.heap[w.heap.size + 1]? = some (.cells #[.int .i64 0] 3) ∧ W.heap[w.heap.size + 1 + 1]? = some (.cells #[.bool false] 4) ∧ agreedTo n f dec L q, (Sta.below (w := w) (by omega)).and (Sta.cells.and (Sta.cells.and Sta.pure)), HI.out, fun W2 h2 _ => ?_⟩
    obtain ⟨g1, g3, g4, g5⟩ := h2
    have HG := Lib.hid (And.intro g1 (And.intro g3 (And.intro g4 g5)))
    have c3 := cell_block g3 0
    have f3 := frozen_block g3 0
    have c4 := cell_block g4 0
    have f4 := frozen_block g4 0
    simp at c3 c4
    have hs4 := block_lt g4
    clear g1 g3 g4 g5 hR1 hR2 hX
    by_cases hx : m = 0
    · subst hx
      gi_wp2
      obtain ⟨g1, g3, g4, g5⟩ := HG.out
      have hE : outpE n f dec L = pr := by
        unfold outpE
        rw [firstObl_at hq g5 (by rw [HNO.out]; rfl), HOB.out]
      refine ⟨(Bod.setCell _ ⟨w.heap.size + 1, 0, none⟩ _ (fun h => by dsimp only at h; omega)).trans (Bod.setCell _ ⟨w.heap.size + 1 + 1, 0, none⟩ _ (fun h => by dsimp only at h; omega)), rfl, (g1.setCell (p := ⟨w.heap.size + 1, 0, none⟩) (by dsimp only; omega) _).setCell (p := ⟨w.heap.size + 1 + 1, 0, none⟩) (by dsimp only; omega) _, by omega, ?_, ?_⟩
      · refine setCell_other (B := w.heap.size + 1 + 1) ?_ (by omega) _ _
        rw [setCell_same g3, hE]; rfl
      · rw [setCell_same (setCell_other (B := w.heap.size + 1) g4 (by omega) _ _)]; rfl
    · gi_wp2
      obtain ⟨g1, g3, g4, g5⟩ := HG.out
      exact ⟨Bod.refl _ _ _, g1, g3, g4, below_succ g5 (by rw [HNO.out]; simpa using hx)⟩
  case done =>
    intro D W hD hI hK
    obtain ⟨g1, g3, g4, g5⟩ := hI
    have HG := Lib.hid (And.intro g1 (And.intro g3 (And.intro g4 g5)))
    have c3 := cell_block g3 0
    have f3 := frozen_block g3 0
    have c4 := cell_block g4 0
    have f4 := frozen_block g4 0
    simp at c3 c4
    clear g1 g3 g4 g5 hseq hR1 hR2 hX
    go_wp2_with fail
    obtain ⟨g1, g3, g4, g5⟩ := HG.out
    have hE : outpE n f dec L = -1 := firstObl_none g5
    refine marks_ret (setCell_other (B := w.heap.size + 1 + 1) (setCell_other (B := w.heap.size + 1) hK (by omega) _ _) (by omega) _ _) (two_results _ _ Tryz.results51 (w.heap.size + 1) (w.heap.size + 1 + 1) _ (-1) false _ _ rfl rfl ((World.putObj_heap_other (by omega)).trans (setCell_other (B := w.heap.size + 1 + 1) (by rw [setCell_same g3]; rfl) (by omega) _ _)) ((World.putObj_heap_other (by omega)).trans (by rw [setCell_same (setCell_other (B := w.heap.size + 1) g4 (by omega) _ _)]; rfl))) ?_
    exact ⟨ret_ib hE.symm (by rw [hE]; rfl), below_put (by omega) ((g1.setCell (p := ⟨w.heap.size + 1, 0, none⟩) (by dsimp only; omega) _).setCell (p := ⟨w.heap.size + 1 + 1, 0, none⟩) (by dsimp only; omega) _)⟩
  case stop =>
    rintro D c i W hD hi ⟨rfl, g1, g2, g3, g4⟩ hK
    have HG := Lib.hid (And.intro g1 (And.intro g2 (And.intro g3 g4)))
    clear g1 g2 g3 g4 hseq hR1 hR2 hX
    go_wp2_with fail
    refine marks_ret hK (two_results _ _ Tryz.results51 (w.heap.size + 1) (w.heap.size + 1 + 1) _ (outpE n f dec L) true _ _ rfl rfl ((World.putObj_heap_other (by omega)).trans HG.out.2.2.1) ((World.putObj_heap_other (by omega)).trans HG.out.2.2.2)) ?_
    exact ⟨ret_ib rfl (by have := HG.out.2.1; simp; omega), below_put (by omega) HG.out.1⟩
end Go.Proofs.YtjmejfgkogjpaaaGreat

namespace Go.Proofs.YtjmejfgkogjpaaaGreat
open Go.RowKit Go Go.Shelf
attribute [local go_sem] Oper.semAt_some

def schedB (p : Pb) (word : List Rd) : Bool := decide (afterS p.a 0 word < 0) || decide ((word.length : Int) ≠ p.rounds)

set_option maxRecDepth 100000 in
set_option maxHeartbeats 2000000 in
theorem schedule_any (p : Pb) (pc : Option Addr) (nc cc : Nat) (vs : Value) (i : Int) (u : Value) (word : List Rd) (pd : Option Addr) (nd cd : Nat) (f : Int) (w : World) (hv : IsStates w vs p.a.states) (hu : IsWord w u word) (hN : movesN p.a.states < 1099511627776) (ha : advE p.a = 0) :
    Calls Tryz.prog 49 #[.agg (scC p (.slice pc nc cc) vs i u (.slice pd nd cd) f)] w fun e w' => e = .returned (.tuple #[.int .i64 (-1), .bool (schedB p word)]) ∧ Below w.heap.size w w' := by
  have hb0 : Below w.heap.size w (w.alloc (.cells (scC p (.slice pc nc cc) vs i u (.slice pd nd cd) f) 75)) := by go_grown
  have hal := allows_any p.a vs u word _ (hv.up up_moves hb0) (hu.up up_round hb0) hN (by omega)
  have hr : allowsR p.a word = (decide (0 ≤ afterS p.a 0 word), 0) := by unfold allowsR; rw [if_neg (by simpa using ha)]
  rw [hr] at hal
  have HS : Hid (schedB p word = (decide (afterS p.a 0 word < 0) || decide ((word.length : Int) ≠ p.rounds))) := by exact rfl
  generalize afterS p.a 0 word = af at hal HS
  have HA := Lib.hid hal; clear hal hr ha
  obtain ⟨ps, cs, rfl, _⟩ := hv.at
  obtain ⟨pu, cu, rfl, l1, l2, _⟩ := hu.at
  clear hv hu
  have hblk := alloc_new w (.cells (scC p (.slice pc nc cc) (.slice ps p.a.states.length cs) i (.slice pu word.length cu) (.slice pd nd cd) f) 75)
  by_cases h : af < 0
  · have hd : decide (0 ≤ af) = false := by simpa using h
    rw [hd] at HA
    have HS' : Hid (schedB p word = true) := by (have h : schedB p word = true := by (rw [HS.out]; simp [h])); exact h
    clear hd hblk
    go_enter Tryz.func49, Tryz.ntmps49
    go_wp2_with fail
    refine HA.out.mono ?_
    rintro e w1 ⟨rfl, hb1⟩
    go_wp2_with fail
    go_quiet (fail)
    go_wp2_with fail
    go_ret2
    exact ⟨ret_ib rfl HS'.out.symm, below_drewN (ext_trans hb0 hb1) _⟩
  · have hd : decide (0 ≤ af) = true := by simp; omega
    rw [hd] at HA
    have HS' : Hid (schedB p word = ((word.length : Int) != p.rounds)) := by (have h : schedB p word = ((word.length : Int) != p.rounds) := by (rw [HS.out, Bool.eq_iff_iff]; simp [h])); exact h
    have HB := Lib.hid hblk
    clear hd hblk
    go_enter Tryz.func49, Tryz.ntmps49
    go_wp2_with fail
    refine HA.out.mono ?_
    rintro e w1 ⟨rfl, hb1⟩
    have t0 := cell_block (block_up hb1 HB.out)
    have t1 : ∀ n o, (w1.drewN n).cell? ⟨w.heap.size, o, none⟩ = _ := fun n o => t0 o
    clear t0
    go_wp2_with fail
    go_quiet (fail)
    go_wp2_with fail
    go_ret2
    exact ⟨ret_ib rfl HS'.out.symm, below_drewN (ext_trans hb0 hb1) _⟩

def judgeR (p : Pb) (ix : Int) (word : List Rd) (dec : List Int) : Int × Int :=
  if schedB p word then (1, -1)
  else if 0 ≤ undecE p.t.n.toNat (faultyS word) dec then (2, undecE p.t.n.toNat (faultyS word) dec)
  else if 0 ≤ outpE p.t.n.toNat (faultyS word) dec (allowedS p.t ix (faultyS word)) then (3, outpE p.t.n.toNat (faultyS word) dec (allowedS p.t ix (faultyS word))) else (0, -1)

theorem run_store_func (P : Program) (w : World) (a : Addr) (m : Mode) (g : Fn) (b c : Array Value) : (store a (.func g b c) m).run P w = stored P w a (.func g b c) m := run_store P w a _ m rfl
attribute [local go_sem] run_store_func

def passedJ (sb : Bool) (ud od : Int) (k : Nat) : Prop := (1 ≤ k → sb = false) ∧ (2 ≤ k → ud < 0) ∧ (3 ≤ k → od < 0)

set_option maxRecDepth 100000 in
set_option maxHeartbeats 4000000 in
theorem judge_any (p : Pb) (vc vs : Value) (ix : Int) (u : Value) (word : List Rd) (vd : Value) (dec : List Int) (w : World) (hc : IsCases w vc p.t.cases) (hv : IsStates w vs p.a.states) (hu : IsWord w u word) (hd : IsInts w vd dec)
    (hN : movesN p.a.states < 1099511627776) (ha : advE p.a = 0) (ht : 0 ≤ p.t.n ∧ p.t.n ≤ 5) (hl : (dec.length : Int) = p.t.n)
    (hL : (allowedS p.t ix (faultyS word)).length ≤ 1024 ∧ ∀ v ∈ allowedS p.t ix (faultyS word), (v.length : Int) = p.t.n) :
    Calls Tryz.prog 22 #[.agg (scC p vc vs ix u vd (faultyS word))] w fun e w' => e = .returned (.tuple #[.int .i64 (judgeR p ix word dec).1, .int .i64 (judgeR p ix word dec).2]) ∧ Below w.heap.size w w' := by
  obtain ⟨n, hn⟩ : ∃ n : Nat, p.t.n = n := ⟨p.t.n.toNat, by omega⟩
  have HJ : Hid (judgeR p ix word dec = if schedB p word then (1, -1) else if 0 ≤ undecE n (faultyS word) dec then (2, undecE n (faultyS word) dec) else if 0 ≤ outpE n (faultyS word) dec (allowedS p.t ix (faultyS word)) then (3, outpE n (faultyS word) dec (allowedS p.t ix (faultyS word))) else (0, -1)) := by
    have h : judgeR p ix word dec = if schedB p word then (1, -1) else if 0 ≤ undecE n (faultyS word) dec then (2, undecE n (faultyS word) dec) else if 0 ≤ outpE n (faultyS word) dec (allowedS p.t ix (faultyS word)) then (3, outpE n (faultyS word) dec (allowedS p.t ix (faultyS word))) else (0, -1) := by
      unfold judgeR; rw [hn, Int.toNat_natCast]
    exact h
  obtain ⟨pc, cc, rfl, _⟩ := id hc
  obtain ⟨ps, cs, rfl, _⟩ := id hv
  obtain ⟨pu, cu, rfl, _⟩ := id hu
  obtain ⟨pd, cd, rfl, _⟩ := id hd
  have H1 := Lib.hid (fun W (hb : Below w.heap.size w W) => schedule_any p pc p.t.cases.length cc _ ix _ word pd dec.length cd (faultyS word) W (hv.up up_moves hb) (hu.up up_round hb) hN ha)
  have H2 := Lib.hid (fun W (hb : Below w.heap.size w W) => undecided_any p pc p.t.cases.length cc ps p.a.states.length cs ix pu word.length cu _ dec (faultyS word) n hn (by omega) (by omega) W (hd.up up_int hb))
  have H3 := Lib.hid (fun W (hb : Below w.heap.size w W) => output_any p _ ps p.a.states.length cs ix pu word.length cu _ dec (faultyS word) n hn (by omega) (by omega) W (hc.up up_case hb) (hd.up up_int hb) ⟨hL.1, fun v hv => by have := hL.2 v hv; omega⟩)
  clear hc hv hu hd hN ha ht hl hL hn
  generalize undecE n (faultyS word) dec = ud at HJ H2
  generalize outpE n (faultyS word) dec (allowedS p.t ix (faultyS word)) = od at HJ H3
  generalize faultyS word = f at HJ H1 H2 H3
  go_enter Tryz.func22, Tryz.ntmps22
  go_wp2_with fail
  refine wp_gen (fun W => Below w.heap.size w W ∧ W.heap[w.heap.size]? = some (.cells (scC p (.slice pc p.t.cases.length cc) (.slice ps p.a.states.length cs) ix (.slice pu word.length cu) (.slice pd dec.length cd) f) 75) ∧ W.heap[w.heap.size + 1]? = some (.cells #[.int .i64 1, .func (.func 49) #[] #[], .int .i64 2, .func (.func 50) #[] #[], .int .i64 3, .func (.func 51) #[] #[]] 106))
    ⟨by go_grown, alloc_old _ (alloc_new _ _), alloc2_new _ _ _⟩ (fun W0 hW0 => ?_)
  obtain ⟨hb0, hA0, hS0⟩ := hW0
  generalize schedB p word = sb at HJ H1
  go_loopw [13] (fun i wr => Below W0.heap.size W0 wr ∧ ∃ k : Nat, k ≤ 3 ∧ i = .int .i64 k ∧ passedJ sb ud od k) (fun i _ => 3 - (intOf i).toNat)
  case atStart => exact ⟨Below.refl _ _, 0, by omega, rfl, by unfold passedJ; omega⟩
  case round =>
    obtain ⟨hbr, k, hk, rfl, hinv⟩ := hrel
    have hzr := block_lt (block_up hbr hS0)
    have hzr' : w.heap.size < wr.heap.size := by omega
    have HA := Lib.hid (block_up hbr hA0)
    have HS := Lib.hid (block_up hbr hS0)
    have hbw := ext_trans hb0 hbr
    have t1 := cell_block HA.out
    have t2 := cell_block HS.out
    have hk' : k = 0 ∨ k = 1 ∨ k = 2 ∨ k = 3 := by omega
    have HI := Lib.hid hinv; clear hinv
    have g1 := enters_of Tryz.func49 (by kernel_rfl) rfl
    have g2 := enters_of Tryz.func50 (by kernel_rfl) rfl
    have g3 := enters_of Tryz.func51 (by kernel_rfl) rfl
    clear hA0 hS0
    rcases hk' with rfl | rfl | rfl | rfl
    · go_wp2_with fail
      refine calls_gen (fun W => Below wr.heap.size wr W ∧ W.heap[wr.heap.size]? = some (.cells #[.int .i64 1, .func (.func 49) #[] #[]] 106)) ⟨by go_grown, by first | exact alloc_new _ _ | (rw [setCell_same (setCell_same (alloc_new _ _) _ _)]; rfl) | (rw [setCell_same (alloc_new _ _)]; rfl)⟩ (fun W2 hW2 => ?_)
      obtain ⟨hb2, hC2⟩ := hW2
      refine (H1.out W2 (ext_trans hbw hb2)).mono ?_
      rintro e w3 ⟨rfl, hb3⟩
      have t3 := cell_block (block_up hb3 hC2)
      have hbw3 := ext_trans hbw (ext_trans hb2 hb3)
      have hbr3 := ext_trans hbr (ext_trans hb2 hb3)
      clear t1 t2 hC2
      cases hsb : sb with
      | true =>
        have HSB := Lib.hid hsb; clear hsb
        go_wp2_with fail
        go_ret2
        exact ⟨ret_pair (by rw [HJ.out, HSB.out]; rfl) (by rw [HJ.out, HSB.out]; rfl), hbw3⟩
      | false =>
        have HSB := Lib.hid hsb; clear hsb
        go_wp2_with fail
        go_roundw
        case rel => exact ⟨hbr3, 1, by omega, by go_num, fun _ => HSB.out, fun h => by omega, fun h => by omega⟩
        case measure => simp [intOf]
    · go_wp2_with fail
      refine calls_gen (fun W => Below wr.heap.size wr W ∧ W.heap[wr.heap.size]? = some (.cells #[.int .i64 2, .func (.func 50) #[] #[]] 106)) ⟨by go_grown, by first | exact alloc_new _ _ | (rw [setCell_same (setCell_same (alloc_new _ _) _ _)]; rfl) | (rw [setCell_same (alloc_new _ _)]; rfl)⟩ (fun W2 hW2 => ?_)
      obtain ⟨hb2, hC2⟩ := hW2
      refine (H2.out W2 (ext_trans hbw hb2)).mono ?_
      rintro e w3 ⟨rfl, hb3⟩
      have t3 := cell_block (block_up hb3 hC2)
      have hbw3 := ext_trans hbw (ext_trans hb2 hb3)
      have hbr3 := ext_trans hbr (ext_trans hb2 hb3)
      clear t1 t2 hC2
      by_cases hsb : 0 ≤ ud
      · have hdd : decide (0 ≤ ud) = true := decide_eq_true hsb
        have HSB := Lib.hid hsb; clear hsb
        go_wp2_with fail
        go_ret2
        refine ⟨ret_pair ?_ ?_, hbw3⟩ <;> (have hi := HI.out; have hs := HSB.out; rw [HJ.out]; unfold passedJ at hi; go_light; grind)
      · have hdd : decide (0 ≤ ud) = false := decide_eq_false hsb
        have HSB := Lib.hid hsb; clear hsb
        go_wp2_with fail
        go_roundw
        case rel => exact ⟨hbr3, 2, by omega, by go_num, fun _ => HI.out.1 (by omega), fun _ => by have := HSB.out; omega, fun h => by omega⟩
        case measure => simp [intOf]
    · go_wp2_with fail
      refine calls_gen (fun W => Below wr.heap.size wr W ∧ W.heap[wr.heap.size]? = some (.cells #[.int .i64 3, .func (.func 51) #[] #[]] 106)) ⟨by go_grown, by first | exact alloc_new _ _ | (rw [setCell_same (setCell_same (alloc_new _ _) _ _)]; rfl) | (rw [setCell_same (alloc_new _ _)]; rfl)⟩ (fun W2 hW2 => ?_)
      obtain ⟨hb2, hC2⟩ := hW2
      refine (H3.out W2 (ext_trans hbw hb2)).mono ?_
      rintro e w3 ⟨rfl, hb3⟩
      have t3 := cell_block (block_up hb3 hC2)
      have hbw3 := ext_trans hbw (ext_trans hb2 hb3)
      have hbr3 := ext_trans hbr (ext_trans hb2 hb3)
      clear t1 t2 hC2
      by_cases hsb : 0 ≤ od
      · have hdd : decide (0 ≤ od) = true := decide_eq_true hsb
        have HSB := Lib.hid hsb; clear hsb
        go_wp2_with fail
        go_ret2
        refine ⟨ret_pair ?_ ?_, hbw3⟩ <;> (have hi := HI.out; have hs := HSB.out; rw [HJ.out]; unfold passedJ at hi; go_light; grind)
      · have hdd : decide (0 ≤ od) = false := decide_eq_false hsb
        have HSB := Lib.hid hsb; clear hsb
        go_wp2_with fail
        go_roundw
        case rel => exact ⟨hbr3, 3, by omega, by go_num, fun _ => HI.out.1 (by omega), fun _ => HI.out.2.1 (by omega), fun _ => by have := HSB.out; omega⟩
        case measure => simp [intOf]
    · go_wp2_with fail
      go_ret2
      refine ⟨ret_pair ?_ ?_, hbw⟩ <;> (have hi := HI.out; rw [HJ.out]; unfold passedJ at hi; go_light; grind)
end Go.Proofs.YtjmejfgkogjpaaaGreat

namespace Go.Proofs.YtjmejfgkogjpaaaGreat
open Go.RowKit Go Go.Shelf

abbrev pbC (p : Pb) (vc vs : Value) : Array Value := #[.int .i64 p.t.n, .int .i64 p.t.ins, .int .i64 p.t.outs, vc, .int .i64 p.a.n, vs, .int .i64 p.rounds]
theorem ret_three {k l m : IntKind} {a b c d e f : Int} (h1 : a = b) (h2 : c = d) (h3 : e = f) : Ending.returned (.tuple #[.int k a, .int l c, .int m e]) = .returned (.tuple #[.int k b, .int l d, .int m f]) := by rw [h1, h2, h3]

def decB (outs : Int) (dec : List Int) : Bool := anyLt dec.length fun i => decide (dec.getD i 0 < -1) || decide (outs ≤ dec.getD i 0)
def blameR (p : Pb) (inp : List Int) (word : List Rd) (dec : List Int) : Int × Int × Int :=
  if probE p ≠ 0 then (0, 0, probE p) else if findE p.t inp < 0 then (0, 0, 6) else if (dec.length : Int) ≠ p.t.n then (0, 0, 15)
  else if decB p.t.outs dec then (0, 0, 2) else ((judgeR p (findE p.t inp) word dec).1, (judgeR p (findE p.t inp) word dec).2, 0)

set_option maxHeartbeats 400000 in
theorem blame1_any (x : Int) (p : Pb) (vc vs : Value) (B : Nat) (W : World) (hc : W.heap[B]? = some (.cells #[.int .i64 p.t.n, .int .i64 p.t.ins, .int .i64 p.t.outs, vc, .int .i64 p.a.n, vs, .int .i64 p.rounds] 29)) :
    Calls Tryz.prog 25 #[.int .i64 x, .pointer (some ⟨B, 0, none⟩)] W fun e W' => e = .returned (.bool (decide (x < -1) || decide (p.t.outs ≤ x))) ∧ Below W.heap.size W W' := by
  have t1 := cell_block hc 2
  simp at t1
  clear hc
  by_cases hx : x < -1
  · go_enter Tryz.func25, Tryz.ntmps25
    go_wp2
    go_ret
    exact ⟨ret_bool (by simp [hx]), Below.refl _ _⟩
  · go_enter Tryz.func25, Tryz.ntmps25
    go_wp2
    go_ret
    exact ⟨ret_bool (by simp; omega), Below.refl _ _⟩

theorem prob_ok {p : Pb} (h : probE p = 0) : taskE p.t = 0 ∧ advE p.a = 0 ∧ p.t.n = p.a.n ∧ 0 ≤ p.rounds ∧ p.rounds ≤ 6 := by
  unfold probE at h
  split at h
  · rename_i h1; exact absurd h h1
  rename_i h1
  split at h
  · rename_i h2; exact absurd h h2
  rename_i h2
  split at h
  · omega
  split at h
  · omega
  exact ⟨by simpa using h1, by simpa using h2, by omega, by omega, by omega⟩
theorem allowedS_ok {t : Tk} (h : taskE t = 0) (i f : Int) : (allowedS t i f).length ≤ 1024 ∧ ∀ v ∈ allowedS t i f, (v.length : Int) = t.n := by
  unfold allowedS
  split
  · simp
  · rename_i hp
    have hp' : placeE t i f = 0 := by simpa using hp
    obtain ⟨_, _, h3⟩ := placeE_ok hp'
    rw [getD_of_lt default h3]
    exact vecs_ok ((task_ok h).2.2.2.2 _ (List.getElem_mem h3)) f

set_option maxRecDepth 100000 in
set_option maxHeartbeats 4000000 in
theorem blame_any (p : Pb) (vc vs : Value) (vi : Value) (inp : List Int) (u : Value) (word : List Rd) (vd : Value) (dec : List Int) (w : World) (hc : IsCases w vc p.t.cases) (hs : IsStates w vs p.a.states) (hi : IsInts w vi inp) (hu : IsWord w u word) (hd : IsInts w vd dec)
    (hN : movesN p.a.states < 1099511627776) :
    Calls Tryz.prog 9 #[pbV p vc vs, vi, u, vd] w fun e w' => e = .returned (.tuple #[.int .i64 (blameR p inp word dec).1, .int .i64 (blameR p inp word dec).2.1, .int .i64 (blameR p inp word dec).2.2]) ∧ Below w.heap.size w w' := by
  have HC := Lib.hid hc
  have HS := Lib.hid hs
  have HI := Lib.hid hi
  have HU := Lib.hid hu
  have HD := Lib.hid hd
  obtain ⟨pc, cc, rfl, _⟩ := hc
  obtain ⟨ps, cs, rfl, _⟩ := hs
  obtain ⟨pi, ci, rfl, _⟩ := hi
  obtain ⟨pu, cu, rfl, _⟩ := hu
  obtain ⟨pd, cd, rfl, _⟩ := hd
  have HB : Hid (blameR p inp word dec = if probE p ≠ 0 then (0, 0, probE p) else if findE p.t inp < 0 then (0, 0, 6) else if (dec.length : Int) ≠ p.t.n then (0, 0, 15) else if decB p.t.outs dec then (0, 0, 2) else ((judgeR p (findE p.t inp) word dec).1, (judgeR p (findE p.t inp) word dec).2, 0)) := by exact rfl
  go_enter Tryz.func9, Tryz.ntmps9
  go_wp2_with fail
  refine calls_gen (fun W => Below w.heap.size w W ∧ W.heap[w.heap.size]? = some (.cells #[.int .i64 p.t.n, .int .i64 p.t.ins, .int .i64 p.t.outs, .slice pc p.t.cases.length cc, .int .i64 p.a.n, .slice ps p.a.states.length cs, .int .i64 p.rounds] 29)) ⟨by go_grown, alloc_new _ _⟩ (fun W0 hW0 => ?_)
  obtain ⟨hb0, hA0⟩ := hW0
  refine (execCheck_any p _ _ W0 (HC.out.up up_case hb0) (HS.out.up up_moves hb0) hN).mono ?_
  rintro e w1 ⟨rfl, hb1⟩
  have hb1' := ext_trans hb0 hb1
  have HA1 := Lib.hid (block_up hb1 hA0)
  have t1 := cell_block HA1.out
  clear hA0
  by_cases hp : probE p = 0
  case neg =>
    generalize probE p = ep at hp HB
    have hp' : (ep != 0) = true := by simpa using hp
    go_wp2_with fail
    go_ret3
    refine ⟨ret_three ?_ ?_ ?_, hb1'⟩ <;> rw [HB.out, if_pos hp]
  have HP := Lib.hid hp
  rw [hp] at HB ⊢
  clear hp
  go_wp2_with fail
  refine (find_any p.t _ _ inp w1 (HC.out.up up_case hb1') (HI.out.up up_int hb1')).mono ?_
  rintro e w2 ⟨rfl, hb2⟩
  have hb2' := ext_trans hb1' hb2
  have HA2 := Lib.hid (block_up hb2 HA1.out)
  have t2 := cell_block HA2.out
  clear t1
  have HFR : Hid (findR p.t inp = if findE p.t inp < 0 then (0, 6) else (findE p.t inp, 0)) := by exact rfl
  by_cases hf : findE p.t inp < 0
  · have hfr : findR p.t inp = (0, 6) := by rw [HFR.out, if_pos hf]
    rw [hfr]
    have HF := Lib.hid hf
    clear hfr hf
    go_wp2_with fail
    go_ret3
    refine ⟨ret_three ?_ ?_ ?_, hb2'⟩ <;> rw [HB.out, if_neg (by simp), if_pos HF.out]
  have hfr : findR p.t inp = (findE p.t inp, 0) := by rw [HFR.out, if_neg hf]
  rw [hfr]
  have HF := Lib.hid hf
  clear hfr hf HFR
  by_cases hl : (dec.length : Int) = p.t.n
  case neg =>
    have hl' : ((dec.length : Int) != p.t.n) = true := by simpa using hl
    go_wp2_with fail
    go_ret3
    refine ⟨ret_three ?_ ?_ ?_, hb2'⟩ <;> rw [HB.out, if_neg (by simp), if_neg (by have := HF.out; omega), if_pos hl]
  have hl' : ((dec.length : Int) != p.t.n) = false := by simp [hl]
  have HLN := Lib.hid hl; clear hl
  have HCO := Lib.hid (containsFuncInts_any 25 #[.pointer (some ⟨w.heap.size, 0, none⟩)] (enters_of Tryz.func25 (by kernel_rfl) rfl) _ dec (fun i => decide (dec.getD i 0 < -1) || decide (p.t.outs ≤ dec.getD i 0)) w2 (HD.out.up up_int hb2') (fun i hi W hW => by
      rw [getD_of_lt 0 hi]
      exact blame1_any _ p _ _ _ _ (block_up hW HA2.out)))
  have HDB : Hid (decB p.t.outs dec = anyLt dec.length fun i => decide (dec.getD i 0 < -1) || decide (p.t.outs ≤ dec.getD i 0)) := by exact rfl
  generalize (anyLt dec.length fun i => decide (dec.getD i 0 < -1) || decide (p.t.outs ≤ dec.getD i 0)) = rb at HCO HDB
  go_wp2_with fail
  refine HCO.out.mono ?_
  rintro e w3 ⟨rfl, hb3⟩
  have hb3' := ext_trans hb2' hb3
  have t3 := cell_block (block_up hb3 HA2.out)
  clear t2
  cases rb with
  | true =>
    go_wp2_with fail
    go_ret3
    refine ⟨ret_three ?_ ?_ ?_, hb3'⟩ <;> rw [HB.out, if_neg (by simp), if_neg (by have := HF.out; omega), if_neg (by simpa using HLN.out), if_pos HDB.out]
  | false =>
    go_wp2_with fail
    refine (newScene_any p _ _ _ _ _ _ _ _ word _ _ _ w3 (HU.out.up up_round hb3')).mono ?_
    rintro e w4 ⟨rfl, hb4⟩
    have hb4' := ext_trans hb3' hb4
    clear t3
    go_wp2_with fail
    obtain ⟨ht, ha, _⟩ := prob_ok HP.out
    refine (judge_any p _ _ (findE p.t inp) _ word _ dec w4 (HC.out.up up_case hb4') (HS.out.up up_moves hb4') (HU.out.up up_round hb4') (HD.out.up up_int hb4') hN ha (by have := (task_ok ht).1; omega) HLN.out (allowedS_ok ht _ _)).mono ?_
    rintro e w5 ⟨rfl, hb5⟩
    clear ht ha
    go_wp2_with fail
    go_ret3
    refine ⟨ret_three ?_ ?_ ?_, ext_trans hb4' hb5⟩ <;> rw [HB.out, if_neg (by simp), if_neg (by have := HF.out; omega), if_neg (by simpa using HLN.out), if_neg (by rw [HDB.out]; simp)]
end Go.Proofs.YtjmejfgkogjpaaaGreat
