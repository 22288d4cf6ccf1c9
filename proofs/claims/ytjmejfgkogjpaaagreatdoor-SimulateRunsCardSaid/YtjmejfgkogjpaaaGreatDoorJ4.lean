/-
  Parts of the proof, in order. Laws for 'for .. := range f' over an iterator that writes memory of its own between its rounds: the caller's side and the shape of such an iterator's contract. It proves nothing of the program. Contracts of the program's package round: number, pairs (an iterator), Word. Conditions: the arguments read as a word of rounds. Laws for 'for .. := range f' over an iterator that makes memory between its rounds and leans on it: the caller's side and the shape of such an iterator's contract. It proves nothing of the program. Contracts of the program's simulate.places (an iterator). Conditions: the arguments read as a word of rounds and a number of at most five processes. Contracts of the library's slices.Index and slices.Contains at integers, and of the program's machine.run (an iterator). Conditions: the arguments read as a machine without errors, inputs and a word that fit it. Contract of the iterator of the program's machine.run. Conditions: the arguments read as a machine without errors, inputs and a word that fit it. Contracts of the library's slices.Clone at []int and [][]int. Conditions: the argument reads as a list. Contracts of the program's package task: vector, unordered, has, vectors, Check. Conditions: the arguments read as lists. Contracts of the program's task.vectors and task.Check. Conditions: the arguments read as a task and a case. The contract of the program's task.Check. Conditions: the argument reads as a task. Plain facts on the processes that are obliged, and on what is to blame. It proves nothing of the program. Plain facts on tasks: which vectors a case allows, and how long its lists are in a task that passes its check. It proves nothing of the program. Contracts of the program's task.copied, task.allowed, task.place, task.Allowed. Conditions: the arguments read as a task. Contracts of the library's slices.AppendSeq and slices.Collect at messages, over an iterator that makes memory between its rounds. Conditions: the iterator's contract; it hands out at most 2^20 messages.
-/
import Derived.WalkSpells
import Derived.Laws.AppendOwnNone
import Derived.Test.YtjmejfgkogjpaaaGreatDoorJ3
namespace Go.Proofs.YtjmejfgkogjpaaaGreatDoor
open Go.RowKit Go Go.Shelf

/-- What a round owes such an iterator: its own blocks (from n on) and the blocks of S lie as they lay. -/
def Own (n : Nat) (S : Nat → Prop) (W W' : World) : Prop := W.heap.size ≤ W'.heap.size ∧ ∀ k, S k ∨ n ≤ k → k < W.heap.size → W'.heap[k]? = W.heap[k]?

/-- An iterator value: called, it hands out rounds 0, .., N-1 in turn (E tells of the arguments), till a round says 'no more'. Between two rounds it may make memory and write the memory that it made. -/
def SeqOwn (P : Program) (g : Nat) (lb : Array Value) (E : Nat → Array Value → Prop) (N : Nat) (S : Nat → Prop) (w : World) : Prop :=
  ∀ (l : Nat) (J Jx : Nat → World → Prop) (W : World), Below w.heap.size w W → l < W.heap.size →
    (∀ i A A', J i A → Below W.heap.size A A' → J i A') → (∀ i A A', Jx i A → Below W.heap.size A A' → Jx i A') →
    (∀ i W1 args, i < N → E i args → W.heap.size ≤ W1.heap.size → J i W1 → YieldAt Fence.wide 0 P l args W1 fun e W' =>
      Own W.heap.size S W1 W' ∧ ((e = .returned (.bool true) ∧ J (i + 1) W') ∨ (e = .returned (.bool false) ∧ Jx (i + 1) W'))) →
    J 0 W →
    Calls P g (#[.func (.yield l) #[] #[]] ++ lb) W fun e W' => (∃ v, e = .returned v) ∧ (J N W' ∨ ∃ i, i ≤ N ∧ Jx i W')

theorem Chg.belowN {B n : Nat} {A A' : World} (h : Chg B A A') (hn : n ≤ B) (hs : n ≤ A.heap.size) : Below n A A' := h.below hn hs (Below.refl _ _)

/-- 'for .. := range g { .. }' in a function's own body, over such an iterator. -/
theorem wp_rangeOwn {P : Program} {g : Operand} {ps : Array Tmp} {assign body : Code} {Q : Exit → Act → World → Prop} {a : Act} {w : World}
    {gf : Nat} {lb : Array Value} (hg : a.eval g = .func (.func gf) #[] lb) (eg : ∀ args w, (callFunc gf args).run P w = .ok (.enter gf args) w)
    {E : Nat → Array Value → Prop} {N : Nat} {S : Nat → Prop} {w0 : World} (hseq : SeqOwn P gf lb E N S w0) (hb0 : Below w0.heap.size w0 w) (hS : ∀ k, S k → k < w.heap.size) (hps : ∀ i args, E i args → args.size = ps.size)
    (I : Nat → World → Prop) (Ix : Code → Nat → World → Prop) (hI : ∀ i A A', I i A → Below w.heap.size A A' → I i A') (hIx : ∀ c i A A', Ix c i A → Below w.heap.size A A' → Ix c i A') (h0 : I 0 w)
    (hround : ∀ l i W args, i < N → w.heap.size < l → l < W.heap.size → E i args → I i W →
      assign.wpIn (Fence.wide.inRound l) 0 P (Exit.then (fun a1 W1 => Bod w.heap.size (fun k => (S k ∨ w.heap.size + 2 ≤ k) ∧ k < W.heap.size) W W1 ∧ ∃ Ax : World → Prop, Sta w.heap.size Ax ∧ Ax W1 ∧ ∀ W2, Ax W2 → (∃ r, W2.heap[l]? = some (.loop r)) → body.wpIn (Fence.wide.inRound l) 0 P (rpost w.heap.size (fun k => (S k ∨ w.heap.size + 2 ≤ k) ∧ k < W.heap.size) I Ix (i + 1) W2) a1 W2) (fun _ _ _ => False))
        { tmps := (ps.zip args).foldl (fun t (p, v) => t.setIfInBounds p v) a.tmps, defers := [] } W)
    (hdone : ∀ D W, w.heap.size ≤ D → I N W → W.heap[D]? = some (.deferred (some [])) → Q .normal { a with defers := markOf D :: a.defers } W)
    (hstop : ∀ D c i W, w.heap.size ≤ D → i ≤ N → Ix c i W → W.heap[D]? = some (.deferred (some [])) → c.wp P Q { a with defers := markOf D :: a.defers } W) :
    (Code.rangeFunc g ps assign body).wp P Q a w := by
  refine (wpIn_wide (n := 0)).1 (wpIn_rangeFunc ?_)
  intro fn _
  obtain ⟨rec, hrec⟩ : ∃ rec : Loop, rec = { state := .ready, pending := none, fn, tmps := a.tmps, params := ps, assign, body, defers := w.heap.size } := ⟨_, rfl⟩
  obtain ⟨W1, hW1⟩ : ∃ W1, (w.alloc (.deferred (some []))).alloc (.loop rec) = W1 := ⟨_, rfl⟩
  have hL1 : W1.heap[w.heap.size + 1]? = some (.loop rec) := by
    rw [← hW1]; have := alloc_new (w.alloc (.deferred (some []))) (.loop rec); rwa [World.size_alloc] at this
  have hK1 : W1.heap[w.heap.size]? = some (.deferred (some [])) := by rw [← hW1]; exact alloc_old _ (alloc_new w _)
  have hz1 : W1.heap.size = w.heap.size + 2 := by rw [← hW1]; simp
  have hwW1 : Below w.heap.size w W1 := by rw [← hW1]; exact ((Below.refl _ w).alloc (Nat.le_refl _) _).alloc (by simp) _
  have hS1 : ¬ S (w.heap.size + 1) := fun h => by have := hS _ h; omega
  have hlow : ∀ {A A' : World}, Below W1.heap.size A A' → Below w.heap.size A A' := fun h => h.mono (by omega)
  have hI1 : ∀ {i : Nat} {A A' : World}, Chg w.heap.size A A' → w.heap.size ≤ A.heap.size → I i A → I i A' := fun hc hs h => hI _ _ _ h (hc.belowN (Nat.le_refl _) hs)
  have hIx1 : ∀ {c : Code} {i : Nat} {A A' : World}, Chg w.heap.size A A' → w.heap.size ≤ A.heap.size → Ix c i A → Ix c i A' := fun hc hs h => hIx _ _ _ _ h (hc.belowN (Nat.le_refl _) hs)
  refine ⟨w.heap.size + 1, [markOf w.heap.size], W1, { target := .fn (.func gf) lb, args := #[.func (.yield (w.heap.size + 1)) #[] #[]] }, W1, gf,
    #[.func (.yield (w.heap.size + 1)) #[] #[]] ++ lb, W1, ?_, ?_, fun _ _ => trivial, ?_, fun h => (by simp [Fence.wide] at h), ?_⟩
  · rw [← hW1, hrec]; exact run_enterLoop_outer _ _ _ _ _
  · simp only [resolve, hg]
    simp [go_sem]
  · simp [invoke, go_sem, eg]
  · refine (callsIn_wide (n := 0 - 1)).2 ?_
    refine (hseq (w.heap.size + 1)
      (fun i W => I i W ∧ W.heap[w.heap.size + 1]? = some (.loop rec) ∧ W.heap[w.heap.size]? = some (.deferred (some [])))
      (fun i W => ∃ c, Ix c i W ∧ W.heap[w.heap.size + 1]? = some (.loop { rec with state := .done, pending := some c }) ∧ W.heap[w.heap.size]? = some (.deferred (some [])))
      W1 (ext_trans hb0 hwW1) (by omega)
      (fun i A A' h hb => ⟨hI i A A' h.1 (hlow hb), (hb.block _ (by omega)).trans h.2.1, (hb.block _ (by omega)).trans h.2.2⟩)
      (fun i A A' h hb => by obtain ⟨c, h1, h2, h3⟩ := h; exact ⟨c, hIx c i A A' h1 (hlow hb), (hb.block _ (by omega)).trans h2, (hb.block _ (by omega)).trans h3⟩)
      ?_ ⟨hI 0 _ _ h0 hwW1, hL1, hK1⟩).mono ?_
    · rintro i W args hi hE hsz ⟨hii, hl, hk⟩
      refine round_of (B := w.heap.size) (S := fun k => (S k ∨ w.heap.size + 2 ≤ k) ∧ k < W.heap.size) (ps := ps) (assign := assign) (body := body) (tmps := a.tmps) (i := i) (I := I) (Ix := Ix) _ (by omega) (fun h => by have := h.1; rcases this with h | h; exact hS1 h; omega) (by rw [hrec]; simp) hl (hps i args hE) (hround _ i W args hi (by omega) (by omega) hE hii) ?_ ?_
      · intro W3 W4 hs3 hb4 hl4 hc hi3 hoth
        exact ⟨⟨hb4.size, fun k hk hlt => hb4.keep k ⟨by rw [hz1] at hk; exact hk, hlt⟩⟩, .inl ⟨rfl, hI1 hc (by omega) hi3, hl4, hoth _ _ (Nat.le_refl _) (by omega) hk rfl⟩⟩
      · intro c W3 W4 hs3 hb4 hl4 hc hi3 hoth
        exact ⟨⟨hb4.size, fun k hk hlt => hb4.keep k ⟨by rw [hz1] at hk; exact hk, hlt⟩⟩, .inr ⟨rfl, c, hIx1 hc (by omega) hi3, hl4, hoth _ _ (Nat.le_refl _) (by omega) hk rfl⟩⟩
    · rintro e W2 ⟨⟨v, rfl⟩, (⟨hi, hl, hk⟩ | ⟨i, hin, c, hi, hl, hk⟩)⟩
      · have hl2 := block_lt hl
        exact ⟨none, _, by have := run_endLoop (P := P) hl (by rw [hrec]; simp); rw [this, hrec], hdone _ _ (Nat.le_refl _) (hI1 (Chg.put _ hl (by omega) rfl) (by omega) hi) ((World.putObj_heap_other (by omega)).trans hk)⟩
      · have hl2 := block_lt hl
        exact ⟨some c, _, by have := run_endLoop (P := P) hl (by simp); rw [this], wpIn_wide.2 (hstop _ c i _ (Nat.le_refl _) hin (hIx1 (Chg.put _ hl (by omega) rfl) (by omega) hi) ((World.putObj_heap_other (by omega)).trans hk))⟩

theorem callsIn_round {l n : Nat} {P : Program} {f : FuncId} {args : Array Value} {w : World} {R : Ending → World → Prop} (h : Calls P f args w R) : CallsIn (Fence.wide.inRound l) n P f args w R := (callsIn_wide (n := n)).2 h

theorem roundIn_round {l l' n : Nat} {P : Program} {f : FuncId} {tmps : Array Value} {assign body : Code} {w : World} {R : Ending → World → Prop} (h : RoundIn Fence.wide n P l f tmps assign body w R) : RoundIn (Fence.wide.inRound l') n P l f tmps assign body w R := h

end Go.Proofs.YtjmejfgkogjpaaaGreatDoor

namespace Go.Proofs.YtjmejfgkogjpaaaGreatDoor
open Go.RowKit Go Go.Shelf
attribute [local go_sem] Oper.semAt_some

abbrev Rd.c (r : Rd) : Array Value := #[.int .i64 r.g.n, .int .i64 r.g.h0, .int .i64 r.g.h1, .int .i64 r.g.h2, .int .i64 r.g.h3, .int .i64 r.g.h4, .int .i64 r.f]
theorem roundE_ok {r : Rd} (h : roundE r = 0) : 0 ≤ r.f ∧ r.f < 32 := by
  unfold roundE at h
  split at h
  · rename_i h1; exact absurd h h1
  · exact pset_ok h
theorem cell_results (tmps : Array Value) (f : Func) (s : Nat) (hf : f.results = #[.cell s 36]) (B : Nat) (W : World) (x : Int) (ty : TypeId) (h1 : tmps[s]?.getD undef = .pointer (some ⟨B, 0, none⟩)) (hb : W.heap[B]? = some (.cells #[.int .i64 x] ty)) :
    (results f tmps).run Tryz.prog W = .ok (.int .i64 x) W := by
  have c := cell_block hb 0
  simp at c
  simp [results, hf, go_sem, h1, c]

set_option maxHeartbeats 400000 in
theorem number_any (n : Int) (w : World) :
    Calls Tryz.prog 61 #[.int .i64 n] w fun e w' => e = .returned (.int .i64 (if n < 1 ∨ 5 < n then 1 else 0)) ∧ w = w' := by
  go_enter Tryz.func61, Tryz.ntmps61
  go_wp2
  all_goals
    go_ret
    refine ⟨ret_int ?_, rfl⟩
    go_light
    grind

set_option maxHeartbeats 400000 in
theorem pairs_any (p : Option Addr) (len cap : Nat) (w : World) :
    Calls Tryz.prog 62 #[.slice p len cap] w fun e w' => e = .returned (.func (.func 105) #[] #[.pointer (some ⟨w.heap.size, 0, none⟩)]) ∧ w' = w.alloc (.cells #[.slice p len cap] 29) := by
  go_enter Tryz.func62, Tryz.ntmps62
  go_wp2
  go_ret
  exact ⟨rfl, rfl⟩

def encW (l : List Rd) (i : Nat) : Array Value := #[.int .i64 (beforeF l i), (l.getD i default).v]
theorem beforeF_succ {l : List Rd} {k : Nat} (h : k < l.length) : beforeF l (k + 1) = l[k].f := by
  unfold beforeF
  rw [if_neg (by omega), show k + 1 - 1 = k by omega, getD_of_lt default h]

set_option maxHeartbeats 2000000 in
theorem pairs1_seq (wd : World) (v : Value) (l : List Rd) (hv : IsWord wd v l) (w : World) (hb : Below wd.heap.size wd w) (Bx : Nat) (hx : w.cell? ⟨Bx, 0, none⟩ = some v) :
    SeqOwn Tryz.prog 105 #[.pointer (some ⟨Bx, 0, none⟩)] (fun i args => args = encW l i) l.length (fun k => k < wd.heap.size) w := by
  intro yl J Jx W hW hyl hJ hJx hY h0
  have hx1 := cell_up hW hx
  have hk0 : Keep wd.heap.size wd W := (Keep.of_below hb).trans (fun k hk => hW.block k (Nat.lt_of_lt_of_le hk hb.size))
  have hwdW : wd.heap.size ≤ W.heap.size := Nat.le_trans hb.size hW.size
  obtain ⟨pa, ca, rfl, la1, la2, ea⟩ := hv.at
  clear hv hx hW hb
  have EA := Lib.hid ea; clear ea
  have HJ := Lib.hid hJ; clear hJ
  have HJX := Lib.hid hJx; clear hJx
  have HY := Lib.hid hY; clear hY
  refine (callsIn_wide (n := 0)).1 ?_
  refine callsIn_of_wp Tryz.func105 rfl trivial ?_ rfl
  simp only [Tryz.ntmps105, List.size_toArray, List.length_cons, List.length_nil, Nat.reduceAdd, Nat.reduceSub, Array.replicate_succ, Array.replicate_zero, List.push_toArray, List.append_toArray, List.nil_append, List.cons_append]
  gi_wp2
  gi_loopw [3, 8] (fun b i wr => ∃ k : Nat, k ≤ l.length ∧ b = .int .i64 (beforeF l k) ∧ i = .int .i64 k ∧ Keep wd.heap.size wd wr ∧ W.heap.size ≤ wr.heap.size ∧ J k wr) (fun _ i _ => l.length - (intOf i).toNat)
  case atStart => exact ⟨0, by omega, rfl, rfl, hk0, Nat.le_refl _, h0⟩
  case round =>
    obtain ⟨k, hk, rfl, rfl, hkr, hsz, hj⟩ := hrel
    have HKR := Lib.hid hkr; clear hkr
    have HJR := Lib.hid hj; clear hj
    by_cases hlt : k < l.length
    · obtain ⟨b1, o1, rfl, ⟨c0, _⟩, ⟨c1, _⟩, ⟨c2, _⟩, ⟨c3, _⟩, ⟨c4, _⟩, ⟨c5, _⟩, ⟨c6, _⟩⟩ := EA.out k hlt
      have d0 := HKR.out.cell c0
      have d1 := HKR.out.cell c1
      have d2 := HKR.out.cell c2
      have d3 := HKR.out.cell c3
      have d4 := HKR.out.cell c4
      have d5 := HKR.out.cell c5
      have d6 := HKR.out.cell c6
      clear c0 c1 c2 c3 c4 c5 c6
      have hg := getD_of_lt default hlt
      have HBS := Lib.hid (beforeF_succ hlt)
      generalize l[k] = r at d0 d1 d2 d3 d4 d5 d6 hg HBS
      have hsz1 : W.heap.size ≤ (wr.alloc (.cells r.c 49)).heap.size := by simp; omega
      obtain ⟨fn, tmps, assign, body, hy, hR⟩ := HY.out k (wr.alloc (.cells r.c 49)) _ hlt rfl hsz1 (HJ.out _ _ _ HJR.out ((Below.refl _ _).alloc hsz _))
      unfold encW at hy
      rw [hg] at hy
      have HR := Lib.hid hR; clear hR hg
      generalize beforeF l k = bf at hy
      gi_wp2
      refine ⟨rfl, HR.out.mono ?_⟩
      rintro e W3 ⟨hown, hend⟩
      have hB3 : W3.heap[wr.heap.size]? = some (.cells r.c 49) := (hown.2 _ (.inr hsz) (by simp)).trans (alloc_new _ _)
      have hz3 : W.heap.size ≤ W3.heap.size := Nat.le_trans hsz1 hown.1
      have HK3 : Hid (Keep wd.heap.size wd W3) := by
        (have h : Keep wd.heap.size wd W3 := Keep.trans (HKR.out.alloc _) (fun j hj => hown.2 j (.inl hj) (by omega))); exact h
      have t1 := cell_block hB3
      clear hown hB3 d0 d1 d2 d3 d4 d5 d6
      rcases hend with ⟨rfl, hJ3⟩ | ⟨rfl, hJx3⟩
      · have HJ3 := Lib.hid hJ3; clear hJ3
        gi_wp2
        go_roundw
        case rel => exact ⟨k + 1, by omega, by rw [HBS.out], by go_num, HK3.out, hz3, HJ3.out⟩
        case measure => simp [intOf]; omega
      · gi_wp2
        refine bodyPost_ret (results_none rfl _ _ _) rfl ?_
        exact ⟨⟨_, rfl⟩, .inr ⟨_, by omega, hJx3⟩⟩
    · obtain rfl : k = l.length := by omega
      gi_wp2
      go_end0
      exact ⟨⟨_, rfl⟩, .inl HJR.out⟩

set_option maxRecDepth 100000 in
set_option maxHeartbeats 4000000 in
theorem word_any (n : Int) (v : Value) (l : List Rd) (w : World) (hv : IsWord w v l) :
    Calls Tryz.prog 36 #[.int .i64 n, v] w fun e w' => e = .returned (.int .i64 (wordE n l)) ∧ Below w.heap.size w w' := by
  have G := Lib.hid hv
  obtain ⟨pa, ca, rfl, la1, la2, _⟩ := hv.at
  clear hv
  have HV : Hid (wordE n l = if n < 1 ∨ 5 < n then 1 else if 1024 < l.length then 5 else firstNZ l.length (wordRE n l)) := by exact rfl
  refine calls_marks Tryz.func36 rfl ?_
  simp only [Tryz.ntmps36, List.size_toArray, List.length_cons, List.length_nil, Nat.reduceAdd, Nat.reduceSub, Array.replicate_succ, Array.replicate_zero, List.push_toArray, List.append_toArray, List.nil_append, List.cons_append]
  go_wp2_with fail
  refine (number_any _ _).mono ?_
  rintro e w1 ⟨rfl, rfl⟩
  by_cases hn : n < 1 ∨ 5 < n
  · have HV1 : Hid (wordE n l = 1) := by (have h : wordE n l = 1 := by (rw [HV.out, if_pos hn])); exact h
    rw [if_pos hn]
    go_wp2_with fail
    refine marks_ret0 (cell_results _ _ 4 rfl (w.heap.size + 1) _ 1 36 rfl (alloc2_new _ _ _)) ?_
    exact ⟨ret_int HV1.out.symm, by go_grown⟩
  rw [if_neg hn]
  by_cases hl : 1024 < l.length
  · have HV1 : Hid (wordE n l = 5) := by (have h : wordE n l = 5 := by (rw [HV.out, if_neg hn, if_pos hl])); exact h
    go_wp2_with fail
    refine marks_ret0 (cell_results _ _ 4 rfl (w.heap.size + 1) _ 5 36 rfl (alloc2_new _ _ _)) ?_
    exact ⟨ret_int HV1.out.symm, by go_grown⟩
  have HV1 : Hid (wordE n l = firstNZ l.length (wordRE n l)) := by (have h : wordE n l = firstNZ l.length (wordRE n l) := by (rw [HV.out, if_neg hn, if_neg hl])); exact h
  clear HV hn
  go_wp2_with fail
  refine (pairs_any _ _ _ _).mono ?_
  rintro e w1 ⟨rfl, rfl⟩
  go_wp2_with fail
  refine wp_gen (fun W => Below w.heap.size w W ∧ W.heap[w.heap.size]? = some (.cells #[.int .i64 n] 3) ∧ W.heap[w.heap.size + 1]? = some (.cells #[.int .i64 0] 36) ∧ W.heap[w.heap.size + 1 + 1]? = some (.cells #[.slice pa l.length ca] 29))
    ⟨by go_grown, alloc_old _ (alloc_old _ (alloc_new _ _)), alloc_old _ (alloc2_new _ _ _), alloc3_new _ _ _ _⟩ (fun W0 hW0 => ?_)
  obtain ⟨hb0, hN, hR0, hX⟩ := hW0
  have hseq := pairs1_seq w _ l G.out W0 hb0 (w.heap.size + 1 + 1) (by simp [cell_block hX])
  have hsz := block_lt hX
  refine wp_rangeOwn (gf := 105) (lb := #[.pointer (some ⟨w.heap.size + 1 + 1, 0, none⟩)]) rfl (enters_of Tryz.func105 (by kernel_rfl) rfl) hseq (Below.refl _ _) (fun k hk => Nat.lt_of_lt_of_le hk hb0.size) (fun i args h => by rw [h]; rfl)
    (fun i W => Below w.heap.size w W ∧ W.heap[w.heap.size]? = some (.cells #[.int .i64 n] 3) ∧ W.heap[w.heap.size + 1]? = some (.cells #[.int .i64 0] 36) ∧ ∀ j, j < i → wordRE n l j = 0)
    (fun c _ W => c = .ret ∧ Below w.heap.size w W ∧ W.heap[w.heap.size + 1]? = some (.cells #[.int .i64 (wordE n l)] 36))
    (fun i A A' h hb => ⟨h.1.trans (hb.mono (by omega)), (hb.block _ (by omega)).trans h.2.1, (hb.block _ (by omega)).trans h.2.2.1, h.2.2.2⟩)
    (fun c i A A' h hb => ⟨h.1, h.2.1.trans (hb.mono (by omega)), (hb.block _ (by omega)).trans h.2.2⟩) ⟨hb0, hN, hR0, fun j hj => by omega⟩ ?round ?done ?stop
  case round =>
    rintro yl q W args hq hl2 hlw rfl hI
    unfold encW
    have HRE : Hid (wordRE n l q = if roundE (l.getD q default) ≠ 0 then roundE (l.getD q default) else if (l.getD q default).g.n ≠ n then 22 else if !insideB (beforeF l q) (l.getD q default).f then 14 else 0) := by exact rfl
    have hbf : 0 ≤ beforeF l q ∧ beforeF l q < 32 := by
      unfold beforeF
      split
      · omega
      · have h1 := hI.2.2.2 (q - 1) (by omega)
        unfold wordRE at h1
        split at h1
        · rename_i h2; exact absurd h1 h2
        · rename_i h2; exact roundE_ok (by simpa using h2)
    generalize l.getD q default = r at HRE
    generalize beforeF l q = bf at HRE hbf
    have HI := Lib.hid hI; clear hI hseq
    gi_wp2
    refine ⟨Bod.of_below (fun k hk => hk.2) (by go_grown), fun W' => Below w.heap.size w W' ∧ W'.heap[w.heap.size]? = some (.cells #[.int .i64 n] 3) ∧ W'.heap[w.heap.size + 1]? = some (.cells #[.int .i64 0] 36) ∧ W'.heap[W.heap.size]? = some (.cells r.c 49), (Sta.below (w := w) (by omega)).and (Sta.cells.and (Sta.cells.and Sta.cells)), ⟨HI.out.1.alloc HI.out.1.size _, alloc_old _ HI.out.2.1, alloc_old _ HI.out.2.2.1, alloc_new _ _⟩, fun W2 h2 _ => ?_⟩
    obtain ⟨g1, g2, g3, g4⟩ := h2
    have t4 := cell_block g4
    have HG := Lib.hid (And.intro g1 (And.intro g2 (And.intro g3 g4)))
    have HINV := Lib.hid HI.out.2.2.2
    have hsW := block_lt g4
    clear g1 g2 g3 g4 HI hN hR0 hX
    gi_wp2
    refine ⟨trivial, rfl, callsIn_round ((roundCheck_any r _).mono ?_)⟩
    rintro e w3 ⟨rfl, hb3⟩
    have g1 := ext_trans HG.out.1 hb3
    have g2 := block_up hb3 HG.out.2.1
    have g3 := block_up hb3 HG.out.2.2.1
    have g4 := block_up hb3 HG.out.2.2.2
    have hs3 := hb3.size
    have HB3 : Hid (Bod W0.heap.size (fun k => (k < w.heap.size ∨ W0.heap.size + 2 ≤ k) ∧ k < W.heap.size) W2 w3) := by
      (have h : Bod W0.heap.size (fun k => (k < w.heap.size ∨ W0.heap.size + 2 ≤ k) ∧ k < W.heap.size) W2 w3 := Bod.of_below (fun k hk => by have := hk.2; omega) hb3); exact h
    have HERR : Hid (∀ x : Int, x = wordRE n l q → x ≠ 0 → Bod W0.heap.size (fun k => (k < w.heap.size ∨ W0.heap.size + 2 ≤ k) ∧ k < W.heap.size) W2 (w3.setCell ⟨w.heap.size + 1, 0, none⟩ (.int .i64 x)) ∧ (Below w.heap.size w (w3.setCell ⟨w.heap.size + 1, 0, none⟩ (.int .i64 x)) ∧ (w3.setCell ⟨w.heap.size + 1, 0, none⟩ (.int .i64 x)).heap[w.heap.size + 1]? = some (.cells #[.int .i64 (wordE n l)] 36))) := by
      have h : ∀ x : Int, x = wordRE n l q → x ≠ 0 → Bod W0.heap.size (fun k => (k < w.heap.size ∨ W0.heap.size + 2 ≤ k) ∧ k < W.heap.size) W2 (w3.setCell ⟨w.heap.size + 1, 0, none⟩ (.int .i64 x)) ∧ (Below w.heap.size w (w3.setCell ⟨w.heap.size + 1, 0, none⟩ (.int .i64 x)) ∧ (w3.setCell ⟨w.heap.size + 1, 0, none⟩ (.int .i64 x)).heap[w.heap.size + 1]? = some (.cells #[.int .i64 (wordE n l)] 36)) := by
        intro x hx hx0
        refine ⟨HB3.out.trans (Bod.setCell _ ⟨w.heap.size + 1, 0, none⟩ _ (fun h => by dsimp only at h; omega)), g1.setCell (p := ⟨w.heap.size + 1, 0, none⟩) (by dsimp only; omega) _, ?_⟩
        rw [setCell_same g3, HV1.out, ← firstNZ_hit q x hq HINV.out hx.symm hx0]; rfl
      exact h
    have c2 := cell_block g2 0
    have c3 := cell_block g3 0
    have f3 := frozen_block g3 0
    simp at c2 c3
    clear t4
    have t4 := cell_block g4
    have HG3 := Lib.hid (And.intro g1 (And.intro g2 (And.intro g3 g4)))
    clear g1 g2 g3 g4 HG hb3
    by_cases h1 : roundE r = 0
    case neg =>
      have h1' : (roundE r != 0) = true := by simpa using h1
      gi_wp2
      have hh := HERR.out _ (by rw [HRE.out, if_pos h1]) h1
      exact ⟨hh.1, rfl, hh.2⟩
    have hok := roundE_ok h1
    rw [h1]
    by_cases h2 : r.g.n = n
    case neg =>
      have h2' : (r.g.n != n) = true := by simpa using h2
      have HE : Hid (22 = wordRE n l q) := by (have h : 22 = wordRE n l q := by (rw [HRE.out, if_neg (by simpa using h1), if_pos h2])); exact h
      gi_wp2
      have hh := HERR.out _ HE.out (by decide)
      exact ⟨hh.1, rfl, hh.2⟩
    have h2' : (r.g.n != n) = false := by simpa using h2
    have HE : Hid (wordRE n l q = if !insideB bf r.f then 14 else 0) := by (have h : wordRE n l q = if !insideB bf r.f then 14 else 0 := by (rw [HRE.out, if_neg (by simpa using h1), if_neg (by simpa using h2)])); exact h
    have hbit := andNot_inside bf r.f hbf.1 hbf.2 hok.1 hok.2
    clear h1 h2 HRE
    cases hin : insideB bf r.f with
    | false =>
      rw [hin] at hbit
      have HE2 : Hid (14 = wordRE n l q) := by (have h : 14 = wordRE n l q := by (rw [HE.out, hin]; rfl)); exact h
      clear hin
      gi_wp2
      have hh := HERR.out _ HE2.out (by decide)
      exact ⟨hh.1, rfl, hh.2⟩
    | true =>
      rw [hin] at hbit
      have HE2 : Hid (wordRE n l q = 0) := by (have h : wordRE n l q = 0 := by (rw [HE.out, hin]; rfl)); exact h
      clear hin
      gi_wp2
      exact ⟨HB3.out, HG3.out.1, HG3.out.2.1, HG3.out.2.2.1, below_succ HINV.out HE2.out⟩
  case done =>
    intro D W hD hI hK
    obtain ⟨g1, g2, g3, g4⟩ := hI
    have HG := Lib.hid (And.intro g1 (And.intro g2 (And.intro g3 g4)))
    have c3 := cell_block g3 0
    have f3 := frozen_block g3 0
    simp at c3
    clear g1 g2 g3 g4 hseq hN hR0 hX
    go_wp2_with fail
    refine marks_ret (setCell_other (B := w.heap.size + 1) hK (by omega) _ _) (cell_results _ _ 4 rfl (w.heap.size + 1) _ 0 36 rfl ((World.putObj_heap_other (by omega)).trans (by rw [setCell_same HG.out.2.2.1]; rfl))) ?_
    exact ⟨ret_int (by rw [HV1.out, firstNZ_zero _ _ HG.out.2.2.2]), below_put (by omega) (HG.out.1.setCell (p := ⟨w.heap.size + 1, 0, none⟩) (by dsimp only; omega) _)⟩
  case stop =>
    rintro D c i W hD hi ⟨rfl, g1, g2⟩ hK
    have HG := Lib.hid (And.intro g1 g2)
    clear g1 g2 hseq hN hR0 hX
    go_wp2_with fail
    refine marks_ret hK (cell_results _ _ 4 rfl (w.heap.size + 1) _ (wordE n l) 36 rfl ((World.putObj_heap_other (by omega)).trans HG.out.2)) ?_
    exact ⟨rfl, below_put (by omega) HG.out.1⟩
end Go.Proofs.YtjmejfgkogjpaaaGreatDoor

namespace Go.Proofs.YtjmejfgkogjpaaaGreatDoor
open Go.RowKit Go Go.Shelf

/-- T' has what T has, and else new blocks alone. -/
def Wid (A A' : World) (T T' : Nat → Prop) : Prop := (∀ k, T k → T' k) ∧ ∀ k, T' k → T k ∨ (A.heap.size ≤ k ∧ k < A'.heap.size)
theorem Wid.refl (A A' : World) (T : Nat → Prop) : Wid A A' T T := ⟨fun _ h => h, fun _ h => .inl h⟩

/-- An iterator value: called, it hands out rounds 0, .., N-1 in turn (E tells of the arguments), till a round says 'no more'. It leans on the blocks of T, at first those of S; between two rounds it makes memory, which T may take in, and turns nothing that lay there. -/
def SeqMk (P : Program) (g : Nat) (lb : Array Value) (E : Nat → Array Value → (Nat → Prop) → World → Prop) (N : Nat) (S : Nat → Prop) (w : World) : Prop :=
  ∀ (l : Nat) (J Jx : Nat → (Nat → Prop) → World → Prop) (W : World), Below w.heap.size w W → l < W.heap.size →
    (∀ i T T' A A', J i T A → Below A.heap.size A A' → Wid A A' T T' → J i T' A') → (∀ i T T' A A', Jx i T A → Below A.heap.size A A' → Wid A A' T T' → Jx i T' A') →
    (∀ i T W1 args, i < N → E i args T W1 → J i T W1 → YieldAt Fence.wide 0 P l args W1 fun e W' =>
      W1.heap.size ≤ W'.heap.size ∧ (∀ k, T k → W'.heap[k]? = W1.heap[k]?) ∧ ((e = .returned (.bool true) ∧ J (i + 1) T W') ∨ (e = .returned (.bool false) ∧ Jx (i + 1) T W'))) →
    J 0 S W →
    Calls P g (#[.func (.yield l) #[] #[]] ++ lb) W fun e W' => (∃ v, e = .returned v) ∧ ∃ T, J N T W' ∨ ∃ i, i ≤ N ∧ Jx i T W'

/-- An iterator that makes nothing to lean on. -/
theorem SeqIx.mk {P : Program} {g : Nat} {lb : Array Value} {encs : Nat → Array Value} {N : Nat} {S : Nat → Prop} {w : World} (h : SeqIx P g lb encs N S w) : SeqMk P g lb (fun i args _ _ => args = encs i) N S w := by
  intro l J Jx W hW _ hJ hJx hY h0
  refine (h l (fun i => J i S) (fun i => Jx i S) W hW (fun i A A' hj hb => hJ i S S A A' hj hb (Wid.refl _ _ _)) (fun i A A' hj hb => hJx i S S A A' hj hb (Wid.refl _ _ _)) (fun i W1 hi hj => ?_) h0).mono ?_
  · obtain ⟨fn, tmps, assign, body, hy, hR⟩ := hY i S W1 _ hi rfl hj
    refine ⟨fn, tmps, assign, body, hy, hR.mono ?_⟩
    rintro e W' ⟨h1, h2, h3⟩
    rcases h3 with ⟨rfl, h3⟩ | ⟨rfl, h3⟩
    · exact .inl ⟨rfl, h3, h1, h2⟩
    · exact .inr ⟨rfl, h3⟩
  · rintro e W' ⟨h1, h2⟩
    exact ⟨h1, S, h2⟩

/-- 'for .. := range g { .. }' in a function's own body, over such an iterator. -/
theorem wp_rangeMk {P : Program} {g : Operand} {ps : Array Tmp} {assign body : Code} {Q : Exit → Act → World → Prop} {a : Act} {w : World}
    {gf : Nat} {lb : Array Value} (hg : a.eval g = .func (.func gf) #[] lb) (eg : ∀ args w, (callFunc gf args).run P w = .ok (.enter gf args) w)
    {E : Nat → Array Value → (Nat → Prop) → World → Prop} {N : Nat} {S : Nat → Prop} {w0 : World} (hseq : SeqMk P gf lb E N S w0) (hb0 : Below w0.heap.size w0 w) (hS : ∀ k, S k → k < w.heap.size) (hps : ∀ i args T W, E i args T W → args.size = ps.size)
    (I : Nat → (Nat → Prop) → World → Prop) (Ix : Code → Nat → (Nat → Prop) → World → Prop)
    (hI : ∀ i T T' A A', I i T A → Chg w.heap.size A A' → Wid A A' T T' → I i T' A') (hIx : ∀ c i T T' A A', Ix c i T A → Chg w.heap.size A A' → Wid A A' T T' → Ix c i T' A') (h0 : I 0 S w)
    (hround : ∀ l i T W args, i < N → w.heap.size < l → l < W.heap.size → ¬ T l → E i args T W → I i T W →
      assign.wpIn (Fence.wide.inRound l) 0 P (Exit.then (fun a1 W1 => Bod w.heap.size T W W1 ∧ ∃ Ax : World → Prop, Sta w.heap.size Ax ∧ Ax W1 ∧ ∀ W2, Ax W2 → (∃ r, W2.heap[l]? = some (.loop r)) → body.wpIn (Fence.wide.inRound l) 0 P (rpost w.heap.size T (fun i => I i T) (fun c i => Ix c i T) (i + 1) W2) a1 W2) (fun _ _ _ => False))
        { tmps := (ps.zip args).foldl (fun t (p, v) => t.setIfInBounds p v) a.tmps, defers := [] } W)
    (hdone : ∀ D T W, w.heap.size ≤ D → I N T W → W.heap[D]? = some (.deferred (some [])) → Q .normal { a with defers := markOf D :: a.defers } W)
    (hstop : ∀ D c i T W, w.heap.size ≤ D → i ≤ N → Ix c i T W → W.heap[D]? = some (.deferred (some [])) → c.wp P Q { a with defers := markOf D :: a.defers } W) :
    (Code.rangeFunc g ps assign body).wp P Q a w := by
  refine (wpIn_wide (n := 0)).1 (wpIn_rangeFunc ?_)
  intro fn _
  obtain ⟨rec, hrec⟩ : ∃ rec : Loop, rec = { state := .ready, pending := none, fn, tmps := a.tmps, params := ps, assign, body, defers := w.heap.size } := ⟨_, rfl⟩
  obtain ⟨W1, hW1⟩ : ∃ W1, (w.alloc (.deferred (some []))).alloc (.loop rec) = W1 := ⟨_, rfl⟩
  have hL1 : W1.heap[w.heap.size + 1]? = some (.loop rec) := by
    rw [← hW1]; have := alloc_new (w.alloc (.deferred (some []))) (.loop rec); rwa [World.size_alloc] at this
  have hK1 : W1.heap[w.heap.size]? = some (.deferred (some [])) := by rw [← hW1]; exact alloc_old _ (alloc_new w _)
  have hz1 : W1.heap.size = w.heap.size + 2 := by rw [← hW1]; simp
  have hwW1 : Below w.heap.size w W1 := by rw [← hW1]; exact ((Below.refl _ w).alloc (Nat.le_refl _) _).alloc (by simp) _
  have hS1 : ¬ S (w.heap.size + 1) := fun h => by have := hS _ h; omega
  refine ⟨w.heap.size + 1, [markOf w.heap.size], W1, { target := .fn (.func gf) lb, args := #[.func (.yield (w.heap.size + 1)) #[] #[]] }, W1, gf,
    #[.func (.yield (w.heap.size + 1)) #[] #[]] ++ lb, W1, ?_, ?_, fun _ _ => trivial, ?_, fun h => (by simp [Fence.wide] at h), ?_⟩
  · rw [← hW1, hrec]; exact run_enterLoop_outer _ _ _ _ _
  · simp only [resolve, hg]
    simp [go_sem]
  · simp [invoke, go_sem, eg]
  · refine (callsIn_wide (n := 0 - 1)).2 ?_
    refine (hseq (w.heap.size + 1)
      (fun i T W => I i T W ∧ W.heap[w.heap.size + 1]? = some (.loop rec) ∧ W.heap[w.heap.size]? = some (.deferred (some [])) ∧ ¬ T (w.heap.size + 1))
      (fun i T W => ∃ c, Ix c i T W ∧ W.heap[w.heap.size + 1]? = some (.loop { rec with state := .done, pending := some c }) ∧ W.heap[w.heap.size]? = some (.deferred (some [])))
      W1 (ext_trans hb0 hwW1) (by omega)
      (fun i T T' A A' h hb hw => ⟨hI i T T' A A' h.1 (.of_below hb) hw, block_up hb h.2.1, block_up hb h.2.2.1, fun ht => by
        rcases hw.2 _ ht with h1 | h1
        · exact h.2.2.2 h1
        · have := block_lt h.2.1; have := h1.1; omega⟩)
      (fun i T T' A A' h hb hw => by obtain ⟨c, h1, h2, h3⟩ := h; exact ⟨c, hIx c i T T' A A' h1 (.of_below hb) hw, block_up hb h2, block_up hb h3⟩)
      ?_ ⟨hI 0 S S _ _ h0 (.of_below hwW1) (Wid.refl _ _ _), hL1, hK1, hS1⟩).mono ?_
    · rintro i T W args hi hE ⟨hii, hl, hk, hT⟩
      refine round_of (B := w.heap.size) (S := T) (ps := ps) (assign := assign) (body := body) (tmps := a.tmps) (i := i) (I := fun i => I i T) (Ix := fun c i => Ix c i T) _ (by omega) hT (by rw [hrec]; simp) hl (hps i args T W hE) (hround _ i T W args hi (by omega) (block_lt hl) hT hE hii) ?_ ?_
      · intro W3 W4 _ hb4 hl4 hc hi3 hoth
        exact ⟨hb4.size, hb4.keep, .inl ⟨rfl, hI _ _ _ _ _ hi3 hc (Wid.refl _ _ _), hl4, hoth _ _ (Nat.le_refl _) (by omega) hk rfl, hT⟩⟩
      · intro c W3 W4 _ hb4 hl4 hc hi3 hoth
        exact ⟨hb4.size, hb4.keep, .inr ⟨rfl, c, hIx _ _ _ _ _ _ hi3 hc (Wid.refl _ _ _), hl4, hoth _ _ (Nat.le_refl _) (by omega) hk rfl⟩⟩
    · rintro e W2 ⟨⟨v, rfl⟩, T, (⟨hi, hl, hk, _⟩ | ⟨i, hin, c, hi, hl, hk⟩)⟩
      · exact ⟨none, _, by have := run_endLoop (P := P) hl (by rw [hrec]; simp); rw [this, hrec], hdone _ T _ (Nat.le_refl _) (hI _ _ _ _ _ hi (Chg.put _ hl (by omega) rfl) (Wid.refl _ _ _)) ((World.putObj_heap_other (by omega)).trans hk)⟩
      · exact ⟨some c, _, by have := run_endLoop (P := P) hl (by simp); rw [this], wpIn_wide.2 (hstop _ c i T _ (Nat.le_refl _) hin (hIx _ _ _ _ _ _ hi (Chg.put _ hl (by omega) rfl) (Wid.refl _ _ _)) ((World.putObj_heap_other (by omega)).trans hk))⟩

end Go.Proofs.YtjmejfgkogjpaaaGreatDoor

namespace Go.Proofs.YtjmejfgkogjpaaaGreatDoor
open Go.RowKit Go Go.Shelf
attribute [local go_sem] Oper.semAt_some

theorem placeAt_eq (n : Nat) (word : List Rd) (k p q : Nat) (hp : p < 5) (hq : q < 5) : placeAt n word (k * 25 + p * 5 + q) =
    if p < n ∧ q < n ∧ p ≠ q ∧ hasB ((word.getD k default).g.hear q) p = true then some (k, p, q) else none := by
  unfold placeAt
  rw [show (k * 25 + p * 5 + q) / 25 = k by omega, show (k * 25 + p * 5 + q) / 5 % 5 = p by omega, show (k * 25 + p * 5 + q) % 5 = q by omega]
theorem places_q (n : Nat) (word : List Rd) (k p : Nat) (hp : p < 5) (hn : n ≤ 5) : placesTo n word (k * 25 + p * 5 + n) = placesTo n word (k * 25 + (p + 1) * 5) := by
  unfold placesTo
  refine (filtR_skip (by omega) fun j h1 h2 => ?_).symm
  obtain ⟨q, rfl⟩ : ∃ q, j = k * 25 + p * 5 + q := ⟨j - (k * 25 + p * 5), by omega⟩
  rw [placeAt_eq n word k p q hp (by omega), if_neg (by omega)]
theorem places_p (n : Nat) (word : List Rd) (k : Nat) (hn : n ≤ 5) : placesTo n word (k * 25 + n * 5) = placesTo n word ((k + 1) * 25) := by
  unfold placesTo
  refine (filtR_skip (by omega) fun j h1 h2 => ?_).symm
  obtain ⟨p, q, hq, rfl⟩ : ∃ p q, q < 5 ∧ j = k * 25 + p * 5 + q := ⟨(j - k * 25) / 5, (j - k * 25) % 5, by omega, by omega⟩
  rw [placeAt_eq n word k p q (by omega) hq, if_neg (by omega)]
theorem places_skip {n : Nat} {word : List Rd} {k p q : Nat} (hp : p < 5) (hq : q < 5) (h : p = q ∨ hasB ((word.getD k default).g.hear q) p = false) : placesTo n word (k * 25 + p * 5 + (q + 1)) = placesTo n word (k * 25 + p * 5 + q) := by
  unfold placesTo
  rw [show k * 25 + p * 5 + (q + 1) = k * 25 + p * 5 + q + 1 by omega]
  refine filtR_none ?_
  rw [placeAt_eq n word k p q hp hq, if_neg]
  rintro ⟨_, _, h1, h2⟩
  rcases h with h | h
  · exact h1 h
  · rw [h] at h2; cases h2
theorem places_hit {n : Nat} {word : List Rd} {k p q : Nat} (hn : n ≤ 5) (hp : p < n) (hq : q < n) (hpq : p ≠ q) (h : hasB ((word.getD k default).g.hear q) p = true) :
    placesTo n word (k * 25 + p * 5 + (q + 1)) = placesTo n word (k * 25 + p * 5 + q) ++ [(k, p, q)] := by
  unfold placesTo
  rw [show k * 25 + p * 5 + (q + 1) = k * 25 + p * 5 + q + 1 by omega]
  refine filtR_some ?_
  rw [placeAt_eq n word k p q (by omega) (by omega), if_pos ⟨hp, hq, hpq, h⟩]
theorem places_at {n : Nat} {word : List Rd} {k p q : Nat} (hn : n ≤ 5) (hk : k < word.length) (hp : p < n) (hq : q < n) (hpq : p ≠ q) (h : hasB ((word.getD k default).g.hear q) p = true) :
    (placesL n word)[(placesTo n word (k * 25 + p * 5 + q)).length]? = some (k, p, q) := by
  unfold placesL placesTo
  refine filtR_at (by omega) ?_
  rw [placeAt_eq n word k p q (by omega) (by omega), if_pos ⟨hp, hq, hpq, h⟩]
theorem hear_cellR (r : Rd) (q : Nat) (hq : q < 5) (w : World) (B : Nat) (t : TypeId) (hw : w.heap[B]? = some (.cells r.c t)) : w.cell? ⟨B, 1 + q, none⟩ = some (.int .i64 (r.g.hear q)) := by
  have : q = 0 ∨ q = 1 ∨ q = 2 ∨ q = 3 ∨ q = 4 := by omega
  rcases this with h | h | h | h | h <;> subst h <;> simp [World.cell?, hw, Gr.hear]

set_option maxHeartbeats 400000 in
theorem places_any (n : Int) (p : Option Addr) (len cap : Nat) (w : World) :
    Calls Tryz.prog 20 #[.int .i64 n, .slice p len cap] w fun e w' => e = .returned (.func (.func 45) #[] #[.pointer (some ⟨w.heap.size + 1, 0, none⟩), .pointer (some ⟨w.heap.size, 0, none⟩)]) ∧ w' = (w.alloc (.cells #[.int .i64 n] 3)).alloc (.cells #[.slice p len cap] 29) := by
  go_enter Tryz.func20, Tryz.ntmps20
  go_wp2
  go_ret
  exact ⟨rfl, rfl⟩

def encP (x : Nat × Nat × Nat) : Array Value := #[.agg #[.int .i64 x.1, .int .i64 x.2.1, .int .i64 x.2.2, .string ⟨#[]⟩]]

/-- Between two rounds. -/
structure PI (wd : World) (By n : Nat) (J : Nat → (Nat → Prop) → World → Prop) (c : Nat) (T : Nat → Prop) (W : World) : Prop where
  sub : ∀ k, k < wd.heap.size ∨ k = By → T k
  keep : Keep wd.heap.size wd W
  nb : W.heap[By]? = some (.cells #[.int .i64 n] 3)
  j : J c T W
theorem PI.next {wd : World} {By n : Nat} {J : Nat → (Nat → Prop) → World → Prop} {c : Nat} {T : Nat → Prop} {W W' : World} (h : PI wd By n J c T W) (ho : ∀ k, T k → W'.heap[k]? = W.heap[k]?) (hj : J (c + 1) T W') : PI wd By n J (c + 1) T W' :=
  ⟨h.sub, h.keep.trans fun k hk => ho k (h.sub k (.inl hk)), (ho By (h.sub By (.inr rfl))).trans h.nb, hj⟩

set_option maxRecDepth 100000 in
set_option maxHeartbeats 4000000 in
theorem places1_seq (wd : World) (v : Value) (word : List Rd) (hv : IsWord wd v word) (n : Nat) (hn : n ≤ 5) (w : World) (hb : Below wd.heap.size wd w) (Bx By : Nat) (hx : w.cell? ⟨Bx, 0, none⟩ = some v) (hy : w.heap[By]? = some (.cells #[.int .i64 n] 3)) :
    SeqMk Tryz.prog 45 #[.pointer (some ⟨Bx, 0, none⟩), .pointer (some ⟨By, 0, none⟩)] (fun i args _ _ => args = encP ((placesL n word).getD i (0, 0, 0))) (placesL n word).length (fun k => k < wd.heap.size ∨ k = By) w := by
  intro yl J Jx W hW hyl hJ hJx hY h0
  have hx1 := cell_up hW hx
  have hk0 : Keep wd.heap.size wd W := (Keep.of_below hb).trans (fun k hk => hW.block k (Nat.lt_of_lt_of_le hk hb.size))
  have hy1 := block_up hW hy
  obtain ⟨pa, ca, rfl, la1, la2, ea⟩ := hv.at
  clear hv hx hW hb hy
  have EA := Lib.hid ea; clear ea
  have HJ := Lib.hid hJ; clear hJ
  have HJX := Lib.hid hJx; clear hJx
  have HY := Lib.hid hY; clear hY
  have HY1 := Lib.hid hy1; clear hy1
  refine (callsIn_wide (n := 0)).1 ?_
  refine callsIn_of_wp Tryz.func45 rfl trivial ?_ rfl
  simp only [Tryz.ntmps45, List.size_toArray, List.length_cons, List.length_nil, Nat.reduceAdd, Nat.reduceSub, Array.replicate_succ, Array.replicate_zero, List.push_toArray, List.append_toArray, List.nil_append, List.cons_append]
  gi_wp2
  gi_loopw [10] (fun i wr => ∃ k : Nat, k ≤ word.length ∧ i = .int .i64 k ∧ ∃ T, PI wd By n J (placesTo n word (k * 25)).length T wr) (fun i _ => word.length - (intOf i).toNat)
  case atStart => exact ⟨0, by omega, rfl, _, fun _ h => h, hk0, HY1.out, h0⟩
  case round =>
    obtain ⟨k, hk, rfl, T0, hpi⟩ := hrel
    have HPI := Lib.hid hpi; clear hpi
    by_cases hlt : k < word.length
    · obtain ⟨b1, o1, rfl, ⟨c0, _⟩, ⟨c1, _⟩, ⟨c2, _⟩, ⟨c3, _⟩, ⟨c4, _⟩, ⟨c5, _⟩, ⟨c6, _⟩⟩ := EA.out k hlt
      have d0 := HPI.out.keep.cell c0
      have d1 := HPI.out.keep.cell c1
      have d2 := HPI.out.keep.cell c2
      have d3 := HPI.out.keep.cell c3
      have d4 := HPI.out.keep.cell c4
      have d5 := HPI.out.keep.cell c5
      have d6 := HPI.out.keep.cell c6
      clear c0 c1 c2 c3 c4 c5 c6
      have HG := Lib.hid (getD_of_lt default hlt)
      generalize word[k] = r at d0 d1 d2 d3 d4 d5 d6 HG
      have cn := cell_block HPI.out.nb 0
      simp at cn
      have hby := block_lt HPI.out.nb
      gi_wp2
      clear d0 d1 d2 d3 d4 d5 d6 cn
      have hA : Below wr.heap.size wr (wr.alloc (.cells r.c 49)) := by go_grown
      have HP1 : Hid (PI wd By n J (placesTo n word (k * 25)).length (fun x => T0 x ∨ x = wr.heap.size) (wr.alloc (.cells r.c 49))) := by
        (have h : PI wd By n J (placesTo n word (k * 25)).length (fun x => T0 x ∨ x = wr.heap.size) (wr.alloc (.cells r.c 49)) := ⟨fun x hx => .inl (HPI.out.sub x hx), HPI.out.keep.alloc _, alloc_old _ HPI.out.nb, HJ.out _ _ _ _ _ HPI.out.j hA ⟨fun x hx => .inl hx, fun x hx => by rcases hx with hx | hx; exact .inl hx; exact .inr (by simp; omega)⟩⟩); exact h
      have HR1 := Lib.hid (alloc_new wr (.cells r.c 49))
      clear HPI hA
      obtain ⟨B5, hB5⟩ : ∃ B5, B5 = wr.heap.size := ⟨_, rfl⟩
      rw [← hB5] at HR1 HP1 ⊢
      obtain ⟨W0, hW0⟩ : ∃ W0 : World, W0 = wr.alloc (.cells r.c 49) := ⟨_, rfl⟩
      rw [← hW0] at HP1 HR1 ⊢
      clear hB5 hW0 hby
      clear wr
      gi_loopw [16] (fun i wr => ∃ p : Nat, p ≤ n ∧ i = .int .i64 p ∧ wr.heap[B5]? = some (.cells r.c 49) ∧ ∃ T, T B5 ∧ PI wd By n J (placesTo n word (k * 25 + p * 5)).length T wr) (fun i _ => n - (intOf i).toNat)
      case atStart => exact ⟨0, by omega, rfl, HR1.out, _, .inr rfl, HP1.out⟩
      case round =>
        clear HR1 HP1
        obtain ⟨p, hp, rfl, hr5, T1, hT1, hpi⟩ := hrel
        have HR5 := Lib.hid hr5; clear hr5
        have HPI := Lib.hid hpi; clear hpi
        have cn := cell_block HPI.out.nb 0
        simp at cn
        by_cases hpn : p < n
        · gi_wp2
          clear cn
          obtain ⟨W1, hW1⟩ : ∃ W1 : World, W1 = wr := ⟨_, rfl⟩
          rw [← hW1] at HPI HR5 ⊢
          clear hW1 wr
          gi_loopw [20] (fun i wr => ∃ q : Nat, q ≤ n ∧ i = .int .i64 q ∧ wr.heap[B5]? = some (.cells r.c 49) ∧ ∃ T, T B5 ∧ PI wd By n J (placesTo n word (k * 25 + p * 5 + q)).length T wr) (fun i _ => n - (intOf i).toNat)
          case atStart => exact ⟨0, by omega, rfl, HR5.out, T1, hT1, HPI.out⟩
          case round =>
            clear HR5 HPI
            obtain ⟨q, hq, rfl, hr5, T2, hT2, hpi⟩ := hrel
            have HR5 := Lib.hid hr5; clear hr5
            have HPI := Lib.hid hpi; clear hpi
            by_cases hqn : q < n
            · by_cases hpq : p = q
              · subst hpq
                gi_wp2
                refine ⟨fun _ h => (by cases h), ?_⟩
                gi_wp2
                go_roundw
                case rel => exact ⟨p + 1, by omega, by go_num, HR5.out, T2, hT2, by rw [places_skip (by omega) (by omega) (.inl rfl)]; exact HPI.out⟩
                case measure => simp [intOf]; omega
              · have hpq' : ((p : Int) != (q : Int)) = true := by simp; omega
                have ch := hear_cellR r q (by omega) wr B5 _ HR5.out
                have hbit := hasB_and1' (r.g.hear q) p
                have hq5 : q < 5 := by omega
                cases hb : hasB (r.g.hear q) p with
                | false =>
                  have HB : Hid (hasB ((word.getD k default).g.hear q) p = false) := by (have h : hasB ((word.getD k default).g.hear q) p = false := by (rw [HG.out]; exact hb)); exact h
                  rw [hb] at hbit
                  clear hb
                  generalize r.g.hear q = hv at ch hbit
                  gi_wp2
                  refine ⟨fun _ h => (by cases h), ?_⟩
                  gi_wp2
                  go_roundw
                  case rel => exact ⟨q + 1, by omega, by go_num, HR5.out, T2, hT2, by rw [places_skip (by omega) (by omega) (.inr HB.out)]; exact HPI.out⟩
                  case measure => simp [intOf]; omega
                | true =>
                  have HB : Hid (hasB ((word.getD k default).g.hear q) p = true) := by (have h : hasB ((word.getD k default).g.hear q) p = true := by (rw [HG.out]; exact hb)); exact h
                  rw [hb] at hbit
                  clear hb
                  generalize r.g.hear q = hv at ch hbit
                  have hat := places_at hn hlt hpn hqn hpq HB.out
                  have HHIT := Lib.hid (places_hit hn hpn hqn hpq HB.out)
                  obtain ⟨fn, tmps, assign, body, hy, hR⟩ := HY.out (placesTo n word (k * 25 + p * 5 + q)).length T2 wr _ (List.getElem?_eq_some_iff.1 hat).1 rfl HPI.out.j
                  have hen : encP ((placesL n word).getD (placesTo n word (k * 25 + p * 5 + q)).length (0, 0, 0)) = #[.agg #[.int .i64 k, .int .i64 p, .int .i64 q, .string ⟨#[]⟩]] := by rw [List.getD_eq_getElem?_getD, hat]; rfl
                  rw [hen] at hy
                  have HR := Lib.hid hR; clear hR hen
                  have hle := (List.getElem?_eq_some_iff.1 hat).1
                  clear hat
                  gi_wp2
                  refine ⟨rfl, HR.out.mono ?_⟩
                  rintro e W3 ⟨_, hown, (⟨rfl, hJ3⟩ | ⟨rfl, hJx3⟩)⟩
                  · have hr3 : W3.heap[B5]? = some (.cells r.c 49) := (hown B5 hT2).trans HR5.out
                    have hp3 := HPI.out.next hown hJ3
                    have H3 := Lib.hid (And.intro hr3 hp3)
                    clear hown hJ3 hr3 hp3 ch
                    gi_wp2
                    go_roundw
                    case rel => exact ⟨q + 1, by omega, by go_num, H3.out.1, T2, hT2, by rw [HHIT.out, List.length_append]; exact H3.out.2⟩
                    case measure => simp [intOf]; omega
                  · clear ch
                    gi_wp2
                    refine bodyPost_ret (results_none rfl _ _ _) rfl ?_
                    exact ⟨⟨_, rfl⟩, T2, .inr ⟨_, by omega, hJx3⟩⟩
            · obtain rfl : q = n := by omega
              gi_wp2
              go_roundw
              case rel => exact ⟨p + 1, by omega, by go_num, HR5.out, T2, hT2, by rw [← places_q q word k p (by omega) hn]; exact HPI.out⟩
              case measure => simp [intOf]; omega
        · obtain rfl : p = n := by omega
          gi_wp2
          go_roundw
          case rel => exact ⟨k + 1, by omega, by go_num, T1, by rw [← places_p p word k hn]; exact HPI.out⟩
          case measure => simp [intOf]; omega
    · obtain rfl : k = word.length := by omega
      gi_wp2
      go_end0
      exact ⟨⟨_, rfl⟩, T0, .inl HPI.out.j⟩
end Go.Proofs.YtjmejfgkogjpaaaGreatDoor

namespace Go.Proofs.YtjmejfgkogjpaaaGreatDoor
open Go.RowKit Go Go.Shelf
attribute [local go_sem] Oper.semAt_some

set_option maxHeartbeats 1000000 in
theorem indexInts_any (v : Value) (l : List Int) (x : Int) (w : World) (hv : IsInts w v l) :
    Calls Tryz.prog 115 #[v, .int .i64 x] w fun e w' => e = .returned (.int .i64 (firstIx l.length fun i => decide (x = l.getD i 0))) ∧ Below w.heap.size w w' := by
  obtain ⟨pa, ca, rfl, la1, la2, ea⟩ := hv.at
  have EA := Lib.hid ea
  clear hv ea
  generalize hr : (firstIx l.length fun i => decide (x = l.getD i 0)) = r
  have HR := Lib.hid hr
  clear hr
  go_enter Tryz.func115, Tryz.ntmps115
  go_wp2
  go_loop [8] (fun i => ∃ k : Nat, k ≤ l.length ∧ i = .int .i64 k ∧ ∀ j, j < k → decide (x = l.getD j 0) = false) (fun i => l.length - (intOf i).toNat)
  case atStart => exact ⟨0, by omega, rfl, by simp⟩
  case round =>
    obtain ⟨k, hk, rfl, hinv⟩ := hrel
    have H := Lib.hid hinv; clear hinv
    by_cases hlt : k < l.length
    · obtain ⟨b1, o1, rfl, h1⟩ := EA.out k hlt
      rw [Nat.mul_one] at h1
      have c1 := h1.1
      have HG := Lib.hid (getD_of_lt 0 hlt)
      clear h1
      generalize l[k] = y at c1 HG
      by_cases hxy : x = y
      · subst hxy
        go_wp2
        go_ret
        exact ⟨ret_int (by rw [← HR.out, firstIx_at _ k _ hlt H.out (by rw [HG.out]; simp)]), Below.refl _ _⟩
      · have hxy' : (x == y) = false := by simpa using hxy
        have HX : Hid (decide (x = l.getD k 0) = false) := by (have h : decide (x = l.getD k 0) = false := by (rw [HG.out]; simpa using hxy)); exact h
        clear hxy
        go_wp2
        go_round
        case rel => exact ⟨k + 1, by omega, by go_num, below_succ H.out HX.out⟩
        case measure => simp [intOf]; omega
    · go_wp2
      go_ret
      exact ⟨ret_int (by rw [← HR.out, firstIx_none]; intro j hj; exact H.out j (by omega)), Below.refl _ _⟩
theorem anyLt_contains (l : List Int) (x : Int) : (anyLt l.length fun i => decide (x = l.getD i 0)) = l.contains x := by
  rw [Bool.eq_iff_iff, anyLt_iff, List.contains_iff_mem]
  constructor
  · rintro ⟨k, hk, h⟩
    simp only [decide_eq_true_eq] at h
    rw [getD_of_lt 0 hk] at h
    rw [h]; exact List.getElem_mem hk
  · intro h
    obtain ⟨k, hk, rfl⟩ := List.getElem_of_mem h
    exact ⟨k, hk, by rw [getD_of_lt 0 hk]; simp⟩
set_option maxHeartbeats 1000000 in
theorem containsInts_any (v : Value) (l : List Int) (x : Int) (w : World) (hv : IsInts w v l) :
    Calls Tryz.prog 82 #[v, .int .i64 x] w fun e w' => e = .returned (.bool (l.contains x)) ∧ Below w.heap.size w w' := by
  have HC := Lib.hid (indexInts_any v l x w hv)
  have HA : Hid (l.contains x = decide (0 ≤ firstIx l.length fun i => decide (x = l.getD i 0))) := by (have h : l.contains x = decide (0 ≤ firstIx l.length fun i => decide (x = l.getD i 0)) := by (rw [firstIx_any, anyLt_contains])); exact h
  generalize (firstIx l.length fun i => decide (x = l.getD i 0)) = r at HC HA
  obtain ⟨pa, ca, rfl, _⟩ := hv.at
  clear hv
  go_enter Tryz.func82, Tryz.ntmps82
  go_wp2_with fail
  refine HC.out.mono ?_
  rintro e w1 ⟨rfl, hb1⟩
  go_wp2_with fail
  go_ret
  exact ⟨ret_bool HA.out.symm, hb1⟩

/-- cells of numbers -/
def intsC (l : List Int) : Array Value := (l.map (Value.int .i64)).toArray
def fC (n : Nat) (f : Nat → Int) (q : Nat) : Array Value := ((List.range n).map fun j => Value.int .i64 (if j < q then f j else 0)).toArray
theorem fC_size (n : Nat) (f : Nat → Int) (q : Nat) : (fC n f q).size = n := by simp [fC]
theorem fC_get (n : Nat) (f : Nat → Int) (q j : Nat) (hj : j < n) : (fC n f q)[j]? = some (.int .i64 (if j < q then f j else 0)) := by simp [fC, hj]
theorem fC_set (n : Nat) (f : Nat → Int) (q : Nat) (hq : q < n) : (fC n f q).setIfInBounds q (.int .i64 (f q)) = fC n f (q + 1) := by
  apply Array.ext_getElem?
  intro j
  rw [Array.getElem?_setIfInBounds]
  by_cases hj : j < n
  · rw [fC_get _ _ _ _ hj, fC_get _ _ _ _ hj]
    by_cases e : q = j
    · subst e; rw [if_pos rfl, if_pos (by rw [fC_size]; exact hj), if_pos (by omega)]
    · rw [if_neg e]
      by_cases h : j < q
      · rw [if_pos h, if_pos (by omega)]
      · rw [if_neg h, if_neg (by omega)]
  · have h1 : (fC n f q)[j]? = none := by rw [Array.getElem?_eq_none]; rw [fC_size]; omega
    have h2 : (fC n f (q + 1))[j]? = none := by rw [Array.getElem?_eq_none]; rw [fC_size]; omega
    rw [h1, h2, if_neg (by omega)]
theorem fC_all (n : Nat) (f : Nat → Int) : fC n f n = intsC ((List.range n).map f) := by
  unfold fC intsC
  rw [List.map_map]
  congr 1
  refine List.map_congr_left fun j hj => ?_
  rw [if_pos (List.mem_range.1 hj)]; rfl
theorem made_fC (f : Nat → Int) (n : Nat) : madeCells (Value.int .i64 0).cells n = fC n f 0 := by
  apply Array.ext
  · simp [madeCells, fC]
  · intro i h1 h2
    simp [madeCells, fC, Value.cells, Nat.mod_one]
theorem make_ints (f : Nat → Int) (n : Nat) (hn : n ≤ 256) (w : World) : (Instr.makeSlice 28 (.int .i64 (n : Int)) (.int .i64 (n : Int))).run Tryz.prog w = .ok (.slice (some ⟨w.heap.size, 0, none⟩) n n) (w.alloc (.cells (fC n f 0) 3)) := by
  have hinfo : (Tryz.prog.info? 3).map (fun i => (i.zero, i.size, i.bytes)) = some (some (.int .i64 0), 1, 8) := by kernel_rfl
  obtain ⟨i, hi, hz0, hz1, hz2⟩ := info_parts hinfo
  have := run_make (P := Tryz.prog) w 28 3 i (.int .i64 0) Tryz.underlying28 hi hz0 .i64 .i64 (n : Int) (n : Int) (by omega) (by omega) (by rw [hz2]; omega) (by omega)
  rw [this, hz1, Nat.mul_one]
  simp only [Int.toNat_natCast, made_fC f]
theorem now_ints {W : World} {B : Nat} {now : List Int} {n : Nat} (hl : now.length = n) (hn : n ≤ 256) (h : W.heap[B]? = some (.cells (intsC now) 3)) (hr : ∀ i, i < now.length → InR (now.getD i 0)) : IsInts W (.slice (some ⟨B, 0, none⟩) n n) now := by
  subst hl
  refine ⟨some ⟨B, 0, none⟩, now.length, rfl, ⟨Nat.le_refl _, by omega, fun e => by cases e⟩, by omega, fun i x hx => ⟨B, 0, rfl, ?_⟩⟩
  obtain ⟨hi, rfl⟩ := List.getElem?_eq_some_iff.1 hx
  refine ⟨?_, ?_⟩
  · rw [cell_block h, Nat.zero_add, Nat.mul_one]
    simp [intsC, hi]
  · have := hr i hi
    rwa [getD_of_lt 0 hi] at this

set_option maxRecDepth 100000 in
set_option maxHeartbeats 400000 in
theorem run_any (m : Mac) (pf : Option Addr) (nf cf : Nat) (py : Option Addr) (ny cy : Nat) (pt : Option Addr) (nt ct : Nat) (po : Option Addr) (no co : Nat) (pi : Option Addr) (ni ci : Nat) (pw : Option Addr) (nw cw : Nat) (w : World) :
    Calls Tryz.prog 44 #[.agg (macC m (.slice pf nf cf) (.slice py ny cy) (.slice pt nt ct) (.slice po no co)), .slice pi ni ci, .slice pw nw cw] w fun e w' => e = .returned (.func (.func 81) #[] #[.pointer (some ⟨w.heap.size, 0, none⟩), .pointer (some ⟨w.heap.size + 1, 0, none⟩), .pointer (some ⟨w.heap.size + 1 + 1, 0, none⟩)]) ∧
      w' = ((w.alloc (.cells (macC m (.slice pf nf cf) (.slice py ny cy) (.slice pt nt ct) (.slice po no co)) 27)).alloc (.cells #[.slice pi ni ci] 28)).alloc (.cells #[.slice pw nw cw] 29) := by
  go_enter Tryz.func44, Tryz.ntmps44
  go_wp2
  go_ret
  exact ⟨rfl, rfl⟩
end Go.Proofs.YtjmejfgkogjpaaaGreatDoor

namespace Go.Proofs.YtjmejfgkogjpaaaGreatDoor
open Go.RowKit Go Go.Shelf
attribute [local go_sem] Oper.semAt_some

/-- What the iterator hands out. -/
def EN (L : List (List Int)) (n n0 : Nat) (i : Nat) (args : Array Value) (T : Nat → Prop) (W : World) : Prop :=
  ∃ b, args = #[.slice (some ⟨b, 0, none⟩) n n] ∧ T b ∧ n0 ≤ b ∧ W.heap[b]? = some (.cells (intsC (L.getD i [])) 3)

/-- Between two rounds. -/
structure RI (m : Mac) (n n0 : Nat) (wd : World) (S : Nat → Prop) (Bm : Nat) (mc : Array Value) (L : List (List Int)) (J : Nat → (Nat → Prop) → World → Prop) (k : Nat) (now : List Int) (Bn Bs : Nat) (T : Nat → Prop) (W : World) : Prop where
  sub : ∀ x, S x → T x
  keep : Keep wd.heap.size wd W
  mb : W.heap[Bm]? = some (.cells mc 27)
  tn : T Bn
  nb : n0 ≤ Bn
  nw : W.heap[Bn]? = some (.cells (intsC now) 3)
  ts : T Bs
  map : GMapIs Pl.v W Bs (stepsF m.steps)
  lat : L[k]? = some now
  fits : Fits m n k now
  j : J (k + 1) T W
theorem fits_in {m : Mac} {n k : Nat} {now : List Int} (h : Fits m n k now) (hl : ∀ p, p < n → ((m.out.getD k []).getD p []).length ≤ 17592186044416) : ∀ i, i < now.length → InR (now.getD i 0) := fun i hi => by
  have h1 := h.1
  have h2 := h.2 i (by omega)
  have h3 := hl i (by omega)
  unfold InR
  omega
theorem v3_len {w : World} {v : Value} {l : List (List (List Int))} (h : IsV3 w v l) (k p : Nat) (hk : k < l.length) (hp : p < (l.getD k []).length) : ((l.getD k []).getD p []).length ≤ 17592186044416 := by
  obtain ⟨a, c, _, _, _, e⟩ := h.at
  obtain ⟨b, o, _, x, _, hx⟩ := e k hk
  rw [getD_of_lt [] hk] at hp ⊢
  obtain ⟨a2, c2, _, _, _, e2⟩ := hx.at
  obtain ⟨b2, o2, _, y, _, hy⟩ := e2 p hp
  rw [getD_of_lt [] hp]
  obtain ⟨_, _, _, _, h5, _⟩ := hy.at
  exact h5

set_option maxRecDepth 100000 in
set_option maxHeartbeats 8000000 in
theorem run1_seq (m : Mac) (n r : Nat) (g : Good m n r) (vf vy vt vo vi vw : Value) (inputs : List Int) (word : List Rd) (wd : World) (hf : IsVecs wd vf m.first) (hy : IsV4 wd vy m.syms) (ht : IsSteps wd vt m.steps) (ho : IsV3 wd vo m.out) (hi : IsInts wd vi inputs) (hw : IsWord wd vw word)
    (hil : inputs.length = n) (hir : ∀ p, p < n → 0 ≤ inputs.getD p 0 ∧ inputs.getD p 0 < m.ins) (hwe : wordE n word = 0) (hwl : word.length = r) (w : World) (hb : Below wd.heap.size wd w) (Bm Bi Bw : Nat)
    (hm : w.heap[Bm]? = some (.cells (macC m vf vy vt vo) 27)) (hbi : w.heap[Bi]? = some (.cells #[vi] 28)) (hbw : w.heap[Bw]? = some (.cells #[vw] 29)) :
    SeqMk Tryz.prog 81 #[.pointer (some ⟨Bm, 0, none⟩), .pointer (some ⟨Bi, 0, none⟩), .pointer (some ⟨Bw, 0, none⟩)] (EN (runL m inputs word) n w.heap.size) (runL m inputs word).length (fun k => k < wd.heap.size ∨ k = Bm ∨ k = Bi ∨ k = Bw) w := by
  generalize hL : runL m inputs word = L
  have HLE := Lib.hid hL
  clear hL
  intro yl J Jx W hW hyl hJ hJx hY h0
  have hwW := hW.size
  have hm1 := block_up hW hm
  have hbi1 := block_up hW hbi
  have hbw1 := block_up hW hbw
  have hbW := ext_trans hb hW
  clear hm hbi hbw hW hb
  have HF := Lib.hid hf
  have HY' := Lib.hid hy
  have HT := Lib.hid ht
  have HO := Lib.hid ho
  have HI := Lib.hid hi
  have HW := Lib.hid hw
  obtain ⟨pf, cf, rfl, lf1, lf2, ef⟩ := hf.at
  obtain ⟨py, cy, rfl, _⟩ := hy.at
  obtain ⟨pt, ct, rfl, _⟩ := ht.at
  obtain ⟨po, co, rfl, _⟩ := ho.at
  obtain ⟨pi, ci, rfl, li1, li2, ei⟩ := hi.at
  obtain ⟨pw, cw, rfl, lw1, lw2, ew⟩ := hw.at
  have EF := Lib.hid ef
  have EI := Lib.hid ei
  have EW := Lib.hid ew
  have HIL := Lib.hid hil
  have HIR := Lib.hid hir
  have HWE := Lib.hid hwe
  have HWL := Lib.hid hwl
  have HG := Lib.hid g
  have HJ := Lib.hid hJ; clear hJ
  have HJX := Lib.hid hJx; clear hJx
  have HY := Lib.hid hY; clear hY
  have H0 := Lib.hid h0
  have HM1 := Lib.hid hm1
  have hn5 := g.n5
  have t1 := cell_block hm1
  have ci1 := cell_block hbi1 0
  simp at ci1
  have CI1 := Lib.hid ci1
  have HBI := Lib.hid hbi1
  have hlbi := block_lt hbi1
  have hlbm := block_lt hm1
  have hlbw := block_lt hbw1
  have HBW := Lib.hid hbw1
  obtain ⟨f, hfd⟩ : ∃ f : Nat → Int, f = fun p => (m.first.getD p []).getD (inputs.getD p 0).toNat 0 := ⟨_, rfl⟩
  have HFD := Lib.hid hfd
  have HFS : Hid (firstS m inputs = (List.range n).map f) := by (have h : firstS m inputs = (List.range n).map f := by (unfold firstS; rw [hfd, g.hn, Int.toNat_natCast])); exact h
  have hmk : ∀ w, (Instr.makeSlice 28 (.int .i64 m.n) (.int .i64 m.n)).run Tryz.prog w = .ok (.slice (some ⟨w.heap.size, 0, none⟩) n n) (w.alloc (.cells (fC n f 0) 3)) := fun w => by rw [g.hn]; exact make_ints f n (by omega) w
  clear hf hy ht ho hi hw ef ei ew hil hir hwe hwl g h0 hm1 hfd hbi1 hbw1
  refine (callsIn_wide (n := 0)).1 ?_
  refine callsIn_of_wp Tryz.func81 rfl trivial ?_ rfl
  simp only [Tryz.ntmps81, List.size_toArray, List.length_cons, List.length_nil, Nat.reduceAdd, Nat.reduceSub, Array.replicate_succ, Array.replicate_zero, List.push_toArray, List.append_toArray, List.nil_append, List.cons_append]
  gi_wp2
  clear hmk
  gi_loopw [20] (fun i wr => ∃ p : Nat, p ≤ inputs.length ∧ i = .int .i64 p ∧ Below W.heap.size W wr ∧ wr.heap[W.heap.size]? = some (.cells (fC n f p) 3)) (fun i _ => inputs.length - (intOf i).toNat)
  case atStart => exact ⟨0, by omega, rfl, by go_grown, alloc_new _ _⟩
  case round =>
    clear t1 ci1
    obtain ⟨p, hp, rfl, hbr, hfc⟩ := hrel
    have hs := block_lt hfc
    have t1 := cell_block (block_up hbr HM1.out)
    by_cases hlt : p < inputs.length
    · have hpn : p < n := by have := HIL.out; omega
      have hpf : p < m.first.length := by rw [HG.out.fl]; exact hpn
      have hv := HIR.out p hpn
      have hfl := HG.out.fp p hpn
      obtain ⟨b1, o1, rfl, c1, r1⟩ := EI.out p hlt
      obtain ⟨b2, o2, rfl, x, c2, hx⟩ := EF.out p hpf
      rw [Nat.mul_one] at c1 c2
      obtain ⟨p2, q2, rfl, l1, l2, e2⟩ := hx.at
      rw [getD_of_lt [] hpf] at hfl
      rw [getD_of_lt 0 hlt] at hv
      obtain ⟨v, hvv⟩ : ∃ v : Nat, inputs[p] = v := ⟨inputs[p].toNat, by omega⟩
      have hvl : v < m.first[p].length := by omega
      obtain ⟨b3, o3, rfl, c3, r3⟩ := e2 v hvl
      clear r1 r3
      rw [Nat.mul_one] at c3
      rw [hvv] at c1
      have d1 := cell_up (ext_trans hbW hbr) c1
      have d2 := cell_up (ext_trans hbW hbr) c2
      have d3 := cell_up (ext_trans hbW hbr) c3
      have HV : Hid (f p = m.first[p][v]) := by (have h : f p = m.first[p][v] := by (rw [HFD.out]; dsimp only; rw [getD_of_lt [] hpf, getD_of_lt 0 hlt, hvv, Int.toNat_natCast, getD_of_lt 0 hvl])); exact h
      generalize m.first[p][v] = y at d3 HV c3
      generalize m.first[p].length = lf at d2 l1 l2 hfl hvl c2
      have cq := cell_block hfc p
      rw [fC_get _ _ _ _ hpn, if_neg (by omega)] at cq
      have fq := frozen_block hfc p
      have HFC := Lib.hid hfc
      have hz1 : b1 ≠ W.heap.size := by have := cell_lt c1; have := hbW.size; dsimp only at *; omega
      have HBR := Lib.hid hbr
      clear hfc hx c1 c2 c3 e2 hvv hv
      gi_wp2
      go_roundw
      case rel => exact ⟨p + 1, by omega, by go_num, HBR.out.setCell (p := ⟨W.heap.size, p, none⟩) (by simp) _, by rw [setCell_same HFC.out, ← HV.out, fC_set n f p hpn]⟩
      case measure => simp [intOf]; omega
    · obtain rfl : p = inputs.length := by omega
      rw [HIL.out, fC_all, ← HFS.out] at hfc
      have hfsl : (firstS m inputs).length = n := by rw [HFS.out]; simp
      have HFC := Lib.hid hfc
      have HBR := Lib.hid hbr
      have hins : ∀ i, i < (firstS m inputs).length → InR ((firstS m inputs).getD i 0) := fun i hi => by
        have hi' : i < n := by omega
        have e : (firstS m inputs).getD i 0 = (m.first.getD i []).getD (inputs.getD i 0).toNat 0 := by rw [HFS.out, HFD.out]; simp [hi']
        have h1 := HIR.out i hi'
        have h2 := HG.out.fp i hi'
        have h3 := HG.out.fr i (inputs.getD i 0).toNat hi' (by omega)
        have h4 := v3_len HO.out 0 i (by rw [HG.out.ol]; omega) (by rw [HG.out.ok 0 (by omega)]; exact hi')
        rw [e]; unfold InR; omega
      have HCON := Lib.hid (containsInts_any _ (firstS m inputs) (-1) wr (now_ints hfsl (by omega) hfc hins))
      have HRL : Hid (L = if (firstS m inputs).contains (-1) then [] else runFrom m 0 (firstS m inputs) word) := by (have h : L = if (firstS m inputs).contains (-1) then [] else runFrom m 0 (firstS m inputs) word := by (rw [← HLE.out]; rfl)); exact h
      have HFIT : Hid ((firstS m inputs).contains (-1) = false → Fits m n 0 (firstS m inputs)) := by (have h : (firstS m inputs).contains (-1) = false → Fits m n 0 (firstS m inputs) := fun h => firstS_fits HG.out HIL.out HIR.out h); exact h
      clear hfc hins t1
      gi_wp2
      refine ⟨trivial, rfl, callsIn_wide.2 (HCON.out.mono ?_)⟩
      rintro e w1 ⟨rfl, hb1⟩
      have hbW1 := ext_trans HBR.out hb1
      have hfc1 := block_up hb1 HFC.out
      generalize hcb : (firstS m inputs).contains (-1) = cb at HRL HFIT
      clear hcb HCON
      cases cb with
      | true =>
        have HL0 : Hid (L.length = 0) := by (have h : L.length = 0 := by (rw [HRL.out]; rfl)); exact h
        clear HY HRL
        gi_wp2
        refine ⟨fun _ h => (by cases h), ?_⟩
        gi_wp2
        refine bodyPost_ret (results_none rfl _ _ _) rfl ?_
        exact ⟨⟨_, rfl⟩, _, .inl (by rw [HL0.out]; exact HJ.out _ _ _ _ _ H0.out hbW1 (Wid.refl _ _ _))⟩
      | false =>
        have HL : Hid (L = runFrom m 0 (firstS m inputs) word) := by (have h : L = runFrom m 0 (firstS m inputs) word := by (rw [HRL.out]; rfl)); exact h
        have hfit := HFIT.out rfl
        have HL0 : Hid (L[0]? = some (firstS m inputs)) := by (have h : L[0]? = some (firstS m inputs) := by (rw [HL.out]; exact runFrom_head _ _ _ _)); exact h
        clear HRL HFIT
        have hl0 : 0 < L.length := (List.getElem?_eq_some_iff.1 HL0.out).1
        obtain ⟨fn, tmps, assign, body, hy, hR⟩ := HY.out 0 (fun x => (x < wd.heap.size ∨ x = Bm ∨ x = Bi ∨ x = Bw) ∨ x = W.heap.size) w1 #[.slice (some ⟨W.heap.size, 0, none⟩) n n] hl0 ⟨_, rfl, .inr rfl, hwW, by rw [List.getD_eq_getElem?_getD, HL0.out]; exact hfc1⟩ (HJ.out _ _ _ _ _ H0.out hbW1 ⟨fun x hx => .inl hx, fun x hx => by
          rcases hx with hx | hx
          · exact .inl hx
          · have := block_lt hfc1; exact .inr (by omega)⟩)
        have HR := Lib.hid hR
        have HFC1 := Lib.hid hfc1
        have HFITS := Lib.hid hfit
        clear hR hfc1 hfit
        gi_wp2
        refine ⟨rfl, HR.out.mono ?_⟩
        rintro e W3 ⟨hs3, hk3, (⟨rfl, hJ3⟩ | ⟨rfl, hJx3⟩)⟩
        case inr =>
          clear HY
          gi_wp2
          refine bodyPost_ret (results_none rfl _ _ _) rfl ?_
          exact ⟨⟨_, rfl⟩, _, .inr ⟨_, by omega, hJx3⟩⟩
        have hm3 := (hk3 Bm (.inl (.inr (.inl rfl)))).trans (block_up hbW1 HM1.out)
        have hw3 := (hk3 Bw (.inl (.inr (.inr (.inr rfl))))).trans (block_up hbW1 HBW.out)
        have hn3 := (hk3 W.heap.size (.inr rfl)).trans HFC1.out
        have hkd3 : Keep wd.heap.size wd W3 := fun k hk => by
          rw [hk3 k (.inl (.inl hk))]
          exact (ext_trans hbW hbW1).block k hk
        have t3 := cell_block hm3
        have HJ3 := Lib.hid hJ3
        have HM3 := Lib.hid hm3
        have HN3 := Lib.hid hn3
        have HKD3 := Lib.hid hkd3
        have HW3 := Lib.hid hw3
        clear hm3 hw3 hn3 hkd3 hJ3 hk3 hs3 HR HFC1 hb1 HL0 H0
        have hst := HT.out.ck up_step HKD3.out.ck
        have HST := Lib.hid (steps_any m pf m.first.length cf py m.syms.length cy (.slice pt m.steps.length ct) po m.out.length co W3 hst HG.out.diff HG.out.len)
        gi_wp2
        refine ⟨trivial, rfl, callsIn_wide.2 (HST.out.mono ?_)⟩
        rintro e w4 ⟨bs, rfl, hmap, hbs, hb4⟩
        have hw4 := block_up hb4 HW3.out
        have cw4 := cell_block hw4 0
        simp at cw4
        have hRI : RI m n w.heap.size wd (fun x => x < wd.heap.size ∨ x = Bm ∨ x = Bi ∨ x = Bw) Bm (macC m (.slice pf m.first.length cf) (.slice py m.syms.length cy) (.slice pt m.steps.length ct) (.slice po m.out.length co)) L J 0 (firstS m inputs) W.heap.size bs (fun x => ((x < wd.heap.size ∨ x = Bm ∨ x = Bi ∨ x = Bw) ∨ x = W.heap.size) ∨ x = bs) w4 :=
          ⟨fun x hx => .inl (.inl hx), HKD3.out.trans (fun k hk => hb4.block k (by have h1 : wd.heap[k]? = some wd.heap[k] := Array.getElem?_eq_getElem hk; exact block_lt ((HKD3.out k hk).trans h1))), block_up hb4 HM3.out, .inl (.inr rfl), hwW, block_up hb4 HN3.out, .inr rfl, hmap,
            by rw [HL.out]; exact runFrom_head _ _ _ _, HFITS.out, HJ.out _ _ _ _ _ HJ3.out hb4 ⟨fun x hx => .inl hx, fun x hx => by
              rcases hx with hx | hx
              · exact .inl hx
              · have := hmap.lt; exact .inr (by omega)⟩⟩
        have HRI := Lib.hid hRI
        clear hRI hmap hbs t3 hst hw4 HJ3 HM3 HN3 HKD3 HW3 HFITS hb4 HST
        gi_wp2
        clear cw4
        obtain ⟨W5, hW5⟩ : ∃ W5 : World, W5 = w4 := ⟨_, rfl⟩
        rw [← hW5] at HRI ⊢
        clear hW5 hy hbW1 hbr HBR HFC hs
        clear w4 W3 w1 wr
        gi_loopw [5, 49] (fun v i wr => ∃ (k : Nat) (now : List Int) (Bn : Nat) (T : Nat → Prop), k ≤ word.length ∧ i = .int .i64 k ∧ v = .slice (some ⟨Bn, 0, none⟩) n n ∧ RI m n w.heap.size wd (fun x => x < wd.heap.size ∨ x = Bm ∨ x = Bi ∨ x = Bw) Bm (macC m (.slice pf m.first.length cf) (.slice py m.syms.length cy) (.slice pt m.steps.length ct) (.slice po m.out.length co)) L J k now Bn bs T wr) (fun _ i _ => word.length - (intOf i).toNat)
        case atStart => exact ⟨0, _, _, _, by omega, rfl, rfl, HRI.out⟩
        case round =>
          clear HRI W5
          obtain ⟨k, now, Bn, T, hk, rfl, rfl, hri⟩ := hrel
          have HRI := Lib.hid hri
          clear hri
          have HSTEP := Lib.hid (fun (hk : k < word.length) => runFrom_step m 0 (firstS m inputs) word k now (by rw [← HL.out]; exact HRI.out.lat) hk)
          rw [← HL.out, Nat.zero_add] at HSTEP
          by_cases hlt : k < word.length
          · obtain ⟨b1, o1, rfl, ⟨c0, _⟩, ⟨c1, _⟩, ⟨c2, _⟩, ⟨c3, _⟩, ⟨c4, _⟩, ⟨c5, _⟩, ⟨c6, _⟩⟩ := EW.out k hlt
            have d0 := HRI.out.keep.cell c0
            have d1 := HRI.out.keep.cell c1
            have d2 := HRI.out.keep.cell c2
            have d3 := HRI.out.keep.cell c3
            have d4 := HRI.out.keep.cell c4
            have d5 := HRI.out.keep.cell c5
            have d6 := HRI.out.keep.cell c6
            clear c0 c1 c2 c3 c4 c5 c6
            have hstep := HSTEP.out hlt
            generalize word[k] = rd at d0 d1 d2 d3 d4 d5 d6 hstep
            have HS2 := Lib.hid hstep
            clear hstep HSTEP
            obtain ⟨f2, hf2⟩ : ∃ f2 : Nat → Int, f2 = fun p => (nextP m k now rd p).getD 0 := ⟨_, rfl⟩
            have HF2 := Lib.hid hf2
            clear hf2
            have hmk : ∀ w, (Instr.makeSlice 28 (.int .i64 m.n) (.int .i64 m.n)).run Tryz.prog w = .ok (.slice (some ⟨w.heap.size, 0, none⟩) n n) (w.alloc (.cells (fC n f2 0) 3)) := fun w => by rw [HG.out.hn]; exact make_ints f2 n (by omega) w
            have t1 := cell_block HRI.out.mb
            have hlm := block_lt HRI.out.mb
            have hlm' : Bm < wr.heap.size + 1 := by omega
            gi_wp2
            clear hmk t1 d0 d1 d2 d3 d4 d5 d6 hlm'
            obtain ⟨W6, hW6⟩ : ∃ W6 : World, W6 = (wr.alloc (.cells rd.c 49)).alloc (.cells (fC n f2 0) 3) := ⟨_, rfl⟩
            rw [← hW6]
            have HW6 : Hid (Below wr.heap.size wr W6 ∧ W6.heap[wr.heap.size]? = some (.cells rd.c 49) ∧ W6.heap[wr.heap.size + 1]? = some (.cells (fC n f2 0) 3)) := by
              (have h : Below wr.heap.size wr W6 ∧ W6.heap[wr.heap.size]? = some (.cells rd.c 49) ∧ W6.heap[wr.heap.size + 1]? = some (.cells (fC n f2 0) 3) := by (rw [hW6]; exact ⟨by go_grown, alloc_old _ (alloc_new _ _), alloc2_new _ _ _⟩)); exact h
            clear hW6
            obtain ⟨V0, hV0⟩ : ∃ V0 : World, V0 = wr := ⟨_, rfl⟩
            rw [← hV0] at HRI HW6 hlm ⊢
            clear hV0
            clear wr
            gi_loopw [59] (fun i wr => ∃ p : Nat, p ≤ n ∧ i = .int .i64 p ∧ Below V0.heap.size V0 wr ∧ wr.heap[V0.heap.size]? = some (.cells rd.c 49) ∧ wr.heap[V0.heap.size + 1]? = some (.cells (fC n f2 p) 3) ∧ ∀ j, j < p → (nextP m k now rd j).isNone = false) (fun i _ => n - (intOf i).toNat)
            case atStart => exact ⟨0, by omega, rfl, HW6.out.1, HW6.out.2.1, HW6.out.2.2, by simp⟩
            case round =>
              clear HW6 W6
              obtain ⟨p, hp, rfl, hbr, hrd, hnx, hsome⟩ := hrel
              have HBR := Lib.hid hbr
              have HRD := Lib.hid hrd
              have HNX := Lib.hid hnx
              have HSOME := Lib.hid hsome
              clear hbr hrd hnx hsome
              by_cases hpn : p < n
              · have hear := hear_cellR rd p (by omega) wr V0.heap.size _ HRD.out
                have hkr : k < r := by have := HWL.out; omega
                have hnow : IsInts wr (.slice (some ⟨Bn, 0, none⟩) n n) now := now_ints HRI.out.fits.1 (by omega) (block_up HBR.out HRI.out.nw) (fits_in HRI.out.fits (fun q hq => v3_len HO.out k q (by rw [HG.out.ol]; omega) (by rw [HG.out.ok k (by omega)]; exact hq)))
                have hsyms : IsV4 wr (.slice py m.syms.length cy) m.syms := (HY'.out.ck up_v3 HRI.out.keep.ck).up up_v3 HBR.out
                have HCALL := Lib.hid (show ∀ x : ExtW wr, Calls Tryz.prog 84 #[.agg (macC m (.slice pf m.first.length cf) (.slice py m.syms.length cy) (.slice pt m.steps.length ct) (.slice po m.out.length co)), .int .i64 k, .int .i64 p, .slice (some ⟨Bn, 0, none⟩) n n, .int .i64 (rd.g.hear p)] x.val fun e w'' => e = .returned (.agg #[.int .i64 (hearsF m k p now (rd.g.hear p) 0), .int .i64 (hearsF m k p now (rd.g.hear p) 1), .int .i64 (hearsF m k p now (rd.g.hear p) 2), .int .i64 (hearsF m k p now (rd.g.hear p) 3), .int .i64 (hearsF m k p now (rd.g.hear p) 4)]) ∧ ∃ q : ExtW wr, w'' = q.val from
                  fun x => Calls.ext_of (hears_any m pf m.first.length cf _ pt m.steps.length ct po m.out.length co k p n _ now (rd.g.hear p) x.val HG.out.hn hn5 hpn (by rw [HG.out.yl]; exact hkr) (HG.out.yk k hkr) (fun q hq => HG.out.yp k q hkr hq) HRI.out.fits.1
                    (fun q hq hne => by
                      have h1 := HRI.out.fits.2 q hq
                      have h2 := HG.out.yq k q p hkr hq hpn
                      rw [if_neg hne] at h2
                      omega) (hsyms.up up_v3 x.ext) (hnow.up up_int x.ext)))
                have hnp : Hid (nextP m k now rd p = stepTo m ⟨k, p, hearsF m k p now (rd.g.hear p) 0, hearsF m k p now (rd.g.hear p) 1, hearsF m k p now (rd.g.hear p) 2, hearsF m k p now (rd.g.hear p) 3, hearsF m k p now (rd.g.hear p) 4⟩) := by exact rfl
                have hmapr := HRI.out.map.up HBR.out
                generalize hearsF m k p now (rd.g.hear p) 0 = h0 at HCALL hnp
                generalize hearsF m k p now (rd.g.hear p) 1 = h1 at HCALL hnp
                generalize hearsF m k p now (rd.g.hear p) 2 = h2 at HCALL hnp
                generalize hearsF m k p now (rd.g.hear p) 3 = h3 at HCALL hnp
                generalize hearsF m k p now (rd.g.hear p) 4 = h4 at HCALL hnp
                have hlook : ∀ x : ExtW wr, (Instr.lookup 140 (.map (some bs)) (.agg #[.int .i64 k, .int .i64 p, .int .i64 h0, .int .i64 h1, .int .i64 h2, .int .i64 h3, .int .i64 h4]) true).run Tryz.prog x.val = .ok (.tuple #[.int .i64 ((nextP m k now rd p).getD 0), .bool (nextP m k now rd p).isSome]) x.val := fun x => by
                  have := gLookup2 kit_pl (mt := 140) (vt := 3) (z := .int .i64 0) Tryz.underlying140 (fun w => by kernel_rfl) (hmapr.up x.ext) ⟨k, p, h0, h1, h2, h3, h4⟩
                  rw [stepsF_get, ← hnp.out] at this
                  cases hh : nextP m k now rd p with
                  | none => rw [hh] at this; exact this
                  | some t => rw [hh] at this; exact this
                have q1 : ∀ x : ExtW wr, ∀ o, x.val.cell? ⟨Bm, o, none⟩ = _ := fun x => cell_block (block_up (ext_trans HBR.out x.ext) HRI.out.mb)
                have q2 : ∀ x : ExtW wr, x.val.cell? ⟨V0.heap.size, 1 + p, none⟩ = _ := fun x => x.cell hear
                have hp5 : p < 5 := by omega
                generalize rd.g.hear p = hv at HCALL q2
                clear hear hnow hsyms hnp hmapr
                gi_wp2
                refine wpIn_wide.2 ?_
                refine wp_region_quiet_ext (by kernel_rfl) (by kernel_rfl) ?_
                repeat (go_big_quiet_step ((go_at_call 84; with_reducible exact HCALL.out _)))
                refine wpQuiet_nil ?_
                intro _ hw'
                obtain ⟨xq, hw''⟩ := hw'
                subst hw''
                clear q1 q2 hlook HCALL
                have hbx := ext_trans HBR.out xq.ext
                have HRD2 := Lib.hid (block_up xq.ext HRD.out)
                have HNX2 := Lib.hid (block_up xq.ext HNX.out)
                cases hnp : nextP m k now rd p with
                | none =>
                  have HLEN : Hid (L.length = k + 1) := by (have h : L.length = k + 1 := HS2.out.2 (by unfold nextS; rw [if_pos]; rw [HG.out.hn, Int.toNat_natCast]; exact anyLt_at hpn (by rw [hnp]; rfl))); exact h
                  clear hnp
                  gi_wp2
                  refine bodyPost_ret (results_none rfl _ _ _) rfl ?_
                  exact ⟨⟨_, rfl⟩, T, .inl (by rw [HLEN.out]; exact HJ.out _ _ _ _ _ HRI.out.j hbx (Wid.refl _ _ _))⟩
                | some tt =>
                  have HFT : Hid (f2 p = tt) := by (have h : f2 p = tt := by (rw [HF2.out]; dsimp only; rw [hnp]; rfl)); exact h
                  have HSM : Hid ((nextP m k now rd p).isNone = false) := by (have h : (nextP m k now rd p).isNone = false := by (rw [hnp]; rfl)); exact h
                  clear hnp
                  have cq := cell_block HNX2.out p
                  rw [fC_get _ _ _ _ hpn, if_neg (by omega)] at cq
                  have fq := frozen_block HNX2.out p
                  have hsz := hbx.size
                  gi_wp2
                  go_roundw
                  case rel => exact ⟨p + 1, by omega, by go_num, hbx.setCell (p := ⟨V0.heap.size + 1, p, none⟩) (by simp) _, setCell_other HRD2.out (by omega) _ _, by rw [setCell_same HNX2.out, ← HFT.out, fC_set n f2 p hpn], below_succ HSOME.out HSM.out⟩
                  case measure => simp [intOf]; omega
              · obtain rfl : n = p := by omega
                have hnext : nextS m k now rd = some ((List.range n).map f2) := by
                  unfold nextS
                  rw [HG.out.hn, Int.toNat_natCast, if_neg (by rw [anyLt_none HSOME.out]; simp), HF2.out]
                have hlat := HS2.out.1 _ hnext
                have hfit := nextS_fits HG.out hnext
                have hnx := HNX.out
                rw [fC_all] at hnx
                generalize (List.range n).map f2 = next at hnx hlat hfit
                have hlen := (List.getElem?_eq_some_iff.1 hlat).1
                have hsz := block_lt hnx
                have hnb : w.heap.size ≤ V0.heap.size + 1 := by have h1 := HRI.out.nb; have h2 := block_lt HRI.out.nw; omega
                obtain ⟨fn, tmps, assign, body, hy, hR⟩ := HY.out (k + 1) (fun x => T x ∨ x = V0.heap.size + 1) wr #[.slice (some ⟨V0.heap.size + 1, 0, none⟩) n n] hlen ⟨_, rfl, .inr rfl, hnb, by rw [List.getD_eq_getElem?_getD, hlat]; exact hnx⟩ (HJ.out _ _ _ _ _ HRI.out.j HBR.out ⟨fun x hx => .inl hx, fun x hx => by
                  rcases hx with hx | hx
                  · exact .inl hx
                  · exact .inr (by omega)⟩)
                have HR := Lib.hid hR
                have HNXT := Lib.hid (And.intro hnx (And.intro hlat hfit))
                clear hR hnx hlat hfit hnext
                gi_wp2
                refine ⟨rfl, HR.out.mono ?_⟩
                rintro e W3 ⟨hs3, hk3, (⟨rfl, hJ3⟩ | ⟨rfl, hJx3⟩)⟩
                · have hold : ∀ x o, T x → V0.heap[x]? = some o → W3.heap[x]? = some o := fun x o hx ho => (hk3 x (.inl hx)).trans (block_up HBR.out ho)
                  have hri : RI m n w.heap.size wd (fun x => x < wd.heap.size ∨ x = Bm ∨ x = Bi ∨ x = Bw) Bm (macC m (.slice pf m.first.length cf) (.slice py m.syms.length cy) (.slice pt m.steps.length ct) (.slice po m.out.length co)) L J (k + 1) next (V0.heap.size + 1) bs (fun x => T x ∨ x = V0.heap.size + 1) W3 := by
                    refine ⟨fun x hx => .inl (HRI.out.sub x hx), fun x hx => ?_, hold _ _ (HRI.out.sub _ (.inr (.inl rfl))) HRI.out.mb, .inr rfl, hnb, (hk3 _ (.inr rfl)).trans HNXT.out.1, .inl HRI.out.ts, HRI.out.map.kept ?_, HNXT.out.2.1, HNXT.out.2.2, hJ3⟩
                    · have h1 : wd.heap[x]? = some wd.heap[x] := Array.getElem?_eq_getElem hx
                      rw [h1]
                      exact hold x _ (HRI.out.sub x (.inl hx)) ((HRI.out.keep x hx).trans h1)
                    · obtain ⟨es, ck, h1, _⟩ := HRI.out.map
                      rw [h1]; exact hold _ _ HRI.out.ts h1
                  have HRN := Lib.hid hri
                  clear hri hold hk3 hs3 hJ3 HR HNXT
                  gi_wp2
                  go_roundw
                  case rel => exact ⟨k + 1, next, _, _, by omega, by go_num, rfl, HRN.out⟩
                  case measure => simp [intOf]; omega
                · clear HR
                  gi_wp2
                  refine bodyPost_ret (results_none rfl _ _ _) rfl ?_
                  exact ⟨⟨_, rfl⟩, _, .inr ⟨_, by omega, hJx3⟩⟩
          · obtain rfl : k = word.length := by omega
            have HN : Hid (L.length = word.length + 1) := by (have h : L.length = word.length + 1 := by (have h1 := runFrom_le m 0 (firstS m inputs) word; rw [← HL.out] at h1; have h2 := (List.getElem?_eq_some_iff.1 HRI.out.lat).1; omega)); exact h
            gi_wp2
            go_end0
            exact ⟨⟨_, rfl⟩, T, .inl (by rw [HN.out]; exact HRI.out.j)⟩
end Go.Proofs.YtjmejfgkogjpaaaGreatDoor

namespace Go.Proofs.YtjmejfgkogjpaaaGreatDoor
open Go.RowKit Go Go.Shelf

/-- The cells of a slice whose elements take one cell each. -/
def RawSl (w : World) (v : Value) (xs : List Value) : Prop :=
  ∃ a cap, v = .slice a xs.length cap ∧ (a = none → xs.length = 0 ∧ cap = 0) ∧ (∀ i x, xs[i]? = some x → ∃ b off, a = some ⟨b, off, none⟩ ∧ w.cell? ⟨b, off + i, none⟩ = some x) ∧ ∀ x ∈ xs, x.oneCell' = true

theorem Tryz.infoInt : (Tryz.prog.info? 3).map (fun i => (i.zero, i.size, i.bytes)) = some (some (.int .i64 0), 1, 8) := by kernel_rfl
theorem Tryz.infoInts : (Tryz.prog.info? 28).map (fun i => (i.zero, i.size, i.bytes)) = some (some (.slice none 0 0), 1, 24) := by kernel_rfl

set_option maxHeartbeats 1000000 in
theorem cloneRawInts (v : Value) (xs : List Value) (w : World) (hv : RawSl w v xs) (hn : xs.length ≤ 1099511627776) :
    Calls Tryz.prog 18 #[v] w fun e w' => ∃ u, e = .returned u ∧ w'.ownsRow w.heap.size 3 1 u xs.length xs ∧ Below w.heap.size w w' := by
  obtain ⟨a, cap, rfl, ha, hc, h1⟩ := hv
  obtain ⟨i0, hi, hz0, hz1, hz2⟩ := info_parts Tryz.infoInt
  cases a with
  | none =>
    obtain ⟨hl, rfl⟩ := ha rfl
    obtain rfl : xs = [] := List.eq_nil_of_length_eq_zero hl
    have heq := fun w => Lib.run_eql_slice_nil (P := Tryz.prog) w 28
    go_enter Tryz.func18, Tryz.ntmps18
    go_wp2_with fail
    go_ret
    exact ⟨_, rfl, World.ownsRow_nil _ _ _ _, Below.refl _ _⟩
  | some ad =>
    have heq := fun w => Lib.run_eql_slice_nil (P := Tryz.prog) w 28
    have hnews : ∀ j u, xs[j]? = some u → (w.alloc (.cells #[] 3)).cell? (ad.add j) = some u := fun j u hj => by
      obtain ⟨b, off, e, hcell⟩ := hc j u hj
      cases e
      have : (Addr.add ⟨b, off, none⟩ j) = ⟨b, off + j, none⟩ := by unfold Addr.add; split <;> simp_all
      rw [this]; exact cell_up (by go_grown) hcell
    have hown : (w.alloc (.cells #[] 3)).ownsRow w.heap.size 3 1 (.slice (some ⟨w.heap.size, 0, none⟩) 0 0) 0 [] := ⟨by simp, .inr ⟨w.heap.size, 0, #[], rfl, Nat.le_refl _, alloc_new _ _, by omega, by simp [maxLen], by simp, by simp⟩⟩
    have HNEWS := Lib.hid hnews
    have HOWN := Lib.hid hown
    have H1 := Lib.hid h1
    clear hnews hown h1 hc ha
    go_enter Tryz.func18, Tryz.ntmps18
    go_wp2_with (at_builtin; refine wpList_append_own _ rfl (.tmp 5) (.tmp 6) 28 rfl w.heap.size 3 i0 (.int .i64 0) 1 8 Tryz.underlying28 hi hz0 hz1 hz2 rfl (by decide) _ 0 [] rfl HOWN.out ad xs.length cap xs rfl (by simp) HNEWS.out H1.out (by unfold maxLen; omega) (by omega) (by simp) ?_; intro v' w1 hown1 hgrow1 _)
    go_ret
    refine ⟨_, rfl, by simpa using hown1, Below.grown (w := w.alloc (.cells #[] 3)) (by go_grown) hgrow1 (by simp) (fun k hk => ?_)⟩
    cases hk; exact Nat.le_refl _

theorem oneCell_slice {w : World} {v : Value} {α : Type} {k : Nat} {R : World → Nat → Nat → α → Prop} {l : List α} (h : IsSl k R w v l) : v.oneCell' = true := by
  obtain ⟨a, cap, rfl, _⟩ := h; rfl
theorem raw_of_ints {w : World} {v : Value} {l : List Int} (h : IsInts w v l) : RawSl w v (l.map (Value.int .i64)) := by
  obtain ⟨a, cap, rfl, h1, h2, h3⟩ := h
  refine ⟨a, cap, by simp, fun e => ?_, fun i x hx => ?_, fun x hx => ?_⟩
  · have := h1.2.2 e; exact ⟨by rw [List.length_map]; omega, this⟩
  · simp only [List.getElem?_map, Option.map_eq_some_iff] at hx
    obtain ⟨y, hy, rfl⟩ := hx
    obtain ⟨b, off, ha, hr⟩ := h3 i y hy
    exact ⟨b, off, ha, by have := hr.1; rwa [Nat.mul_one] at this⟩
  · obtain ⟨y, _, rfl⟩ := List.mem_map.1 hx; rfl
/-- The slices that lie in a slice of slices. -/
theorem vals_of_vecs {w : World} {v : Value} {l : List (List Int)} (h : IsVecs w v l) : ∃ xs : List Value, xs.length = l.length ∧ RawSl w v xs ∧ ∀ i (hi : i < l.length) (hx : i < xs.length), IsInts w xs[i] l[i] := by
  obtain ⟨a, cap, rfl, h1, h2, h3⟩ := h
  have key : ∀ i : Fin l.length, ∃ x : Value, ∃ b off, a = some ⟨b, off, none⟩ ∧ w.cell? ⟨b, off + i.1, none⟩ = some x ∧ IsInts w x l[i.1] := fun i => by
    obtain ⟨b, off, ha, x, hx, hs⟩ := h3 i.1 _ (List.getElem?_eq_getElem i.2)
    exact ⟨x, b, off, ha, by rwa [Nat.mul_one] at hx, hs⟩
  refine ⟨List.ofFn fun i => Classical.choose (key i), by simp, ⟨a, cap, by simp, fun e => ?_, fun i x hx => ?_, fun x hx => ?_⟩, fun i hi hx => ?_⟩
  · have := h1.2.2 e; exact ⟨by rw [List.length_ofFn]; omega, this⟩
  · have hi : i < l.length := by have := (List.getElem?_eq_some_iff.1 hx).1; simpa using this
    have e : x = Classical.choose (key ⟨i, hi⟩) := by
      rw [List.getElem?_ofFn] at hx; simp [hi] at hx; exact hx.symm
    obtain ⟨b, off, ha, hc, _⟩ := Classical.choose_spec (key ⟨i, hi⟩)
    exact ⟨b, off, ha, by rw [e]; exact hc⟩
  · obtain ⟨i, rfl⟩ := (List.mem_ofFn).1 hx
    obtain ⟨_, _, _, _, hs⟩ := Classical.choose_spec (key i)
    exact oneCell_slice hs
  · rw [List.getElem_ofFn]
    obtain ⟨_, _, _, _, hs⟩ := Classical.choose_spec (key ⟨i, hi⟩)
    exact hs
theorem owns_cell {w : World} {base : Nat} {e : TypeId} {v : Value} {n : Nat} {xs : List Value} (h : w.ownsRow base e 1 v n xs) : ∃ a cap, v = .slice a n cap ∧ n ≤ cap ∧ cap ≤ 9223372036854775807 ∧ (a = none → cap = 0) ∧ xs.length = n ∧ ∀ i x, xs[i]? = some x → ∃ b, a = some ⟨b, 0, none⟩ ∧ w.cell? ⟨b, i, none⟩ = some x := by
  obtain ⟨hl, h⟩ := h
  rw [Nat.mul_one] at hl
  rcases h with ⟨rfl, rfl⟩ | ⟨g, cap, cur, rfl, hg, hb, hn, hm, hs, ht⟩
  · exact ⟨none, 0, rfl, by omega, by omega, fun _ => rfl, hl, fun i x hx => by have := (List.getElem?_eq_some_iff.1 hx).1; omega⟩
  · refine ⟨_, cap, rfl, hn, by simpa [maxLen] using hm, (fun e => (by cases e)), hl, fun i x hx => ⟨g, rfl, ?_⟩⟩
    rw [cell_block hb, ← hx, ← ht, Nat.mul_one]
    have hi := (List.getElem?_eq_some_iff.1 hx).1
    rw [List.getElem?_take_of_lt (by omega)]
    simp
theorem ints_of_owns {w : World} {base : Nat} {e : TypeId} {v : Value} {l : List Int} (h : w.ownsRow base e 1 v l.length (l.map (Value.int .i64))) (hr : ∀ x ∈ l, InR x) (hn : l.length ≤ 17592186044416) : IsInts w v l := by
  obtain ⟨a, cap, rfl, h1, h2, h3, _, h4⟩ := owns_cell h
  refine ⟨a, cap, rfl, ⟨h1, h2, h3⟩, hn, fun i x hx => ?_⟩
  obtain ⟨b, ha, hc⟩ := h4 i (.int .i64 x) (by simp [hx])
  exact ⟨b, 0, ha, by simpa using hc, hr x (List.mem_of_getElem? hx)⟩
theorem vecs_of_owns {w : World} {base : Nat} {e : TypeId} {v : Value} {l : List (List Int)} {xs : List Value} (h : w.ownsRow base e 1 v l.length xs) (hx : ∀ i (hi : i < l.length) (hx : i < xs.length), IsInts w xs[i] l[i]) (hn : l.length ≤ 17592186044416) : IsVecs w v l := by
  obtain ⟨a, cap, rfl, h1, h2, h3, hl, h4⟩ := owns_cell h
  refine ⟨a, cap, rfl, ⟨h1, h2, h3⟩, hn, fun i x hi => ?_⟩
  obtain ⟨hi1, hi2⟩ := List.getElem?_eq_some_iff.1 hi
  obtain ⟨b, ha, hc⟩ := h4 i xs[i] (by simp)
  exact ⟨b, 0, ha, xs[i], by simpa using hc, by rw [← hi2]; exact hx i hi1 (by omega)⟩
theorem ints_inR {w : World} {v : Value} {l : List Int} (h : IsInts w v l) : ∀ x ∈ l, InR x := fun x hx => by
  obtain ⟨a, cap, rfl, _, _, h3⟩ := h
  obtain ⟨i, hi, rfl⟩ := List.getElem_of_mem hx
  obtain ⟨b, off, _, hr⟩ := h3 i _ (List.getElem?_eq_getElem hi)
  exact hr.2

theorem cloneInts_any (v : Value) (l : List Int) (w : World) (hv : IsInts w v l) (hn : l.length ≤ 1099511627776) :
    Calls Tryz.prog 18 #[v] w fun e w' => ∃ u, e = .returned u ∧ IsInts w' u l ∧ Below w.heap.size w w' := by
  refine (cloneRawInts v _ w (raw_of_ints hv) (by simpa using hn)).mono ?_
  rintro e w' ⟨u, rfl, ho, hb⟩
  exact ⟨u, rfl, ints_of_owns (by simpa using ho) (ints_inR hv) (by omega), hb⟩

end Go.Proofs.YtjmejfgkogjpaaaGreatDoor

namespace Go.Proofs.YtjmejfgkogjpaaaGreatDoor
open Go.RowKit Go Go.Shelf

end Go.Proofs.YtjmejfgkogjpaaaGreatDoor

namespace Go.Proofs.YtjmejfgkogjpaaaGreatDoor
open Go.RowKit Go Go.Shelf

end Go.Proofs.YtjmejfgkogjpaaaGreatDoor

namespace Go.Proofs.YtjmejfgkogjpaaaGreatDoor
open Go.RowKit Go Go.Shelf

end Go.Proofs.YtjmejfgkogjpaaaGreatDoor

namespace Go.Proofs.YtjmejfgkogjpaaaGreatDoor

/-- the obliged processes below n, in order -/
def oblL (n : Nat) (f : Int) : List Nat := (List.range n).filter fun p => !hasB f p
theorem oblL_succ (n : Nat) (f : Int) : oblL (n + 1) f = if hasB f n then oblL n f else oblL n f ++ [n] := by
  unfold oblL
  rw [List.range_succ, List.filter_append]
  cases h : hasB f n <;> simp [h]
theorem oblL_mem {n : Nat} {f : Int} {p : Nat} : p ∈ oblL n f ↔ p < n ∧ hasB f p = false := by
  simp [oblL]
theorem oblL_lt {n : Nat} {f : Int} {i : Nat} (hi : i < (oblL n f).length) : (oblL n f)[i] < n ∧ hasB f (oblL n f)[i] = false := oblL_mem.1 (List.getElem_mem hi)
theorem oblL_sorted (n : Nat) (f : Int) : (oblL n f).Pairwise (· < ·) := List.Pairwise.filter _ List.pairwise_lt_range
theorem oblL_mono (n : Nat) (f : Int) {i j : Nat} (hj : j < (oblL n f).length) (h : i < j) : (oblL n f)[i] < (oblL n f)[j] := (List.pairwise_iff_getElem.1 (oblL_sorted n f)) i j (by omega) hj h
/-- the list for n begins with the list for p -/
theorem oblL_prefix (f : Int) {p n : Nat} (h : p ≤ n) : oblL p f <+: oblL n f := by
  induction n with
  | zero => obtain rfl : p = 0 := by omega
            exact List.prefix_refl _
  | succ n ih =>
    by_cases e : p = n + 1
    · subst e; exact List.prefix_refl _
    · rw [oblL_succ]
      split
      · exact ih (by omega)
      · exact (ih (by omega)).trans (List.prefix_append _ _)
theorem oblL_at (f : Int) {p n : Nat} (h : p < n) (hp : hasB f p = false) : (oblL n f)[(oblL p f).length]? = some p := by
  have h1 := oblL_prefix f (show p + 1 ≤ n by omega)
  rw [oblL_succ, hp] at h1
  simp only [Bool.false_eq_true, if_false] at h1
  obtain ⟨t, ht⟩ := h1
  rw [← ht, List.append_assoc, List.getElem?_append_right (Nat.le_refl _)]
  simp
/-- the first obliged process at which q holds -/
def firstObl (n : Nat) (f : Int) (q : Nat → Bool) : Int := firstIx n fun p => !hasB f p && q p
theorem firstObl_none {n : Nat} {f : Int} {q : Nat → Bool} (h : ∀ j, j < (oblL n f).length → q ((oblL n f).getD j 0) = false) : firstObl n f q = -1 := by
  refine firstIx_none _ _ fun p hp => ?_
  cases hb : hasB f p with
  | true => rfl
  | false =>
    obtain ⟨j, hj, e⟩ := List.getElem_of_mem (oblL_mem.2 ⟨hp, hb⟩)
    have := h j hj
    rw [show (oblL n f).getD j 0 = (oblL n f)[j] by simp [hj], e] at this
    simp [this]
theorem firstObl_at {n : Nat} {f : Int} {q : Nat → Bool} {i : Nat} (hi : i < (oblL n f).length) (h : ∀ j, j < i → q ((oblL n f).getD j 0) = false) (hq : q ((oblL n f).getD i 0) = true) : firstObl n f q = (oblL n f).getD i 0 := by
  have e0 : (oblL n f).getD i 0 = (oblL n f)[i] := by simp [hi]
  rw [e0] at hq ⊢
  have h1 := oblL_lt hi
  refine firstIx_at _ _ _ h1.1 (fun p hp => ?_) (by simp [h1.2, hq])
  cases hb : hasB f p with
  | true => rfl
  | false =>
    obtain ⟨j, hj, e⟩ := List.getElem_of_mem (oblL_mem.2 ⟨show p < n by omega, hb⟩)
    have hji : j < i := by
      rcases Nat.lt_or_ge j i with h' | h'
      · exact h'
      · rcases Nat.eq_or_lt_of_le h' with h2 | h2
        · subst h2; omega
        · have := oblL_mono n f hj h2; omega
    have := h j hji
    rw [show (oblL n f).getD j 0 = (oblL n f)[j] by simp [hj], e] at this
    simp [this]

/-- the faulty processes behind a word -/
def faultyS (word : List Rd) : Int := if word.length = 0 then 0 else (word.getD (word.length - 1) default).f
end Go.Proofs.YtjmejfgkogjpaaaGreatDoor

namespace Go.Proofs.YtjmejfgkogjpaaaGreatDoor

def vecsS (c : Cs) (f : Int) : List (List Int) := if f = 0 ∧ 0 < c.calm.length then c.calm else c.out
def placeE (t : Tk) (i f : Int) : Int :=
  if taskE t ≠ 0 then taskE t else if i < 0 ∨ (t.cases.length : Int) ≤ i then 6 else if f < 0 ∨ 2 ^ t.n.toNat ≤ f then 2 else 0
def allowedS (t : Tk) (i f : Int) : List (List Int) := if placeE t i f ≠ 0 then [] else vecsS (t.cases.getD i.toNat default) f

theorem nodup_le {α : Type} [DecidableEq α] (l m : List α) (hl : l.Pairwise (· ≠ ·)) (h : ∀ x ∈ l, x ∈ m) : l.length ≤ m.length := by
  induction l generalizing m with
  | nil => simp
  | cons x r ih =>
    have hx := h x (by simp)
    have h1 := ih (m.erase x) (List.pairwise_cons.1 hl).2 (fun y hy => (List.mem_erase_of_ne (fun e => (List.pairwise_cons.1 hl).1 y hy e.symm)).2 (h y (by simp [hy])))
    rw [List.length_erase_of_mem hx] at h1
    have := List.length_pos_of_mem hx
    simp only [List.length_cons]
    omega
theorem ord_pairwise (l : List (List Int)) (h : ∀ i, i < l.length → unordB l i = false) : ∀ j i, i < j → j < l.length → ordV (l.getD i []) (l.getD j []) < 0 := by
  intro j
  induction j with
  | zero => intro i hi; omega
  | succ j ih =>
    intro i hi hj
    have h1 := h (j + 1) hj
    have h2 : ordV (l.getD j []) (l.getD (j + 1) []) < 0 := by
      unfold unordB at h1
      rw [Nat.add_sub_cancel, decide_eq_true (by omega : 0 < j + 1), Bool.true_and] at h1
      have := of_decide_eq_false h1
      omega
    rcases Nat.lt_or_ge i j with h3 | h3
    · exact ordV_trans (ih i h3 (by omega)) h2
    · obtain rfl : i = j := by omega
      exact h2
theorem sorted_ne (l : List (List Int)) (h : ∀ i, i < l.length → unordB l i = false) : l.Pairwise (· ≠ ·) := by
  rw [List.pairwise_iff_getElem]
  intro i j hi hj hij e
  have h1 := ord_pairwise l h j i hij hj
  rw [show l.getD i [] = l[i] by simp [hi], show l.getD j [] = l[j] by simp [hj], e, ordV_self] at h1
  omega
theorem firstNZ_eq_zero {n : Nat} {f : Nat → Int} (h : firstNZ n f = 0) : ∀ i, i < n → f i = 0 := by
  intro i hi
  induction n generalizing f i with
  | zero => omega
  | succ n ih =>
    rw [firstNZ_left] at h
    by_cases h0 : f 0 = 0
    · rw [if_neg (by simpa using h0)] at h
      cases i with
      | zero => exact h0
      | succ i => exact ih h i (by omega)
    · rw [if_pos h0] at h
      exact absurd h h0
theorem vectorE_len {v : List Int} {n m : Int} (h : vectorE v n m = 0) : (v.length : Int) = n := by
  unfold vectorE at h
  by_cases e : (v.length : Int) = n
  · exact e
  · rw [if_pos e] at h; omega
theorem hasV_mem {l : List (List Int)} {v : List Int} (h : hasV l v = true) : v ∈ l := by
  unfold hasV at h
  obtain ⟨i, hi, e⟩ := (anyLt_iff _ _).1 h
  unfold eqV at e
  have := of_decide_eq_true e
  rw [← this, show l.getD i [] = l[i] by simp [hi]]
  exact List.getElem_mem hi
/-- what a task that passes its check is -/
structure CaseOk (t : Tk) (c : Cs) : Prop where
  inp : (c.inp.length : Int) = t.n
  out1 : 1 ≤ c.out.length
  out2 : c.out.length ≤ 1024
  calm : c.calm.length ≤ 1024
  outs : ∀ v ∈ c.out, (v.length : Int) = t.n
  calms : ∀ v ∈ c.calm, v ∈ c.out
theorem task_ok {t : Tk} (h : taskE t = 0) : (1 ≤ t.n ∧ t.n ≤ 5) ∧ (1 ≤ t.ins ∧ t.ins ≤ 8) ∧ (1 ≤ t.outs ∧ t.outs ≤ 8) ∧ (1 ≤ t.cases.length ∧ t.cases.length ≤ 1024) ∧ ∀ c ∈ t.cases, CaseOk t c := by
  unfold taskE at h
  split at h
  · omega
  rename_i h1
  split at h
  · omega
  rename_i h2
  refine ⟨by omega, by omega, by omega, by omega, fun c hc => ?_⟩
  obtain ⟨k, hk, rfl⟩ := List.getElem_of_mem hc
  have h3 := firstNZ_eq_zero h k hk
  unfold caseE at h3
  rw [show t.cases.getD k default = t.cases[k] by simp [hk]] at h3
  split at h3
  · omega
  rename_i h4
  split at h3
  · omega
  unfold vectorsE at h3
  split at h3
  · omega
  rename_i h5
  split at h3
  · omega
  rename_i h6
  have h7 := firstNZ_eq_zero (show firstNZ _ _ = 0 by simpa using h6)
  have h8 := firstNZ_eq_zero h3
  have hcal : ∀ i, i < (t.cases[k]).calm.length → hasV (t.cases[k]).out ((t.cases[k]).calm.getD i []) = true ∧ unordB (t.cases[k]).calm i = false := by
    intro i hi
    have := h8 i hi
    unfold calmE at this
    split at this
    · rename_i h9
      refine ⟨h9, ?_⟩
      cases hu : unordB (t.cases[k]).calm i
      · rfl
      · rw [hu] at this; simp at this
    · omega
  have hmem : ∀ v ∈ (t.cases[k]).calm, v ∈ (t.cases[k]).out := by
    intro v hv
    obtain ⟨i, hi, rfl⟩ := List.getElem_of_mem hv
    have := hasV_mem (hcal i hi).1
    rwa [show (t.cases[k]).calm.getD i [] = (t.cases[k]).calm[i] by simp [hi]] at this
  refine ⟨vectorE_len (by simpa using h4), by omega, by omega, ?_, ?_, hmem⟩
  · exact Nat.le_trans (nodup_le _ _ (sorted_ne _ fun i hi => (hcal i hi).2) hmem) (by omega)
  · intro v hv
    obtain ⟨i, hi, rfl⟩ := List.getElem_of_mem hv
    have := h7 i hi
    unfold outE at this
    rw [show (t.cases[k]).out.getD i [] = (t.cases[k]).out[i] by simp [hi]] at this
    split at this
    · omega
    · rename_i h9
      exact vectorE_len (by simpa using h9)
theorem vecs_ok {t : Tk} {c : Cs} (h : CaseOk t c) (f : Int) : (vecsS c f).length ≤ 1024 ∧ ∀ v ∈ vecsS c f, (v.length : Int) = t.n := by
  unfold vecsS
  split
  · exact ⟨h.calm, fun v hv => h.outs v (h.calms v hv)⟩
  · exact ⟨h.out2, h.outs⟩
end Go.Proofs.YtjmejfgkogjpaaaGreatDoor

namespace Go.Proofs.YtjmejfgkogjpaaaGreatDoor
open Go.RowKit Go Go.Shelf

theorem owns_up {w w' : World} {base : Nat} {e : TypeId} {v : Value} {n : Nat} {xs : List Value} (h : w.ownsRow base e 1 v n xs) (hb : Below w.heap.size w w') : w'.ownsRow base e 1 v n xs := by
  obtain ⟨hl, h⟩ := h
  refine ⟨hl, ?_⟩
  rcases h with h | ⟨g, cap, cur, h1, h2, h3, h4⟩
  · exact .inl h
  · exact .inr ⟨g, cap, cur, h1, h2, block_up hb h3, h4⟩
/-- A row of another element type is left alone by an append. -/
theorem owns_beside {w w' : World} {base base' : Nat} {e e' : TypeId} {u v : Value} {n m : Nat} {xs ys : List Value} (h : w.ownsRow base e 1 u n xs) (hv : w.ownsRow base' e' 1 v m ys) (hne : e ≠ e') (hg : w.grownBy w' v.ownBlock) : w'.ownsRow base e 1 u n xs := by
  obtain ⟨hl, h⟩ := h
  refine ⟨hl, ?_⟩
  rcases h with h | ⟨g, cap, cur, h1, h2, h3, h4⟩
  · exact .inl h
  · refine .inr ⟨g, cap, cur, h1, h2, (hg.block g (block_lt h3) (fun e1 => ?_)).trans h3, h4⟩
    rcases hv.2 with ⟨rfl, _⟩ | ⟨g', cap', cur', rfl, _, h3', _⟩
    · cases e1
    · cases e1
      rw [h3] at h3'
      cases h3'
      exact hne rfl
theorem owns_lt {w : World} {base : Nat} {e : TypeId} {v : Value} {n : Nat} {xs : List Value} (h : w.ownsRow base e 1 v n xs) : ∀ g, v.ownBlock = some g → base ≤ g ∧ g < w.heap.size := by
  intro g hg
  rcases h.2 with ⟨rfl, _⟩ | ⟨g', cap, cur, rfl, h2, h3, _⟩
  · cases hg
  · cases hg; exact ⟨h2, block_lt h3⟩
theorem owns_base {w : World} {base base' : Nat} {e : TypeId} {v : Value} {n : Nat} {xs : List Value} (h : w.ownsRow base e 1 v n xs) (hb : base' ≤ base) : w.ownsRow base' e 1 v n xs := by
  obtain ⟨hl, h⟩ := h
  refine ⟨hl, ?_⟩
  rcases h with h | ⟨g, cap, cur, h1, h2, h3⟩
  · exact .inl h
  · exact .inr ⟨g, cap, cur, h1, Nat.le_trans hb h2, h3⟩

/-- A fresh list of fresh vectors: all its memory lies from base on. -/
def FreshVecs (w : World) (base : Nat) (v : Value) (l : List (List Int)) : Prop :=
  ∃ xs : List Value, w.ownsRow base 28 1 v l.length xs ∧ ∀ i (hi : i < l.length) (hx : i < xs.length), w.ownsRow base 3 1 xs[i] l[i].length (l[i].map (Value.int .i64))

theorem placeE_ok {t : Tk} {i f : Int} (h : placeE t i f = 0) : taskE t = 0 ∧ 0 ≤ i ∧ i.toNat < t.cases.length := by
  unfold placeE at h
  split at h
  · omega
  · rename_i h1
    split at h
    · omega
    · exact ⟨by simpa using h1, by omega, by omega⟩

end Go.Proofs.YtjmejfgkogjpaaaGreatDoor

namespace Go.Proofs.YtjmejfgkogjpaaaGreatDoor
open Go.RowKit Go Go.Shelf
attribute [local go_sem] Oper.semAt_some

theorem Tryz.infoMsg : (Tryz.prog.info? 65).map (fun i => (i.zero, i.size, i.bytes)) = some (some (.agg #[.int .i64 0, .int .i64 0, .int .i64 0, .string ⟨#[]⟩]), 4, 40) := by kernel_rfl
abbrev Msg.c (m : Msg) : Array Value := #[.int .i64 m.rd, .int .i64 m.fr, .int .i64 m.to, .string m.bs]
def flatM (xs : List Msg) : List Value := xs.flatMap fun m => m.c.toList
theorem flatM_snoc (xs : List Msg) (k : Nat) (hk : k < xs.length) : flatM (xs.take (k + 1)) = flatM (xs.take k) ++ (xs.getD k default).c.toList := by
  unfold flatM
  rw [List.take_succ_eq_append_getElem hk, List.flatMap_append, getD_of_lt default hk]
  simp
/-- Between two rounds of the caller. -/
structure CI (w : World) (B2 : Nat) (xs : List Msg) (i : Nat) (T : Nat → Prop) (W : World) : Prop where
  old : Below w.heap.size w W
  lt : ∀ k, T k → k < W.heap.size
  notB : ¬ T B2
  row : ∃ v, W.heap[B2]? = some (.cells #[v] 33) ∧ OwnT W w.heap.size 65 4 v i (flatM (xs.take i)) ∧ ∀ g, v.ownBlock = some g → ¬ T g
theorem CI.next {w : World} {B2 : Nat} {xs : List Msg} {i B : Nat} {T T' : Nat → Prop} {A A' : World} (h : CI w B2 xs i T A) (hB : w.heap.size ≤ B) (hc : Chg B A A') (hw : Wid A A' T T') : CI w B2 xs i T' A' := by
  obtain ⟨v, h1, h2, h3⟩ := h.row
  have hn : ∀ g, g < A.heap.size → ¬ T g → ¬ T' g := fun g hg h ht => by
    rcases hw.2 g ht with h4 | h4
    · exact h h4
    · omega
  exact ⟨hc.below hB h.old.size h.old, fun k hk => by
    rcases hw.2 k hk with h4 | h4
    · exact Nat.lt_of_lt_of_le (h.lt k h4) hc.size
    · exact h4.2, hn _ (block_lt h1) h.notB, v, hc.ck _ _ h1 rfl, h2.ck hc.ck, fun g hg => hn _ (h2.lt g hg).2 (h3 g hg)⟩

set_option maxRecDepth 100000 in
set_option maxHeartbeats 4000000 in
theorem appendSeqM_any (gf : Nat) (lb : Array Value) (eg : ∀ args w, (callFunc gf args).run Tryz.prog w = .ok (.enter gf args) w) (xs : List Msg) (hn : xs.length ≤ 1048576) (S : Nat → Prop) (w : World)
    (hseq : SeqMk Tryz.prog gf lb (fun i args _ _ => args = #[.agg (xs.getD i default).c]) xs.length S w) (hS : ∀ k, S k → k < w.heap.size) :
    Calls Tryz.prog 109 #[.slice none 0 0, .func (.func gf) #[] lb] w fun e w' => ∃ v, e = .returned v ∧ OwnT w' w.heap.size 65 4 v xs.length (flatM xs) ∧ Below w.heap.size w w' := by
  obtain ⟨i0, hi0, hz0, hz1, hz2⟩ := info_parts Tryz.infoMsg
  refine calls_marks Tryz.func109 rfl ?_
  simp only [Tryz.ntmps109, List.size_toArray, List.length_cons, List.length_nil, Nat.reduceAdd, Nat.reduceSub, Array.replicate_succ, Array.replicate_zero, List.push_toArray, List.append_toArray, List.nil_append, List.cons_append]
  go_wp2_with fail
  refine wp_gen (fun W => Below w.heap.size w W ∧ W.heap[w.heap.size]? = some (.cells #[.slice none 0 0] 33)) ⟨by go_grown, alloc_new _ _⟩ (fun W0 hW0 => ?_)
  obtain ⟨hb0, hB0⟩ := hW0
  have hsz := block_lt hB0
  refine wp_rangeMk (gf := gf) (lb := lb) rfl eg hseq hb0 (fun k hk => Nat.lt_of_lt_of_le (hS k hk) hb0.size) (fun i args _ _ h => by rw [h]; rfl)
    (CI w w.heap.size xs) (fun _ _ _ _ => False)
    (fun i T T' A A' h hc hw => h.next (Nat.le_of_lt hsz) hc hw) (fun _ _ _ _ _ _ h _ _ => h)
    ⟨hb0, fun k hk => Nat.lt_of_lt_of_le (hS k hk) hb0.size, fun h => Nat.lt_irrefl _ (hS _ h), _, hB0, ⟨by simp [flatM], .inl ⟨rfl, rfl⟩⟩, fun g hg => by cases hg⟩ ?round ?done ?stop
  case round =>
    rintro l i T W args hi hl hlW hTl rfl hI
    have HFL := Lib.hid (flatM_snoc xs i hi)
    generalize xs.getD i default = m at HFL
    have HI := Lib.hid hI
    have hsW := hI.old.size
    clear hI hseq
    gi_wp2
    refine ⟨Bod.of_below (fun k hk => HI.out.lt k hk) (by go_grown), fun W' => CI w w.heap.size xs i T W' ∧ W'.heap[W.heap.size]? = some (.cells m.c 65), fun A A' hc h => ⟨h.1.next (Nat.le_of_lt hsz) hc (Wid.refl _ _ _), hc.ck _ _ h.2 rfl⟩, ⟨HI.out.next (Nat.le_of_lt hsz) (Chg.of_below (by go_grown)) (Wid.refl _ _ _), alloc_new _ _⟩, fun W2 h2 => ?_⟩
    intros
    obtain ⟨hc2, hm2⟩ := h2
    have HC2 := Lib.hid hc2
    obtain ⟨v, hv, hown, hTv⟩ := hc2.row
    have c1 := cell_block hv 0
    have f1 := frozen_block hv 0
    simp at c1
    have t1 := cell_block hm2
    have hA : Below W2.heap.size W2 (W2.alloc (.cells m.c 65)) := by go_grown
    have HOWN := Lib.hid (hown.up hA)
    have hnews : ∀ j u', m.c.toList[j]? = some u' → (W2.alloc (.cells m.c 65)).cell? (Addr.add ⟨W2.heap.size, 0, none⟩ j) = some u' := fun j u' hj => by
      have e1 : (Addr.add ⟨W2.heap.size, 0, none⟩ j) = ⟨W2.heap.size, j, none⟩ := by unfold Addr.add; split <;> simp_all
      rw [e1, cell_block (alloc_new W2 _)]
      simpa using hj
    have HNEWS := Lib.hid hnews
    have HV := Lib.hid hv
    have HTV := Lib.hid hTv
    have hs2 := hc2.old.size
    obtain ⟨av, cv, rfl⟩ := hown.slice
    have hne : ∀ g, (Value.slice av i cv).ownBlock = some g → g ≠ w.heap.size := hown.ne hv (by decide)
    have HNE := Lib.hid hne
    clear hc2 hm2 hv hown hnews hTv HI hne
    gi_wp2_with (gi_at_builtin; (refine wpListIn_append_T _ rfl (.tmp 8) (.tmp 10) 33 rfl w.heap.size 65 i0 _ 4 40 Tryz.underlying33 hi0 hz0 hz1 hz2 rfl (by decide) _ i _ rfl HOWN.out ⟨W2.heap.size, 0, none⟩ 1 1 m.c.toList rfl rfl HNEWS.out (by simp [Value.oneCell']) (by unfold maxLen; omega) (by omega) (by simp; omega) ?_; intro v' w3 hown3 hgrow3 hwh3; obtain ⟨av', cv', rfl⟩ := hown3.slice; have hB3 := (hgrow3.block _ (block_lt (alloc_old _ HV.out)) (fun e => HNE.out _ e.symm rfl)).trans (alloc_old _ HV.out); have c3 := cell_block hB3 0; have f3 := frozen_block hB3 0; simp at c3))
    have hb3 : Below w.heap.size w w3 := Below.grown (HC2.out.old.alloc hs2 _) hgrow3 (by simp; omega) (fun g hg => (HOWN.out.lt g hg).1)
    have hs3 := hgrow3.size
    simp only [World.size_alloc] at hs3
    have hT3 : ∀ k, T k → w3.heap[k]? = W2.heap[k]? := fun k hk => by
      have h1 := HC2.out.lt k hk
      rw [hgrow3.block k (by simp; omega) (fun e => HTV.out k e.symm hk)]
      exact Below.heap_alloc W2 _ k h1
    refine ⟨⟨by simp; omega, fun k hk => ?_, fun k o hB hk ho => ?_⟩, ⟨hb3.setCell (p := ⟨w.heap.size, 0, none⟩) (by simp) _, fun k hk => ?_, HC2.out.notB, ?_⟩⟩
    · rw [Below.heap_setCell _ _ _ _ (fun e => HC2.out.notB (by dsimp only at e; rw [← e]; exact hk))]
      exact hT3 k hk
    · have hne : some k ≠ (Value.slice av i cv).ownBlock := HOWN.out.isCells (alloc_old _ hk) ho
      refine setCell_other (B := w.heap.size) ?_ (by omega) _ _
      exact (hgrow3.block k (by have := block_lt hk; simp; omega) hne).trans (alloc_old _ hk)
    · have := HC2.out.lt k hk
      simp; omega
    · refine ⟨_, by rw [setCell_same hB3]; rfl, ?_, ?_⟩
      · rw [HFL.out]
        exact hown3.put (hown3.ne hB3 (by decide)) _ _
      · intro g hg hTg
        rcases hwh3 with h1 | h1
        · exact HTV.out g (h1 ▸ hg) hTg
        · have := HC2.out.lt g hTg
          rw [h1] at hg
          simp at hg; omega
  case done =>
    intro D T W hD hI hK
    obtain ⟨v, hv, hown, _⟩ := hI.row
    have c1 := cell_block hv 0
    simp at c1
    obtain ⟨av, cv, rfl⟩ := hown.slice
    have HOWN := Lib.hid hown
    have HOLD := Lib.hid hI.old
    clear hI hv hown hseq
    go_wp2_with fail
    refine marks_ret hK (results_tmp rfl _ _ _) ?_
    refine ⟨_, rfl, ?_, below_put (by omega) HOLD.out⟩
    rw [List.take_of_length_le (Nat.le_refl _)] at HOWN
    exact HOWN.out.ck (fun k o hk ho => (World.putObj_heap_other (fun e => by subst e; rw [hK] at hk; cases hk; cases ho)).trans hk)
  case stop =>
    intro D c i T W _ _ h
    exact h.elim

set_option maxHeartbeats 1000000 in
theorem collectM_any (gf : Nat) (lb : Array Value) (eg : ∀ args w, (callFunc gf args).run Tryz.prog w = .ok (.enter gf args) w) (xs : List Msg) (hn : xs.length ≤ 1048576) (S : Nat → Prop) (w : World)
    (hseq : SeqMk Tryz.prog gf lb (fun i args _ _ => args = #[.agg (xs.getD i default).c]) xs.length S w) (hS : ∀ k, S k → k < w.heap.size) :
    Calls Tryz.prog 67 #[.func (.func gf) #[] lb] w fun e w' => ∃ v, e = .returned v ∧ OwnT w' w.heap.size 65 4 v xs.length (flatM xs) ∧ Below w.heap.size w w' := by
  have HC := Lib.hid (appendSeqM_any gf lb eg xs hn S w hseq hS)
  clear hseq eg
  go_enter Tryz.func67, Tryz.ntmps67
  go_wp2_with fail
  refine HC.out.mono ?_
  rintro e w1 ⟨v, rfl, hv, hb⟩
  have HV := Lib.hid hv
  obtain ⟨av, cv, rfl⟩ := hv.slice
  clear hv
  go_wp2_with fail
  go_ret
  exact ⟨_, rfl, HV.out, hb⟩
end Go.Proofs.YtjmejfgkogjpaaaGreatDoor
