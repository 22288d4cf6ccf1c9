/-
  Parts of the proof, in order. A law for a region that draws its order and makes memory: what is said of each operation's value holds once the operation has come up, whatever the order. The last operation waits for all others. It proves nothing of the program. Contracts of the library's cmp.Or and of the program's machine.order. Conditions: the numbers are those of a machine's integers. Contract of the program's machine.step. Conditions: the arguments read as a machine of the right shape, and a step. Contract of the program's machine.Check. Conditions: the argument reads as a machine. A law for a region that draws its order: each operation's value is told by a predicate that stays true while memory grows, proved from those of the operations for which it waits. It proves nothing of the program.
-/
import Derived.Test.YtjmejfgkogjpaaaGreatDoorJ1
namespace Go.Proofs.YtjmejfgkogjpaaaGreatDoor
open Go.RowKit Go Go.Shelf

def upd (D : Nat → Bool) (i : Nat) : Nat → Bool := fun j => if j = i then true else D j
theorem upd_count (D : Nat → Bool) (i : Nat) (hi : D i = false) (l : List Nat) : l.countP (fun j => !upd D i j) + (if i ∈ l then 1 else 0) ≤ l.countP (fun j => !D j) := by
  induction l with
  | nil => simp
  | cons x t ih =>
    rw [List.countP_cons, List.countP_cons]
    by_cases hx : x = i
    · subst hx
      have h1 : (!upd D x x) = false := by simp [upd]
      have h2 : (!D x) = true := by simp [hi]
      rw [h1, h2]
      simp only [List.mem_cons, true_or, if_true]
      have : t.countP (fun j => !upd D x j) ≤ t.countP (fun j => !D j) := by
        refine Nat.le_trans ?_ ih
        omega
      simp
      omega
    · have h1 : (!upd D i x) = !D x := by simp [upd, hx]
      rw [h1]
      have hm : (if i ∈ x :: t then 1 else 0) = (if i ∈ t then 1 else 0) := by
        have : i ∈ x :: t ↔ i ∈ t := by simp [Ne.symm hx]
        simp only [this]
      rw [hm]
      omega
/-- every edge leads back; the last operation waits for all others -/
def growB (ops : Array Oper) (n : Nat) : Bool :=
  (List.range (n + 1)).all (fun i => match ops[i]? with | some o => o.after.all fun e => decide (e.on < i) | none => false) &&
  (List.range n).all (fun j => match ops[n]? with | some o => o.after.any fun e => Region.binds .any e && decide (e.on = j) | none => false)
theorem growB_back {ops : Array Oper} {n : Nat} (h : growB ops n = true) {i : Nat} {o : Oper} (hi : i < n + 1) (ho : ops[i]? = some o) : ∀ e ∈ o.after, e.on < i := by
  simp only [growB, Bool.and_eq_true, List.all_eq_true] at h
  have := h.1 i (List.mem_range.2 hi)
  rw [ho] at this
  intro e he
  have := Array.all_eq_true'.1 this e he
  simpa using this
theorem growB_last {ops : Array Oper} {n : Nat} (h : growB ops n = true) {o : Oper} (ho : ops[n]? = some o) {j : Nat} (hj : j < n) : ∃ e ∈ o.after, Region.binds .any e = true ∧ e.on = j := by
  simp only [growB, Bool.and_eq_true, List.all_eq_true] at h
  have := h.2 j (List.mem_range.2 hj)
  rw [ho] at this
  obtain ⟨e, he, h2⟩ := Array.any_eq_true'.1 this
  simp at h2
  exact ⟨e, he, h2.1, h2.2⟩

theorem wpOp_mono' {P : Program} {ops : Array Oper} {Q : Exit → Act → World → Prop} {i : Nat} {K K' : Act → World → Prop} {a : Act} {w : World} (h : ∀ a w, K a w → K' a w) (hh : wpOp P ops Q i K a w) : wpOp P ops Q i K' a w := by
  unfold wpOp at hh ⊢
  split at hh
  · exact h _ _ hh
  · split at hh
    · rename_i hw
      rw [if_pos hw]
      rcases hh with hh | hh
      · exact .inl (Oper.wp_mono h hh)
      · exact .inr hh
    · rename_i hw
      rw [if_neg hw]
      exact h _ _ hh

theorem wpAny_grow {P : Program} {ops : Array Oper} {Q : Exit → Act → World → Prop} {n : Nat} (hn : ops.size = n + 1) (hB : growB ops n = true) (Inv : (Nat → Bool) → Act → World → Prop)
    (hstep : ∀ D a w i o, i < n → ops[i]? = some o → D i = false → (∀ e ∈ o.after, Region.binds .any e = true → D e.on = true) → Inv D a w → wpOp P ops Q i (fun a' w' => Inv (upd D i) a' w') a w)
    (hend : ∀ D a w, (∀ j, j < n → D j = true) → Inv D a w → wpOp P ops Q n (fun a' w' => Q .normal a' w') a w) :
    ∀ (fuel : Nat) (L : Array Bool) (a : Act) (w : World), L.size = n + 1 → (List.range (n + 1)).countP (fun j => !L.getD j false) ≤ fuel →
      ((L.getD n true = false ∧ Inv (fun j => L.getD j false) a w) ∨ ((∀ j, j < n + 1 → L.getD j false = true) ∧ Q .normal a w)) → wpAny P .any ops Q fuel L a w := by
  intro fuel
  induction fuel with
  | zero =>
    rintro L a w hL hc (⟨h1, _⟩ | ⟨h1, h2⟩)
    · have h3 : (List.range (n + 1)).countP (fun j => !L.getD j false) = 0 := by omega
      rw [List.countP_eq_zero] at h3
      have := h3 n (List.mem_range.2 (by omega))
      rw [show L.getD n false = L.getD n true by simp [Array.getD, hL]] at this
      rw [h1] at this
      simp at this
    · refine ⟨?_, h2⟩
      refine List.eq_nil_iff_forall_not_mem.2 fun j hj => ?_
      obtain ⟨hj1, o, ho, _⟩ := mem_ready.1 hj
      have hjn : j < n + 1 := by have := (Array.getElem?_eq_some_iff.1 ho).1; omega
      have := h1 j hjn
      rw [show L.getD j false = L.getD j true by simp [Array.getD, hL, hjn]] at this
      rw [hj1] at this; cases this
  | succ fuel ih =>
    rintro L a w hL hc (⟨h1, h2⟩ | ⟨h1, h2⟩)
    · have hDn : L.getD n false = false := by rw [show L.getD n false = L.getD n true by simp [Array.getD, hL]]; exact h1
      refine ⟨fun hr => ?_, fun i hi => ?_⟩
      · exfalso
        have key : ∀ j, j < n + 1 → L.getD j false = true := by
          intro j
          induction j using Nat.strongRecOn with
          | ind j ihj =>
            intro hj
            cases hv : L.getD j false with
            | true => rfl
            | false =>
              exfalso
              obtain ⟨o, ho⟩ : ∃ o, ops[j]? = some o := ⟨ops[j]'(by omega), Array.getElem?_eq_getElem _⟩
              have : j ∈ Region.ready .any ops L := mem_ready.2 ⟨by rw [show L.getD j true = L.getD j false by simp [Array.getD, hL, hj]]; exact hv, o, ho, fun e he _ => by
                have := growB_back hB hj ho e he
                exact ihj e.on this (by omega)⟩
              rw [hr] at this
              cases this
        have := key n (by omega)
        rw [hDn] at this; cases this
      · obtain ⟨hi1, o, ho, hdep⟩ := mem_ready.1 hi
        have hin : i < n + 1 := by have := (Array.getElem?_eq_some_iff.1 ho).1; omega
        have hiD : L.getD i false = false := by rw [show L.getD i false = L.getD i true by simp [Array.getD, hL, hin]]; exact hi1
        have hupd : (fun j => (L.setIfInBounds i true).getD j false) = upd (fun j => L.getD j false) i := by
          funext j
          unfold upd
          by_cases hji : j = i
          · subst hji; simp [Array.getD, hL, hin]
          · rw [if_neg hji]
            simp only [Array.getD, Array.size_setIfInBounds]
            split
            · exact Array.getElem_setIfInBounds_ne _ (Ne.symm hji)
            · rfl
        have hcnt : (List.range (n + 1)).countP (fun j => !(L.setIfInBounds i true).getD j false) ≤ fuel := by
          have h3 := upd_count (fun j => L.getD j false) i hiD (List.range (n + 1))
          rw [if_pos (List.mem_range.2 hin)] at h3
          have h4 : (fun j => !(L.setIfInBounds i true).getD j false) = fun j => !upd (fun j => L.getD j false) i j := by
            funext j; rw [← hupd]
          rw [h4]
          omega
        by_cases hlt : i < n
        · refine wpOp_mono' (fun a' w' h => ih (L.setIfInBounds i true) a' w' (by simpa using hL) hcnt (.inl ⟨?_, by rw [hupd]; exact h⟩)) (hstep (fun j => L.getD j false) a w i o hlt ho hiD hdep h2)
          have h5 := congrFun hupd n
          unfold upd at h5
          rw [if_neg (by omega)] at h5
          dsimp only at h5
          rw [hDn] at h5
          rw [show (L.setIfInBounds i true).getD n true = (L.setIfInBounds i true).getD n false by simp [Array.getD, hL]]
          exact h5
        · obtain rfl : i = n := by omega
          have hall : ∀ j, j < i → L.getD j false = true := fun j hj => by
            obtain ⟨e, he, hb, rfl⟩ := growB_last hB ho hj
            exact hdep e he hb
          refine wpOp_mono' (fun a' w' h => ih (L.setIfInBounds i true) a' w' (by simpa using hL) hcnt (.inr ⟨fun j hj => ?_, h⟩)) (hend (fun j => L.getD j false) a w hall h2)
          have := congrFun hupd j
          rw [this]
          unfold upd
          by_cases hji : j = i
          · simp [hji]
          · rw [if_neg hji]; exact hall j (by omega)
    · have hr : Region.ready .any ops L = [] := by
        refine List.eq_nil_iff_forall_not_mem.2 fun j hj => ?_
        obtain ⟨hj1, o, ho, _⟩ := mem_ready.1 hj
        have hjn : j < n + 1 := by have := (Array.getElem?_eq_some_iff.1 ho).1; omega
        have := h1 j hjn
        rw [show L.getD j false = L.getD j true by simp [Array.getD, hL, hjn]] at this
        rw [hj1] at this; cases this
      exact ⟨fun _ => h2, fun i hi => by rw [hr] at hi; cases hi⟩

/-- The law. -/
theorem wp_region_grow {P : Program} {id : Nat} {l : List Oper} {Q : Exit → Act → World → Prop} {a : Act} {w : World} (n : Nat) (hm : P.follows .mixedOrders = true) (hn : l.toArray.size = n + 1) (hB : growB l.toArray n = true) (Inv : (Nat → Bool) → Act → World → Prop)
    (h0 : Inv (fun _ => false) a w.drew)
    (hstep : ∀ D a w i o, i < n → l.toArray[i]? = some o → D i = false → (∀ e ∈ o.after, Region.binds .any e = true → D e.on = true) → Inv D a w → wpOp P l.toArray Q i (fun a' w' => Inv (upd D i) a' w') a w)
    (hend : ∀ D a w, (∀ j, j < n → D j = true) → Inv D a w → wpOp P l.toArray Q n (fun a' w' => Q .normal a' w') a w) : (Code.region id l.toArray true).wp P Q a w := by
  refine wp_region_any hm ?_
  refine wpAny_grow hn hB Inv hstep hend _ _ _ _ (by rw [Array.size_replicate, hn]) ?_ (.inl ⟨?_, ?_⟩)
  · rw [hn]; exact Nat.le_trans List.countP_le_length (by simp)
  · simp [Array.getD, hn]
  · have : (fun j => (Array.replicate l.toArray.size false).getD j false) = fun _ => false := by
      funext j
      simp only [Array.getD]
      split <;> simp
    rw [this]; exact h0

theorem upon_then {P : Program} {o : Oper} {a : Act} {K next : Act → World → Prop} {Q : Exit → Act → World → Prop} {r : Result Next} (h : o.upon P a next (Exit.then K Q) r) : o.upon P a next Q r := by
  cases r with
  | ok x w' =>
    cases x with
    | enter f args =>
      refine Calls.mono h ?_
      rintro e w'' he
      cases e with
      | returned v => exact he
      | panicked ch => exact he
      | outgrown => exact he
    | _ => exact h
  | halt x w' => cases x <;> exact h
/-- One operation, walked alone. -/
theorem wpOp_one {P : Program} {ops : Array Oper} {Q : Exit → Act → World → Prop} {i : Nat} {o : Oper} {K : Act → World → Prop} {a : Act} {w : World} (ho : ops[i]? = some o)
    (h : wpList P ops (Exit.then K Q) [o] a w) : wpOp P ops Q i K a w := by
  unfold wpOp
  rw [ho]
  unfold wpList at h
  dsimp only
  split at h
  · rename_i hw
    rw [if_pos hw]
    rcases h with h | ⟨h1, h2⟩
    · exact .inl (upon_then h)
    · exact .inr ⟨h1, h2⟩
  · rename_i hw
    rw [if_neg hw]
    exact h
/-- A slice that was just made. -/
def NewSl (base n : Nat) (cs : Array Value) (t : TypeId) (x : Value) (w : World) : Prop := ∃ b, x = .slice (some ⟨b, 0, none⟩) n n ∧ base ≤ b ∧ w.heap[b]? = some (.cells cs t)
theorem NewSl.up {base n : Nat} {cs : Array Value} {t : TypeId} {x : Value} {w w' : World} (h : NewSl base n cs t x w) (hb : Below w.heap.size w w') : NewSl base n cs t x w' := by
  obtain ⟨b, e, hl, hc⟩ := h
  exact ⟨b, e, hl, block_up hb hc⟩
def NewBox (base : Nat) (cs : Array Value) (t : TypeId) (x : Value) (w : World) : Prop := ∃ b, x = .pointer (some ⟨b, 0, none⟩) ∧ base ≤ b ∧ w.heap[b]? = some (.cells cs t)
theorem NewBox.up {base : Nat} {cs : Array Value} {t : TypeId} {x : Value} {w w' : World} (h : NewBox base cs t x w) (hb : Below w.heap.size w w') : NewBox base cs t x w' := by
  obtain ⟨b, e, hl, hc⟩ := h
  exact ⟨b, e, hl, block_up hb hc⟩

end Go.Proofs.YtjmejfgkogjpaaaGreatDoor

namespace Go.Proofs.YtjmejfgkogjpaaaGreatDoor
open Go.RowKit Go Go.Shelf

abbrev St.v (s : St) : Value := .agg #[.int .i64 s.rd, .int .i64 s.pr, .int .i64 s.h0, .int .i64 s.h1, .int .i64 s.h2, .int .i64 s.h3, .int .i64 s.h4, .int .i64 s.to]
abbrev St.c (s : St) : Array Value := #[.int .i64 s.rd, .int .i64 s.pr, .int .i64 s.h0, .int .i64 s.h1, .int .i64 s.h2, .int .i64 s.h3, .int .i64 s.h4, .int .i64 s.to]
def St.In (s : St) : Prop := InR s.rd ∧ InR s.pr ∧ InR s.h0 ∧ InR s.h1 ∧ InR s.h2 ∧ InR s.h3 ∧ InR s.h4 ∧ InR s.to

set_option maxHeartbeats 400000 in
theorem or_any (v : Value) (l : List Int) (w : World) (hv : IsInts w v l) :
    Calls Tryz.prog 112 #[v] w fun e w' => e = .returned (.int .i64 (orI l)) ∧ Below w.heap.size w w' := by
  obtain ⟨pa, ca, rfl, la1, la2, ea⟩ := hv.at
  clear hv
  have EA := Lib.hid ea; clear ea
  have HD : Hid (orI l = firstNZ l.length fun i => l.getD i 0) := by exact rfl
  go_enter Tryz.func112, Tryz.ntmps112
  go_wp2
  go_loop [8] (fun i => ∃ k : Nat, k ≤ l.length ∧ i = .int .i64 k ∧ ∀ j, j < k → l.getD j 0 = 0) (fun i => l.length - (intOf i).toNat)
  case atStart => exact ⟨0, by omega, rfl, by simp⟩
  case round =>
    obtain ⟨k, hk, rfl, hinv⟩ := hrel
    have H := Lib.hid hinv; clear hinv
    by_cases hlt : k < l.length
    · obtain ⟨b1, o1, rfl, h1⟩ := EA.out k hlt
      rw [Nat.mul_one] at h1
      have c1 := h1.1
      have HG := Lib.hid (getD_of_lt 0 hlt)
      clear h1
      generalize l[k] = x at c1 HG
      by_cases hx : x = 0
      · have dx : (x != 0) = false := by simpa using hx
        have HX := Lib.hid hx; clear hx
        go_wp2
        go_round
        case rel => exact ⟨k + 1, by omega, by go_num, below_succ H.out (by rw [HG.out]; exact HX.out)⟩
        case measure => simp [intOf]; omega
      · have dx : (x != 0) = true := by simpa using hx
        have HX := Lib.hid hx; clear hx
        go_wp2
        go_ret
        exact ⟨ret_int (by rw [HD.out]; exact firstNZ_hit k _ hlt H.out HG.out HX.out), Below.refl _ _⟩
    · go_wp2
      go_ret
      exact ⟨ret_int (by rw [HD.out, firstNZ_zero]; intro j hj; exact H.out j (by omega)), Below.refl _ _⟩

theorem cmpI_in (a b : Int) : InR (cmpI a b) := by unfold cmpI InR; grind
theorem ordV_in (a b : List Int) : InR (ordV a b) := by
  have h : ordV a b = -1 ∨ ordV a b = 0 ∨ ordV a b = 1 := by
    induction a generalizing b with
    | nil => cases b <;> simp [ordV]
    | cons x t ih =>
      cases b with
      | nil => simp [ordV]
      | cons y u =>
        have := ih u
        unfold ordV
        grind
  unfold InR
  omega
theorem ints3 {w : World} {b : Nat} {x y z : Int} {t : TypeId} (h : w.heap[b]? = some (.cells #[.int .i64 x, .int .i64 y, .int .i64 z] t)) (hx : InR x) (hy : InR y) (hz : InR z) : IsInts w (.slice (some ⟨b, 0, none⟩) 3 3) [x, y, z] :=
  ⟨_, 3, rfl, ⟨by simp, by omega, fun e => by cases e⟩, by simp, fun i v hv => ⟨b, 0, rfl, by
    match i, hv with
    | 0, hv => cases hv; exact ⟨by rw [cell_block h]; rfl, hx⟩
    | 1, hv => cases hv; exact ⟨by rw [cell_block h]; rfl, hy⟩
    | 2, hv => cases hv; exact ⟨by rw [cell_block h]; rfl, hz⟩⟩⟩
theorem heard_ints {w : World} {b : Nat} {s : St} {t : TypeId} (h : w.heap[b]? = some (.cells s.c t)) (hi : s.In) : IsInts w (.slice (some ⟨b, 2, none⟩) 5 5) s.heard :=
  ⟨_, 5, rfl, ⟨by simp [St.heard], by omega, fun e => by cases e⟩, by simp [St.heard], fun i v hv => ⟨b, 2, rfl, by
    obtain ⟨_, _, i0, i1, i2, i3, i4, _⟩ := hi
    match i, hv with
    | 0, hv => cases hv; exact ⟨by rw [cell_block h]; rfl, i0⟩
    | 1, hv => cases hv; exact ⟨by rw [cell_block h]; rfl, i1⟩
    | 2, hv => cases hv; exact ⟨by rw [cell_block h]; rfl, i2⟩
    | 3, hv => cases hv; exact ⟨by rw [cell_block h]; rfl, i3⟩
    | 4, hv => cases hv; exact ⟨by rw [cell_block h]; rfl, i4⟩⟩⟩
set_option maxRecDepth 100000 in
set_option maxHeartbeats 8000000 in
theorem order_any (ya yb : St) (ha : ya.In) (hb : yb.In) (w : World) :
    Calls Tryz.prog 74 #[ya.v, yb.v] w fun e w' => e = .returned (.int .i64 (orderI ya yb)) ∧ Below w.heap.size w w' := by
  have HIA := Lib.hid ha
  have HIB := Lib.hid hb
  clear ha hb
  go_enter Tryz.func74, Tryz.ntmps74
  go_wp2_with fail
  refine wp_gen (fun W1 => Below w.heap.size w W1 ∧ W1.heap[w.heap.size]? = some (.cells ya.c 73) ∧ W1.heap[w.heap.size + 1]? = some (.cells yb.c 73))
    ⟨by go_grown, alloc_old _ (alloc_new _ _), by simpa using alloc_new (w.alloc _) _⟩ (fun W1 hW1 => ?_)
  obtain ⟨hb1, hA, hB0⟩ := hW1
  have HA := Lib.hid hA
  have HB := Lib.hid hB0
  clear hA hB0
  obtain ⟨Inv, hInv⟩ : ∃ Inv : (Nat → Bool) → Act → World → Prop, Inv = fun D a W => ∃ x5 x6 x7 x8 x9 x10 x11 x12 x13 x14 x15 x16 x17 x18 x19 x20 x21 : Value, a = { tmps := #[ya.v, yb.v, .pointer (some ⟨w.heap.size, 0, none⟩), .pointer (some ⟨w.heap.size + 1, 0, none⟩), .int .i64 0, x5, x6, x7, x8, x9, x10, x11, x12, x13, x14, x15, x16, x17, x18, x19, x20, x21], defers := [] } ∧ Below W1.heap.size W1 W ∧ (D 0 = true → x5 = .pointer (some ⟨w.heap.size, 0, none⟩)) ∧ (D 1 = true → (D 0 = true ∧ True) ∧ x6 = .int .i64 ya.rd) ∧ (D 2 = true → x7 = .pointer (some ⟨w.heap.size + 1, 0, none⟩)) ∧ (D 3 = true → (D 2 = true ∧ True) ∧ x8 = .int .i64 yb.rd) ∧ (D 4 = true → (D 1 = true ∧ D 0 = true ∧ D 3 = true ∧ D 2 = true ∧ True) ∧ x9 = .int .i64 (cmpI ya.rd yb.rd)) ∧ (D 5 = true → x10 = .pointer (some ⟨w.heap.size, 1, none⟩)) ∧ (D 6 = true → (D 5 = true ∧ True) ∧ x11 = .int .i64 ya.pr) ∧ (D 7 = true → x12 = .pointer (some ⟨w.heap.size + 1, 1, none⟩)) ∧ (D 8 = true → (D 7 = true ∧ True) ∧ x13 = .int .i64 yb.pr) ∧ (D 9 = true → (D 6 = true ∧ D 5 = true ∧ D 8 = true ∧ D 7 = true ∧ True) ∧ x14 = .int .i64 (cmpI ya.pr yb.pr)) ∧ (D 10 = true → x15 = .pointer (some ⟨w.heap.size, 2, none⟩)) ∧ (D 11 = true → (D 10 = true ∧ True) ∧ x16 = .slice (some ⟨w.heap.size, 2, none⟩) 5 5) ∧ (D 12 = true → x17 = .pointer (some ⟨w.heap.size + 1, 2, none⟩)) ∧ (D 13 = true → (D 12 = true ∧ True) ∧ x18 = .slice (some ⟨w.heap.size + 1, 2, none⟩) 5 5) ∧ (D 14 = true → (D 11 = true ∧ D 10 = true ∧ D 13 = true ∧ D 12 = true ∧ True) ∧ x19 = .int .i64 (ordV ya.heard yb.heard)) ∧ (D 15 = true → (D 4 = true ∧ D 1 = true ∧ D 0 = true ∧ D 3 = true ∧ D 2 = true ∧ D 9 = true ∧ D 6 = true ∧ D 5 = true ∧ D 8 = true ∧ D 7 = true ∧ D 14 = true ∧ D 11 = true ∧ D 10 = true ∧ D 13 = true ∧ D 12 = true ∧ True) ∧ NewSl W1.heap.size 3 #[.int .i64 (cmpI ya.rd yb.rd), .int .i64 (cmpI ya.pr yb.pr), .int .i64 (ordV ya.heard yb.heard)] 3 x20 W) ∧ (D 16 = true → (D 15 = true ∧ D 4 = true ∧ D 1 = true ∧ D 0 = true ∧ D 3 = true ∧ D 2 = true ∧ D 9 = true ∧ D 6 = true ∧ D 5 = true ∧ D 8 = true ∧ D 7 = true ∧ D 14 = true ∧ D 11 = true ∧ D 10 = true ∧ D 13 = true ∧ D 12 = true ∧ True) ∧ x21 = .int .i64 (orderI ya yb)) := ⟨_, rfl⟩
  have HINV := Lib.hid hInv; clear hInv
  refine wp_region_grow 17 (by kernel_rfl) rfl (by kernel_rfl) Inv (by rw [HINV.out]; exact ⟨_, _, _, _, _, _, _, _, _, _, _, _, _, _, _, _, _, rfl, (Below.refl _ _).drew, nofun, nofun, nofun, nofun, nofun, nofun, nofun, nofun, nofun, nofun, nofun, nofun, nofun, nofun, nofun, nofun, nofun⟩) ?step ?last
  case step =>
    intro D a W i o hi ho hD hdep hI
    rw [HINV.out] at hI
    obtain ⟨x5, x6, x7, x8, x9, x10, x11, x12, x13, x14, x15, x16, x17, x18, x19, x20, x21, rfl, hB, s0, s1, s2, s3, s4, s5, s6, s7, s8, s9, s10, s11, s12, s13, s14, s15, s16⟩ := hI
    have hcase : i = 0 ∨ i = 1 ∨ i = 2 ∨ i = 3 ∨ i = 4 ∨ i = 5 ∨ i = 6 ∨ i = 7 ∨ i = 8 ∨ i = 9 ∨ i = 10 ∨ i = 11 ∨ i = 12 ∨ i = 13 ∨ i = 14 ∨ i = 15 ∨ i = 16 := by omega
    rcases hcase with rfl | rfl | rfl | rfl | rfl | rfl | rfl | rfl | rfl | rfl | rfl | rfl | rfl | rfl | rfl | rfl | rfl
    · obtain rfl := Option.some.inj ho.symm
      have HD := Lib.hid hD
      refine wpOp_one rfl ?_
      have Z0 := Lib.hid s0
      have Z1 := Lib.hid s1
      have Z2 := Lib.hid s2
      have Z3 := Lib.hid s3
      have Z4 := Lib.hid s4
      have Z5 := Lib.hid s5
      have Z6 := Lib.hid s6
      have Z7 := Lib.hid s7
      have Z8 := Lib.hid s8
      have Z9 := Lib.hid s9
      have Z10 := Lib.hid s10
      have Z11 := Lib.hid s11
      have Z12 := Lib.hid s12
      have Z13 := Lib.hid s13
      have Z14 := Lib.hid s14
      have Z15 := Lib.hid s15
      have Z16 := Lib.hid s16
      clear hdep hi hD ho s0 s1 s2 s3 s4 s5 s6 s7 s8 s9 s10 s11 s12 s13 s14 s15 s16  
      go_wp2_with fail
      rw [HINV.out]
      refine ⟨_, _, _, _, _, _, _, _, _, _, _, _, _, _, _, _, _, rfl, hB, ?g0, ?g1, ?g2, ?g3, ?g4, ?g5, ?g6, ?g7, ?g8, ?g9, ?g10, ?g11, ?g12, ?g13, ?g14, ?g15, ?g16⟩
      case g0 => exact fun _ => rfl
      case g1 => exact fun h => absurd ((Z1.out h).1.1) (by rw [HD.out]; decide)
      case g2 => first | exact fun h => Z2.out h | exact fun _ => rfl | exact fun h => ⟨(Z2.out h).1, rfl⟩
      case g3 => first | exact fun h => Z3.out h | exact fun _ => rfl | exact fun h => ⟨(Z3.out h).1, rfl⟩
      case g4 => exact fun h => absurd ((Z4.out h).1.2.1) (by rw [HD.out]; decide)
      case g5 => first | exact fun h => Z5.out h | exact fun _ => rfl | exact fun h => ⟨(Z5.out h).1, rfl⟩
      case g6 => first | exact fun h => Z6.out h | exact fun _ => rfl | exact fun h => ⟨(Z6.out h).1, rfl⟩
      case g7 => first | exact fun h => Z7.out h | exact fun _ => rfl | exact fun h => ⟨(Z7.out h).1, rfl⟩
      case g8 => first | exact fun h => Z8.out h | exact fun _ => rfl | exact fun h => ⟨(Z8.out h).1, rfl⟩
      case g9 => first | exact fun h => Z9.out h | exact fun _ => rfl | exact fun h => ⟨(Z9.out h).1, rfl⟩
      case g10 => first | exact fun h => Z10.out h | exact fun _ => rfl | exact fun h => ⟨(Z10.out h).1, rfl⟩
      case g11 => first | exact fun h => Z11.out h | exact fun _ => rfl | exact fun h => ⟨(Z11.out h).1, rfl⟩
      case g12 => first | exact fun h => Z12.out h | exact fun _ => rfl | exact fun h => ⟨(Z12.out h).1, rfl⟩
      case g13 => first | exact fun h => Z13.out h | exact fun _ => rfl | exact fun h => ⟨(Z13.out h).1, rfl⟩
      case g14 => first | exact fun h => Z14.out h | exact fun _ => rfl | exact fun h => ⟨(Z14.out h).1, rfl⟩
      case g15 => exact fun h => absurd ((Z15.out h).1.2.2.1) (by rw [HD.out]; decide)
      case g16 => exact fun h => absurd ((Z16.out h).1.2.2.2.1) (by rw [HD.out]; decide)
    · obtain rfl := Option.some.inj ho.symm
      have HD := Lib.hid hD
      have e0 := hdep ⟨0, .data⟩ (by simp) rfl
      have d0 := s0 e0
      have HCL := Lib.hid (show D 0 = true ∧ True from ⟨e0, trivial⟩)
      obtain rfl := d0
      have t2 := cell_block (block_up hB HA.out)
      refine wpOp_one rfl ?_
      have Z0 := Lib.hid s0
      have Z1 := Lib.hid s1
      have Z2 := Lib.hid s2
      have Z3 := Lib.hid s3
      have Z4 := Lib.hid s4
      have Z5 := Lib.hid s5
      have Z6 := Lib.hid s6
      have Z7 := Lib.hid s7
      have Z8 := Lib.hid s8
      have Z9 := Lib.hid s9
      have Z10 := Lib.hid s10
      have Z11 := Lib.hid s11
      have Z12 := Lib.hid s12
      have Z13 := Lib.hid s13
      have Z14 := Lib.hid s14
      have Z15 := Lib.hid s15
      have Z16 := Lib.hid s16
      clear hdep hi hD ho s0 s1 s2 s3 s4 s5 s6 s7 s8 s9 s10 s11 s12 s13 s14 s15 s16 e0 
      go_wp2_with fail
      rw [HINV.out]
      refine ⟨_, _, _, _, _, _, _, _, _, _, _, _, _, _, _, _, _, rfl, hB, ?g0, ?g1, ?g2, ?g3, ?g4, ?g5, ?g6, ?g7, ?g8, ?g9, ?g10, ?g11, ?g12, ?g13, ?g14, ?g15, ?g16⟩
      case g0 => first | exact fun h => Z0.out h | exact fun _ => rfl | exact fun h => ⟨(Z0.out h).1, rfl⟩
      case g1 => exact fun _ => ⟨HCL.out, rfl⟩
      case g2 => first | exact fun h => Z2.out h | exact fun _ => rfl | exact fun h => ⟨(Z2.out h).1, rfl⟩
      case g3 => first | exact fun h => Z3.out h | exact fun _ => rfl | exact fun h => ⟨(Z3.out h).1, rfl⟩
      case g4 => exact fun h => absurd ((Z4.out h).1.1) (by rw [HD.out]; decide)
      case g5 => first | exact fun h => Z5.out h | exact fun _ => rfl | exact fun h => ⟨(Z5.out h).1, rfl⟩
      case g6 => first | exact fun h => Z6.out h | exact fun _ => rfl | exact fun h => ⟨(Z6.out h).1, rfl⟩
      case g7 => first | exact fun h => Z7.out h | exact fun _ => rfl | exact fun h => ⟨(Z7.out h).1, rfl⟩
      case g8 => first | exact fun h => Z8.out h | exact fun _ => rfl | exact fun h => ⟨(Z8.out h).1, rfl⟩
      case g9 => first | exact fun h => Z9.out h | exact fun _ => rfl | exact fun h => ⟨(Z9.out h).1, rfl⟩
      case g10 => first | exact fun h => Z10.out h | exact fun _ => rfl | exact fun h => ⟨(Z10.out h).1, rfl⟩
      case g11 => first | exact fun h => Z11.out h | exact fun _ => rfl | exact fun h => ⟨(Z11.out h).1, rfl⟩
      case g12 => first | exact fun h => Z12.out h | exact fun _ => rfl | exact fun h => ⟨(Z12.out h).1, rfl⟩
      case g13 => first | exact fun h => Z13.out h | exact fun _ => rfl | exact fun h => ⟨(Z13.out h).1, rfl⟩
      case g14 => first | exact fun h => Z14.out h | exact fun _ => rfl | exact fun h => ⟨(Z14.out h).1, rfl⟩
      case g15 => exact fun h => absurd ((Z15.out h).1.2.1) (by rw [HD.out]; decide)
      case g16 => exact fun h => absurd ((Z16.out h).1.2.2.1) (by rw [HD.out]; decide)
    · obtain rfl := Option.some.inj ho.symm
      have HD := Lib.hid hD
      refine wpOp_one rfl ?_
      have Z0 := Lib.hid s0
      have Z1 := Lib.hid s1
      have Z2 := Lib.hid s2
      have Z3 := Lib.hid s3
      have Z4 := Lib.hid s4
      have Z5 := Lib.hid s5
      have Z6 := Lib.hid s6
      have Z7 := Lib.hid s7
      have Z8 := Lib.hid s8
      have Z9 := Lib.hid s9
      have Z10 := Lib.hid s10
      have Z11 := Lib.hid s11
      have Z12 := Lib.hid s12
      have Z13 := Lib.hid s13
      have Z14 := Lib.hid s14
      have Z15 := Lib.hid s15
      have Z16 := Lib.hid s16
      clear hdep hi hD ho s0 s1 s2 s3 s4 s5 s6 s7 s8 s9 s10 s11 s12 s13 s14 s15 s16  
      go_wp2_with fail
      rw [HINV.out]
      refine ⟨_, _, _, _, _, _, _, _, _, _, _, _, _, _, _, _, _, rfl, hB, ?g0, ?g1, ?g2, ?g3, ?g4, ?g5, ?g6, ?g7, ?g8, ?g9, ?g10, ?g11, ?g12, ?g13, ?g14, ?g15, ?g16⟩
      case g0 => first | exact fun h => Z0.out h | exact fun _ => rfl | exact fun h => ⟨(Z0.out h).1, rfl⟩
      case g1 => first | exact fun h => Z1.out h | exact fun _ => rfl | exact fun h => ⟨(Z1.out h).1, rfl⟩
      case g2 => exact fun _ => rfl
      case g3 => exact fun h => absurd ((Z3.out h).1.1) (by rw [HD.out]; decide)
      case g4 => exact fun h => absurd ((Z4.out h).1.2.2.2.1) (by rw [HD.out]; decide)
      case g5 => first | exact fun h => Z5.out h | exact fun _ => rfl | exact fun h => ⟨(Z5.out h).1, rfl⟩
      case g6 => first | exact fun h => Z6.out h | exact fun _ => rfl | exact fun h => ⟨(Z6.out h).1, rfl⟩
      case g7 => first | exact fun h => Z7.out h | exact fun _ => rfl | exact fun h => ⟨(Z7.out h).1, rfl⟩
      case g8 => first | exact fun h => Z8.out h | exact fun _ => rfl | exact fun h => ⟨(Z8.out h).1, rfl⟩
      case g9 => first | exact fun h => Z9.out h | exact fun _ => rfl | exact fun h => ⟨(Z9.out h).1, rfl⟩
      case g10 => first | exact fun h => Z10.out h | exact fun _ => rfl | exact fun h => ⟨(Z10.out h).1, rfl⟩
      case g11 => first | exact fun h => Z11.out h | exact fun _ => rfl | exact fun h => ⟨(Z11.out h).1, rfl⟩
      case g12 => first | exact fun h => Z12.out h | exact fun _ => rfl | exact fun h => ⟨(Z12.out h).1, rfl⟩
      case g13 => first | exact fun h => Z13.out h | exact fun _ => rfl | exact fun h => ⟨(Z13.out h).1, rfl⟩
      case g14 => first | exact fun h => Z14.out h | exact fun _ => rfl | exact fun h => ⟨(Z14.out h).1, rfl⟩
      case g15 => exact fun h => absurd ((Z15.out h).1.2.2.2.2.1) (by rw [HD.out]; decide)
      case g16 => exact fun h => absurd ((Z16.out h).1.2.2.2.2.2.1) (by rw [HD.out]; decide)
    · obtain rfl := Option.some.inj ho.symm
      have HD := Lib.hid hD
      have e2 := hdep ⟨2, .data⟩ (by simp) rfl
      have d2 := s2 e2
      have HCL := Lib.hid (show D 2 = true ∧ True from ⟨e2, trivial⟩)
      obtain rfl := d2
      have t2 := cell_block (block_up hB HB.out)
      refine wpOp_one rfl ?_
      have Z0 := Lib.hid s0
      have Z1 := Lib.hid s1
      have Z2 := Lib.hid s2
      have Z3 := Lib.hid s3
      have Z4 := Lib.hid s4
      have Z5 := Lib.hid s5
      have Z6 := Lib.hid s6
      have Z7 := Lib.hid s7
      have Z8 := Lib.hid s8
      have Z9 := Lib.hid s9
      have Z10 := Lib.hid s10
      have Z11 := Lib.hid s11
      have Z12 := Lib.hid s12
      have Z13 := Lib.hid s13
      have Z14 := Lib.hid s14
      have Z15 := Lib.hid s15
      have Z16 := Lib.hid s16
      clear hdep hi hD ho s0 s1 s2 s3 s4 s5 s6 s7 s8 s9 s10 s11 s12 s13 s14 s15 s16 e2 
      go_wp2_with fail
      rw [HINV.out]
      refine ⟨_, _, _, _, _, _, _, _, _, _, _, _, _, _, _, _, _, rfl, hB, ?g0, ?g1, ?g2, ?g3, ?g4, ?g5, ?g6, ?g7, ?g8, ?g9, ?g10, ?g11, ?g12, ?g13, ?g14, ?g15, ?g16⟩
      case g0 => first | exact fun h => Z0.out h | exact fun _ => rfl | exact fun h => ⟨(Z0.out h).1, rfl⟩
      case g1 => first | exact fun h => Z1.out h | exact fun _ => rfl | exact fun h => ⟨(Z1.out h).1, rfl⟩
      case g2 => first | exact fun h => Z2.out h | exact fun _ => rfl | exact fun h => ⟨(Z2.out h).1, rfl⟩
      case g3 => exact fun _ => ⟨HCL.out, rfl⟩
      case g4 => exact fun h => absurd ((Z4.out h).1.2.2.1) (by rw [HD.out]; decide)
      case g5 => first | exact fun h => Z5.out h | exact fun _ => rfl | exact fun h => ⟨(Z5.out h).1, rfl⟩
      case g6 => first | exact fun h => Z6.out h | exact fun _ => rfl | exact fun h => ⟨(Z6.out h).1, rfl⟩
      case g7 => first | exact fun h => Z7.out h | exact fun _ => rfl | exact fun h => ⟨(Z7.out h).1, rfl⟩
      case g8 => first | exact fun h => Z8.out h | exact fun _ => rfl | exact fun h => ⟨(Z8.out h).1, rfl⟩
      case g9 => first | exact fun h => Z9.out h | exact fun _ => rfl | exact fun h => ⟨(Z9.out h).1, rfl⟩
      case g10 => first | exact fun h => Z10.out h | exact fun _ => rfl | exact fun h => ⟨(Z10.out h).1, rfl⟩
      case g11 => first | exact fun h => Z11.out h | exact fun _ => rfl | exact fun h => ⟨(Z11.out h).1, rfl⟩
      case g12 => first | exact fun h => Z12.out h | exact fun _ => rfl | exact fun h => ⟨(Z12.out h).1, rfl⟩
      case g13 => first | exact fun h => Z13.out h | exact fun _ => rfl | exact fun h => ⟨(Z13.out h).1, rfl⟩
      case g14 => first | exact fun h => Z14.out h | exact fun _ => rfl | exact fun h => ⟨(Z14.out h).1, rfl⟩
      case g15 => exact fun h => absurd ((Z15.out h).1.2.2.2.1) (by rw [HD.out]; decide)
      case g16 => exact fun h => absurd ((Z16.out h).1.2.2.2.2.1) (by rw [HD.out]; decide)
    · obtain rfl := Option.some.inj ho.symm
      have HD := Lib.hid hD
      have e1 := hdep ⟨1, .data⟩ (by simp) rfl
      have d1 := s1 e1
      obtain ⟨g1, d1⟩ := d1
      have e3 := hdep ⟨3, .data⟩ (by simp) rfl
      have d3 := s3 e3
      obtain ⟨g3, d3⟩ := d3
      have HCL := Lib.hid (show D 1 = true ∧ D 0 = true ∧ D 3 = true ∧ D 2 = true ∧ True from ⟨e1, g1.1, e3, g3.1, trivial⟩)
      obtain rfl := d1
      obtain rfl := d3
      refine wpOp_one rfl ?_
      have Z0 := Lib.hid s0
      have Z1 := Lib.hid s1
      have Z2 := Lib.hid s2
      have Z3 := Lib.hid s3
      have Z4 := Lib.hid s4
      have Z5 := Lib.hid s5
      have Z6 := Lib.hid s6
      have Z7 := Lib.hid s7
      have Z8 := Lib.hid s8
      have Z9 := Lib.hid s9
      have Z10 := Lib.hid s10
      have Z11 := Lib.hid s11
      have Z12 := Lib.hid s12
      have Z13 := Lib.hid s13
      have Z14 := Lib.hid s14
      have Z15 := Lib.hid s15
      have Z16 := Lib.hid s16
      clear hdep hi hD ho s0 s1 s2 s3 s4 s5 s6 s7 s8 s9 s10 s11 s12 s13 s14 s15 s16 e1 e3 g1 g3
      go_wp2_with fail
      refine (cmp_any _ _ _).mono ?_
      rintro e w9 ⟨rfl, rfl⟩
      go_wp2_with fail
      rw [HINV.out]
      refine ⟨_, _, _, _, _, _, _, _, _, _, _, _, _, _, _, _, _, rfl, hB, ?g0, ?g1, ?g2, ?g3, ?g4, ?g5, ?g6, ?g7, ?g8, ?g9, ?g10, ?g11, ?g12, ?g13, ?g14, ?g15, ?g16⟩
      case g0 => first | exact fun h => Z0.out h | exact fun _ => rfl | exact fun h => ⟨(Z0.out h).1, rfl⟩
      case g1 => first | exact fun h => Z1.out h | exact fun _ => rfl | exact fun h => ⟨(Z1.out h).1, rfl⟩
      case g2 => first | exact fun h => Z2.out h | exact fun _ => rfl | exact fun h => ⟨(Z2.out h).1, rfl⟩
      case g3 => first | exact fun h => Z3.out h | exact fun _ => rfl | exact fun h => ⟨(Z3.out h).1, rfl⟩
      case g4 => exact fun _ => ⟨HCL.out, rfl⟩
      case g5 => first | exact fun h => Z5.out h | exact fun _ => rfl | exact fun h => ⟨(Z5.out h).1, rfl⟩
      case g6 => first | exact fun h => Z6.out h | exact fun _ => rfl | exact fun h => ⟨(Z6.out h).1, rfl⟩
      case g7 => first | exact fun h => Z7.out h | exact fun _ => rfl | exact fun h => ⟨(Z7.out h).1, rfl⟩
      case g8 => first | exact fun h => Z8.out h | exact fun _ => rfl | exact fun h => ⟨(Z8.out h).1, rfl⟩
      case g9 => first | exact fun h => Z9.out h | exact fun _ => rfl | exact fun h => ⟨(Z9.out h).1, rfl⟩
      case g10 => first | exact fun h => Z10.out h | exact fun _ => rfl | exact fun h => ⟨(Z10.out h).1, rfl⟩
      case g11 => first | exact fun h => Z11.out h | exact fun _ => rfl | exact fun h => ⟨(Z11.out h).1, rfl⟩
      case g12 => first | exact fun h => Z12.out h | exact fun _ => rfl | exact fun h => ⟨(Z12.out h).1, rfl⟩
      case g13 => first | exact fun h => Z13.out h | exact fun _ => rfl | exact fun h => ⟨(Z13.out h).1, rfl⟩
      case g14 => first | exact fun h => Z14.out h | exact fun _ => rfl | exact fun h => ⟨(Z14.out h).1, rfl⟩
      case g15 => exact fun h => absurd ((Z15.out h).1.1) (by rw [HD.out]; decide)
      case g16 => exact fun h => absurd ((Z16.out h).1.2.1) (by rw [HD.out]; decide)
    · obtain rfl := Option.some.inj ho.symm
      have HD := Lib.hid hD
      refine wpOp_one rfl ?_
      have Z0 := Lib.hid s0
      have Z1 := Lib.hid s1
      have Z2 := Lib.hid s2
      have Z3 := Lib.hid s3
      have Z4 := Lib.hid s4
      have Z5 := Lib.hid s5
      have Z6 := Lib.hid s6
      have Z7 := Lib.hid s7
      have Z8 := Lib.hid s8
      have Z9 := Lib.hid s9
      have Z10 := Lib.hid s10
      have Z11 := Lib.hid s11
      have Z12 := Lib.hid s12
      have Z13 := Lib.hid s13
      have Z14 := Lib.hid s14
      have Z15 := Lib.hid s15
      have Z16 := Lib.hid s16
      clear hdep hi hD ho s0 s1 s2 s3 s4 s5 s6 s7 s8 s9 s10 s11 s12 s13 s14 s15 s16  
      go_wp2_with fail
      rw [HINV.out]
      refine ⟨_, _, _, _, _, _, _, _, _, _, _, _, _, _, _, _, _, rfl, hB, ?g0, ?g1, ?g2, ?g3, ?g4, ?g5, ?g6, ?g7, ?g8, ?g9, ?g10, ?g11, ?g12, ?g13, ?g14, ?g15, ?g16⟩
      case g0 => first | exact fun h => Z0.out h | exact fun _ => rfl | exact fun h => ⟨(Z0.out h).1, rfl⟩
      case g1 => first | exact fun h => Z1.out h | exact fun _ => rfl | exact fun h => ⟨(Z1.out h).1, rfl⟩
      case g2 => first | exact fun h => Z2.out h | exact fun _ => rfl | exact fun h => ⟨(Z2.out h).1, rfl⟩
      case g3 => first | exact fun h => Z3.out h | exact fun _ => rfl | exact fun h => ⟨(Z3.out h).1, rfl⟩
      case g4 => first | exact fun h => Z4.out h | exact fun _ => rfl | exact fun h => ⟨(Z4.out h).1, rfl⟩
      case g5 => exact fun _ => rfl
      case g6 => exact fun h => absurd ((Z6.out h).1.1) (by rw [HD.out]; decide)
      case g7 => first | exact fun h => Z7.out h | exact fun _ => rfl | exact fun h => ⟨(Z7.out h).1, rfl⟩
      case g8 => first | exact fun h => Z8.out h | exact fun _ => rfl | exact fun h => ⟨(Z8.out h).1, rfl⟩
      case g9 => exact fun h => absurd ((Z9.out h).1.2.1) (by rw [HD.out]; decide)
      case g10 => first | exact fun h => Z10.out h | exact fun _ => rfl | exact fun h => ⟨(Z10.out h).1, rfl⟩
      case g11 => first | exact fun h => Z11.out h | exact fun _ => rfl | exact fun h => ⟨(Z11.out h).1, rfl⟩
      case g12 => first | exact fun h => Z12.out h | exact fun _ => rfl | exact fun h => ⟨(Z12.out h).1, rfl⟩
      case g13 => first | exact fun h => Z13.out h | exact fun _ => rfl | exact fun h => ⟨(Z13.out h).1, rfl⟩
      case g14 => first | exact fun h => Z14.out h | exact fun _ => rfl | exact fun h => ⟨(Z14.out h).1, rfl⟩
      case g15 => exact fun h => absurd ((Z15.out h).1.2.2.2.2.2.2.2.1) (by rw [HD.out]; decide)
      case g16 => exact fun h => absurd ((Z16.out h).1.2.2.2.2.2.2.2.2.1) (by rw [HD.out]; decide)
    · obtain rfl := Option.some.inj ho.symm
      have HD := Lib.hid hD
      have e5 := hdep ⟨5, .data⟩ (by simp) rfl
      have d5 := s5 e5
      have HCL := Lib.hid (show D 5 = true ∧ True from ⟨e5, trivial⟩)
      obtain rfl := d5
      have t2 := cell_block (block_up hB HA.out)
      refine wpOp_one rfl ?_
      have Z0 := Lib.hid s0
      have Z1 := Lib.hid s1
      have Z2 := Lib.hid s2
      have Z3 := Lib.hid s3
      have Z4 := Lib.hid s4
      have Z5 := Lib.hid s5
      have Z6 := Lib.hid s6
      have Z7 := Lib.hid s7
      have Z8 := Lib.hid s8
      have Z9 := Lib.hid s9
      have Z10 := Lib.hid s10
      have Z11 := Lib.hid s11
      have Z12 := Lib.hid s12
      have Z13 := Lib.hid s13
      have Z14 := Lib.hid s14
      have Z15 := Lib.hid s15
      have Z16 := Lib.hid s16
      clear hdep hi hD ho s0 s1 s2 s3 s4 s5 s6 s7 s8 s9 s10 s11 s12 s13 s14 s15 s16 e5 
      go_wp2_with fail
      rw [HINV.out]
      refine ⟨_, _, _, _, _, _, _, _, _, _, _, _, _, _, _, _, _, rfl, hB, ?g0, ?g1, ?g2, ?g3, ?g4, ?g5, ?g6, ?g7, ?g8, ?g9, ?g10, ?g11, ?g12, ?g13, ?g14, ?g15, ?g16⟩
      case g0 => first | exact fun h => Z0.out h | exact fun _ => rfl | exact fun h => ⟨(Z0.out h).1, rfl⟩
      case g1 => first | exact fun h => Z1.out h | exact fun _ => rfl | exact fun h => ⟨(Z1.out h).1, rfl⟩
      case g2 => first | exact fun h => Z2.out h | exact fun _ => rfl | exact fun h => ⟨(Z2.out h).1, rfl⟩
      case g3 => first | exact fun h => Z3.out h | exact fun _ => rfl | exact fun h => ⟨(Z3.out h).1, rfl⟩
      case g4 => first | exact fun h => Z4.out h | exact fun _ => rfl | exact fun h => ⟨(Z4.out h).1, rfl⟩
      case g5 => first | exact fun h => Z5.out h | exact fun _ => rfl | exact fun h => ⟨(Z5.out h).1, rfl⟩
      case g6 => exact fun _ => ⟨HCL.out, rfl⟩
      case g7 => first | exact fun h => Z7.out h | exact fun _ => rfl | exact fun h => ⟨(Z7.out h).1, rfl⟩
      case g8 => first | exact fun h => Z8.out h | exact fun _ => rfl | exact fun h => ⟨(Z8.out h).1, rfl⟩
      case g9 => exact fun h => absurd ((Z9.out h).1.1) (by rw [HD.out]; decide)
      case g10 => first | exact fun h => Z10.out h | exact fun _ => rfl | exact fun h => ⟨(Z10.out h).1, rfl⟩
      case g11 => first | exact fun h => Z11.out h | exact fun _ => rfl | exact fun h => ⟨(Z11.out h).1, rfl⟩
      case g12 => first | exact fun h => Z12.out h | exact fun _ => rfl | exact fun h => ⟨(Z12.out h).1, rfl⟩
      case g13 => first | exact fun h => Z13.out h | exact fun _ => rfl | exact fun h => ⟨(Z13.out h).1, rfl⟩
      case g14 => first | exact fun h => Z14.out h | exact fun _ => rfl | exact fun h => ⟨(Z14.out h).1, rfl⟩
      case g15 => exact fun h => absurd ((Z15.out h).1.2.2.2.2.2.2.1) (by rw [HD.out]; decide)
      case g16 => exact fun h => absurd ((Z16.out h).1.2.2.2.2.2.2.2.1) (by rw [HD.out]; decide)
    · obtain rfl := Option.some.inj ho.symm
      have HD := Lib.hid hD
      refine wpOp_one rfl ?_
      have Z0 := Lib.hid s0
      have Z1 := Lib.hid s1
      have Z2 := Lib.hid s2
      have Z3 := Lib.hid s3
      have Z4 := Lib.hid s4
      have Z5 := Lib.hid s5
      have Z6 := Lib.hid s6
      have Z7 := Lib.hid s7
      have Z8 := Lib.hid s8
      have Z9 := Lib.hid s9
      have Z10 := Lib.hid s10
      have Z11 := Lib.hid s11
      have Z12 := Lib.hid s12
      have Z13 := Lib.hid s13
      have Z14 := Lib.hid s14
      have Z15 := Lib.hid s15
      have Z16 := Lib.hid s16
      clear hdep hi hD ho s0 s1 s2 s3 s4 s5 s6 s7 s8 s9 s10 s11 s12 s13 s14 s15 s16  
      go_wp2_with fail
      rw [HINV.out]
      refine ⟨_, _, _, _, _, _, _, _, _, _, _, _, _, _, _, _, _, rfl, hB, ?g0, ?g1, ?g2, ?g3, ?g4, ?g5, ?g6, ?g7, ?g8, ?g9, ?g10, ?g11, ?g12, ?g13, ?g14, ?g15, ?g16⟩
      case g0 => first | exact fun h => Z0.out h | exact fun _ => rfl | exact fun h => ⟨(Z0.out h).1, rfl⟩
      case g1 => first | exact fun h => Z1.out h | exact fun _ => rfl | exact fun h => ⟨(Z1.out h).1, rfl⟩
      case g2 => first | exact fun h => Z2.out h | exact fun _ => rfl | exact fun h => ⟨(Z2.out h).1, rfl⟩
      case g3 => first | exact fun h => Z3.out h | exact fun _ => rfl | exact fun h => ⟨(Z3.out h).1, rfl⟩
      case g4 => first | exact fun h => Z4.out h | exact fun _ => rfl | exact fun h => ⟨(Z4.out h).1, rfl⟩
      case g5 => first | exact fun h => Z5.out h | exact fun _ => rfl | exact fun h => ⟨(Z5.out h).1, rfl⟩
      case g6 => first | exact fun h => Z6.out h | exact fun _ => rfl | exact fun h => ⟨(Z6.out h).1, rfl⟩
      case g7 => exact fun _ => rfl
      case g8 => exact fun h => absurd ((Z8.out h).1.1) (by rw [HD.out]; decide)
      case g9 => exact fun h => absurd ((Z9.out h).1.2.2.2.1) (by rw [HD.out]; decide)
      case g10 => first | exact fun h => Z10.out h | exact fun _ => rfl | exact fun h => ⟨(Z10.out h).1, rfl⟩
      case g11 => first | exact fun h => Z11.out h | exact fun _ => rfl | exact fun h => ⟨(Z11.out h).1, rfl⟩
      case g12 => first | exact fun h => Z12.out h | exact fun _ => rfl | exact fun h => ⟨(Z12.out h).1, rfl⟩
      case g13 => first | exact fun h => Z13.out h | exact fun _ => rfl | exact fun h => ⟨(Z13.out h).1, rfl⟩
      case g14 => first | exact fun h => Z14.out h | exact fun _ => rfl | exact fun h => ⟨(Z14.out h).1, rfl⟩
      case g15 => exact fun h => absurd ((Z15.out h).1.2.2.2.2.2.2.2.2.2.1) (by rw [HD.out]; decide)
      case g16 => exact fun h => absurd ((Z16.out h).1.2.2.2.2.2.2.2.2.2.2.1) (by rw [HD.out]; decide)
    · obtain rfl := Option.some.inj ho.symm
      have HD := Lib.hid hD
      have e7 := hdep ⟨7, .data⟩ (by simp) rfl
      have d7 := s7 e7
      have HCL := Lib.hid (show D 7 = true ∧ True from ⟨e7, trivial⟩)
      obtain rfl := d7
      have t2 := cell_block (block_up hB HB.out)
      refine wpOp_one rfl ?_
      have Z0 := Lib.hid s0
      have Z1 := Lib.hid s1
      have Z2 := Lib.hid s2
      have Z3 := Lib.hid s3
      have Z4 := Lib.hid s4
      have Z5 := Lib.hid s5
      have Z6 := Lib.hid s6
      have Z7 := Lib.hid s7
      have Z8 := Lib.hid s8
      have Z9 := Lib.hid s9
      have Z10 := Lib.hid s10
      have Z11 := Lib.hid s11
      have Z12 := Lib.hid s12
      have Z13 := Lib.hid s13
      have Z14 := Lib.hid s14
      have Z15 := Lib.hid s15
      have Z16 := Lib.hid s16
      clear hdep hi hD ho s0 s1 s2 s3 s4 s5 s6 s7 s8 s9 s10 s11 s12 s13 s14 s15 s16 e7 
      go_wp2_with fail
      rw [HINV.out]
      refine ⟨_, _, _, _, _, _, _, _, _, _, _, _, _, _, _, _, _, rfl, hB, ?g0, ?g1, ?g2, ?g3, ?g4, ?g5, ?g6, ?g7, ?g8, ?g9, ?g10, ?g11, ?g12, ?g13, ?g14, ?g15, ?g16⟩
      case g0 => first | exact fun h => Z0.out h | exact fun _ => rfl | exact fun h => ⟨(Z0.out h).1, rfl⟩
      case g1 => first | exact fun h => Z1.out h | exact fun _ => rfl | exact fun h => ⟨(Z1.out h).1, rfl⟩
      case g2 => first | exact fun h => Z2.out h | exact fun _ => rfl | exact fun h => ⟨(Z2.out h).1, rfl⟩
      case g3 => first | exact fun h => Z3.out h | exact fun _ => rfl | exact fun h => ⟨(Z3.out h).1, rfl⟩
      case g4 => first | exact fun h => Z4.out h | exact fun _ => rfl | exact fun h => ⟨(Z4.out h).1, rfl⟩
      case g5 => first | exact fun h => Z5.out h | exact fun _ => rfl | exact fun h => ⟨(Z5.out h).1, rfl⟩
      case g6 => first | exact fun h => Z6.out h | exact fun _ => rfl | exact fun h => ⟨(Z6.out h).1, rfl⟩
      case g7 => first | exact fun h => Z7.out h | exact fun _ => rfl | exact fun h => ⟨(Z7.out h).1, rfl⟩
      case g8 => exact fun _ => ⟨HCL.out, rfl⟩
      case g9 => exact fun h => absurd ((Z9.out h).1.2.2.1) (by rw [HD.out]; decide)
      case g10 => first | exact fun h => Z10.out h | exact fun _ => rfl | exact fun h => ⟨(Z10.out h).1, rfl⟩
      case g11 => first | exact fun h => Z11.out h | exact fun _ => rfl | exact fun h => ⟨(Z11.out h).1, rfl⟩
      case g12 => first | exact fun h => Z12.out h | exact fun _ => rfl | exact fun h => ⟨(Z12.out h).1, rfl⟩
      case g13 => first | exact fun h => Z13.out h | exact fun _ => rfl | exact fun h => ⟨(Z13.out h).1, rfl⟩
      case g14 => first | exact fun h => Z14.out h | exact fun _ => rfl | exact fun h => ⟨(Z14.out h).1, rfl⟩
      case g15 => exact fun h => absurd ((Z15.out h).1.2.2.2.2.2.2.2.2.1) (by rw [HD.out]; decide)
      case g16 => exact fun h => absurd ((Z16.out h).1.2.2.2.2.2.2.2.2.2.1) (by rw [HD.out]; decide)
    · obtain rfl := Option.some.inj ho.symm
      have HD := Lib.hid hD
      have e6 := hdep ⟨6, .data⟩ (by simp) rfl
      have d6 := s6 e6
      obtain ⟨g6, d6⟩ := d6
      have e8 := hdep ⟨8, .data⟩ (by simp) rfl
      have d8 := s8 e8
      obtain ⟨g8, d8⟩ := d8
      have HCL := Lib.hid (show D 6 = true ∧ D 5 = true ∧ D 8 = true ∧ D 7 = true ∧ True from ⟨e6, g6.1, e8, g8.1, trivial⟩)
      obtain rfl := d6
      obtain rfl := d8
      refine wpOp_one rfl ?_
      have Z0 := Lib.hid s0
      have Z1 := Lib.hid s1
      have Z2 := Lib.hid s2
      have Z3 := Lib.hid s3
      have Z4 := Lib.hid s4
      have Z5 := Lib.hid s5
      have Z6 := Lib.hid s6
      have Z7 := Lib.hid s7
      have Z8 := Lib.hid s8
      have Z9 := Lib.hid s9
      have Z10 := Lib.hid s10
      have Z11 := Lib.hid s11
      have Z12 := Lib.hid s12
      have Z13 := Lib.hid s13
      have Z14 := Lib.hid s14
      have Z15 := Lib.hid s15
      have Z16 := Lib.hid s16
      clear hdep hi hD ho s0 s1 s2 s3 s4 s5 s6 s7 s8 s9 s10 s11 s12 s13 s14 s15 s16 e6 e8 g6 g8
      go_wp2_with fail
      refine (cmp_any _ _ _).mono ?_
      rintro e w9 ⟨rfl, rfl⟩
      go_wp2_with fail
      rw [HINV.out]
      refine ⟨_, _, _, _, _, _, _, _, _, _, _, _, _, _, _, _, _, rfl, hB, ?g0, ?g1, ?g2, ?g3, ?g4, ?g5, ?g6, ?g7, ?g8, ?g9, ?g10, ?g11, ?g12, ?g13, ?g14, ?g15, ?g16⟩
      case g0 => first | exact fun h => Z0.out h | exact fun _ => rfl | exact fun h => ⟨(Z0.out h).1, rfl⟩
      case g1 => first | exact fun h => Z1.out h | exact fun _ => rfl | exact fun h => ⟨(Z1.out h).1, rfl⟩
      case g2 => first | exact fun h => Z2.out h | exact fun _ => rfl | exact fun h => ⟨(Z2.out h).1, rfl⟩
      case g3 => first | exact fun h => Z3.out h | exact fun _ => rfl | exact fun h => ⟨(Z3.out h).1, rfl⟩
      case g4 => first | exact fun h => Z4.out h | exact fun _ => rfl | exact fun h => ⟨(Z4.out h).1, rfl⟩
      case g5 => first | exact fun h => Z5.out h | exact fun _ => rfl | exact fun h => ⟨(Z5.out h).1, rfl⟩
      case g6 => first | exact fun h => Z6.out h | exact fun _ => rfl | exact fun h => ⟨(Z6.out h).1, rfl⟩
      case g7 => first | exact fun h => Z7.out h | exact fun _ => rfl | exact fun h => ⟨(Z7.out h).1, rfl⟩
      case g8 => first | exact fun h => Z8.out h | exact fun _ => rfl | exact fun h => ⟨(Z8.out h).1, rfl⟩
      case g9 => exact fun _ => ⟨HCL.out, rfl⟩
      case g10 => first | exact fun h => Z10.out h | exact fun _ => rfl | exact fun h => ⟨(Z10.out h).1, rfl⟩
      case g11 => first | exact fun h => Z11.out h | exact fun _ => rfl | exact fun h => ⟨(Z11.out h).1, rfl⟩
      case g12 => first | exact fun h => Z12.out h | exact fun _ => rfl | exact fun h => ⟨(Z12.out h).1, rfl⟩
      case g13 => first | exact fun h => Z13.out h | exact fun _ => rfl | exact fun h => ⟨(Z13.out h).1, rfl⟩
      case g14 => first | exact fun h => Z14.out h | exact fun _ => rfl | exact fun h => ⟨(Z14.out h).1, rfl⟩
      case g15 => exact fun h => absurd ((Z15.out h).1.2.2.2.2.2.1) (by rw [HD.out]; decide)
      case g16 => exact fun h => absurd ((Z16.out h).1.2.2.2.2.2.2.1) (by rw [HD.out]; decide)
    · obtain rfl := Option.some.inj ho.symm
      have HD := Lib.hid hD
      refine wpOp_one rfl ?_
      have Z0 := Lib.hid s0
      have Z1 := Lib.hid s1
      have Z2 := Lib.hid s2
      have Z3 := Lib.hid s3
      have Z4 := Lib.hid s4
      have Z5 := Lib.hid s5
      have Z6 := Lib.hid s6
      have Z7 := Lib.hid s7
      have Z8 := Lib.hid s8
      have Z9 := Lib.hid s9
      have Z10 := Lib.hid s10
      have Z11 := Lib.hid s11
      have Z12 := Lib.hid s12
      have Z13 := Lib.hid s13
      have Z14 := Lib.hid s14
      have Z15 := Lib.hid s15
      have Z16 := Lib.hid s16
      clear hdep hi hD ho s0 s1 s2 s3 s4 s5 s6 s7 s8 s9 s10 s11 s12 s13 s14 s15 s16  
      go_wp2_with fail
      rw [HINV.out]
      refine ⟨_, _, _, _, _, _, _, _, _, _, _, _, _, _, _, _, _, rfl, hB, ?g0, ?g1, ?g2, ?g3, ?g4, ?g5, ?g6, ?g7, ?g8, ?g9, ?g10, ?g11, ?g12, ?g13, ?g14, ?g15, ?g16⟩
      case g0 => first | exact fun h => Z0.out h | exact fun _ => rfl | exact fun h => ⟨(Z0.out h).1, rfl⟩
      case g1 => first | exact fun h => Z1.out h | exact fun _ => rfl | exact fun h => ⟨(Z1.out h).1, rfl⟩
      case g2 => first | exact fun h => Z2.out h | exact fun _ => rfl | exact fun h => ⟨(Z2.out h).1, rfl⟩
      case g3 => first | exact fun h => Z3.out h | exact fun _ => rfl | exact fun h => ⟨(Z3.out h).1, rfl⟩
      case g4 => first | exact fun h => Z4.out h | exact fun _ => rfl | exact fun h => ⟨(Z4.out h).1, rfl⟩
      case g5 => first | exact fun h => Z5.out h | exact fun _ => rfl | exact fun h => ⟨(Z5.out h).1, rfl⟩
      case g6 => first | exact fun h => Z6.out h | exact fun _ => rfl | exact fun h => ⟨(Z6.out h).1, rfl⟩
      case g7 => first | exact fun h => Z7.out h | exact fun _ => rfl | exact fun h => ⟨(Z7.out h).1, rfl⟩
      case g8 => first | exact fun h => Z8.out h | exact fun _ => rfl | exact fun h => ⟨(Z8.out h).1, rfl⟩
      case g9 => first | exact fun h => Z9.out h | exact fun _ => rfl | exact fun h => ⟨(Z9.out h).1, rfl⟩
      case g10 => exact fun _ => rfl
      case g11 => exact fun h => absurd ((Z11.out h).1.1) (by rw [HD.out]; decide)
      case g12 => first | exact fun h => Z12.out h | exact fun _ => rfl | exact fun h => ⟨(Z12.out h).1, rfl⟩
      case g13 => first | exact fun h => Z13.out h | exact fun _ => rfl | exact fun h => ⟨(Z13.out h).1, rfl⟩
      case g14 => exact fun h => absurd ((Z14.out h).1.2.1) (by rw [HD.out]; decide)
      case g15 => exact fun h => absurd ((Z15.out h).1.2.2.2.2.2.2.2.2.2.2.2.2.1) (by rw [HD.out]; decide)
      case g16 => exact fun h => absurd ((Z16.out h).1.2.2.2.2.2.2.2.2.2.2.2.2.2.1) (by rw [HD.out]; decide)
    · obtain rfl := Option.some.inj ho.symm
      have HD := Lib.hid hD
      have e10 := hdep ⟨10, .data⟩ (by simp) rfl
      have d10 := s10 e10
      have HCL := Lib.hid (show D 10 = true ∧ True from ⟨e10, trivial⟩)
      obtain rfl := d10
      refine wpOp_one rfl ?_
      have Z0 := Lib.hid s0
      have Z1 := Lib.hid s1
      have Z2 := Lib.hid s2
      have Z3 := Lib.hid s3
      have Z4 := Lib.hid s4
      have Z5 := Lib.hid s5
      have Z6 := Lib.hid s6
      have Z7 := Lib.hid s7
      have Z8 := Lib.hid s8
      have Z9 := Lib.hid s9
      have Z10 := Lib.hid s10
      have Z11 := Lib.hid s11
      have Z12 := Lib.hid s12
      have Z13 := Lib.hid s13
      have Z14 := Lib.hid s14
      have Z15 := Lib.hid s15
      have Z16 := Lib.hid s16
      clear hdep hi hD ho s0 s1 s2 s3 s4 s5 s6 s7 s8 s9 s10 s11 s12 s13 s14 s15 s16 e10 
      go_wp2_with fail
      rw [HINV.out]
      refine ⟨_, _, _, _, _, _, _, _, _, _, _, _, _, _, _, _, _, rfl, hB, ?g0, ?g1, ?g2, ?g3, ?g4, ?g5, ?g6, ?g7, ?g8, ?g9, ?g10, ?g11, ?g12, ?g13, ?g14, ?g15, ?g16⟩
      case g0 => first | exact fun h => Z0.out h | exact fun _ => rfl | exact fun h => ⟨(Z0.out h).1, rfl⟩
      case g1 => first | exact fun h => Z1.out h | exact fun _ => rfl | exact fun h => ⟨(Z1.out h).1, rfl⟩
      case g2 => first | exact fun h => Z2.out h | exact fun _ => rfl | exact fun h => ⟨(Z2.out h).1, rfl⟩
      case g3 => first | exact fun h => Z3.out h | exact fun _ => rfl | exact fun h => ⟨(Z3.out h).1, rfl⟩
      case g4 => first | exact fun h => Z4.out h | exact fun _ => rfl | exact fun h => ⟨(Z4.out h).1, rfl⟩
      case g5 => first | exact fun h => Z5.out h | exact fun _ => rfl | exact fun h => ⟨(Z5.out h).1, rfl⟩
      case g6 => first | exact fun h => Z6.out h | exact fun _ => rfl | exact fun h => ⟨(Z6.out h).1, rfl⟩
      case g7 => first | exact fun h => Z7.out h | exact fun _ => rfl | exact fun h => ⟨(Z7.out h).1, rfl⟩
      case g8 => first | exact fun h => Z8.out h | exact fun _ => rfl | exact fun h => ⟨(Z8.out h).1, rfl⟩
      case g9 => first | exact fun h => Z9.out h | exact fun _ => rfl | exact fun h => ⟨(Z9.out h).1, rfl⟩
      case g10 => first | exact fun h => Z10.out h | exact fun _ => rfl | exact fun h => ⟨(Z10.out h).1, rfl⟩
      case g11 => exact fun _ => ⟨HCL.out, rfl⟩
      case g12 => first | exact fun h => Z12.out h | exact fun _ => rfl | exact fun h => ⟨(Z12.out h).1, rfl⟩
      case g13 => first | exact fun h => Z13.out h | exact fun _ => rfl | exact fun h => ⟨(Z13.out h).1, rfl⟩
      case g14 => exact fun h => absurd ((Z14.out h).1.1) (by rw [HD.out]; decide)
      case g15 => exact fun h => absurd ((Z15.out h).1.2.2.2.2.2.2.2.2.2.2.2.1) (by rw [HD.out]; decide)
      case g16 => exact fun h => absurd ((Z16.out h).1.2.2.2.2.2.2.2.2.2.2.2.2.1) (by rw [HD.out]; decide)
    · obtain rfl := Option.some.inj ho.symm
      have HD := Lib.hid hD
      refine wpOp_one rfl ?_
      have Z0 := Lib.hid s0
      have Z1 := Lib.hid s1
      have Z2 := Lib.hid s2
      have Z3 := Lib.hid s3
      have Z4 := Lib.hid s4
      have Z5 := Lib.hid s5
      have Z6 := Lib.hid s6
      have Z7 := Lib.hid s7
      have Z8 := Lib.hid s8
      have Z9 := Lib.hid s9
      have Z10 := Lib.hid s10
      have Z11 := Lib.hid s11
      have Z12 := Lib.hid s12
      have Z13 := Lib.hid s13
      have Z14 := Lib.hid s14
      have Z15 := Lib.hid s15
      have Z16 := Lib.hid s16
      clear hdep hi hD ho s0 s1 s2 s3 s4 s5 s6 s7 s8 s9 s10 s11 s12 s13 s14 s15 s16  
      go_wp2_with fail
      rw [HINV.out]
      refine ⟨_, _, _, _, _, _, _, _, _, _, _, _, _, _, _, _, _, rfl, hB, ?g0, ?g1, ?g2, ?g3, ?g4, ?g5, ?g6, ?g7, ?g8, ?g9, ?g10, ?g11, ?g12, ?g13, ?g14, ?g15, ?g16⟩
      case g0 => first | exact fun h => Z0.out h | exact fun _ => rfl | exact fun h => ⟨(Z0.out h).1, rfl⟩
      case g1 => first | exact fun h => Z1.out h | exact fun _ => rfl | exact fun h => ⟨(Z1.out h).1, rfl⟩
      case g2 => first | exact fun h => Z2.out h | exact fun _ => rfl | exact fun h => ⟨(Z2.out h).1, rfl⟩
      case g3 => first | exact fun h => Z3.out h | exact fun _ => rfl | exact fun h => ⟨(Z3.out h).1, rfl⟩
      case g4 => first | exact fun h => Z4.out h | exact fun _ => rfl | exact fun h => ⟨(Z4.out h).1, rfl⟩
      case g5 => first | exact fun h => Z5.out h | exact fun _ => rfl | exact fun h => ⟨(Z5.out h).1, rfl⟩
      case g6 => first | exact fun h => Z6.out h | exact fun _ => rfl | exact fun h => ⟨(Z6.out h).1, rfl⟩
      case g7 => first | exact fun h => Z7.out h | exact fun _ => rfl | exact fun h => ⟨(Z7.out h).1, rfl⟩
      case g8 => first | exact fun h => Z8.out h | exact fun _ => rfl | exact fun h => ⟨(Z8.out h).1, rfl⟩
      case g9 => first | exact fun h => Z9.out h | exact fun _ => rfl | exact fun h => ⟨(Z9.out h).1, rfl⟩
      case g10 => first | exact fun h => Z10.out h | exact fun _ => rfl | exact fun h => ⟨(Z10.out h).1, rfl⟩
      case g11 => first | exact fun h => Z11.out h | exact fun _ => rfl | exact fun h => ⟨(Z11.out h).1, rfl⟩
      case g12 => exact fun _ => rfl
      case g13 => exact fun h => absurd ((Z13.out h).1.1) (by rw [HD.out]; decide)
      case g14 => exact fun h => absurd ((Z14.out h).1.2.2.2.1) (by rw [HD.out]; decide)
      case g15 => exact fun h => absurd ((Z15.out h).1.2.2.2.2.2.2.2.2.2.2.2.2.2.2.1) (by rw [HD.out]; decide)
      case g16 => exact fun h => absurd ((Z16.out h).1.2.2.2.2.2.2.2.2.2.2.2.2.2.2.2.1) (by rw [HD.out]; decide)
    · obtain rfl := Option.some.inj ho.symm
      have HD := Lib.hid hD
      have e12 := hdep ⟨12, .data⟩ (by simp) rfl
      have d12 := s12 e12
      have HCL := Lib.hid (show D 12 = true ∧ True from ⟨e12, trivial⟩)
      obtain rfl := d12
      refine wpOp_one rfl ?_
      have Z0 := Lib.hid s0
      have Z1 := Lib.hid s1
      have Z2 := Lib.hid s2
      have Z3 := Lib.hid s3
      have Z4 := Lib.hid s4
      have Z5 := Lib.hid s5
      have Z6 := Lib.hid s6
      have Z7 := Lib.hid s7
      have Z8 := Lib.hid s8
      have Z9 := Lib.hid s9
      have Z10 := Lib.hid s10
      have Z11 := Lib.hid s11
      have Z12 := Lib.hid s12
      have Z13 := Lib.hid s13
      have Z14 := Lib.hid s14
      have Z15 := Lib.hid s15
      have Z16 := Lib.hid s16
      clear hdep hi hD ho s0 s1 s2 s3 s4 s5 s6 s7 s8 s9 s10 s11 s12 s13 s14 s15 s16 e12 
      go_wp2_with fail
      rw [HINV.out]
      refine ⟨_, _, _, _, _, _, _, _, _, _, _, _, _, _, _, _, _, rfl, hB, ?g0, ?g1, ?g2, ?g3, ?g4, ?g5, ?g6, ?g7, ?g8, ?g9, ?g10, ?g11, ?g12, ?g13, ?g14, ?g15, ?g16⟩
      case g0 => first | exact fun h => Z0.out h | exact fun _ => rfl | exact fun h => ⟨(Z0.out h).1, rfl⟩
      case g1 => first | exact fun h => Z1.out h | exact fun _ => rfl | exact fun h => ⟨(Z1.out h).1, rfl⟩
      case g2 => first | exact fun h => Z2.out h | exact fun _ => rfl | exact fun h => ⟨(Z2.out h).1, rfl⟩
      case g3 => first | exact fun h => Z3.out h | exact fun _ => rfl | exact fun h => ⟨(Z3.out h).1, rfl⟩
      case g4 => first | exact fun h => Z4.out h | exact fun _ => rfl | exact fun h => ⟨(Z4.out h).1, rfl⟩
      case g5 => first | exact fun h => Z5.out h | exact fun _ => rfl | exact fun h => ⟨(Z5.out h).1, rfl⟩
      case g6 => first | exact fun h => Z6.out h | exact fun _ => rfl | exact fun h => ⟨(Z6.out h).1, rfl⟩
      case g7 => first | exact fun h => Z7.out h | exact fun _ => rfl | exact fun h => ⟨(Z7.out h).1, rfl⟩
      case g8 => first | exact fun h => Z8.out h | exact fun _ => rfl | exact fun h => ⟨(Z8.out h).1, rfl⟩
      case g9 => first | exact fun h => Z9.out h | exact fun _ => rfl | exact fun h => ⟨(Z9.out h).1, rfl⟩
      case g10 => first | exact fun h => Z10.out h | exact fun _ => rfl | exact fun h => ⟨(Z10.out h).1, rfl⟩
      case g11 => first | exact fun h => Z11.out h | exact fun _ => rfl | exact fun h => ⟨(Z11.out h).1, rfl⟩
      case g12 => first | exact fun h => Z12.out h | exact fun _ => rfl | exact fun h => ⟨(Z12.out h).1, rfl⟩
      case g13 => exact fun _ => ⟨HCL.out, rfl⟩
      case g14 => exact fun h => absurd ((Z14.out h).1.2.2.1) (by rw [HD.out]; decide)
      case g15 => exact fun h => absurd ((Z15.out h).1.2.2.2.2.2.2.2.2.2.2.2.2.2.1) (by rw [HD.out]; decide)
      case g16 => exact fun h => absurd ((Z16.out h).1.2.2.2.2.2.2.2.2.2.2.2.2.2.2.1) (by rw [HD.out]; decide)
    · obtain rfl := Option.some.inj ho.symm
      have HD := Lib.hid hD
      have e11 := hdep ⟨11, .data⟩ (by simp) rfl
      have d11 := s11 e11
      obtain ⟨g11, d11⟩ := d11
      have e13 := hdep ⟨13, .data⟩ (by simp) rfl
      have d13 := s13 e13
      obtain ⟨g13, d13⟩ := d13
      have HCL := Lib.hid (show D 11 = true ∧ D 10 = true ∧ D 13 = true ∧ D 12 = true ∧ True from ⟨e11, g11.1, e13, g13.1, trivial⟩)
      obtain rfl := d11
      obtain rfl := d13
      have HC := Lib.hid (slicesCompare_any _ _ _ _ W (heard_ints (block_up hB HA.out) HIA.out) (heard_ints (block_up hB HB.out) HIB.out))
      refine wpOp_one rfl ?_
      have Z0 := Lib.hid s0
      have Z1 := Lib.hid s1
      have Z2 := Lib.hid s2
      have Z3 := Lib.hid s3
      have Z4 := Lib.hid s4
      have Z5 := Lib.hid s5
      have Z6 := Lib.hid s6
      have Z7 := Lib.hid s7
      have Z8 := Lib.hid s8
      have Z9 := Lib.hid s9
      have Z10 := Lib.hid s10
      have Z11 := Lib.hid s11
      have Z12 := Lib.hid s12
      have Z13 := Lib.hid s13
      have Z14 := Lib.hid s14
      have Z15 := Lib.hid s15
      have Z16 := Lib.hid s16
      clear hdep hi hD ho s0 s1 s2 s3 s4 s5 s6 s7 s8 s9 s10 s11 s12 s13 s14 s15 s16 e11 e13 g11 g13
      go_wp2_with fail
      refine HC.out.mono ?_
      rintro e w9 ⟨rfl, hb9⟩
      go_wp2_with fail
      rw [HINV.out]
      refine ⟨_, _, _, _, _, _, _, _, _, _, _, _, _, _, _, _, _, rfl, ext_trans hB hb9, ?g0, ?g1, ?g2, ?g3, ?g4, ?g5, ?g6, ?g7, ?g8, ?g9, ?g10, ?g11, ?g12, ?g13, ?g14, ?g15, ?g16⟩
      case g0 => first | exact fun h => Z0.out h | exact fun _ => rfl | exact fun h => ⟨(Z0.out h).1, rfl⟩
      case g1 => first | exact fun h => Z1.out h | exact fun _ => rfl | exact fun h => ⟨(Z1.out h).1, rfl⟩
      case g2 => first | exact fun h => Z2.out h | exact fun _ => rfl | exact fun h => ⟨(Z2.out h).1, rfl⟩
      case g3 => first | exact fun h => Z3.out h | exact fun _ => rfl | exact fun h => ⟨(Z3.out h).1, rfl⟩
      case g4 => first | exact fun h => Z4.out h | exact fun _ => rfl | exact fun h => ⟨(Z4.out h).1, rfl⟩
      case g5 => first | exact fun h => Z5.out h | exact fun _ => rfl | exact fun h => ⟨(Z5.out h).1, rfl⟩
      case g6 => first | exact fun h => Z6.out h | exact fun _ => rfl | exact fun h => ⟨(Z6.out h).1, rfl⟩
      case g7 => first | exact fun h => Z7.out h | exact fun _ => rfl | exact fun h => ⟨(Z7.out h).1, rfl⟩
      case g8 => first | exact fun h => Z8.out h | exact fun _ => rfl | exact fun h => ⟨(Z8.out h).1, rfl⟩
      case g9 => first | exact fun h => Z9.out h | exact fun _ => rfl | exact fun h => ⟨(Z9.out h).1, rfl⟩
      case g10 => first | exact fun h => Z10.out h | exact fun _ => rfl | exact fun h => ⟨(Z10.out h).1, rfl⟩
      case g11 => first | exact fun h => Z11.out h | exact fun _ => rfl | exact fun h => ⟨(Z11.out h).1, rfl⟩
      case g12 => first | exact fun h => Z12.out h | exact fun _ => rfl | exact fun h => ⟨(Z12.out h).1, rfl⟩
      case g13 => first | exact fun h => Z13.out h | exact fun _ => rfl | exact fun h => ⟨(Z13.out h).1, rfl⟩
      case g14 => exact fun _ => ⟨HCL.out, rfl⟩
      case g15 => exact fun h => absurd ((Z15.out h).1.2.2.2.2.2.2.2.2.2.2.1) (by rw [HD.out]; decide)
      case g16 => exact fun h => absurd ((Z16.out h).1.2.2.2.2.2.2.2.2.2.2.2.1) (by rw [HD.out]; decide)
    · obtain rfl := Option.some.inj ho.symm
      have HD := Lib.hid hD
      have e4 := hdep ⟨4, .data⟩ (by simp) rfl
      have d4 := s4 e4
      obtain ⟨g4, d4⟩ := d4
      have e9 := hdep ⟨9, .data⟩ (by simp) rfl
      have d9 := s9 e9
      obtain ⟨g9, d9⟩ := d9
      have e14 := hdep ⟨14, .data⟩ (by simp) rfl
      have d14 := s14 e14
      obtain ⟨g14, d14⟩ := d14
      have HCL := Lib.hid (show D 4 = true ∧ D 1 = true ∧ D 0 = true ∧ D 3 = true ∧ D 2 = true ∧ D 9 = true ∧ D 6 = true ∧ D 5 = true ∧ D 8 = true ∧ D 7 = true ∧ D 14 = true ∧ D 11 = true ∧ D 10 = true ∧ D 13 = true ∧ D 12 = true ∧ True from ⟨e4, g4.1, g4.2.1, g4.2.2.1, g4.2.2.2.1, e9, g9.1, g9.2.1, g9.2.2.1, g9.2.2.2.1, e14, g14.1, g14.2.1, g14.2.2.1, g14.2.2.2.1, trivial⟩)
      obtain rfl := d4
      obtain rfl := d9
      obtain rfl := d14
      refine wpOp_one rfl ?_
      have Z0 := Lib.hid s0
      have Z1 := Lib.hid s1
      have Z2 := Lib.hid s2
      have Z3 := Lib.hid s3
      have Z4 := Lib.hid s4
      have Z5 := Lib.hid s5
      have Z6 := Lib.hid s6
      have Z7 := Lib.hid s7
      have Z8 := Lib.hid s8
      have Z9 := Lib.hid s9
      have Z10 := Lib.hid s10
      have Z11 := Lib.hid s11
      have Z12 := Lib.hid s12
      have Z13 := Lib.hid s13
      have Z14 := Lib.hid s14
      have Z15 := Lib.hid s15
      have Z16 := Lib.hid s16
      clear hdep hi hD ho s0 s1 s2 s3 s4 s5 s6 s7 s8 s9 s10 s11 s12 s13 s14 s15 s16 e4 e9 e14 g4 g9 g14
      go_wp2_with fail
      rw [HINV.out]
      refine ⟨_, _, _, _, _, _, _, _, _, _, _, _, _, _, _, _, _, rfl, ext_trans hB (by go_grown), ?g0, ?g1, ?g2, ?g3, ?g4, ?g5, ?g6, ?g7, ?g8, ?g9, ?g10, ?g11, ?g12, ?g13, ?g14, ?g15, ?g16⟩
      case g0 => first | exact fun h => Z0.out h | exact fun _ => rfl | exact fun h => ⟨(Z0.out h).1, rfl⟩
      case g1 => first | exact fun h => Z1.out h | exact fun _ => rfl | exact fun h => ⟨(Z1.out h).1, rfl⟩
      case g2 => first | exact fun h => Z2.out h | exact fun _ => rfl | exact fun h => ⟨(Z2.out h).1, rfl⟩
      case g3 => first | exact fun h => Z3.out h | exact fun _ => rfl | exact fun h => ⟨(Z3.out h).1, rfl⟩
      case g4 => first | exact fun h => Z4.out h | exact fun _ => rfl | exact fun h => ⟨(Z4.out h).1, rfl⟩
      case g5 => first | exact fun h => Z5.out h | exact fun _ => rfl | exact fun h => ⟨(Z5.out h).1, rfl⟩
      case g6 => first | exact fun h => Z6.out h | exact fun _ => rfl | exact fun h => ⟨(Z6.out h).1, rfl⟩
      case g7 => first | exact fun h => Z7.out h | exact fun _ => rfl | exact fun h => ⟨(Z7.out h).1, rfl⟩
      case g8 => first | exact fun h => Z8.out h | exact fun _ => rfl | exact fun h => ⟨(Z8.out h).1, rfl⟩
      case g9 => first | exact fun h => Z9.out h | exact fun _ => rfl | exact fun h => ⟨(Z9.out h).1, rfl⟩
      case g10 => first | exact fun h => Z10.out h | exact fun _ => rfl | exact fun h => ⟨(Z10.out h).1, rfl⟩
      case g11 => first | exact fun h => Z11.out h | exact fun _ => rfl | exact fun h => ⟨(Z11.out h).1, rfl⟩
      case g12 => first | exact fun h => Z12.out h | exact fun _ => rfl | exact fun h => ⟨(Z12.out h).1, rfl⟩
      case g13 => first | exact fun h => Z13.out h | exact fun _ => rfl | exact fun h => ⟨(Z13.out h).1, rfl⟩
      case g14 => first | exact fun h => Z14.out h | exact fun _ => rfl | exact fun h => ⟨(Z14.out h).1, rfl⟩
      case g15 => exact fun _ => ⟨HCL.out, ⟨_, rfl, hB.size, alloc_new _ _⟩⟩
      case g16 => exact fun h => absurd ((Z16.out h).1.1) (by rw [HD.out]; decide)
    · obtain rfl := Option.some.inj ho.symm
      have HD := Lib.hid hD
      have e15 := hdep ⟨15, .data⟩ (by simp) rfl
      have d15 := s15 e15
      obtain ⟨g15, d15⟩ := d15
      have HCL := Lib.hid (show D 15 = true ∧ D 4 = true ∧ D 1 = true ∧ D 0 = true ∧ D 3 = true ∧ D 2 = true ∧ D 9 = true ∧ D 6 = true ∧ D 5 = true ∧ D 8 = true ∧ D 7 = true ∧ D 14 = true ∧ D 11 = true ∧ D 10 = true ∧ D 13 = true ∧ D 12 = true ∧ True from ⟨e15, g15.1, g15.2.1, g15.2.2.1, g15.2.2.2.1, g15.2.2.2.2.1, g15.2.2.2.2.2.1, g15.2.2.2.2.2.2.1, g15.2.2.2.2.2.2.2.1, g15.2.2.2.2.2.2.2.2.1, g15.2.2.2.2.2.2.2.2.2.1, g15.2.2.2.2.2.2.2.2.2.2.1, g15.2.2.2.2.2.2.2.2.2.2.2.1, g15.2.2.2.2.2.2.2.2.2.2.2.2.1, g15.2.2.2.2.2.2.2.2.2.2.2.2.2.1, g15.2.2.2.2.2.2.2.2.2.2.2.2.2.2.1, trivial⟩)
      obtain ⟨c0, rfl, h0, h1⟩ := d15
      have HC := Lib.hid (or_any _ _ W (ints3 h1 (cmpI_in _ _) (cmpI_in _ _) (ordV_in _ _)))
      refine wpOp_one rfl ?_
      have Z0 := Lib.hid s0
      have Z1 := Lib.hid s1
      have Z2 := Lib.hid s2
      have Z3 := Lib.hid s3
      have Z4 := Lib.hid s4
      have Z5 := Lib.hid s5
      have Z6 := Lib.hid s6
      have Z7 := Lib.hid s7
      have Z8 := Lib.hid s8
      have Z9 := Lib.hid s9
      have Z10 := Lib.hid s10
      have Z11 := Lib.hid s11
      have Z12 := Lib.hid s12
      have Z13 := Lib.hid s13
      have Z14 := Lib.hid s14
      have Z15 := Lib.hid s15
      have Z16 := Lib.hid s16
      clear hdep hi hD ho s0 s1 s2 s3 s4 s5 s6 s7 s8 s9 s10 s11 s12 s13 s14 s15 s16 e15 g15
      go_wp2_with fail
      refine HC.out.mono ?_
      rintro e w9 ⟨rfl, hb9⟩
      go_wp2_with fail
      rw [HINV.out]
      refine ⟨_, _, _, _, _, _, _, _, _, _, _, _, _, _, _, _, _, rfl, ext_trans hB hb9, ?g0, ?g1, ?g2, ?g3, ?g4, ?g5, ?g6, ?g7, ?g8, ?g9, ?g10, ?g11, ?g12, ?g13, ?g14, ?g15, ?g16⟩
      case g0 => first | exact fun h => Z0.out h | exact fun _ => rfl | exact fun h => ⟨(Z0.out h).1, rfl⟩
      case g1 => first | exact fun h => Z1.out h | exact fun _ => rfl | exact fun h => ⟨(Z1.out h).1, rfl⟩
      case g2 => first | exact fun h => Z2.out h | exact fun _ => rfl | exact fun h => ⟨(Z2.out h).1, rfl⟩
      case g3 => first | exact fun h => Z3.out h | exact fun _ => rfl | exact fun h => ⟨(Z3.out h).1, rfl⟩
      case g4 => first | exact fun h => Z4.out h | exact fun _ => rfl | exact fun h => ⟨(Z4.out h).1, rfl⟩
      case g5 => first | exact fun h => Z5.out h | exact fun _ => rfl | exact fun h => ⟨(Z5.out h).1, rfl⟩
      case g6 => first | exact fun h => Z6.out h | exact fun _ => rfl | exact fun h => ⟨(Z6.out h).1, rfl⟩
      case g7 => first | exact fun h => Z7.out h | exact fun _ => rfl | exact fun h => ⟨(Z7.out h).1, rfl⟩
      case g8 => first | exact fun h => Z8.out h | exact fun _ => rfl | exact fun h => ⟨(Z8.out h).1, rfl⟩
      case g9 => first | exact fun h => Z9.out h | exact fun _ => rfl | exact fun h => ⟨(Z9.out h).1, rfl⟩
      case g10 => first | exact fun h => Z10.out h | exact fun _ => rfl | exact fun h => ⟨(Z10.out h).1, rfl⟩
      case g11 => first | exact fun h => Z11.out h | exact fun _ => rfl | exact fun h => ⟨(Z11.out h).1, rfl⟩
      case g12 => first | exact fun h => Z12.out h | exact fun _ => rfl | exact fun h => ⟨(Z12.out h).1, rfl⟩
      case g13 => first | exact fun h => Z13.out h | exact fun _ => rfl | exact fun h => ⟨(Z13.out h).1, rfl⟩
      case g14 => first | exact fun h => Z14.out h | exact fun _ => rfl | exact fun h => ⟨(Z14.out h).1, rfl⟩
      case g15 => exact fun h => ⟨(Z15.out h).1, (Z15.out h).2.up hb9⟩
      case g16 => exact fun _ => ⟨HCL.out, rfl⟩
  case last =>
    intro D a W hall hI
    rw [HINV.out] at hI
    clear HINV
    obtain ⟨x5, x6, x7, x8, x9, x10, x11, x12, x13, x14, x15, x16, x17, x18, x19, x20, x21, rfl, hB, s0, s1, s2, s3, s4, s5, s6, s7, s8, s9, s10, s11, s12, s13, s14, s15, s16⟩ := hI
    have f0 := s0 (hall 0 (by omega))
    have f1 := (s1 (hall 1 (by omega))).2
    have f2 := s2 (hall 2 (by omega))
    have f3 := (s3 (hall 3 (by omega))).2
    have f4 := (s4 (hall 4 (by omega))).2
    have f5 := s5 (hall 5 (by omega))
    have f6 := (s6 (hall 6 (by omega))).2
    have f7 := s7 (hall 7 (by omega))
    have f8 := (s8 (hall 8 (by omega))).2
    have f9 := (s9 (hall 9 (by omega))).2
    have f10 := s10 (hall 10 (by omega))
    have f11 := (s11 (hall 11 (by omega))).2
    have f12 := s12 (hall 12 (by omega))
    have f13 := (s13 (hall 13 (by omega))).2
    have f14 := (s14 (hall 14 (by omega))).2
    have f15 := (s15 (hall 15 (by omega))).2
    have f16 := (s16 (hall 16 (by omega))).2
    clear hall s0 s1 s2 s3 s4 s5 s6 s7 s8 s9 s10 s11 s12 s13 s14 s15 s16
    obtain rfl := f16
    refine wpOp_one rfl ?_
    go_wp2_with fail
    go_ret
    exact ⟨rfl, hb1.trans (hB.mono hb1.size)⟩
end Go.Proofs.YtjmejfgkogjpaaaGreatDoor

namespace Go.Proofs.YtjmejfgkogjpaaaGreatDoor
open Go.RowKit Go Go.Shelf

theorem in_ext (W0 : World) (n lo hi : Int) (r : Bool) (h : inB n lo hi = r) (x : ExtW W0) :
    Calls Tryz.prog 69 #[.int .i64 n, .int .i64 lo, .int .i64 hi] x.val fun e w'' => e = .returned (.bool r) ∧ ∃ p : ExtW W0, w'' = p.val :=
  (in_any n lo hi x.val).mono fun e w' ⟨he, hw⟩ => ⟨by rw [he, h], x, hw.symm⟩

theorem inB_true {n lo hi : Int} (h : inB n lo hi = true) : lo ≤ n ∧ n ≤ hi := by
  unfold inB at h; simpa using h
theorem heard_drop {w : World} {b : Nat} {s : St} {t : TypeId} (h : w.heap[b]? = some (.cells s.c t)) (hi : s.In) (n : Nat) (hn : n ≤ 5) : IsInts w (.slice (some ⟨b, 2 + n, none⟩) (5 - n : Nat) (5 - n : Nat)) (s.heard.drop n) := by
  have hh := heard_ints h hi
  obtain ⟨a, cap, e, h1, h2, h3⟩ := hh
  have hl : (s.heard.drop n).length = 5 - n := by simp [St.heard]
  refine ⟨some ⟨b, 2 + n, none⟩, 5 - n, by rw [hl], ⟨by rw [hl]; omega, by omega, fun e => by cases e⟩, by rw [hl]; omega, fun i x hx => ?_⟩
  rw [List.getElem?_drop] at hx
  obtain ⟨b', off, ha, hr⟩ := h3 _ _ hx
  simp at e
  obtain ⟨e1, _⟩ := e
  rw [ha] at e1
  simp at e1
  obtain ⟨rfl, rfl⟩ := e1
  exact ⟨b, 2 + n, rfl, by rw [show 2 + n + i * 1 = 2 + (n + i) * 1 by omega]; exact hr⟩
theorem hear_cell' (s : St) (q : Nat) (hq : q < 5) (w : World) (B : Nat) (t : TypeId) (hw : w.heap[B]? = some (.cells s.c t)) : w.cell? ⟨B, 2 + q, none⟩ = some (.int .i64 (s.hear q)) := by
  have : q = 0 ∨ q = 1 ∨ q = 2 ∨ q = 3 ∨ q = 4 := by omega
  rcases this with h | h | h | h | h <;> subst h <;> simp [World.cell?, hw, St.hear]

theorem heard_from (s : St) (hs : s.In) (n : Nat) (hn : n ≤ 5) (b : Nat) : ∃ pa : Addr, (∀ w, (Instr.sliceAt 45 (.pointer (some ⟨b, 2, none⟩)) (some (.int .i64 n)) none none).run Tryz.prog w = .ok (.slice (some pa) (5 - n : Nat) (5 - n : Nat)) w) ∧
    ∀ (w : World) (t : TypeId), w.heap[b]? = some (.cells s.c t) → IsInts w (.slice (some pa) (5 - n : Nat) (5 - n : Nat)) (s.heard.drop n) := by
  by_cases h5 : n = 5
  · subst h5
    refine ⟨⟨b, 2, none⟩, fun w => ?_, fun w t h => ?_⟩
    · simp [go_sem]
    · refine ⟨some ⟨b, 2, none⟩, 0, by simp [St.heard], ⟨by simp [St.heard], by omega, fun e => by cases e⟩, by simp [St.heard], fun i x hx => by simp [St.heard] at hx⟩
  · refine ⟨⟨b, 2 + n, none⟩, fun w => ?_, fun w t h => heard_drop h hs n hn⟩
    have h6 : ¬ 5 = n := fun e => h5 e.symm
    have h7 : (n : Int) ≤ 5 := by omega
    simp [go_sem, hn, h6, h7, Addr.add]
theorem heard_to (n : Nat) (hn : n ≤ 5) (b : Nat) (w : World) : (Instr.sliceAt 45 (.pointer (some ⟨b, 2, none⟩)) none (some (.int .i64 n)) none).run Tryz.prog w = .ok (.slice (some ⟨b, 2, none⟩) n 5) w := by
  have h7 : (n : Int) ≤ 5 := by omega
  simp [go_sem, hn, h7, Addr.add]
theorem allM1_any (s : St) (hs : s.In) (n : Nat) (hn : n ≤ 5) (b : Nat) (t : TypeId) (w : World) (h : w.heap[b]? = some (.cells s.c t)) :
    Calls Tryz.prog 42 #[.slice (some ⟨b, 2 + n, none⟩) (5 - n : Nat) (5 - n : Nat), .int .i64 (-1), .int .i64 (-1)] w fun e w' => e = .returned (.bool (allB (s.heard.drop n) (-1) (-1))) ∧ Below w.heap.size w w' :=
  all_any _ _ _ _ _ (heard_drop h hs n hn)

set_option maxRecDepth 100000 in
set_option maxHeartbeats 4000000 in
theorem step_any (m : Mac) (vf vy vt vo : Value) (s : St) (hs : s.In) (w : World) (hn : 1 ≤ m.n ∧ m.n ≤ 5) (hr : 0 ≤ m.rounds ∧ m.rounds ≤ 6) (h1 : (m.out.length : Int) = m.rounds + 1) (h2 : ∀ k (hk : k < m.out.length), (m.out[k].length : Int) = m.n) (ho : IsV3 w vo m.out) :
    Calls Tryz.prog 73 #[.agg (macC m vf vy vt vo), s.v] w fun e w' => e = .returned (.int .i64 (stepE m s)) ∧ Below w.heap.size w w' := by
  obtain ⟨po, co, rfl, lo1, lo2, eo⟩ := ho.at
  clear ho
  have EO := Lib.hid eo; clear eo
  have H2 := Lib.hid h2; clear h2
  have HIS := Lib.hid hs; clear hs
  obtain ⟨hn1, hn2⟩ := hn
  obtain ⟨hr1, hr2⟩ := hr
  have HD : Hid (stepE m s = if headBad m s then 2 else if !allB (s.heard.drop m.n.toNat) (-1) (-1) then 3 else if anyLt m.n.toNat (hearBad m s) then 2 else 0) := by exact rfl
  have hb : Below w.heap.size w ((w.alloc (.cells (macC m vf vy vt (.slice po m.out.length co)) 27)).alloc (.cells s.c 73)) := by go_grown
  cases hA : inB s.rd 0 (m.rounds - 1) with
  | false =>
    have HB : Hid (headBad m s = true) := by (have h : headBad m s = true := by (unfold headBad; rw [hA]; rfl)); exact h
    go_enter Tryz.func73, Tryz.ntmps73
    go_wp2_with fail
    refine wp_gen (fun W => Below w.heap.size w W ∧ W.heap[w.heap.size]? = some (.cells (macC m vf vy vt (.slice po m.out.length co)) 27) ∧ W.heap[w.heap.size + 1]? = some (.cells s.c 73)) ⟨hb, alloc_old _ (alloc_new _ _), by simpa using alloc_new (w.alloc _) _⟩ (fun W0 hW0 => ?_)
    obtain ⟨hb0, hM, hS⟩ := hW0
    have HC1 := Lib.hid (in_ext W0 _ _ _ _ hA)
    have t1 : ∀ (x : ExtW W0) o, x.val.cell? ⟨w.heap.size, o, none⟩ = _ := fun x o => cell_block (block_up x.ext hM) o
    have t2 : ∀ (x : ExtW W0) o, x.val.cell? ⟨w.heap.size + 1, o, none⟩ = _ := fun x o => cell_block (block_up x.ext hS) o
    clear hA hM hS
    refine wp_region_quiet_ext (by kernel_rfl) (by kernel_rfl) ?_
    repeat (go_big_quiet_step ((go_at_call 69; exact HC1.out _)))
    refine wpQuiet_nil ?_
    intro _ hw'
    obtain ⟨xq, hw''⟩ := hw'
    subst hw''
    go_wp2_with fail
    go_ret
    exact ⟨ret_int (by rw [HD.out, HB.out]; rfl), ext_trans hb0 xq.ext⟩
  | true =>
    cases hP : inB s.pr 0 (m.n - 1) with
    | false =>
      have HB : Hid (headBad m s = true) := by (have h : headBad m s = true := by (unfold headBad; rw [hA, hP]; rfl)); exact h
      go_enter Tryz.func73, Tryz.ntmps73
      go_wp2_with fail
      refine wp_gen (fun W => Below w.heap.size w W ∧ W.heap[w.heap.size]? = some (.cells (macC m vf vy vt (.slice po m.out.length co)) 27) ∧ W.heap[w.heap.size + 1]? = some (.cells s.c 73)) ⟨hb, alloc_old _ (alloc_new _ _), by simpa using alloc_new (w.alloc _) _⟩ (fun W0 hW0 => ?_)
      obtain ⟨hb0, hM, hS⟩ := hW0
      have HC1 := Lib.hid (in_ext W0 _ _ _ _ hA)
      have HC2 := Lib.hid (in_ext W0 _ _ _ _ hP)
      have t1 : ∀ (x : ExtW W0) o, x.val.cell? ⟨w.heap.size, o, none⟩ = _ := fun x o => cell_block (block_up x.ext hM) o
      have t2 : ∀ (x : ExtW W0) o, x.val.cell? ⟨w.heap.size + 1, o, none⟩ = _ := fun x o => cell_block (block_up x.ext hS) o
      clear hA hP hM hS
      refine wp_region_quiet_ext (by kernel_rfl) (by kernel_rfl) ?_
      repeat (go_big_quiet_step ((go_at_call 69; first | with_reducible exact HC1.out _ | with_reducible exact HC2.out _)))
      refine wpQuiet_nil ?_
      intro _ hw'
      obtain ⟨xq, hw''⟩ := hw'
      subst hw''
      go_wp2_with fail
      go_ret
      exact ⟨ret_int (by rw [HD.out, HB.out]; rfl), ext_trans hb0 xq.ext⟩
    | true =>
      obtain ⟨hA1, hA2⟩ := inB_true hA
      obtain ⟨hP1, hP2⟩ := inB_true hP
      obtain ⟨srd, spr, sh0, sh1, sh2, sh3, sh4, sto⟩ := s
      dsimp only at hA hP hA1 hA2 hP1 hP2
      obtain ⟨r, rfl⟩ : ∃ r : Nat, srd = r := ⟨srd.toNat, by omega⟩
      obtain ⟨p, rfl⟩ : ∃ p : Nat, spr = p := ⟨spr.toNat, by omega⟩
      obtain ⟨q, HQ⟩ : ∃ q : Nat, Hid (q = r + 1) := ⟨r + 1, Lib.hid rfl⟩
      have hq : q < m.out.length := by have := HQ.out; omega
      have hrl : r < m.out.length := by omega
      obtain ⟨b1, o1, rfl, x, cx, hx⟩ := EO.out q hq
      obtain ⟨b1', o1', e1, z, cz, hz⟩ := EO.out r hrl
      obtain ⟨rfl, rfl⟩ : b1 = b1' ∧ o1 = o1' := by simpa using e1
      rw [Nat.mul_one] at cx cz
      have hlq : (m.out[q].length : Int) = m.n := H2.out q hq
      have hlr : (m.out[r].length : Int) = m.n := H2.out r hrl
      obtain ⟨px, qx, rfl, lx1, lx2, ex⟩ := hx.at
      obtain ⟨pz, qz, rfl, lz1, lz2, ez⟩ := hz.at
      clear hx hz e1
      have hpq : p < m.out[q].length := by omega
      have hpr : p < m.out[r].length := by omega
      obtain ⟨b2, o2, rfl, y, cy, hy⟩ := ex p hpq
      obtain ⟨b3, o3, rfl, u, cu, hu⟩ := ez p hpr
      rw [Nat.mul_one] at cy cu
      obtain ⟨py, qy, rfl, ly1, ly2, ey⟩ := hy.at
      obtain ⟨pu, qu, rfl, lu1, lu2, eu⟩ := hu.at
      clear hy hu ex ez ey eu
      have HO1 : Hid (outN m ((r : Int) + 1) p = (m.out[q][p].length : Int)) := by
        have h : outN m ((r : Int) + 1) p = (m.out[q][p].length : Int) := by
          have hQ := HQ.out
          subst hQ
          unfold outN
          rw [show ((r : Int) + 1).toNat = r + 1 by omega, show ((p : Nat) : Int).toNat = p by omega, getD_of_lt [] hq, getD_of_lt [] hpq]
        exact h
      have HO2 : Hid (outN m (r : Int) p = (m.out[r][p].length : Int)) := by
        have h : outN m (r : Int) p = (m.out[r][p].length : Int) := by
          unfold outN
          rw [show ((r : Nat) : Int).toNat = r by omega, show ((p : Nat) : Int).toNat = p by omega, getD_of_lt [] hrl, getD_of_lt [] hpr]
        exact h
      generalize m.out[q][p].length = ly at cy ly1 ly2 HO1
      generalize m.out[r][p].length = lu at cu lu1 lu2 HO2
      generalize m.out[q].length = lx at cx lx1 lx2 hlq hpq
      generalize m.out[r].length = lz at cz lz1 lz2 hlr hpr
      obtain ⟨nn, hnn⟩ : ∃ nn : Nat, m.n = nn := ⟨m.n.toNat, by omega⟩
      have HDA := Lib.hid (allM1_any (St.mk r p sh0 sh1 sh2 sh3 sh4 sto) HIS.out nn (by omega))
      have HNN := Lib.hid hnn
      have HLQ := Lib.hid hlq
      have HLR := Lib.hid hlr
      clear hnn hlq hlr
      go_enter Tryz.func73, Tryz.ntmps73
      go_wp2_with fail
      refine wp_gen (fun W => Below w.heap.size w W ∧ W.heap[w.heap.size]? = some (.cells (macC m vf vy vt (.slice (some ⟨b1, o1, none⟩) m.out.length co)) 27) ∧ W.heap[w.heap.size + 1]? = some (.cells (St.mk r p sh0 sh1 sh2 sh3 sh4 sto).c 73)) ⟨hb, alloc_old _ (alloc_new _ _), by simpa using alloc_new (w.alloc _) _⟩ (fun W0 hW0 => ?_)
      obtain ⟨hb0, hM, hS⟩ := hW0
      have HM := Lib.hid hM
      have HS := Lib.hid hS
      have HC1 := Lib.hid (in_ext W0 _ _ _ _ hA)
      have HC2 := Lib.hid (in_ext W0 _ _ _ _ hP)
      obtain ⟨tb, htb⟩ : ∃ tb, inB sto 0 ((ly : Int) - 1) = tb := ⟨_, rfl⟩
      have HC3 := Lib.hid (in_ext W0 _ _ _ _ htb)
      have HTB := Lib.hid htb; clear htb
      have t1 : ∀ (x : ExtW W0) o, x.val.cell? ⟨w.heap.size, o, none⟩ = _ := fun x o => cell_block (block_up x.ext hM) o
      have t2 : ∀ (x : ExtW W0) o, x.val.cell? ⟨w.heap.size + 1, o, none⟩ = _ := fun x o => cell_block (block_up x.ext hS) o
      have t3 : ∀ (x : ExtW W0), x.val.cell? ⟨b1, o1 + q, none⟩ = _ := fun x => x.cell (cell_up hb0 cx)
      have t4 : ∀ (x : ExtW W0), x.val.cell? ⟨b2, o2 + p, none⟩ = _ := fun x => x.cell (cell_up hb0 cy)
      have hw1 : IntKind.i64.wrap ((r : Int) + 1) = (q : Int) := by rw [HQ.out]; rw [IntWalk.i64_in _ (by omega)]; omega
      have HP := Lib.hid hP
      have HA := Lib.hid hA
      clear hA hP hM hS
      refine wp_region_quiet_ext (by kernel_rfl) (by kernel_rfl) ?_
      repeat (go_big_quiet_step ((go_at_call 69; first | with_reducible exact HC1.out _ | with_reducible exact HC2.out _ | with_reducible exact HC3.out _)))
      refine wpQuiet_nil ?_
      intro _ hw'
      obtain ⟨xq, hw''⟩ := hw'
      subst hw''
      clear t1 t2 t3 t4
      have hbq := ext_trans hb0 xq.ext
      cases tb with
      | false =>
        have HB : Hid (headBad m ⟨r, p, sh0, sh1, sh2, sh3, sh4, sto⟩ = true) := by (have h : headBad m ⟨r, p, sh0, sh1, sh2, sh3, sh4, sto⟩ = true := by (unfold headBad; dsimp only; rw [HA.out, HP.out, HO1.out, HTB.out]; rfl)); exact h
        go_wp2_with fail
        go_ret
        exact ⟨ret_int (by rw [HD.out, HB.out]; rfl), hbq⟩
      | true =>
        have HB : Hid (headBad m ⟨r, p, sh0, sh1, sh2, sh3, sh4, sto⟩ = false) := by (have h : headBad m ⟨r, p, sh0, sh1, sh2, sh3, sh4, sto⟩ = false := by (unfold headBad; dsimp only; rw [HA.out, HP.out, HO1.out, HTB.out]; rfl)); exact h
        have t1 := cell_block (block_up xq.ext HM.out)
        have t2 := cell_block (block_up xq.ext HS.out)
        have hnn := HNN.out
        have hn5 : nn ≤ 5 := by omega
        obtain ⟨pa, hsl, hpa⟩ := heard_from ⟨r, p, sh0, sh1, sh2, sh3, sh4, sto⟩ HIS.out nn hn5 (w.heap.size + 1)
        have HALL := Lib.hid (all_any _ _ (-1) (-1) xq.val (hpa _ _ (block_up xq.ext HS.out)))
        have hsm := heard_to nn hn5 (w.heap.size + 1)
        have HD2 : Hid (stepE m ⟨r, p, sh0, sh1, sh2, sh3, sh4, sto⟩ = if !allB (St.heard ⟨r, p, sh0, sh1, sh2, sh3, sh4, sto⟩ |>.drop nn) (-1) (-1) then 3 else if anyLt nn (hearBad m ⟨r, p, sh0, sh1, sh2, sh3, sh4, sto⟩) then 2 else 0) := by
          (have h : stepE m ⟨r, p, sh0, sh1, sh2, sh3, sh4, sto⟩ = if !allB (St.heard ⟨r, p, sh0, sh1, sh2, sh3, sh4, sto⟩ |>.drop nn) (-1) (-1) then 3 else if anyLt nn (hearBad m ⟨r, p, sh0, sh1, sh2, sh3, sh4, sto⟩) then 2 else 0 := by (rw [HD.out, HB.out, hnn]; rfl)); exact h
        generalize allB (St.heard ⟨r, p, sh0, sh1, sh2, sh3, sh4, sto⟩ |>.drop nn) (-1) (-1) = ab at HD2 HALL
        clear hpa HD HB HDA
        go_wp2_with fail
        refine HALL.out.mono ?_
        rintro e w1 ⟨rfl, hb1⟩
        have hbq1 := ext_trans hbq hb1
        cases ab with
        | false =>
          go_wp2_with fail
          go_ret
          exact ⟨ret_int (by rw [HD2.out]; rfl), hbq1⟩
        | true =>
          have HV : Hid (stepE m ⟨r, p, sh0, sh1, sh2, sh3, sh4, sto⟩ = if anyLt nn (hearBad m ⟨r, p, sh0, sh1, sh2, sh3, sh4, sto⟩) then 2 else 0) := HD2
          clear HD2 t1 t2 hsl
          have HM1 := Lib.hid (block_up (ext_trans xq.ext hb1) HM.out)
          have HS1 := Lib.hid (block_up (ext_trans xq.ext hb1) HS.out)
          have t1 := cell_block HM1.out
          have t2 := cell_block HS1.out
          have cz1 := cell_up hbq1 cz
          have cu1 := cell_up hbq1 cu
          have HCU := Lib.hid cu1
          clear cx cy cz cu cu1
          go_wp2_with fail
          go_loop [53] (fun i => ∃ k : Nat, k ≤ nn ∧ i = .int .i64 k ∧ ∀ j, j < k → hearBad m ⟨r, p, sh0, sh1, sh2, sh3, sh4, sto⟩ j = false) (fun i => nn - (intOf i).toNat)
          case atStart => exact ⟨0, by omega, rfl, by simp⟩
          case round =>
            obtain ⟨k, hk, rfl, hinv⟩ := hrel
            have H := Lib.hid hinv; clear hinv
            by_cases hlt : k < nn
            · have ck := hear_cell' ⟨r, p, sh0, sh1, sh2, sh3, sh4, sto⟩ k (by omega) w1 (w.heap.size + 1) _ HS1.out
              have HHB : Hid (hearBad m ⟨r, p, sh0, sh1, sh2, sh3, sh4, sto⟩ k = if (k : Int) = (p : Int) then !inB (St.hear ⟨r, p, sh0, sh1, sh2, sh3, sh4, sto⟩ k) 0 (outN m r k - 1) else !inB (St.hear ⟨r, p, sh0, sh1, sh2, sh3, sh4, sto⟩ k) (-1) 1048576) := by exact rfl
              generalize St.hear ⟨r, p, sh0, sh1, sh2, sh3, sh4, sto⟩ k = hv at ck HHB
              have hk5 : k < 5 := by omega
              have t20 := t2 0
              have t21 := t2 1
              simp at t20 t21
              clear t2
              by_cases hkp : k = p
              · subst hkp
                have HB1 : Hid (hearBad m ⟨r, k, sh0, sh1, sh2, sh3, sh4, sto⟩ k = !inB hv 0 ((lu : Int) - 1)) := by
                  (have h : hearBad m ⟨r, k, sh0, sh1, sh2, sh3, sh4, sto⟩ k = !inB hv 0 ((lu : Int) - 1) := by (rw [HHB.out, if_pos rfl, HO2.out])); exact h
                have cu1 := HCU.out
                clear HHB
                go_wp2_with fail
                refine (in_any _ _ _ _).mono ?_
                rintro e w2 ⟨rfl, rfl⟩
                generalize inB hv 0 ((lu : Int) - 1) = bb at HB1
                cases bb with
                | false =>
                  go_wp2_with fail
                  go_ret
                  exact ⟨ret_int (by rw [HV.out, anyLt_at hlt HB1.out]; rfl), hbq1⟩
                | true =>
                  go_wp2_with fail
                  go_round
                  case rel => exact ⟨k + 1, by omega, by go_num, below_succ H.out HB1.out⟩
                  case measure => simp [intOf]; omega
              · have hkp' : ¬ ((k : Int) = (p : Int)) := by omega
                have HB1 : Hid (hearBad m ⟨r, p, sh0, sh1, sh2, sh3, sh4, sto⟩ k = !inB hv (-1) 1048576) := by
                  (have h : hearBad m ⟨r, p, sh0, sh1, sh2, sh3, sh4, sto⟩ k = !inB hv (-1) 1048576 := by (rw [HHB.out, if_neg hkp'])); exact h
                clear HHB
                go_wp2_with fail
                refine (in_any _ _ _ _).mono ?_
                rintro e w2 ⟨rfl, rfl⟩
                generalize inB hv (-1) 1048576 = bb at HB1
                cases bb with
                | false =>
                  go_wp2_with fail
                  go_ret
                  exact ⟨ret_int (by rw [HV.out, anyLt_at hlt HB1.out]; rfl), hbq1⟩
                | true =>
                  go_wp2_with fail
                  go_round
                  case rel => exact ⟨k + 1, by omega, by go_num, below_succ H.out HB1.out⟩
                  case measure => simp [intOf]; omega
            · obtain rfl : k = nn := by omega
              go_wp2_with fail
              go_ret
              exact ⟨ret_int (by rw [HV.out, anyLt_none H.out]; rfl), hbq1⟩
end Go.Proofs.YtjmejfgkogjpaaaGreatDoor

namespace Go.Proofs.YtjmejfgkogjpaaaGreatDoor
open Go.RowKit Go Go.Shelf

theorem shapedB_true {m : Mac} (h : shapedB m = true) : (m.first.length : Int) = m.n ∧ (m.out.length : Int) = m.rounds + 1 ∧ (m.syms.length : Int) = m.rounds ∧ (∀ i (hi : i < m.first.length), (m.first[i].length : Int) = m.ins) ∧ (∀ i (hi : i < m.out.length), (m.out[i].length : Int) = m.n) ∧ ∀ k, k < m.syms.length → roundB m k = false := by
  unfold shapedB at h
  split at h
  · cases h
  · rename_i h1
    split at h
    · cases h
    · rename_i h2
      split at h
      · cases h
      · rename_i h3
        have h2' := (anyLt_eq_false _ _).1 (eq_false_of_ne_true h2)
        have h3' := (anyLt_eq_false _ _).1 (eq_false_of_ne_true h3)
        have h4' := (anyLt_eq_false _ _).1 (Bool.not_eq_true' _ ▸ h)
        refine ⟨by omega, by omega, by omega, fun i hi => ?_, fun i hi => ?_, h4'⟩
        · have := h2' i hi; rw [getD_of_lt [] hi] at this; simpa using this
        · have := h3' i hi; rw [getD_of_lt [] hi] at this; simpa using this
theorem step_in {w : World} {b o : Nat} {s : St} (h : StepAt w b o s) : s.In := ⟨h.1.2, h.2.1.2, h.2.2.1.2, h.2.2.2.1.2, h.2.2.2.2.1.2, h.2.2.2.2.2.1.2, h.2.2.2.2.2.2.1.2, h.2.2.2.2.2.2.2.2⟩
theorem orderI_in (a b : St) : InR (orderI a b) := by
  unfold orderI orI
  simp only [List.length_cons, List.length_nil, firstNZ, Nat.zero_add]
  have h1 := cmpI_in a.rd b.rd
  have h2 := cmpI_in a.pr b.pr
  have h3 := ordV_in a.heard b.heard
  have h4 : InR 0 := by unfold InR; omega
  simp
  split
  · split <;> assumption
  · assumption

set_option maxRecDepth 100000 in
set_option maxHeartbeats 8000000 in
theorem macCheck_any (m : Mac) (vf vy vt vo : Value) (w : World) (hf : IsVecs w vf m.first) (hy : IsV4 w vy m.syms) (ht : IsSteps w vt m.steps) (ho : IsV3 w vo m.out) :
    Calls Tryz.prog 40 #[.agg (macC m vf vy vt vo)] w fun e w' => e = .returned (.int .i64 (checkE m)) ∧ Below w.heap.size w w' := by
  have HF := Lib.hid hf
  have HY := Lib.hid hy
  have HO := Lib.hid ho
  obtain ⟨pf, cf, rfl, _⟩ := hf
  obtain ⟨py, cy, rfl, _⟩ := hy
  obtain ⟨po, co, rfl, _⟩ := ho
  obtain ⟨pt, ct, rfl, lt1, lt2, et⟩ := ht.at
  have ET := Lib.hid et
  clear et ht
  have HC : Hid (checkE m = if headE m then 2 else if !shapedB m then 15 else if 8192 < statesN m ∨ 65536 < m.steps.length then 5 else if !rangedB m then 2 else firstNZ m.steps.length (stepsE m)) := by exact rfl
  have HH : Hid (headE m = (!inB m.n 1 5 || !inB m.rounds 0 6 || !inB m.ins 1 8 || !inB m.outs 1 8)) := by exact rfl
  go_enter Tryz.func40, Tryz.ntmps40
  go_wp2_with fail
  refine (in_any _ _ _ _).mono ?_
  rintro e w1 ⟨rfl, rfl⟩
  cases h1 : inB m.n 1 5
  · have HD : Hid (checkE m = 2) := by (have h : checkE m = 2 := by (rw [HC.out, HH.out, h1]; rfl)); exact h
    go_wp2_with fail
    go_ret
    exact ⟨ret_int HD.out.symm, by go_grown⟩
  go_wp2_with fail
  refine (in_any _ _ _ _).mono ?_
  rintro e w1 ⟨rfl, rfl⟩
  cases h2 : inB m.rounds 0 6
  · have HD : Hid (checkE m = 2) := by (have h : checkE m = 2 := by (rw [HC.out, HH.out, h1, h2]; rfl)); exact h
    go_wp2_with fail
    go_ret
    exact ⟨ret_int HD.out.symm, by go_grown⟩
  go_wp2_with fail
  refine (in_any _ _ _ _).mono ?_
  rintro e w1 ⟨rfl, rfl⟩
  cases h3 : inB m.ins 1 8
  · have HD : Hid (checkE m = 2) := by (have h : checkE m = 2 := by (rw [HC.out, HH.out, h1, h2, h3]; rfl)); exact h
    go_wp2_with fail
    go_ret
    exact ⟨ret_int HD.out.symm, by go_grown⟩
  go_wp2_with fail
  refine (in_any _ _ _ _).mono ?_
  rintro e w1 ⟨rfl, rfl⟩
  cases h4 : inB m.outs 1 8
  · have HD : Hid (checkE m = 2) := by (have h : checkE m = 2 := by (rw [HC.out, HH.out, h1, h2, h3, h4]; rfl)); exact h
    go_wp2_with fail
    go_ret
    exact ⟨ret_int HD.out.symm, by go_grown⟩
  have HC2 : Hid (checkE m = if !shapedB m then 15 else if 8192 < statesN m ∨ 65536 < m.steps.length then 5 else if !rangedB m then 2 else firstNZ m.steps.length (stepsE m)) := by
    (have h : checkE m = if !shapedB m then 15 else if 8192 < statesN m ∨ 65536 < m.steps.length then 5 else if !rangedB m then 2 else firstNZ m.steps.length (stepsE m) := by (rw [HC.out, HH.out, h1, h2, h3, h4]; rfl)); exact h
  clear HC HH
  obtain ⟨hn1, hn2⟩ := inB_true h1
  obtain ⟨hr1, hr2⟩ := inB_true h2
  obtain ⟨hi1, hi2⟩ := inB_true h3
  obtain ⟨hu1, hu2⟩ := inB_true h4
  clear h1 h2 h3 h4
  go_wp2_with fail
  refine calls_gen (fun W => Below w.heap.size w W ∧ W.heap[w.heap.size]? = some (.cells (macC m (.slice pf m.first.length cf) (.slice py m.syms.length cy) (.slice pt m.steps.length ct) (.slice po m.out.length co)) 27)) ⟨by go_grown, alloc_new _ _⟩ (fun W0 hW0 => ?_)
  obtain ⟨hb0, hM⟩ := hW0
  have HM := Lib.hid hM; clear hM
  refine (shaped_any m _ _ _ _ W0 ⟨hr1, by omega⟩ (HF.out.up up_ints hb0) (HY.out.up up_v3 hb0) (HO.out.up up_vecs hb0)).mono ?_
  rintro e w1 ⟨rfl, hb1⟩
  cases hsh : shapedB m
  · have HD : Hid (checkE m = 15) := by (have h : checkE m = 15 := by (rw [HC2.out, hsh]; rfl)); exact h
    go_wp2_with fail
    go_ret
    exact ⟨ret_int HD.out.symm, ext_trans hb0 hb1⟩
  have HC3 : Hid (checkE m = if 8192 < statesN m ∨ 65536 < m.steps.length then 5 else if !rangedB m then 2 else firstNZ m.steps.length (stepsE m)) := by
    (have h : checkE m = if 8192 < statesN m ∨ 65536 < m.steps.length then 5 else if !rangedB m then 2 else firstNZ m.steps.length (stepsE m) := by (rw [HC2.out, hsh]; rfl)); exact h
  clear HC2
  have HS := Lib.hid (shapedB_true hsh)
  clear hsh
  have hbw1 := ext_trans hb0 hb1
  have s1 := cell_block (block_up hb1 HM.out)
  go_wp2_with fail
  refine (states_any m _ _ _ _ w1 (by have := HS.out.2.1; omega) (fun k hk => by have := HS.out.2.2.2.2.1 k hk; omega) (HO.out.up up_vecs hbw1)).mono ?_
  rintro e w2 ⟨rfl, hb2⟩
  have hbw2 := ext_trans hbw1 hb2
  have hm2 := block_up (ext_trans hb1 hb2) HM.out
  clear s1
  have s1 := cell_block hm2
  by_cases hst : 8192 < statesN m
  · have HD : Hid (checkE m = 5) := by (have h : checkE m = 5 := by (rw [HC3.out, if_pos (Or.inl hst)])); exact h
    go_wp2_with fail
    go_ret
    exact ⟨ret_int HD.out.symm, hbw2⟩
  by_cases hsl : 65536 < m.steps.length
  · have HD : Hid (checkE m = 5) := by (have h : checkE m = 5 := by (rw [HC3.out, if_pos (Or.inr hsl)])); exact h
    go_wp2_with fail
    go_ret
    exact ⟨ret_int HD.out.symm, hbw2⟩
  have HC4 : Hid (checkE m = if !rangedB m then 2 else firstNZ m.steps.length (stepsE m)) := by
    (have h : checkE m = if !rangedB m then 2 else firstNZ m.steps.length (stepsE m) := by (rw [HC3.out, if_neg (by omega)])); exact h
  clear HC3
  go_wp2_with fail
  refine (ranged_any m _ _ _ _ w2 (by have := HS.out.2.1; omega) (by
    have h0 : 0 < m.out.length := by have := HS.out.2.1; omega
    rw [getD_of_lt [] h0]
    have := HS.out.1; have := HS.out.2.2.2.2.1 0 h0; omega) ⟨hu1, hu2⟩ (HF.out.up up_ints hbw2) (HY.out.up up_v3 hbw2) (HO.out.up up_vecs hbw2)).mono ?_
  rintro e w3 ⟨rfl, hb3⟩
  have hbw3 := ext_trans hbw2 hb3
  cases hrg : rangedB m
  · have HD : Hid (checkE m = 2) := by (have h : checkE m = 2 := by (rw [HC4.out, hrg]; rfl)); exact h
    go_wp2_with fail
    go_ret
    exact ⟨ret_int HD.out.symm, hbw3⟩
  have HV : Hid (checkE m = firstNZ m.steps.length (stepsE m)) := by
    (have h : checkE m = firstNZ m.steps.length (stepsE m) := by (rw [HC4.out, hrg]; rfl)); exact h
  clear HC4 hrg s1
  have HM3 := Lib.hid (block_up hb3 hm2)
  have s1 := cell_block HM3.out
  clear hm2
  go_wp2_with fail
  clear s1
  go_loopw [50] (fun i wr => Below w3.heap.size w3 wr ∧ ∃ k : Nat, k ≤ m.steps.length ∧ i = .int .i64 k ∧ ∀ j, j < k → stepsE m j = 0) (fun i _ => m.steps.length - (intOf i).toNat)
  case atStart => exact ⟨Below.refl _ _, 0, by omega, rfl, by simp⟩
  case round =>
    obtain ⟨hbr, k, hk, rfl, hinv⟩ := hrel
    have H := Lib.hid hinv; clear hinv
    have t1 := cell_block (block_up hbr HM3.out)
    have hbW := ext_trans hbw3 hbr
    by_cases hlt : k < m.steps.length
    · obtain ⟨b1, o1, rfl, hsk⟩ := ET.out k hlt
      have hin := step_in hsk
      obtain ⟨c0, c1, c2, c3, c4, c5, c6, c7⟩ := hsk
      have d0 := cell_up hbW c0.1
      have d1 := cell_up hbW c1.1
      have d2 := cell_up hbW c2.1
      have d3 := cell_up hbW c3.1
      have d4 := cell_up hbW c4.1
      have d5 := cell_up hbW c5.1
      have d6 := cell_up hbW c6.1
      have d7 := cell_up hbW c7.1
      clear c0 c1 c2 c3 c4 c5 c6 c7
      have HG := Lib.hid (getD_of_lt default hlt)
      have hsz := block_lt (block_up hbr HM3.out)
      generalize hsk : m.steps[k] = s at hin d0 d1 d2 d3 d4 d5 d6 d7 HG
      clear hsk
      go_wp2_with fail
      refine calls_gen (fun W => Below wr.heap.size wr W ∧ W.heap[wr.heap.size]? = some (.cells s.c 73)) ⟨by go_grown, alloc_new _ _⟩ (fun V hV => ?_)
      obtain ⟨hbV, hS⟩ := hV
      have HSS := Lib.hid hS; clear hS
      have hWV := ext_trans hbW hbV
      refine (step_any m _ _ _ _ s hin V ⟨hn1, hn2⟩ ⟨hr1, hr2⟩ HS.out.2.1 HS.out.2.2.2.2.1 (HO.out.up up_vecs hWV)).mono ?_
      rintro e w4 ⟨rfl, hb4⟩
      have HO4 : Hid (stepsE m k = if stepE m s ≠ 0 then stepE m s else if 0 < k ∧ 0 ≤ orderI (m.steps.getD (k - 1) default) s then 14 else 0) := by
        (have h : stepsE m k = if stepE m s ≠ 0 then stepE m s else if 0 < k ∧ 0 ≤ orderI (m.steps.getD (k - 1) default) s then 14 else 0 := by (unfold stepsE; rw [HG.out])); exact h
      generalize stepE m s = ev at HO4
      have hWU := ext_trans hWV hb4
      by_cases hev : ev = 0
      case neg =>
        have hev' : (ev != 0) = true := by simpa using hev
        go_wp2_with fail
        go_ret
        exact ⟨ret_int (by rw [HV.out, ← firstNZ_hit k ev hlt H.out (by rw [HO4.out, if_pos hev]) hev]), hWU⟩
      subst hev
      have hrU := ext_trans hbV hb4
      clear t1 d0 d1 d2 d3 d4 d5 d6 d7 hsz
      go_wp2_with fail
      by_cases hk0 : k = 0
      · have HO5 : Hid (stepsE m k = 0) := by (have h : stepsE m k = 0 := by (rw [HO4.out, if_neg (by simp), if_neg (by omega)])); exact h
        have hd : decide ((0 : Int) < (k : Int)) = false := by simp; omega
        have hd2 : decide (0 < k) = false := by simp; omega
        clear HO4 hk0
        refine wp_region_quiet_ext (by kernel_rfl) (by kernel_rfl) ?_
        repeat (go_big_quiet_step (fail))
        refine wpQuiet_nil ?_
        intro _ hw'
        obtain ⟨xq, hw''⟩ := hw'
        subst hw''
        clear hd hd2
        go_wp2_with fail
        go_roundw
        case rel => exact ⟨ext_trans (ext_trans hbr hrU) xq.ext, k + 1, by omega, by go_num, below_succ H.out HO5.out⟩
        case measure => simp [intOf]; omega
      · obtain ⟨j, hj⟩ : ∃ j, k = j + 1 := ⟨k - 1, by omega⟩
        have hjl : j < m.steps.length := by omega
        have HJ := Lib.hid hj
        obtain ⟨b2, o2, e2, hsj⟩ := ET.out j hjl
        obtain ⟨rfl, rfl⟩ : b1 = b2 ∧ o1 = o2 := by simpa using e2
        clear e2
        have hinj := step_in hsj
        have HGJ := Lib.hid (getD_of_lt default hjl)
        obtain ⟨c0, c1, c2, c3, c4, c5, c6, c7⟩ := hsj
        generalize hsj : m.steps[j] = sj at hinj c0 c1 c2 c3 c4 c5 c6 c7 HGJ
        clear hsj
        have hd : decide ((0 : Int) < (k : Int)) = true := by simp; omega
        have hd2 : 0 < k := by omega
        have HO1 : Hid (stepsE m k = if 0 ≤ orderI sj s then 14 else 0) := by
          have h : stepsE m k = if 0 ≤ orderI sj s then 14 else 0 := by
            rw [HO4.out, if_neg (by simp)]
            have e : k - 1 = j := by omega
            rw [e, HGJ.out]
            grind
          exact h
        clear HO4 hk0 hj
        have hw1 : IntKind.i64.wrap ((k : Int) - 1) = (j : Int) := by rw [HJ.out]; rw [IntWalk.i64_in _ (by omega)]; omega
        have q1 : ∀ x : ExtW w4, ∀ o, x.val.cell? ⟨w.heap.size, o, none⟩ = _ := fun x => cell_block (block_up (ext_trans (ext_trans hbr hrU) x.ext) HM3.out)
        have q2 : ∀ x : ExtW w4, ∀ o, x.val.cell? ⟨wr.heap.size, o, none⟩ = _ := fun x => cell_block (block_up (ext_trans hb4 x.ext) HSS.out)
        have d0 : ∀ x : ExtW w4, x.val.cell? ⟨b1, o1 + j * 8, none⟩ = _ := fun x => x.cell (cell_up hWU c0.1)
        have d1 : ∀ x : ExtW w4, x.val.cell? ⟨b1, o1 + j * 8 + 1, none⟩ = _ := fun x => x.cell (cell_up hWU c1.1)
        have d2 : ∀ x : ExtW w4, x.val.cell? ⟨b1, o1 + j * 8 + 2, none⟩ = _ := fun x => x.cell (cell_up hWU c2.1)
        have d3 : ∀ x : ExtW w4, x.val.cell? ⟨b1, o1 + j * 8 + 3, none⟩ = _ := fun x => x.cell (cell_up hWU c3.1)
        have d4 : ∀ x : ExtW w4, x.val.cell? ⟨b1, o1 + j * 8 + 4, none⟩ = _ := fun x => x.cell (cell_up hWU c4.1)
        have d5 : ∀ x : ExtW w4, x.val.cell? ⟨b1, o1 + j * 8 + 5, none⟩ = _ := fun x => x.cell (cell_up hWU c5.1)
        have d6 : ∀ x : ExtW w4, x.val.cell? ⟨b1, o1 + j * 8 + 6, none⟩ = _ := fun x => x.cell (cell_up hWU c6.1)
        have d7 : ∀ x : ExtW w4, x.val.cell? ⟨b1, o1 + j * 8 + 7, none⟩ = _ := fun x => x.cell (cell_up hWU c7.1)
        clear c0 c1 c2 c3 c4 c5 c6 c7
        have HCALL := Lib.hid (show ∀ x : ExtW w4, Calls Tryz.prog 74 #[sj.v, s.v] x.val fun e w'' => e = .returned (.int .i64 (orderI sj s)) ∧ ∃ p : ExtW w4, w'' = p.val from fun x => Calls.ext_of (order_any sj s hinj hin _))
        generalize orderI sj s = oo at HCALL HO1
        refine wp_region_quiet_ext (by kernel_rfl) (by kernel_rfl) ?_
        repeat (go_big_quiet_step ((go_at_call 74; exact HCALL.out _)))
        refine wpQuiet_nil ?_
        intro _ hw'
        obtain ⟨xq, hw''⟩ := hw'
        subst hw''
        clear q1 q2 d0 d1 d2 d3 d4 d5 d6 d7 hd hd2
        have hWX := ext_trans hWU xq.ext
        by_cases hoo : 0 ≤ oo
        · go_wp2_with fail
          go_ret
          exact ⟨ret_int (by rw [HV.out, ← firstNZ_hit k 14 hlt H.out (by rw [HO1.out, if_pos hoo]) (by decide)]), hWX⟩
        · have HO5 : Hid (stepsE m k = 0) := by (have h : stepsE m k = 0 := by (rw [HO1.out, if_neg hoo])); exact h
          go_wp2_with fail
          go_roundw
          case rel => exact ⟨ext_trans (ext_trans hbr hrU) xq.ext, k + 1, by omega, by go_num, below_succ H.out HO5.out⟩
          case measure => simp [intOf]; omega
    · go_wp2_with fail
      go_ret
      exact ⟨ret_int (by rw [HV.out, firstNZ_zero]; intro j hj; exact H.out j (by omega)), hbW⟩
end Go.Proofs.YtjmejfgkogjpaaaGreatDoor

namespace Go.Proofs.YtjmejfgkogjpaaaGreatDoor
open Go.RowKit Go Go.Shelf

/-- What is told of a value; it stays true while memory grows. -/
structure MP where
  p : Value → World → Prop
  up : ∀ v W W', p v W → Below W.heap.size W W' → p v W'
def MP.any : MP := ⟨fun _ _ => True, fun _ _ _ _ _ => trivial⟩
def MP.eq (c : Value) : MP := ⟨fun v _ => v = c, fun _ _ _ h _ => h⟩
def MP.sl (base n : Nat) (cs : Array Value) (t : TypeId) : MP := ⟨fun v W => NewSl base n cs t v W, fun _ _ _ h hb => h.up hb⟩
def MP.box (base : Nat) (cs : Array Value) (t : TypeId) : MP := ⟨fun v W => NewBox base cs t v W, fun _ _ _ h hb => h.up hb⟩

def updV (x : Nat → Value) (i : Nat) (v : Value) : Nat → Value := fun j => if j = i then v else x j
theorem updV_same (x : Nat → Value) (i : Nat) (v : Value) : updV x i v i = v := by simp [updV]
theorem updV_ne (x : Nat → Value) {i j : Nat} (v : Value) (h : j ≠ i) : updV x i v j = x j := by simp [updV, h]
theorem exUpd {x : Nat → Value} {i : Nat} {c : Value} (h : x i = c) : ∃ y, x = updV y i c := ⟨x, by
  funext j
  unfold updV
  split
  · rename_i e; rw [e]; exact h
  · rfl⟩
def setFrom (x : Nat → Value) : List Nat → Nat → Array Value → Array Value
  | [], _, T => T
  | s :: r, j, T => setFrom x r (j + 1) (T.setIfInBounds s (x j))
def setAll (T : Array Value) (S : List Nat) (x : Nat → Value) : Array Value := setFrom x S 0 T

theorem setFrom_get (x : Nat → Value) (S : List Nat) : ∀ (j : Nat) (T : Array Value) (k : Nat), k ∉ S → (setFrom x S j T)[k]? = T[k]? := by
  induction S with
  | nil => intro j T k _; rfl
  | cons s r ih =>
    intro j T k hk
    simp at hk
    unfold setFrom
    rw [ih _ _ _ hk.2, Array.getElem?_setIfInBounds_ne (Ne.symm hk.1)]
theorem setFrom_size (x : Nat → Value) (S : List Nat) : ∀ (j : Nat) (T : Array Value), (setFrom x S j T).size = T.size := by
  induction S with
  | nil => intro j T; rfl
  | cons s r ih => intro j T; unfold setFrom; rw [ih]; simp
theorem setFrom_at (x : Nat → Value) (S : List Nat) (hS : S.Nodup) : ∀ (j : Nat) (T : Array Value) (i s : Nat), S[i]? = some s → s < T.size → (setFrom x S j T)[s]? = some (x (j + i)) := by
  induction S with
  | nil => intro j T i s h; simp at h
  | cons s0 r ih =>
    intro j T i s h hs
    rw [List.nodup_cons] at hS
    unfold setFrom
    cases i with
    | zero =>
      simp at h
      subst h
      rw [setFrom_get _ _ _ _ _ hS.1, Array.getElem?_setIfInBounds_self_of_lt (by exact hs)]
      simp
    | succ i =>
      simp at h
      rw [ih hS.2 (j + 1) _ i s h (by simpa using hs)]
      congr 2
      omega
theorem setAll_upd (T : Array Value) (S : List Nat) (hS : S.Nodup) (x : Nat → Value) (i s : Nat) (v : Value) (hi : S[i]? = some s) : setAll T S (updV x i v) = (setAll T S x).setIfInBounds s v := by
  unfold setAll
  apply Array.ext_getElem?
  intro k
  by_cases hks : k = s
  · subst hks
    by_cases hlt : k < T.size
    · rw [setFrom_at _ _ hS _ _ _ _ hi hlt, Array.getElem?_setIfInBounds_self_of_lt (by rw [setFrom_size]; exact hlt)]
      simp [updV]
    · rw [Array.getElem?_eq_none (by rw [setFrom_size]; omega), Array.getElem?_eq_none (by rw [Array.size_setIfInBounds, setFrom_size]; omega)]
  · rw [Array.getElem?_setIfInBounds_ne (Ne.symm hks)]
    by_cases hm : k ∈ S
    · obtain ⟨i', hi'⟩ := List.mem_iff_getElem?.1 hm
      by_cases hlt : k < T.size
      · rw [setFrom_at _ _ hS _ _ _ _ hi' hlt, setFrom_at _ _ hS _ _ _ _ hi' hlt]
        have : i' ≠ i := fun e => by subst e; rw [hi] at hi'; exact hks (Option.some.inj hi').symm
        simp [updV, this]
      · rw [Array.getElem?_eq_none (by rw [setFrom_size]; omega), Array.getElem?_eq_none (by rw [setFrom_size]; omega)]
    · rw [setFrom_get _ _ _ _ _ hm, setFrom_get _ _ _ _ _ hm]
theorem setAll_self (T : Array Value) (S : List Nat) (hS : S.Nodup) (x : Nat → Value) (hx : ∀ i s, S[i]? = some s → s < T.size → x i = T[s]!) : setAll T S x = T := by
  unfold setAll
  apply Array.ext_getElem?
  intro k
  by_cases hm : k ∈ S
  · obtain ⟨i, hi⟩ := List.mem_iff_getElem?.1 hm
    by_cases hlt : k < T.size
    · rw [setFrom_at _ _ hS _ _ _ _ hi hlt, Nat.zero_add, hx i k hi hlt]
      simp [hlt]
    · rw [Array.getElem?_eq_none (by rw [setFrom_size]; omega), Array.getElem?_eq_none (by omega)]
  · rw [setFrom_get _ _ _ _ _ hm]

/-- Where an operation of the region may end. -/
def EachK (F : Array Value) (d : List Deferred) (r : MP) (s : Nat) (W : World) (a' : Act) (W' : World) : Prop :=
  ∃ v, a' = { tmps := F.setIfInBounds s v, defers := d } ∧ Below W.heap.size W W' ∧ r.p v W'
theorem EachK.mk {F : Array Value} {d : List Deferred} {r : MP} {s : Nat} {W : World} {a' : Act} {W' : World} (v : Value) (hb : Below W.heap.size W W') (hr : r.p v W') (ha : a' = { tmps := F.setIfInBounds s v, defers := d }) : EachK F d r s W a' W' := ⟨v, ha, hb, hr⟩

/-- the slots of the first n operations -/
def slotsB (l : List Oper) (S : List Nat) : Bool := (List.range S.length).all fun i => match l[i]?, S[i]? with | some o, some s => o.dst == some s | _, _ => false

/-- The law: the last operation waits for all others. -/
theorem wp_region_each {P : Program} {id : Nat} {l : List Oper} {Q : Exit → Act → World → Prop} {T : Array Value} {d : List Deferred} {w : World} (n : Nat) (S : List Nat) (Rs : List MP) (hm : P.follows .mixedOrders = true) (hn : l.toArray.size = n + 1) (hS : S.Nodup) (hSl : S.length = n) (hB : growB l.toArray n = true)
    (hstep : ∀ x W i o s F, i < n → l.toArray[i]? = some o → S[i]? = some s → Below w.heap.size w W → (∀ e ∈ o.after, Region.binds .any e = true → (Rs.getD e.on MP.any).p (x e.on) W) → F = setAll T S x →
      wpList P l.toArray (Exit.then (EachK F d (Rs.getD i MP.any) s W) Q) [o] { tmps := F, defers := d } W)
    (hlast : ∀ x W o F, l.toArray[n]? = some o → Below w.heap.size w W → (∀ j, j < n → (Rs.getD j MP.any).p (x j) W) → F = setAll T S x → wpList P l.toArray Q [o] { tmps := F, defers := d } W) :
    (Code.region id l.toArray true).wp P Q { tmps := T, defers := d } w := by
  refine wp_region_grow n hm hn hB (fun D a W => ∃ x, a = { tmps := setAll T S x, defers := d } ∧ Below w.heap.size w W ∧ ∀ j, j < n → D j = true → (Rs.getD j MP.any).p (x j) W) ?_ ?_ ?_
  · refine ⟨fun i => T[S.getD i 0]!, ?_, (Below.refl _ _).drew, fun j _ h => by cases h⟩
    rw [setAll_self T S hS]
    intro i s hi hs
    rw [List.getD_eq_getElem?_getD, hi]
    rfl
  · rintro D a W i o hi ho hD hdep ⟨x, rfl, hb, hx⟩
    obtain ⟨s, hs⟩ : ∃ s, S[i]? = some s := ⟨S[i], List.getElem?_eq_getElem (by omega)⟩
    refine wpOp_mono' ?_ (wpOp_one ho (hstep x W i o s _ hi ho hs hb (fun e he hbi => hx e.on (by have := growB_back hB (by omega) ho e he; omega) (hdep e he hbi)) rfl))
    rintro a' W' ⟨v, rfl, hb', hr⟩
    refine ⟨updV x i v, by rw [setAll_upd T S hS x i s v hs], ext_trans hb hb', fun j hj hDj => ?_⟩
    by_cases e : j = i
    · subst e; rw [updV_same]; exact hr
    · rw [updV_ne _ _ e]
      refine (Rs.getD j MP.any).up _ _ _ (hx j hj ?_) hb'
      simpa [upd, e] using hDj
  · rintro D a W hall ⟨x, rfl, hb, hx⟩
    obtain ⟨o, ho⟩ : ∃ o, l.toArray[n]? = some o := ⟨l.toArray[n], Array.getElem?_eq_getElem (by omega)⟩
    refine wpOp_one ho ?_
    have he : Exit.then (fun a' w' => Q .normal a' w') Q = Q := by funext e a w; cases e <;> rfl
    rw [he]
    exact hlast x W o _ ho hb (fun j hj => hx j hj (hall j hj)) rfl

/-- every edge leads back -/
def backB (ops : Array Oper) (n : Nat) : Bool :=
  (List.range n).all (fun i => match ops[i]? with | some o => o.after.all fun e => decide (e.on < i) | none => false)
theorem backB_back {ops : Array Oper} {n : Nat} (h : backB ops n = true) {i : Nat} {o : Oper} (hi : i < n) (ho : ops[i]? = some o) : ∀ e ∈ o.after, e.on < i := by
  simp only [backB, List.all_eq_true] at h
  have := h i (List.mem_range.2 hi)
  rw [ho] at this
  intro e he
  have := Array.all_eq_true'.1 this e he
  simpa using this
theorem wpAny_inv {P : Program} {ops : Array Oper} {Q : Exit → Act → World → Prop} {n : Nat} (hn : ops.size = n) (hB : backB ops n = true) (Inv : (Nat → Bool) → Act → World → Prop)
    (hstep : ∀ D a w i o, i < n → ops[i]? = some o → D i = false → (∀ e ∈ o.after, Region.binds .any e = true → D e.on = true) → Inv D a w → wpOp P ops Q i (fun a' w' => Inv (upd D i) a' w') a w)
    (hend : ∀ D a w, (∀ j, j < n → D j = true) → Inv D a w → Q .normal a w) :
    ∀ (fuel : Nat) (L : Array Bool) (a : Act) (w : World), L.size = n → (List.range n).countP (fun j => !L.getD j false) ≤ fuel → Inv (fun j => L.getD j false) a w → wpAny P .any ops Q fuel L a w := by
  have hnone : ∀ L : Array Bool, L.size = n → (∀ j, j < n → L.getD j false = true) → Region.ready .any ops L = [] := by
    intro L hL h1
    refine List.eq_nil_iff_forall_not_mem.2 fun j hj => ?_
    obtain ⟨hj1, o, ho, _⟩ := mem_ready.1 hj
    have hjn : j < n := by have := (Array.getElem?_eq_some_iff.1 ho).1; omega
    have := h1 j hjn
    rw [show L.getD j false = L.getD j true by simp [Array.getD, hL, hjn]] at this
    rw [hj1] at this; cases this
  intro fuel
  induction fuel with
  | zero =>
    intro L a w hL hc h1
    have h3 : (List.range n).countP (fun j => !L.getD j false) = 0 := by omega
    rw [List.countP_eq_zero] at h3
    have hall : ∀ j, j < n → L.getD j false = true := fun j hj => by simpa using h3 j (List.mem_range.2 hj)
    exact ⟨hnone L hL hall, hend _ a w hall h1⟩
  | succ fuel ih =>
    intro L a w hL hc h2
    refine ⟨fun hr => ?_, fun i hi => ?_⟩
    · refine hend _ a w ?_ h2
      intro j
      induction j using Nat.strongRecOn with
      | ind j ihj =>
        intro hj
        cases hv : L.getD j false with
        | true => rfl
        | false =>
          exfalso
          obtain ⟨o, ho⟩ : ∃ o, ops[j]? = some o := ⟨ops[j]'(by omega), Array.getElem?_eq_getElem _⟩
          have : j ∈ Region.ready .any ops L := mem_ready.2 ⟨by rw [show L.getD j true = L.getD j false by simp [Array.getD, hL, hj]]; exact hv, o, ho, fun e he _ => by
            have := backB_back hB hj ho e he
            exact ihj e.on this (by omega)⟩
          rw [hr] at this
          cases this
    · obtain ⟨hi1, o, ho, hdep⟩ := mem_ready.1 hi
      have hin : i < n := by have := (Array.getElem?_eq_some_iff.1 ho).1; omega
      have hiD : L.getD i false = false := by rw [show L.getD i false = L.getD i true by simp [Array.getD, hL, hin]]; exact hi1
      have hupd : (fun j => (L.setIfInBounds i true).getD j false) = upd (fun j => L.getD j false) i := by
        funext j
        unfold upd
        by_cases hji : j = i
        · subst hji; simp [Array.getD, hL, hin]
        · rw [if_neg hji]
          simp only [Array.getD, Array.size_setIfInBounds]
          split
          · exact Array.getElem_setIfInBounds_ne _ (Ne.symm hji)
          · rfl
      have hcnt : (List.range n).countP (fun j => !(L.setIfInBounds i true).getD j false) ≤ fuel := by
        have h3 := upd_count (fun j => L.getD j false) i hiD (List.range n)
        rw [if_pos (List.mem_range.2 hin)] at h3
        have h4 : (fun j => !(L.setIfInBounds i true).getD j false) = fun j => !upd (fun j => L.getD j false) i j := by
          funext j; rw [← hupd]
        rw [h4]
        omega
      exact wpOp_mono' (fun a' w' h => ih (L.setIfInBounds i true) a' w' (by simpa using hL) hcnt (by rw [hupd]; exact h)) (hstep (fun j => L.getD j false) a w i o hin ho hiD hdep h2)

/-- The law: all operations grow. -/
theorem wp_region_all {P : Program} {id : Nat} {l : List Oper} {Q : Exit → Act → World → Prop} {T : Array Value} {d : List Deferred} {w : World} (n : Nat) (S : List Nat) (Rs : List MP) (hm : P.follows .mixedOrders = true) (hn : l.toArray.size = n) (hS : S.Nodup) (hSl : S.length = n) (hB : backB l.toArray n = true)
    (hstep : ∀ x W i o s F, i < n → l.toArray[i]? = some o → S[i]? = some s → Below w.heap.size w W → (∀ e ∈ o.after, Region.binds .any e = true → (Rs.getD e.on MP.any).p (x e.on) W) → F = setAll T S x →
      wpList P l.toArray (Exit.then (EachK F d (Rs.getD i MP.any) s W) Q) [o] { tmps := F, defers := d } W)
    (hend : ∀ x W F, Below w.heap.size w W → (∀ j, j < n → (Rs.getD j MP.any).p (x j) W) → F = setAll T S x → Q .normal { tmps := F, defers := d } W) :
    (Code.region id l.toArray true).wp P Q { tmps := T, defers := d } w := by
  refine wp_region_any hm ?_
  refine wpAny_inv hn hB (fun D a W => ∃ x, a = { tmps := setAll T S x, defers := d } ∧ Below w.heap.size w W ∧ ∀ j, j < n → D j = true → (Rs.getD j MP.any).p (x j) W) ?_ ?_ _ _ _ _ (by rw [Array.size_replicate, hn]) ?_ ?_
  · rintro D a W i o hi ho hD hdep ⟨x, rfl, hb, hx⟩
    obtain ⟨s, hs⟩ : ∃ s, S[i]? = some s := ⟨S[i], List.getElem?_eq_getElem (by omega)⟩
    refine wpOp_mono' ?_ (wpOp_one ho (hstep x W i o s _ hi ho hs hb (fun e he hbi => hx e.on (by have := backB_back hB hi ho e he; omega) (hdep e he hbi)) rfl))
    rintro a' W' ⟨v, rfl, hb', hr⟩
    refine ⟨updV x i v, by rw [setAll_upd T S hS x i s v hs], ext_trans hb hb', fun j hj hDj => ?_⟩
    by_cases e : j = i
    · subst e; rw [updV_same]; exact hr
    · rw [updV_ne _ _ e]
      refine (Rs.getD j MP.any).up _ _ _ (hx j hj ?_) hb'
      simpa [upd, e] using hDj
  · rintro D a W hall ⟨x, rfl, hb, hx⟩
    exact hend x W _ hb (fun j hj => hx j hj (hall j hj)) rfl
  · rw [hn]; exact Nat.le_trans List.countP_le_length (by simp)
  · refine ⟨fun i => T[S.getD i 0]!, ?_, (Below.refl _ _).drew, fun j hj h => ?_⟩
    · rw [setAll_self T S hS]
      intro i s hi hs
      rw [List.getD_eq_getElem?_getD, hi]
      rfl
    · exfalso
      simp only [Array.getD] at h
      split at h <;> simp at h
end Go.Proofs.YtjmejfgkogjpaaaGreatDoor
