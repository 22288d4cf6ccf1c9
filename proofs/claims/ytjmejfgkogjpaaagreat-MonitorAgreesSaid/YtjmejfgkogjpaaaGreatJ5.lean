/-
  Parts of the proof, in order. The contract of the program's task.Check. Conditions: the argument reads as a task. Plain facts on the processes that are obliged, and on what is to blame. It proves nothing of the program. Plain facts on tasks: which vectors a case allows, and how long its lists are in a task that passes its check. It proves nothing of the program. Contracts of the program's task.copied, task.allowed, task.place, task.Allowed. Conditions: the arguments read as a task. Contract of the program's task.Allowed. Conditions: the arguments read as a task. Maps from rounds to numbers, as the program's adversary makes them: what a look-up gives, and a store at a key that is not there yet. Conditions: the block is such a map. Laws for 'for .. := range f' over an iterator whose rounds are counted: the caller's side and the shape of an iterator's contract. It proves nothing of the program. Contracts of the program's package adversary: moves (an iterator), sized, state, Check. Conditions: the arguments read as an adversary; all its moves together are fewer than 2^40. The contract of the program's adversary.state. Conditions: the arguments read as an adversary and a list of moves.
-/
import Derived.OwnWalkIn
import Derived.TacticsInMore
import Derived.LoopNIn
import Derived.LoopIn
import Derived.Test.YtjmejfgkogjpaaaGreatJ4
namespace Go.Proofs.YtjmejfgkogjpaaaGreat
open Go.RowKit Go Go.Shelf

set_option maxHeartbeats 2000000 in
theorem taskCheck_any (t : Tk) (vc : Value) (w : World) (hv : IsCases w vc t.cases) :
    Calls Tryz.prog 33 #[.agg #[.int .i64 t.n, .int .i64 t.ins, .int .i64 t.outs, vc]] w fun e w' => e = .returned (.int .i64 (taskE t)) ∧ Below w.heap.size w w' := by
  have G := Lib.hid hv
  obtain ⟨pc, cc, rfl, l1, m1, e1⟩ := hv.at
  clear hv
  have E := Lib.hid e1; clear e1
  by_cases hr : t.n < 1 ∨ 5 < t.n ∨ t.ins < 1 ∨ 8 < t.ins ∨ t.outs < 1 ∨ 8 < t.outs
  · have HV : Hid (taskE t = 2) := by (have h : taskE t = 2 := by (unfold taskE; rw [if_pos hr])); exact h
    by_cases r1 : t.n < 1
    · go_enter Tryz.func33, Tryz.ntmps33
      go_wp2_with fail
      go_ret; exact ⟨ret_int HV.out.symm, by go_grown⟩
    by_cases r2 : 5 < t.n
    · go_enter Tryz.func33, Tryz.ntmps33
      go_wp2_with fail
      go_ret; exact ⟨ret_int HV.out.symm, by go_grown⟩
    by_cases r3 : t.ins < 1
    · go_enter Tryz.func33, Tryz.ntmps33
      go_wp2_with fail
      go_ret; exact ⟨ret_int HV.out.symm, by go_grown⟩
    by_cases r4 : 8 < t.ins
    · go_enter Tryz.func33, Tryz.ntmps33
      go_wp2_with fail
      go_ret; exact ⟨ret_int HV.out.symm, by go_grown⟩
    by_cases r5 : t.outs < 1
    · go_enter Tryz.func33, Tryz.ntmps33
      go_wp2_with fail
      go_ret; exact ⟨ret_int HV.out.symm, by go_grown⟩
    · have r6 : 8 < t.outs := by omega
      clear hr
      go_enter Tryz.func33, Tryz.ntmps33
      go_wp2_with fail
      go_ret; exact ⟨ret_int HV.out.symm, by go_grown⟩
  have r1 : 1 ≤ t.n := by omega
  have r2 : t.n ≤ 5 := by omega
  have r3 : 1 ≤ t.ins := by omega
  have r4 : t.ins ≤ 8 := by omega
  have r5 : 1 ≤ t.outs := by omega
  have r6 : t.outs ≤ 8 := by omega
  by_cases hl : t.cases.length < 1 ∨ 1024 < t.cases.length
  · have HV : Hid (taskE t = 5) := by (have h : taskE t = 5 := by (unfold taskE; rw [if_neg hr, if_pos hl])); exact h
    clear hr
    rcases hl with hl | hl
    · go_enter Tryz.func33, Tryz.ntmps33
      go_wp2_with fail
      go_ret; exact ⟨ret_int HV.out.symm, by go_grown⟩
    · go_enter Tryz.func33, Tryz.ntmps33
      go_wp2_with fail
      go_ret; exact ⟨ret_int HV.out.symm, by go_grown⟩
  have hl1 : 1 ≤ t.cases.length := by omega
  have hl2 : t.cases.length ≤ 1024 := by omega
  have HV : Hid (taskE t = firstNZ t.cases.length (caseE t)) := by (have h : taskE t = firstNZ t.cases.length (caseE t) := by (unfold taskE; rw [if_neg hr, if_neg hl])); exact h
  clear hr hl
  go_enter Tryz.func33, Tryz.ntmps33
  go_wp2_with fail
  refine wp_gen (fun W => Below w.heap.size w W ∧ W.heap[w.heap.size]? = some (.cells #[.int .i64 t.n, .int .i64 t.ins, .int .i64 t.outs, .slice pc t.cases.length cc] 24))
    ⟨by go_grown, alloc_new _ _⟩ (fun W0 hW0 => ?_)
  obtain ⟨hb0, hT⟩ := hW0
  have HT := Lib.hid hT; clear hT
  go_loopw [46] (fun i wr => Below W0.heap.size W0 wr ∧ ∃ k : Nat, k ≤ t.cases.length ∧ i = .int .i64 k ∧ ∀ j, j < k → caseE t j = 0) (fun i _ => t.cases.length - (intOf i).toNat)
  case atStart => exact ⟨Below.refl _ _, 0, by omega, rfl, by simp⟩
  case round =>
    obtain ⟨hbr, k, hk, rfl, hinv⟩ := hrel
    have H := Lib.hid hinv; clear hinv
    have t1 := cell_block (block_up hbr HT.out)
    have hbW := ext_trans hb0 hbr
    by_cases hlt : k < t.cases.length
    · obtain ⟨b1, o1, rfl, ⟨x0, cx0, hx0⟩, ⟨x1, cx1, hx1⟩, ⟨x2, cx2, hx2⟩⟩ := E.out k hlt
      have d0 := cell_up hbW cx0
      have d1 := cell_up hbW cx1
      have d2 := cell_up hbW cx2
      have HX0 := Lib.hid hx0
      have HX1 := Lib.hid hx1
      have HX2 := Lib.hid hx2
      obtain ⟨p0, q0, rfl, _⟩ := hx0
      obtain ⟨p1, q1, rfl, _⟩ := hx1
      obtain ⟨p2, q2, rfl, _⟩ := hx2
      clear cx0 cx1 cx2
      have hsz := block_lt (block_up hbr HT.out)
      go_wp2_with fail
      refine calls_gen (fun W => Below wr.heap.size wr W ∧ W.heap[wr.heap.size]? = some (.cells #[.slice p0 t.cases[k].inp.length q0, .slice p1 t.cases[k].out.length q1, .slice p2 t.cases[k].calm.length q2] 83)) ⟨by go_grown, alloc_new _ _⟩ (fun V hV => ?_)
      obtain ⟨hbV, hC⟩ := hV
      have HC := Lib.hid hC; clear hC
      have hWV := ext_trans hbW hbV
      refine (vector_any _ _ _ _ _ (HX0.out.up up_int hWV)).mono ?_
      rintro e w1 ⟨rfl, hb1⟩
      have HO : Hid (caseE t k = if vectorE t.cases[k].inp t.n t.ins ≠ 0 then vectorE t.cases[k].inp t.n t.ins else if 0 < k ∧ 0 ≤ ordV (t.cases.getD (k - 1) default).inp t.cases[k].inp then 14 else vectorsE t t.cases[k]) := by
        have h : caseE t k = if vectorE t.cases[k].inp t.n t.ins ≠ 0 then vectorE t.cases[k].inp t.n t.ins else if 0 < k ∧ 0 ≤ ordV (t.cases.getD (k - 1) default).inp t.cases[k].inp then 14 else vectorsE t t.cases[k] := by unfold caseE; rw [getD_of_lt default hlt]
        exact h
      generalize vectorE t.cases[k].inp t.n t.ins = ev at HO
      have hWU := ext_trans hWV hb1
      by_cases hev : ev = 0
      case neg =>
        have hev' : (ev != 0) = true := by simpa using hev
        go_wp2_with fail
        go_ret
        exact ⟨ret_int (by rw [HV.out, ← firstNZ_hit k ev hlt H.out (by rw [HO.out, if_pos hev]) hev]), hWU⟩
      subst hev
      have hrU := ext_trans hbV hb1
      have s1 := cell_block (block_up (ext_trans hbr hrU) HT.out)
      have s2 := cell_block (block_up hb1 HC.out)
      clear t1 d0 d1 d2 hsz
      go_wp2_with fail
      by_cases hk0 : k = 0
      · have HO2 : Hid (caseE t k = vectorsE t t.cases[k]) := by (have h : caseE t k = vectorsE t t.cases[k] := by (rw [HO.out, if_neg (by simp), if_neg (by omega)])); exact h
        have hd : decide ((0 : Int) < (k : Int)) = false := by simp; omega
        have hd2 : decide (0 < k) = false := by simp; omega
        clear HO hk0
        refine wp_region_quiet_ext (by kernel_rfl) (by kernel_rfl) ?_
        repeat (go_big_quiet_step (fail))
        refine wpQuiet_nil ?_
        intro _ hw'
        obtain ⟨xq, hw''⟩ := hw'
        subst hw''
        have r1' := cell_block (block_up (ext_trans (ext_trans hbr hrU) xq.ext) HT.out)
        have r2' := cell_block (block_up (ext_trans hb1 xq.ext) HC.out)
        clear s1 s2 hd hd2
        have hWX := ext_trans hWU xq.ext
        go_wp2_with fail
        refine (vectors_any t _ _ _ t.cases[k] _ _ _ _ (HX0.out.up up_int hWX) (HX1.out.up up_ints hWX) (HX2.out.up up_ints hWX)).mono ?_
        rintro e w2 ⟨rfl, hb2⟩
        generalize vectorsE t t.cases[k] = e2 at HO2
        by_cases he2 : e2 = 0
        · subst he2
          go_wp2_with fail
          go_roundw
          case rel => exact ⟨ext_trans (ext_trans (ext_trans hbr hrU) xq.ext) hb2, k + 1, by omega, by go_num, below_succ H.out HO2.out⟩
          case measure => simp [intOf]; omega
        · have he2' : (e2 != 0) = true := by simpa using he2
          go_wp2_with fail
          go_ret
          exact ⟨ret_int (by rw [HV.out, ← firstNZ_hit k e2 hlt H.out HO2.out he2]), ext_trans hWX hb2⟩
      · obtain ⟨j, hj⟩ : ∃ j, k = j + 1 := ⟨k - 1, by omega⟩
        have hjl : j < t.cases.length := by omega
        have HJ := Lib.hid hj; 
        obtain ⟨b2, o2, e2, ⟨y0, cy0, hy0⟩, _⟩ := E.out j hjl
        obtain ⟨rfl, rfl⟩ : b1 = b2 ∧ o1 = o2 := by simpa using e2
        clear e2
        have hd : decide ((0 : Int) < (k : Int)) = true := by simp; omega
        have hd2 : 0 < k := by omega
        have HO1 : Hid (caseE t k = if 0 ≤ ordV t.cases[j].inp t.cases[k].inp then 14 else vectorsE t t.cases[k]) := by
          have h : caseE t k = if 0 ≤ ordV t.cases[j].inp t.cases[k].inp then 14 else vectorsE t t.cases[k] := by
            rw [HO.out, if_neg (by simp)]
            have e : k - 1 = j := by omega
            rw [e, getD_of_lt default hjl]
            grind
          exact h
        clear HO hk0 hj
        have hw1 : IntKind.i64.wrap ((k : Int) - 1) = (j : Int) := by rw [HJ.out]; rw [IntWalk.i64_in _ (by omega)]; omega
        have q1 : ∀ x : ExtW w1, ∀ o, x.val.cell? ⟨w.heap.size, o, none⟩ = _ := fun x => cell_block (block_up (ext_trans (ext_trans hbr hrU) x.ext) HT.out)
        have q2 : ∀ x : ExtW w1, ∀ o, x.val.cell? ⟨wr.heap.size, o, none⟩ = _ := fun x => cell_block (block_up (ext_trans hb1 x.ext) HC.out)
        have q3 : ∀ x : ExtW w1, x.val.cell? ⟨b1, o1 + j * 3, none⟩ = some y0 := fun x => x.cell (cell_up hWU cy0)
        have hcall : ∀ x : ExtW w1, Calls Tryz.prog 66 #[y0, .slice p0 t.cases[k].inp.length q0] x.val fun e w'' => e = .returned (.int .i64 (ordV t.cases[j].inp t.cases[k].inp)) ∧ ∃ p : ExtW w1, w'' = p.val :=
          fun x => Calls.ext_of (slicesCompare_any _ _ _ _ _ (hy0.up up_int (ext_trans hWU x.ext)) (HX0.out.up up_int (ext_trans hWU x.ext)))
        have HCALL := Lib.hid hcall; clear hcall
        have HY0 := Lib.hid hy0; clear hy0 cy0
        generalize ordV t.cases[j].inp t.cases[k].inp = oo at HCALL HO1
        clear s1 s2
        refine wp_region_quiet_ext (by kernel_rfl) (by kernel_rfl) ?_
        repeat (go_big_quiet_step ((go_at_call 66; exact HCALL.out _)))
        refine wpQuiet_nil ?_
        intro _ hw'
        obtain ⟨xq, hw''⟩ := hw'
        subst hw''
        have r1' := q1 xq
        have r2' := q2 xq
        clear q1 q2 q3 hd hd2
        have hWX := ext_trans hWU xq.ext
        by_cases hoo : 0 ≤ oo
        · go_wp2_with fail
          go_ret
          exact ⟨ret_int (by rw [HV.out, ← firstNZ_hit k 14 hlt H.out (by rw [HO1.out, if_pos hoo]) (by decide)]), hWX⟩
        · have HO2 : Hid (caseE t k = vectorsE t t.cases[k]) := by (have h : caseE t k = vectorsE t t.cases[k] := by (rw [HO1.out, if_neg hoo])); exact h
          clear HO1
          go_wp2_with fail
          refine (vectors_any t _ _ _ t.cases[k] _ _ _ _ (HX0.out.up up_int hWX) (HX1.out.up up_ints hWX) (HX2.out.up up_ints hWX)).mono ?_
          rintro e w2 ⟨rfl, hb2⟩
          generalize vectorsE t t.cases[k] = e2 at HO2
          by_cases he2 : e2 = 0
          · subst he2
            go_wp2_with fail
            go_roundw
            case rel => exact ⟨ext_trans (ext_trans (ext_trans hbr hrU) xq.ext) hb2, k + 1, by omega, by go_num, below_succ H.out HO2.out⟩
            case measure => simp [intOf]; omega
          · have he2' : (e2 != 0) = true := by simpa using he2
            go_wp2_with fail
            go_ret
            exact ⟨ret_int (by rw [HV.out, ← firstNZ_hit k e2 hlt H.out HO2.out he2]), ext_trans hWX hb2⟩
    · go_wp2_with fail
      go_ret
      exact ⟨ret_int (by rw [HV.out, firstNZ_zero]; intro j hj; exact H.out j (by omega)), hbW⟩

end Go.Proofs.YtjmejfgkogjpaaaGreat

namespace Go.Proofs.YtjmejfgkogjpaaaGreat

/-- the obliged processes below n, in order -/
def oblL (n : Nat) (f : Int) : List Nat := (List.range n).filter fun p => !hasB f p
theorem oblL_succ (n : Nat) (f : Int) : oblL (n + 1) f = if hasB f n then oblL n f else oblL n f ++ [n] := by
  unfold oblL
  rw [List.range_succ, List.filter_append]
  cases h : hasB f n <;> simp [h]
theorem oblL_mem {n : Nat} {f : Int} {p : Nat} : p ∈ oblL n f ↔ p < n ∧ hasB f p = false := by
  simp [oblL]
theorem oblL_lt {n : Nat} {f : Int} {i : Nat} (hi : i < (oblL n f).length) : (oblL n f)[i] < n ∧ hasB f (oblL n f)[i] = false := oblL_mem.1 (List.getElem_mem hi)
theorem oblL_sorted (n : Nat) (f : Int) : (oblL n f).Pairwise (· < ·) := List.Pairwise.filter _ List.pairwise_lt_range
theorem oblL_mono (n : Nat) (f : Int) {i j : Nat} (hj : j < (oblL n f).length) (h : i < j) : (oblL n f)[i] < (oblL n f)[j] := (List.pairwise_iff_getElem.1 (oblL_sorted n f)) i j (by omega) hj h
/-- the list for n begins with the list for p -/
theorem oblL_prefix (f : Int) {p n : Nat} (h : p ≤ n) : oblL p f <+: oblL n f := by
  induction n with
  | zero => obtain rfl : p = 0 := by omega
            exact List.prefix_refl _
  | succ n ih =>
    by_cases e : p = n + 1
    · subst e; exact List.prefix_refl _
    · rw [oblL_succ]
      split
      · exact ih (by omega)
      · exact (ih (by omega)).trans (List.prefix_append _ _)
theorem oblL_at (f : Int) {p n : Nat} (h : p < n) (hp : hasB f p = false) : (oblL n f)[(oblL p f).length]? = some p := by
  have h1 := oblL_prefix f (show p + 1 ≤ n by omega)
  rw [oblL_succ, hp] at h1
  simp only [Bool.false_eq_true, if_false] at h1
  obtain ⟨t, ht⟩ := h1
  rw [← ht, List.append_assoc, List.getElem?_append_right (Nat.le_refl _)]
  simp
/-- the first obliged process at which q holds -/
def firstObl (n : Nat) (f : Int) (q : Nat → Bool) : Int := firstIx n fun p => !hasB f p && q p
theorem firstObl_none {n : Nat} {f : Int} {q : Nat → Bool} (h : ∀ j, j < (oblL n f).length → q ((oblL n f).getD j 0) = false) : firstObl n f q = -1 := by
  refine firstIx_none _ _ fun p hp => ?_
  cases hb : hasB f p with
  | true => rfl
  | false =>
    obtain ⟨j, hj, e⟩ := List.getElem_of_mem (oblL_mem.2 ⟨hp, hb⟩)
    have := h j hj
    rw [show (oblL n f).getD j 0 = (oblL n f)[j] by simp [hj], e] at this
    simp [this]
theorem firstObl_at {n : Nat} {f : Int} {q : Nat → Bool} {i : Nat} (hi : i < (oblL n f).length) (h : ∀ j, j < i → q ((oblL n f).getD j 0) = false) (hq : q ((oblL n f).getD i 0) = true) : firstObl n f q = (oblL n f).getD i 0 := by
  have e0 : (oblL n f).getD i 0 = (oblL n f)[i] := by simp [hi]
  rw [e0] at hq ⊢
  have h1 := oblL_lt hi
  refine firstIx_at _ _ _ h1.1 (fun p hp => ?_) (by simp [h1.2, hq])
  cases hb : hasB f p with
  | true => rfl
  | false =>
    obtain ⟨j, hj, e⟩ := List.getElem_of_mem (oblL_mem.2 ⟨show p < n by omega, hb⟩)
    have hji : j < i := by
      rcases Nat.lt_or_ge j i with h' | h'
      · exact h'
      · rcases Nat.eq_or_lt_of_le h' with h2 | h2
        · subst h2; omega
        · have := oblL_mono n f hj h2; omega
    have := h j hji
    rw [show (oblL n f).getD j 0 = (oblL n f)[j] by simp [hj], e] at this
    simp [this]

/-- the faulty processes behind a word -/
def faultyS (word : List Rd) : Int := if word.length = 0 then 0 else (word.getD (word.length - 1) default).f
end Go.Proofs.YtjmejfgkogjpaaaGreat

namespace Go.Proofs.YtjmejfgkogjpaaaGreat

def vecsS (c : Cs) (f : Int) : List (List Int) := if f = 0 ∧ 0 < c.calm.length then c.calm else c.out
def placeE (t : Tk) (i f : Int) : Int :=
  if taskE t ≠ 0 then taskE t else if i < 0 ∨ (t.cases.length : Int) ≤ i then 6 else if f < 0 ∨ 2 ^ t.n.toNat ≤ f then 2 else 0
def allowedS (t : Tk) (i f : Int) : List (List Int) := if placeE t i f ≠ 0 then [] else vecsS (t.cases.getD i.toNat default) f

theorem nodup_le {α : Type} [DecidableEq α] (l m : List α) (hl : l.Pairwise (· ≠ ·)) (h : ∀ x ∈ l, x ∈ m) : l.length ≤ m.length := by
  induction l generalizing m with
  | nil => simp
  | cons x r ih =>
    have hx := h x (by simp)
    have h1 := ih (m.erase x) (List.pairwise_cons.1 hl).2 (fun y hy => (List.mem_erase_of_ne (fun e => (List.pairwise_cons.1 hl).1 y hy e.symm)).2 (h y (by simp [hy])))
    rw [List.length_erase_of_mem hx] at h1
    have := List.length_pos_of_mem hx
    simp only [List.length_cons]
    omega
theorem ord_pairwise (l : List (List Int)) (h : ∀ i, i < l.length → unordB l i = false) : ∀ j i, i < j → j < l.length → ordV (l.getD i []) (l.getD j []) < 0 := by
  intro j
  induction j with
  | zero => intro i hi; omega
  | succ j ih =>
    intro i hi hj
    have h1 := h (j + 1) hj
    have h2 : ordV (l.getD j []) (l.getD (j + 1) []) < 0 := by
      unfold unordB at h1
      rw [Nat.add_sub_cancel, decide_eq_true (by omega : 0 < j + 1), Bool.true_and] at h1
      have := of_decide_eq_false h1
      omega
    rcases Nat.lt_or_ge i j with h3 | h3
    · exact ordV_trans (ih i h3 (by omega)) h2
    · obtain rfl : i = j := by omega
      exact h2
theorem sorted_ne (l : List (List Int)) (h : ∀ i, i < l.length → unordB l i = false) : l.Pairwise (· ≠ ·) := by
  rw [List.pairwise_iff_getElem]
  intro i j hi hj hij e
  have h1 := ord_pairwise l h j i hij hj
  rw [show l.getD i [] = l[i] by simp [hi], show l.getD j [] = l[j] by simp [hj], e, ordV_self] at h1
  omega
theorem firstNZ_eq_zero {n : Nat} {f : Nat → Int} (h : firstNZ n f = 0) : ∀ i, i < n → f i = 0 := by
  intro i hi
  induction n generalizing f i with
  | zero => omega
  | succ n ih =>
    rw [firstNZ_left] at h
    by_cases h0 : f 0 = 0
    · rw [if_neg (by simpa using h0)] at h
      cases i with
      | zero => exact h0
      | succ i => exact ih h i (by omega)
    · rw [if_pos h0] at h
      exact absurd h h0
theorem vectorE_len {v : List Int} {n m : Int} (h : vectorE v n m = 0) : (v.length : Int) = n := by
  unfold vectorE at h
  by_cases e : (v.length : Int) = n
  · exact e
  · rw [if_pos e] at h; omega
theorem hasV_mem {l : List (List Int)} {v : List Int} (h : hasV l v = true) : v ∈ l := by
  unfold hasV at h
  obtain ⟨i, hi, e⟩ := (anyLt_iff _ _).1 h
  unfold eqV at e
  have := of_decide_eq_true e
  rw [← this, show l.getD i [] = l[i] by simp [hi]]
  exact List.getElem_mem hi
/-- what a task that passes its check is -/
structure CaseOk (t : Tk) (c : Cs) : Prop where
  inp : (c.inp.length : Int) = t.n
  out1 : 1 ≤ c.out.length
  out2 : c.out.length ≤ 1024
  calm : c.calm.length ≤ 1024
  outs : ∀ v ∈ c.out, (v.length : Int) = t.n
  calms : ∀ v ∈ c.calm, v ∈ c.out
theorem task_ok {t : Tk} (h : taskE t = 0) : (1 ≤ t.n ∧ t.n ≤ 5) ∧ (1 ≤ t.ins ∧ t.ins ≤ 8) ∧ (1 ≤ t.outs ∧ t.outs ≤ 8) ∧ (1 ≤ t.cases.length ∧ t.cases.length ≤ 1024) ∧ ∀ c ∈ t.cases, CaseOk t c := by
  unfold taskE at h
  split at h
  · omega
  rename_i h1
  split at h
  · omega
  rename_i h2
  refine ⟨by omega, by omega, by omega, by omega, fun c hc => ?_⟩
  obtain ⟨k, hk, rfl⟩ := List.getElem_of_mem hc
  have h3 := firstNZ_eq_zero h k hk
  unfold caseE at h3
  rw [show t.cases.getD k default = t.cases[k] by simp [hk]] at h3
  split at h3
  · omega
  rename_i h4
  split at h3
  · omega
  unfold vectorsE at h3
  split at h3
  · omega
  rename_i h5
  split at h3
  · omega
  rename_i h6
  have h7 := firstNZ_eq_zero (show firstNZ _ _ = 0 by simpa using h6)
  have h8 := firstNZ_eq_zero h3
  have hcal : ∀ i, i < (t.cases[k]).calm.length → hasV (t.cases[k]).out ((t.cases[k]).calm.getD i []) = true ∧ unordB (t.cases[k]).calm i = false := by
    intro i hi
    have := h8 i hi
    unfold calmE at this
    split at this
    · rename_i h9
      refine ⟨h9, ?_⟩
      cases hu : unordB (t.cases[k]).calm i
      · rfl
      · rw [hu] at this; simp at this
    · omega
  have hmem : ∀ v ∈ (t.cases[k]).calm, v ∈ (t.cases[k]).out := by
    intro v hv
    obtain ⟨i, hi, rfl⟩ := List.getElem_of_mem hv
    have := hasV_mem (hcal i hi).1
    rwa [show (t.cases[k]).calm.getD i [] = (t.cases[k]).calm[i] by simp [hi]] at this
  refine ⟨vectorE_len (by simpa using h4), by omega, by omega, ?_, ?_, hmem⟩
  · exact Nat.le_trans (nodup_le _ _ (sorted_ne _ fun i hi => (hcal i hi).2) hmem) (by omega)
  · intro v hv
    obtain ⟨i, hi, rfl⟩ := List.getElem_of_mem hv
    have := h7 i hi
    unfold outE at this
    rw [show (t.cases[k]).out.getD i [] = (t.cases[k]).out[i] by simp [hi]] at this
    split at this
    · omega
    · rename_i h9
      exact vectorE_len (by simpa using h9)
theorem vecs_ok {t : Tk} {c : Cs} (h : CaseOk t c) (f : Int) : (vecsS c f).length ≤ 1024 ∧ ∀ v ∈ vecsS c f, (v.length : Int) = t.n := by
  unfold vecsS
  split
  · exact ⟨h.calm, fun v hv => h.outs v (h.calms v hv)⟩
  · exact ⟨h.out2, h.outs⟩
end Go.Proofs.YtjmejfgkogjpaaaGreat

namespace Go.Proofs.YtjmejfgkogjpaaaGreat
open Go.RowKit Go Go.Shelf

theorem owns_up {w w' : World} {base : Nat} {e : TypeId} {v : Value} {n : Nat} {xs : List Value} (h : w.ownsRow base e 1 v n xs) (hb : Below w.heap.size w w') : w'.ownsRow base e 1 v n xs := by
  obtain ⟨hl, h⟩ := h
  refine ⟨hl, ?_⟩
  rcases h with h | ⟨g, cap, cur, h1, h2, h3, h4⟩
  · exact .inl h
  · exact .inr ⟨g, cap, cur, h1, h2, block_up hb h3, h4⟩
/-- A row of another element type is left alone by an append. -/
theorem owns_beside {w w' : World} {base base' : Nat} {e e' : TypeId} {u v : Value} {n m : Nat} {xs ys : List Value} (h : w.ownsRow base e 1 u n xs) (hv : w.ownsRow base' e' 1 v m ys) (hne : e ≠ e') (hg : w.grownBy w' v.ownBlock) : w'.ownsRow base e 1 u n xs := by
  obtain ⟨hl, h⟩ := h
  refine ⟨hl, ?_⟩
  rcases h with h | ⟨g, cap, cur, h1, h2, h3, h4⟩
  · exact .inl h
  · refine .inr ⟨g, cap, cur, h1, h2, (hg.block g (block_lt h3) (fun e1 => ?_)).trans h3, h4⟩
    rcases hv.2 with ⟨rfl, _⟩ | ⟨g', cap', cur', rfl, _, h3', _⟩
    · cases e1
    · cases e1
      rw [h3] at h3'
      cases h3'
      exact hne rfl
theorem owns_lt {w : World} {base : Nat} {e : TypeId} {v : Value} {n : Nat} {xs : List Value} (h : w.ownsRow base e 1 v n xs) : ∀ g, v.ownBlock = some g → base ≤ g ∧ g < w.heap.size := by
  intro g hg
  rcases h.2 with ⟨rfl, _⟩ | ⟨g', cap, cur, rfl, h2, h3, _⟩
  · cases hg
  · cases hg; exact ⟨h2, block_lt h3⟩
theorem owns_base {w : World} {base base' : Nat} {e : TypeId} {v : Value} {n : Nat} {xs : List Value} (h : w.ownsRow base e 1 v n xs) (hb : base' ≤ base) : w.ownsRow base' e 1 v n xs := by
  obtain ⟨hl, h⟩ := h
  refine ⟨hl, ?_⟩
  rcases h with h | ⟨g, cap, cur, h1, h2, h3⟩
  · exact .inl h
  · exact .inr ⟨g, cap, cur, h1, Nat.le_trans hb h2, h3⟩

/-- A fresh list of fresh vectors: all its memory lies from base on. -/
def FreshVecs (w : World) (base : Nat) (v : Value) (l : List (List Int)) : Prop :=
  ∃ xs : List Value, w.ownsRow base 36 1 v l.length xs ∧ ∀ i (hi : i < l.length) (hx : i < xs.length), w.ownsRow base 3 1 xs[i] l[i].length (l[i].map (Value.int .i64))

set_option maxRecDepth 100000 in
set_option maxHeartbeats 2000000 in
theorem copied_any (v : Value) (l : List (List Int)) (w : World) (hv : IsVecs w v l) (hn : l.length ≤ 1099511627776) (hn2 : ∀ x ∈ l, x.length ≤ 1099511627776) :
    Calls Tryz.prog 136 #[v] w fun e w' => ∃ u, e = .returned u ∧ FreshVecs w' w.heap.size u l ∧ Below w.heap.size w w' := by
  have HR := Lib.hid (fun i (hi : i < l.length) => hn2 l[i] (List.getElem_mem hi))
  clear hn2
  obtain ⟨pa, ca, rfl, la1, la2, ea⟩ := hv.at
  clear hv
  have EA := Lib.hid ea; clear ea
  obtain ⟨i0, hi0, hz0, hz1, hz2⟩ := info_parts Tryz.infoInts
  go_enter Tryz.func136, Tryz.ntmps136
  go_wp2_with fail
  go_loopw [3, 8] (fun o i wr => Below w.heap.size w wr ∧ ∃ k : Nat, k ≤ l.length ∧ i = .int .i64 k ∧ FreshVecs wr w.heap.size o (l.take k)) (fun _ i _ => l.length - (intOf i).toNat)
  case atStart => exact ⟨Below.refl _ _, 0, by omega, rfl, [], by simpa using World.ownsRow_nil _ _ _ _, fun i hi => by simp at hi⟩
  case round =>
    obtain ⟨hbr, k, hk, rfl, hfr⟩ := hrel
    by_cases hlt : k < l.length
    · obtain ⟨b1, o1, rfl, x, cx, hx⟩ := EA.out k hlt
      rw [Nat.mul_one] at cx
      have d1 := cell_up hbr cx
      have HX := Lib.hid (hx.up up_int hbr)
      obtain ⟨px, qx, rfl, _⟩ := hx
      clear cx
      obtain ⟨xs, hown, hel⟩ := hfr
      have hkl : (l.take k).length = k := by simp; omega
      rw [hkl] at hown
      have HOWN := Lib.hid hown
      have HEL := Lib.hid hel
      have HKL := Lib.hid hkl
      clear hown hel hkl
      go_wp2_with fail
      refine (cloneRawInts _ _ _ (raw_of_ints HX.out) (by rw [List.length_map]; exact HR.out k hlt)).mono ?_
      rintro e w1 ⟨u, rfl, hu, hb1⟩
      obtain ⟨au, cu, rfl, _⟩ := owns_cell hu
      rw [List.length_map] at hu
      rw [List.length_map]
      generalize hN : l[k].length = nn at hu ⊢
      have HN := Lib.hid hN; clear hN
      have hbb := ext_trans hbr hb1
      have hA : Below w1.heap.size w1 (w1.alloc (.cells #[(Value.slice au nn cu)] 36)) := by go_grown
      have HOWN1 := Lib.hid (owns_up (owns_up HOWN.out hb1) hA)
      have hnews : ∀ j u', [(Value.slice au nn cu)][j]? = some u' → (w1.alloc (.cells #[(Value.slice au nn cu)] 36)).cell? (Addr.add ⟨w1.heap.size, 0, none⟩ j) = some u' := fun j u' hj => by
        cases j with
        | zero => simp at hj; subst hj; simp [Addr.add, cell_block (alloc_new w1 _)]
        | succ j => simp at hj
      have HNEWS := Lib.hid hnews
      have HU := Lib.hid hu
      clear hnews hu d1
      have hbs := hbb.size
      go_wp2_with (at_builtin; (refine wpList_append_own _ rfl (.tmp 12) (.tmp 15) 30 rfl w.heap.size 36 i0 (.slice none 0 0) 1 24 Tryz.underlying30 hi0 hz0 hz1 hz2 rfl (by decide) _ k xs rfl HOWN1.out ⟨w1.heap.size, 0, none⟩ 1 1 [(Value.slice au nn cu)] rfl rfl HNEWS.out (by simp [Value.oneCell']) (by unfold maxLen; omega) (by omega) (by simp; omega) ?_; intro v' w2 hown2 hgrow2 _))
      go_roundw
      case rel =>
        refine ⟨Below.grown (w := w1.alloc (.cells #[(Value.slice au nn cu)] 36)) (hbb.alloc hbs _) hgrow2 (by simp; omega) (fun g hg => (owns_lt HOWN.out g hg).1), k + 1, by omega, by go_num, xs ++ [(Value.slice au nn cu)], ?_, ?_⟩
        · rw [show (l.take (k + 1)).length = k + 1 by simp; omega]; exact hown2
        · intro i hi hx
          have hxl : xs.length = k := by have := HOWN.out.1; omega
          by_cases hik : i < k
          · have h1 := HEL.out i (by rw [HKL.out]; exact hik) (by omega)
            have h2 := owns_beside (owns_up (owns_up h1 hb1) hA) HOWN1.out (by decide) hgrow2
            simp only [List.getElem_take] at h2 ⊢
            rwa [List.getElem_append_left (by omega)]
          · obtain rfl : i = k := by simp at hi; omega
            have h2 := owns_beside (owns_base (owns_up HU.out hA) hbr.size) HOWN1.out (by decide) hgrow2
            simp only [List.getElem_take]
            rw [List.getElem_append_right (by omega)]
            obtain rfl := HN.out
            simpa using h2
      case measure => simp [intOf]; omega
    · go_wp2_with fail
      go_ret
      refine ⟨_, rfl, ?_, hbr⟩
      rwa [List.take_of_length_le (by omega)] at hfr

set_option maxHeartbeats 400000 in
theorem allowedV_any (x0 x1 x2 : Value) (c : Cs) (f : Int) (w : World) (h1 : IsVecs w x1 c.out) (h2 : IsVecs w x2 c.calm) :
    Calls Tryz.prog 137 #[.agg #[x0, x1, x2], .int .i64 f] w fun e w' => ∃ u, e = .returned u ∧ IsVecs w' u (vecsS c f) ∧ Below w.heap.size w w' := by
  have H1 := Lib.hid h1
  have H2 := Lib.hid h2
  obtain ⟨p1, q1, rfl, _⟩ := h1.at
  obtain ⟨p2, q2, rfl, m1, m2, _⟩ := h2.at
  clear h1 h2
  by_cases hf : f = 0
  · subst hf
    by_cases hl : 0 < c.calm.length
    · have HV : Hid (vecsS c 0 = c.calm) := by (have h : vecsS c 0 = c.calm := by (unfold vecsS; rw [if_pos ⟨rfl, hl⟩])); exact h
      have hl' : decide ((0 : Int) < (c.calm.length : Int)) = true := by simp; omega
      go_enter Tryz.func137, Tryz.ntmps137
      go_wp2_with fail
      go_ret
      refine ⟨_, rfl, ?_, by go_grown⟩
      rw [HV.out]; exact H2.out.up up_ints (by go_grown)
    · have HV : Hid (vecsS c 0 = c.out) := by (have h : vecsS c 0 = c.out := by (unfold vecsS; rw [if_neg (fun h => hl h.2)])); exact h
      have hl' : decide ((0 : Int) < (c.calm.length : Int)) = false := decide_eq_false (by omega)
      go_enter Tryz.func137, Tryz.ntmps137
      go_wp2_with fail
      go_ret
      refine ⟨_, rfl, ?_, by go_grown⟩
      rw [HV.out]; exact H1.out.up up_ints (by go_grown)
  · have HV : Hid (vecsS c f = c.out) := by (have h : vecsS c f = c.out := by (unfold vecsS; rw [if_neg (fun h => hf h.1)])); exact h
    have hf' : (f == 0) = false := by simpa using hf
    go_enter Tryz.func137, Tryz.ntmps137
    go_wp2_with fail
    go_ret
    refine ⟨_, rfl, ?_, by go_grown⟩
    rw [HV.out]; exact H1.out.up up_ints (by go_grown)


theorem placeE_ok {t : Tk} {i f : Int} (h : placeE t i f = 0) : taskE t = 0 ∧ 0 ≤ i ∧ i.toNat < t.cases.length := by
  unfold placeE at h
  split at h
  · omega
  · rename_i h1
    split at h
    · omega
    · exact ⟨by simpa using h1, by omega, by omega⟩

set_option maxHeartbeats 1000000 in
theorem place_any (t : Tk) (vc : Value) (i f : Int) (w : World) (hv : IsCases w vc t.cases) :
    Calls Tryz.prog 135 #[.agg #[.int .i64 t.n, .int .i64 t.ins, .int .i64 t.outs, vc], .int .i64 i, .int .i64 f] w fun e w' => e = .returned (.int .i64 (placeE t i f)) ∧ Below w.heap.size w w' := by
  have G := Lib.hid hv
  obtain ⟨pc, cc, rfl, l1, m1, _⟩ := hv.at
  clear hv
  go_enter Tryz.func135, Tryz.ntmps135
  go_wp2_with fail
  refine calls_gen (fun W => Below w.heap.size w W ∧ W.heap[w.heap.size]? = some (.cells #[.int .i64 t.n, .int .i64 t.ins, .int .i64 t.outs, .slice pc t.cases.length cc] 24)) ⟨by go_grown, alloc_new _ _⟩ (fun W0 hW0 => ?_)
  obtain ⟨hb0, hA0⟩ := hW0
  refine (taskCheck_any t _ W0 (G.out.up up_case hb0)).mono ?_
  rintro e w1 ⟨rfl, hb1⟩
  have hb1' := ext_trans hb0 hb1
  have t1 := cell_block (block_up hb1 hA0)
  clear hA0
  by_cases het : taskE t = 0
  case neg =>
    have HV : Hid (placeE t i f = taskE t) := by (have h : placeE t i f = taskE t := by (unfold placeE; rw [if_pos het])); exact h
    generalize taskE t = et at HV het
    have het' : (et != 0) = true := by simpa using het
    go_wp2_with fail
    go_ret
    exact ⟨ret_int (by rw [HV.out]), hb1'⟩
  obtain ⟨⟨n1, n2⟩, _⟩ := task_ok het
  have HV : Hid (placeE t i f = if i < 0 ∨ (t.cases.length : Int) ≤ i then 6 else if f < 0 ∨ 2 ^ t.n.toNat ≤ f then 2 else 0) := by (have h : placeE t i f = if i < 0 ∨ (t.cases.length : Int) ≤ i then 6 else if f < 0 ∨ 2 ^ t.n.toNat ≤ f then 2 else 0 := by (unfold placeE; rw [if_neg (by simpa using het)])); exact h
  rw [het]
  clear het
  generalize t.n = n at *
  have : n = 1 ∨ n = 2 ∨ n = 3 ∨ n = 4 ∨ n = 5 := by omega
  rcases this with rfl | rfl | rfl | rfl | rfl
  all_goals
    go_wp2_with fail
    all_goals
      go_ret
      refine ⟨ret_int ?_, hb1'⟩
      rw [HV.out]
      go_light
      grind

end Go.Proofs.YtjmejfgkogjpaaaGreat

namespace Go.Proofs.YtjmejfgkogjpaaaGreat
open Go.RowKit Go Go.Shelf

set_option maxRecDepth 100000 in
set_option maxHeartbeats 1000000 in
theorem allowed_any (t : Tk) (vc : Value) (i f : Int) (w : World) (hv : IsCases w vc t.cases) :
    Calls Tryz.prog 115 #[.agg #[.int .i64 t.n, .int .i64 t.ins, .int .i64 t.outs, vc], .int .i64 i, .int .i64 f] w fun e w' => ∃ u, e = .returned (.tuple #[u, .int .i64 (placeE t i f)]) ∧ FreshVecs w' w.heap.size u (allowedS t i f) ∧ Below w.heap.size w w' := by
  have G := Lib.hid hv
  obtain ⟨pc, cc, rfl, l1, m1, e1⟩ := hv.at
  clear hv
  have E := Lib.hid e1; clear e1
  go_enter Tryz.func115, Tryz.ntmps115
  go_wp2_with fail
  refine calls_gen (fun W => Below w.heap.size w W ∧ W.heap[w.heap.size]? = some (.cells #[.int .i64 t.n, .int .i64 t.ins, .int .i64 t.outs, .slice pc t.cases.length cc] 24)) ⟨by go_grown, alloc_new _ _⟩ (fun W0 hW0 => ?_)
  obtain ⟨hb0, hA0⟩ := hW0
  refine (place_any t _ i f W0 (G.out.up up_case hb0)).mono ?_
  rintro e w1 ⟨rfl, hb1⟩
  have hb1' := ext_trans hb0 hb1
  have t1 := cell_block (block_up hb1 hA0)
  clear hA0
  by_cases hp : placeE t i f = 0
  case neg =>
    have HV : Hid (allowedS t i f = []) := by (have h : allowedS t i f = [] := by (unfold allowedS; rw [if_pos hp])); exact h
    generalize hE : placeE t i f = et at hp
    have HE := Lib.hid hE; clear hE
    have het' : (et != 0) = true := by simpa using hp
    go_wp2_with fail
    go_ret2
    refine ⟨.slice none 0 0, by rw [HE.out]; rfl, ?_, hb1'⟩
    rw [HV.out]
    exact ⟨[], by simpa using World.ownsRow_nil _ _ _ _, fun i hi => by simp at hi⟩
  obtain ⟨ht, hi0, hi1⟩ := placeE_ok hp
  have HV : Hid (allowedS t i f = vecsS (t.cases.getD i.toNat default) f) := by (have h : allowedS t i f = vecsS (t.cases.getD i.toNat default) f := by (unfold allowedS; rw [if_neg (by simpa using hp)])); exact h
  rw [hp]
  have HE := Lib.hid hp
  clear hp
  obtain ⟨k, rfl⟩ : ∃ k : Nat, i = k := ⟨i.toNat, by omega⟩
  simp only [Int.toNat_natCast] at hi1 HV
  have HOK := Lib.hid (vecs_ok ((task_ok ht).2.2.2.2 t.cases[k] (List.getElem_mem hi1)) f)
  have HN := Lib.hid (task_ok ht).1
  clear ht hi0
  have HVV : Hid (allowedS t k f = vecsS t.cases[k] f) := by (have h : allowedS t k f = vecsS t.cases[k] f := by (rw [HV.out, getD_of_lt default hi1])); exact h
  clear HV
  obtain ⟨b1, o1, rfl, ⟨x0, cx0, hx0⟩, ⟨x1, cx1, hx1⟩, ⟨x2, cx2, hx2⟩⟩ := E.out k hi1
  have d0 := cell_up hb1' cx0
  have d1 := cell_up hb1' cx1
  have d2 := cell_up hb1' cx2
  have HX1 := Lib.hid (hx1.up up_ints hb1')
  have HX2 := Lib.hid (hx2.up up_ints hb1')
  obtain ⟨p0, q0, rfl, _⟩ := hx0
  obtain ⟨p1, q1, rfl, _⟩ := hx1
  obtain ⟨p2, q2, rfl, _⟩ := hx2
  clear cx0 cx1 cx2
  go_wp2_with fail
  refine (allowedV_any _ _ _ t.cases[k] f w1 HX1.out HX2.out).mono ?_
  rintro e w2 ⟨u, rfl, hu, hb2⟩
  have HU := Lib.hid hu
  obtain ⟨pu, qu, rfl, _⟩ := hu
  clear t1 d0 d1 d2
  go_wp2_with fail
  refine (copied_any _ _ w2 HU.out (Nat.le_trans HOK.out.1 (by omega)) (fun x hx => by have h1 := HOK.out.2 x hx; have h2 := HN.out; omega)).mono ?_
  rintro e w3 ⟨u3, rfl, hu3, hb3⟩
  have hb2' := ext_trans hb1' hb2
  go_wp2_with fail
  go_ret2
  refine ⟨u3, by rw [HE.out]; rfl, ?_, ext_trans hb2' hb3⟩
  rw [HVV.out]
  obtain ⟨xs, h1, h2⟩ := hu3
  exact ⟨xs, owns_base h1 hb2'.size, fun i hi hx => owns_base (h2 i hi hx) hb2'.size⟩

end Go.Proofs.YtjmejfgkogjpaaaGreat

namespace Go.Proofs.YtjmejfgkogjpaaaGreat
open Go.RowKit Go Go.Shelf

/-- Block b is a map with these entries, in the order in which they came. -/
def MapIs (w : World) (b : Nat) (f : List (Rd × Int)) : Prop :=
  ∃ es clock, w.heap[b]? = some (.map es clock) ∧ es.toList.map (fun e => (e.key, e.val)) = f.map (fun p => (p.1.v, Value.int .i64 p.2))
def rdGet (f : List (Rd × Int)) (r : Rd) : Option Int := (f.find? fun p => decide (r = p.1)).map (·.2)

theorem checkKey_rd (em : Bool) (r : Rd) (w : World) : (Instr.checkKey em 10000 64 r.v).run Tryz.prog w = .ok () w := by kernel_rfl

theorem equal_rd (a b : Rd) (w : World) : (Op.equal 64 a.v b.v).run Tryz.prog w = .ok (decide (a = b)) w := eqIn_rd 9996 a b w

theorem findAsking_rd (r : Rd) (w : World) : ∀ (f : List (Rd × Int)) (es : List MapEntry) (i : Nat), es.map (fun e => (e.key, e.val)) = f.map (fun p => (p.1.v, Value.int .i64 p.2)) →
    (rdGet f r = none → (Instr.findAsking 64 r.v es i).run Tryz.prog w = .ok none w) ∧ (∀ x, rdGet f r = some x → ∃ j, (Instr.findAsking 64 r.v es i).run Tryz.prog w = .ok (some (j, .int .i64 x)) w)
  | [], es, i, h => by
    obtain rfl : es = [] := by simpa using h
    exact ⟨fun _ => rfl, fun x hx => by simp [rdGet] at hx⟩
  | p :: f, es, i, h => by
    cases es with
    | nil => simp at h
    | cons e es =>
      simp only [List.map_cons, List.cons.injEq, Prod.mk.injEq] at h
      obtain ⟨⟨hk, hv⟩, h⟩ := h
      have ih := findAsking_rd r w f es (i + 1) h
      unfold Instr.findAsking
      by_cases hr : r = p.1
      · subst hr
        refine ⟨fun hn => by simp [rdGet] at hn, fun x hx => ?_⟩
        have hx' : p.2 = x := by simpa [rdGet] using hx
        refine ⟨i, ?_⟩
        simp [Sem.run_bind, hk, equal_rd, hv, hx']
      · have e1 : rdGet (p :: f) r = rdGet f r := by simp [rdGet, hr]
        rw [e1]
        refine ⟨fun hn => ?_, fun x hx => ?_⟩
        · simp [Sem.run_bind, hk, equal_rd, hr, ih.1 hn]
        · obtain ⟨j, hj⟩ := ih.2 x hx
          exact ⟨j, by simp [Sem.run_bind, hk, equal_rd, hr, hj]⟩

theorem findKey_rd (r : Rd) (w : World) (f : List (Rd × Int)) (es : List MapEntry) (h : es.map (fun e => (e.key, e.val)) = f.map (fun p => (p.1.v, Value.int .i64 p.2))) :
    (rdGet f r = none → (Instr.findKey 64 r.v es).run Tryz.prog w = .ok none w) ∧ (∀ x, rdGet f r = some x → ∃ j, (Instr.findKey 64 r.v es).run Tryz.prog w = .ok (some (j, .int .i64 x)) w) := by
  have hA := findAsking_rd r w f es 0 h
  unfold Instr.findKey
  cases es with
  | nil =>
    obtain rfl : f = [] := by simpa using h.symm
    refine ⟨fun _ => ?_, fun x hx => by simp [rdGet] at hx⟩
    simp [run_underlying Tryz.underlying64, Instr.findNow]
  | cons e es =>
    cases f with
    | nil => simp at h
    | cons p f =>
      have hk : e.key = p.1.v := by simp only [List.map_cons, List.cons.injEq, Prod.mk.injEq] at h; exact h.1.1
      have hn : ∀ fs, Instr.findNow (.struct fs) r.v (e :: es) 0 = none := fun fs => by simp [Instr.findNow, Instr.sameNow]
      simp only [Sem.run_bind, run_underlying Tryz.underlying64, Result.andThen_ok, hn]
      exact hA

theorem lookup_rd {w : World} {b : Nat} {f : List (Rd × Int)} (h : MapIs w b f) (r : Rd) :
    (rdGet f r = none → (Instr.lookup 196 (.map (some b)) r.v true).run Tryz.prog w = .ok (.tuple #[.int .i64 0, .bool false]) w) ∧
    (∀ x, rdGet f r = some x → (Instr.lookup 196 (.map (some b)) r.v true).run Tryz.prog w = .ok (.tuple #[.int .i64 x, .bool true]) w) := by
  obtain ⟨es, clock, hb, hes⟩ := h
  have hF := findKey_rd r w f es.toList hes
  have hz : (zeroValue 3).run Tryz.prog w = .ok (.int .i64 0) w := by kernel_rfl
  have hg : (getObj b).run Tryz.prog w = .ok (.map es clock) w := by simp [getObj, Sem.run, hb]
  unfold Instr.lookup
  refine ⟨fun hn => ?_, fun x hx => ?_⟩
  · simp [Sem.run_bind, run_underlying Tryz.underlying196, hg, checkKey_rd, hF.1 hn, hz]
  · obtain ⟨j, hj⟩ := hF.2 x hx
    simp [run_underlying Tryz.underlying196, hg, checkKey_rd, hj]

theorem update_rd {w : World} {b : Nat} {f : List (Rd × Int)} (h : MapIs w b f) (r : Rd) (x : Int) (hn : rdGet f r = none) :
    ∃ o, (Instr.mapUpdate 196 (.map (some b)) r.v (.int .i64 x)).run Tryz.prog w = .ok () (w.putObj b o) ∧ MapIs (w.putObj b o) b (f ++ [(r, x)]) := by
  obtain ⟨es, clock, hb, hes⟩ := h
  have hF := findKey_rd r w f es.toList hes
  have hg : (getObj b).run Tryz.prog w = .ok (.map es clock) w := by simp [getObj, Sem.run, hb]
  have hs : ∀ o, (setObj b o).run Tryz.prog w = .ok () (w.putObj b o) := fun o => by simp [setObj, Sem.run, hb, World.putObj]
  refine ⟨_, ?_, es.push { key := r.v, val := .int .i64 x, born := clock }, clock + 1, World.putObj_heap_same (block_lt hb), ?_⟩
  · unfold Instr.mapUpdate
    simp [run_underlying Tryz.underlying196, hg, checkKey_rd, hF.1 hn, hs]
  · simp [hes]

end Go.Proofs.YtjmejfgkogjpaaaGreat

namespace Go.Proofs.YtjmejfgkogjpaaaGreat
open Go.RowKit Go Go.Shelf

/-- From A to A' every row of cells, and every block below B, lies as it lay. -/
structure Chg (B : Nat) (A A' : World) : Prop where
  os : A'.os = A.os
  tape : A'.tape = A.tape
  output : A'.output = A.output
  size : A.heap.size ≤ A'.heap.size
  same : ∀ (k : Nat) (o : Obj), A.heap[k]? = some o → (k < B ∨ o.isCells = true) → A'.heap[k]? = some o
theorem Chg.of_below {B : Nat} {A A' : World} (h : Below A.heap.size A A') : Chg B A A' := ⟨h.os, h.tape, h.output, h.size, fun _ _ hk _ => block_up h hk⟩
theorem Chg.ck {B : Nat} {A A' : World} (h : Chg B A A') : CK A A' := fun k o hk ho => h.same k o hk (.inr ho)
theorem Chg.put {B : Nat} {A : World} {l : Nat} {o : Obj} (o' : Obj) (hl : A.heap[l]? = some o) (hB : B ≤ l) (ho : o.isCells = false) : Chg B A (A.putObj l o') :=
  ⟨rfl, rfl, rfl, by simp, fun k x hk hx => by
    by_cases e : k = l
    · subst e; rw [hl] at hk; cases hk
      rcases hx with hx | hx
      · omega
      · rw [ho] at hx; cases hx
    · exact (World.putObj_heap_other e).trans hk⟩
theorem Chg.below {B n : Nat} {w A A' : World} (h : Chg B A A') (hn : n ≤ B) (hs : n ≤ A.heap.size) (hb : Below n w A) : Below n w A' :=
  ⟨h.os.trans hb.os, h.tape.trans hb.tape, h.output.trans hb.output, Nat.le_trans hb.size h.size, fun k hk => by
    have hlt : k < A.heap.size := by omega
    have h1 : A.heap[k]? = some A.heap[k] := Array.getElem?_eq_getElem hlt
    rw [h.same k _ h1 (.inl (by omega)), ← h1]; exact hb.block k hk⟩
/-- What a caller says of the world between two rounds minds no such change. -/
def Sta (B : Nat) (I : World → Prop) : Prop := ∀ A A', Chg B A A' → I A → I A'
theorem Sta.and {B : Nat} {I J : World → Prop} (h : Sta B I) (k : Sta B J) : Sta B (fun W => I W ∧ J W) := fun A A' c x => ⟨h A A' c x.1, k A A' c x.2⟩
theorem Sta.below {B : Nat} {w : World} (h : w.heap.size ≤ B) : Sta B (fun W => Below w.heap.size w W) := fun _ _ c x => c.below h x.size x
theorem Sta.belowN {B n : Nat} {w : World} (h : n ≤ B) (hn : n ≤ w.heap.size) : Sta B (fun W => Below n w W) := fun _ _ c x => c.below h (Nat.le_trans hn x.size) x
theorem Sta.cells {B b : Nat} {c : Array Value} {t : TypeId} {f : Nat × Nat} : Sta B (fun W => W.heap[b]? = some (.cells c t f)) := fun _ _ c x => c.same _ _ x (.inr rfl)
theorem Sta.pure {B : Nat} {p : Prop} : Sta B (fun _ => p) := fun _ _ _ x => x

/-- What a round owes the iterator: the blocks of S lie as they lay; and the loop: whatever is no cells, from B on, lies as it lay. -/
structure Bod (B : Nat) (S : Nat → Prop) (W W' : World) : Prop where
  size : W.heap.size ≤ W'.heap.size
  keep : ∀ k, S k → W'.heap[k]? = W.heap[k]?
  same : ∀ (k : Nat) (o : Obj), B ≤ k → W.heap[k]? = some o → o.isCells = false → W'.heap[k]? = some o
theorem Bod.refl (B : Nat) (S : Nat → Prop) (W : World) : Bod B S W W := ⟨Nat.le_refl _, fun _ _ => rfl, fun _ _ _ h _ => h⟩
theorem Bod.trans {B : Nat} {S : Nat → Prop} {X Y Z : World} (h : Bod B S X Y) (k : Bod B S Y Z) : Bod B S X Z :=
  ⟨Nat.le_trans h.size k.size, fun i hi => (k.keep i hi).trans (h.keep i hi), fun i o hB hi ho => k.same i o hB (h.same i o hB hi ho) ho⟩
theorem Bod.of_below {B : Nat} {S : Nat → Prop} {W W' : World} (hS : ∀ k, S k → k < W.heap.size) (h : Below W.heap.size W W') : Bod B S W W' :=
  ⟨h.size, fun k hk => h.block k (hS k hk), fun _ _ _ hk _ => block_up h hk⟩
theorem Bod.setCell {B : Nat} {S : Nat → Prop} (W : World) (p : Addr) (v : Value) (hp : ¬ S p.block) : Bod B S W (W.setCell p v) :=
  ⟨by simp, fun k hk => Below.heap_setCell _ _ _ _ (fun e => hp (e ▸ hk)), fun k o _ hk ho => (KeepsOthers.setCell W p v).same k o hk ho⟩
theorem Bod.put {S : Nat → Prop} (W : World) {l : Nat} (o' : Obj) (hS : ¬ S l) : Bod (l + 1) S W (W.putObj l o') :=
  ⟨by simp, fun k hk => World.putObj_heap_other (fun e => hS (e ▸ hk)), fun k x hk hx _ => (World.putObj_heap_other (by omega)).trans hx⟩
theorem Bod.mono {B C : Nat} {S : Nat → Prop} {W W' : World} (h : Bod B S W W') (hB : B ≤ C) : Bod C S W W' := ⟨h.size, h.keep, fun k o hk hx ho => h.same k o (Nat.le_trans hB hk) hx ho⟩

/-- An iterator value: called, it hands out encs 0, .., encs (N-1) in turn, till a round says 'no more'. Between two rounds it may make memory, and turns nothing; it leans on the blocks of S. -/
def SeqIx (P : Program) (g : Nat) (lb : Array Value) (encs : Nat → Array Value) (N : Nat) (S : Nat → Prop) (w : World) : Prop :=
  ∀ (l : Nat) (J Jx : Nat → World → Prop) (W : World), Below w.heap.size w W →
    (∀ i A A', J i A → Below A.heap.size A A' → J i A') → (∀ i A A', Jx i A → Below A.heap.size A A' → Jx i A') →
    (∀ i W1, i < N → J i W1 → YieldAt Fence.wide 0 P l (encs i) W1 fun e W' =>
      (e = .returned (.bool true) ∧ J (i + 1) W' ∧ W1.heap.size ≤ W'.heap.size ∧ ∀ k, S k → W'.heap[k]? = W1.heap[k]?) ∨ (e = .returned (.bool false) ∧ Jx (i + 1) W')) →
    J 0 W →
    Calls P g (#[.func (.yield l) #[] #[]] ++ lb) W fun e W' => (∃ v, e = .returned v) ∧ (J N W' ∨ ∃ i, i ≤ N ∧ Jx i W')

/-- How a round may be left. -/
def rpost (B : Nat) (S : Nat → Prop) (I : Nat → World → Prop) (Ix : Code → Nat → World → Prop) (i : Nat) (W : World) : Exit → Act → World → Prop
  | .normal, _, W' => Bod B S W W' ∧ I i W'
  | .ret, _, W' => Bod B S W W' ∧ Ix .ret i W'
  | .exit id, _, W' => Bod B S W W' ∧ Ix (.exit id) i W'
  | .goto t, _, W' => Bod B S W W' ∧ Ix (.goto t) i W'
  | .panic _, _, _ => False
  | .outgrown, _, _ => False

abbrev markOf (D : Nat) : Deferred := { target := .collected D, args := #[] }

/-- One round, from the walk of its two pieces of code. -/
theorem round_of {P : Program} {B : Nat} {S : Nat → Prop} {ps : Array Tmp} {assign body : Code} {tmps : Array Value} {l i : Nat} {I : Nat → World → Prop} {Ix : Code → Nat → World → Prop} {W : World} {args : Array Value} {r : Loop} (R : Ending → World → Prop)
    (hBl : B ≤ l) (hSl : ¬ S l) (hr : r.params = ps ∧ r.assign = assign ∧ r.body = body ∧ r.tmps = tmps ∧ r.state = .ready ∧ r.pending = none) (hl : W.heap[l]? = some (.loop r)) (hps : args.size = ps.size)
    (hround : assign.wpIn (Fence.wide.inRound l) 0 P (Exit.then (fun a1 W1 => Bod B S W W1 ∧ ∃ Ax : World → Prop, Sta B Ax ∧ Ax W1 ∧ ∀ W2, Ax W2 → (∃ r, W2.heap[l]? = some (.loop r)) → body.wpIn (Fence.wide.inRound l) 0 P (rpost B S I Ix (i + 1) W2) a1 W2) (fun _ _ _ => False))
      { tmps := (ps.zip args).foldl (fun t (p, v) => t.setIfInBounds p v) tmps, defers := [] } W)
    (hR1 : ∀ W3 W4, W.heap.size ≤ W3.heap.size → Bod (l + 1) S W W4 → W4.heap[l]? = some (.loop r) → Chg B W3 W4 → I (i + 1) W3 → (∀ k o, B ≤ k → k ≠ l → W.heap[k]? = some o → o.isCells = false → W4.heap[k]? = some o) → R (.returned (.bool true)) W4)
    (hR2 : ∀ c W3 W4, W.heap.size ≤ W3.heap.size → Bod (l + 1) S W W4 → W4.heap[l]? = some (.loop { r with state := .done, pending := some c }) → Chg B W3 W4 → Ix c (i + 1) W3 → (∀ k o, B ≤ k → k ≠ l → W.heap[k]? = some o → o.isCells = false → W4.heap[k]? = some o) → R (.returned (.bool false)) W4) :
    YieldAt Fence.wide 0 P l args W R := by
  obtain ⟨h1, h2, h3, h4, h5, h6⟩ := hr
  refine ⟨r.fn, _, r.assign, r.body, run_yield hl (by rw [h1]; exact hps), roundIn_of_wpIn trivial ?_⟩
  rw [h1, h2, h3, h4]
  refine wpIn_mono hround ?_
  rintro e a1 W1 hp
  cases e <;> first | exact hp.elim | skip
  obtain ⟨hbod, Ax, hAx, hax, hbody⟩ := hp
  have hl1 : W1.heap[l]? = some (.loop r) := hbod.same l _ hBl hl rfl
  have hl2 : (W1.putObj l (.loop { r with state := .busy })).heap[l]? = some (.loop { r with state := .busy }) := World.putObj_heap_same (block_lt hl1)
  have hb2 : Bod (l + 1) S W (W1.putObj l (.loop { r with state := .busy })) := (hbod.mono (by omega)).trans (Bod.put _ _ hSl)
  have hk2 : ∀ k o, B ≤ k → k ≠ l → W.heap[k]? = some o → o.isCells = false → (W1.putObj l (.loop { r with state := .busy })).heap[k]? = some o :=
    fun k o hk hne ho hc => (World.putObj_heap_other hne).trans (hbod.same k o hk ho hc)
  refine ⟨_, run_beginRound hl1 h5, wpIn_mono (hbody _ (hAx _ _ (Chg.put _ hl1 hBl rfl) hax) ⟨_, hl2⟩) ?_⟩
  generalize W1.putObj l (.loop { r with state := .busy }) = W2 at hl2 hb2 hk2
  rintro e a3 W3 hp
  have fin : ∀ (jump : Option Code), Bod B S W2 W3 → (Instr.endRound l jump).run P W3 = .ok (.bool jump.isNone) (W3.putObj l (.loop { r with state := if jump.isNone then .ready else .done, pending := jump })) ∧
      (W3.putObj l (.loop { r with state := if jump.isNone then .ready else .done, pending := jump })).heap[l]? = some (.loop { r with state := if jump.isNone then .ready else .done, pending := jump }) ∧
      Chg B W3 (W3.putObj l (.loop { r with state := if jump.isNone then .ready else .done, pending := jump })) ∧ Bod (l + 1) S W (W3.putObj l (.loop { r with state := if jump.isNone then .ready else .done, pending := jump })) ∧
      (∀ k o, B ≤ k → k ≠ l → W.heap[k]? = some o → o.isCells = false → (W3.putObj l (.loop { r with state := if jump.isNone then .ready else .done, pending := jump })).heap[k]? = some o) := fun jump hb3 => by
    have hl3 := hb3.same l _ hBl hl2 rfl
    exact ⟨run_endRound (r := { r with state := .busy }) jump hl3, World.putObj_heap_same (block_lt hl3), Chg.put _ hl3 hBl rfl, (hb2.trans (hb3.mono (by omega))).trans (Bod.put _ _ hSl),
      fun k o hk hne ho hc => (World.putObj_heap_other hne).trans (hb3.same k o hk (hk2 k o hk hne ho hc) hc)⟩
  cases e with
  | normal =>
    obtain ⟨hb3, hi⟩ := hp
    obtain ⟨f1, f2, f3, f4, f5⟩ := fin none hb3
    refine ⟨_, _, f1, hR1 W3 _ (Nat.le_trans hb2.size hb3.size) f4 ?_ f3 hi f5⟩
    rw [f2]; cases r; simp_all
  | ret =>
    obtain ⟨hb3, hi⟩ := hp
    obtain ⟨f1, f2, f3, f4, f5⟩ := fin (some .ret) hb3
    exact ⟨_, _, f1, hR2 .ret W3 _ (Nat.le_trans hb2.size hb3.size) f4 f2 f3 hi f5⟩
  | exit id =>
    obtain ⟨hb3, hi⟩ := hp
    obtain ⟨f1, f2, f3, f4, f5⟩ := fin (some (.exit id)) hb3
    exact ⟨_, _, f1, hR2 (.exit id) W3 _ (Nat.le_trans hb2.size hb3.size) f4 f2 f3 hi f5⟩
  | goto t =>
    obtain ⟨hb3, hi⟩ := hp
    obtain ⟨f1, f2, f3, f4, f5⟩ := fin (some (.goto t)) hb3
    exact ⟨_, _, f1, hR2 (.goto t) W3 _ (Nat.le_trans hb2.size hb3.size) f4 f2 f3 hi f5⟩
  | panic ch => exact hp.elim
  | outgrown => exact hp.elim

/-- 'for .. := range g { .. }' in a function's own body. -/
theorem wp_range {P : Program} {g : Operand} {ps : Array Tmp} {assign body : Code} {Q : Exit → Act → World → Prop} {a : Act} {w : World}
    {gf : Nat} {lb : Array Value} (hg : a.eval g = .func (.func gf) #[] lb) (eg : ∀ args w, (callFunc gf args).run P w = .ok (.enter gf args) w)
    {encs : Nat → Array Value} {N : Nat} {S : Nat → Prop} {w0 : World} (hseq : SeqIx P gf lb encs N S w0) (hb0 : Below w0.heap.size w0 w) (hS : ∀ k, S k → k < w.heap.size) (hps : ∀ i, (encs i).size = ps.size)
    (I : Nat → World → Prop) (Ix : Code → Nat → World → Prop) (hI : ∀ i, Sta w.heap.size (I i)) (hIx : ∀ c i, Sta w.heap.size (Ix c i)) (h0 : I 0 w)
    (hround : ∀ l i W, i < N → w.heap.size ≤ l → I i W →
      assign.wpIn (Fence.wide.inRound l) 0 P (Exit.then (fun a1 W1 => Bod w.heap.size S W W1 ∧ ∃ Ax : World → Prop, Sta w.heap.size Ax ∧ Ax W1 ∧ ∀ W2, Ax W2 → (∃ r, W2.heap[l]? = some (.loop r)) → body.wpIn (Fence.wide.inRound l) 0 P (rpost w.heap.size S I Ix (i + 1) W2) a1 W2) (fun _ _ _ => False))
        { tmps := (ps.zip (encs i)).foldl (fun t (p, v) => t.setIfInBounds p v) a.tmps, defers := [] } W)
    (hdone : ∀ D W, w.heap.size ≤ D → I N W → W.heap[D]? = some (.deferred (some [])) → Q .normal { a with defers := markOf D :: a.defers } W)
    (hstop : ∀ D c i W, w.heap.size ≤ D → i ≤ N → Ix c i W → W.heap[D]? = some (.deferred (some [])) → c.wp P Q { a with defers := markOf D :: a.defers } W) :
    (Code.rangeFunc g ps assign body).wp P Q a w := by
  refine (wpIn_wide (n := 0)).1 (wpIn_rangeFunc ?_)
  intro fn _
  obtain ⟨rec, hrec⟩ : ∃ rec : Loop, rec = { state := .ready, pending := none, fn, tmps := a.tmps, params := ps, assign, body, defers := w.heap.size } := ⟨_, rfl⟩
  obtain ⟨W1, hW1⟩ : ∃ W1, (w.alloc (.deferred (some []))).alloc (.loop rec) = W1 := ⟨_, rfl⟩
  have hL1 : W1.heap[w.heap.size + 1]? = some (.loop rec) := by
    rw [← hW1]; have := alloc_new (w.alloc (.deferred (some []))) (.loop rec); rwa [World.size_alloc] at this
  have hK1 : W1.heap[w.heap.size]? = some (.deferred (some [])) := by rw [← hW1]; exact alloc_old _ (alloc_new w _)
  have hwW1 : Below w.heap.size w W1 := by rw [← hW1]; exact ((Below.refl _ w).alloc (Nat.le_refl _) _).alloc (by simp) _
  have hS1 : ¬ S (w.heap.size + 1) := fun h => by have := hS _ h; omega
  refine ⟨w.heap.size + 1, [markOf w.heap.size], W1, { target := .fn (.func gf) lb, args := #[.func (.yield (w.heap.size + 1)) #[] #[]] }, W1, gf,
    #[.func (.yield (w.heap.size + 1)) #[] #[]] ++ lb, W1, ?_, ?_, fun _ _ => trivial, ?_, fun h => (by simp [Fence.wide] at h), ?_⟩
  · rw [← hW1, hrec]; exact run_enterLoop_outer _ _ _ _ _
  · simp only [resolve, hg]
    simp [go_sem]
  · simp [invoke, go_sem, eg]
  · refine (callsIn_wide (n := 0 - 1)).2 ?_
    refine (hseq (w.heap.size + 1)
      (fun i W => I i W ∧ W.heap[w.heap.size + 1]? = some (.loop rec) ∧ W.heap[w.heap.size]? = some (.deferred (some [])))
      (fun i W => ∃ c, Ix c i W ∧ W.heap[w.heap.size + 1]? = some (.loop { rec with state := .done, pending := some c }) ∧ W.heap[w.heap.size]? = some (.deferred (some [])))
      W1 (ext_trans hb0 hwW1)
      (fun i A A' h hb => ⟨hI i A A' (.of_below hb) h.1, block_up hb h.2.1, block_up hb h.2.2⟩)
      (fun i A A' h hb => by obtain ⟨c, h1, h2, h3⟩ := h; exact ⟨c, hIx c i A A' (.of_below hb) h1, block_up hb h2, block_up hb h3⟩)
      ?_ ⟨hI 0 _ _ (.of_below hwW1) h0, hL1, hK1⟩).mono ?_
    · rintro i W hi ⟨hii, hl, hk⟩
      refine round_of (B := w.heap.size) (S := S) (ps := ps) (assign := assign) (body := body) (tmps := a.tmps) (i := i) (I := I) (Ix := Ix) _ (by omega) hS1 (by rw [hrec]; simp) hl (hps i) (hround _ i W hi (by omega) hii) ?_ ?_
      · intro W3 W4 _ hb4 hl4 hc hi3 hoth
        exact .inl ⟨rfl, ⟨hI _ _ _ hc hi3, hl4, hoth _ _ (Nat.le_refl _) (by omega) hk rfl⟩, hb4.size, hb4.keep⟩
      · intro c W3 W4 _ _ hl4 hc hi3 hoth
        exact .inr ⟨rfl, c, hIx _ _ _ _ hc hi3, hl4, hoth _ _ (Nat.le_refl _) (by omega) hk rfl⟩
    · rintro e W2 ⟨⟨v, rfl⟩, (⟨hi, hl, hk⟩ | ⟨i, hin, c, hi, hl, hk⟩)⟩
      · exact ⟨none, _, by have := run_endLoop (P := P) hl (by rw [hrec]; simp); rw [this, hrec], hdone _ _ (Nat.le_refl _) (hI _ _ _ (Chg.put _ hl (by omega) rfl) hi) ((World.putObj_heap_other (by omega)).trans hk)⟩
      · exact ⟨some c, _, by have := run_endLoop (P := P) hl (by simp); rw [this], wpIn_wide.2 (hstop _ c i _ (Nat.le_refl _) hin (hIx _ _ _ _ (Chg.put _ hl (by omega) rfl) hi) ((World.putObj_heap_other (by omega)).trans hk))⟩

/-- A function that holds such a loop: its contract from its body. -/
theorem calls_marks {P : Program} {f : FuncId} {fn : Func} {c : Code} {args : Array Value} {w : World} {R : Ending → World → Prop}
    (hf : P.funcs[f]? = some fn) (hb : fn.body = some c)
    (h : c.wp P (bodyPostM Fence.wide 0 P fn R) { tmps := args ++ Array.replicate (fn.ntmps - args.size) undef, defers := [] } w) : Calls P f args w R :=
  callsIn_wide.1 (callsIn_of_wp_marks hf hb trivial (wpIn_wide.2 h))
/-- Such a function returns. -/
theorem marks_ret {P : Program} {fn : Func} {R : Ending → World → Prop} {tmps : Array Value} {D : Nat} {W : World} {v : Value} (hK : W.heap[D]? = some (.deferred (some [])))
    (hv : (results fn tmps).run P (W.putObj D (.deferred none)) = .ok v (W.putObj D (.deferred none))) (h : R (.returned v) (W.putObj D (.deferred none))) :
    bodyPostM Fence.wide 0 P fn R .ret { tmps := tmps, defers := [markOf D] } W :=
  ⟨by simp, .inl ⟨_, _, rfl, run_takeDeferred hK, ⟨v, hv, h⟩⟩⟩
theorem marks_end {P : Program} {fn : Func} {R : Ending → World → Prop} {tmps : Array Value} {D : Nat} {W : World} {v : Value} (hK : W.heap[D]? = some (.deferred (some [])))
    (hv : (results fn tmps).run P (W.putObj D (.deferred none)) = .ok v (W.putObj D (.deferred none))) (h : R (.returned v) (W.putObj D (.deferred none))) :
    bodyPostM Fence.wide 0 P fn R .normal { tmps := tmps, defers := [markOf D] } W :=
  ⟨by simp, .inl ⟨_, _, rfl, run_takeDeferred hK, ⟨v, hv, h⟩⟩⟩
/-- .. ahead of the loop -/
theorem marks_ret0 {P : Program} {fn : Func} {R : Ending → World → Prop} {tmps : Array Value} {W : World} {v : Value}
    (hv : (results fn tmps).run P W = .ok v W) (h : R (.returned v) W) : bodyPostM Fence.wide 0 P fn R .ret { tmps := tmps, defers := [] } W := ⟨v, hv, h⟩
theorem below_put {n : Nat} {w W : World} {D : Nat} {o : Obj} (hn : n ≤ D) (h : Below n w W) : Below n w (W.putObj D o) :=
  ⟨h.os, h.tape, h.output, by simpa using h.size, fun k hk => (World.putObj_heap_other (by omega)).trans (h.block k hk)⟩

end Go.Proofs.YtjmejfgkogjpaaaGreat

namespace Go.Proofs.YtjmejfgkogjpaaaGreat
open Go.RowKit Go Go.Shelf
attribute [local go_sem] Oper.semAt_some

theorem setCell_same {W : World} {B : Nat} {cs : Array Value} {t : TypeId} {f : Nat × Nat} (h : W.heap[B]? = some (.cells cs t f)) (o : Nat) (v : Value) : (W.setCell ⟨B, o, none⟩ v).heap[B]? = some (.cells (cs.setIfInBounds o v) t f) := by
  simp [World.setCell, Array.getElem?_modify, h]
theorem setCell_other {W : World} {B C : Nat} {x : Obj} (h : W.heap[C]? = some x) (hne : C ≠ B) (o : Nat) (v : Value) : (W.setCell ⟨B, o, none⟩ v).heap[C]? = some x :=
  (Below.heap_setCell W ⟨B, o, none⟩ v C hne).trans h
/-- Below n the worlds are alike. -/
def Keep (n : Nat) (w w' : World) : Prop := ∀ k, k < n → w'.heap[k]? = w.heap[k]?
theorem Keep.cell {w w' : World} (h : Keep w.heap.size w w') {a : Addr} {v : Value} (hc : w.cell? a = some v) : w'.cell? a = some v := by
  have := cell_lt hc
  rw [World.cell?_of_block (w := w) (h a.block this)]; exact hc
theorem Keep.ck {w w' : World} (h : Keep w.heap.size w w') : CK w w' := fun k _ hk _ => (h k (block_lt hk)).trans hk
theorem Keep.of_below {w w' : World} (h : Below w.heap.size w w') : Keep w.heap.size w w' := h.block
theorem Keep.alloc {w w' : World} (h : Keep w.heap.size w w') (o : Obj) : Keep w.heap.size w (w'.alloc o) := fun k hk => by
  have h1 : w.heap[k]? = some w.heap[k] := Array.getElem?_eq_getElem hk
  rw [h1]; exact alloc_old o ((h k hk).trans h1)
theorem Keep.trans {n : Nat} {a b c : World} (h : Keep n a b) (k : Keep n b c) : Keep n a c := fun i hi => (k i hi).trans (h i hi)

set_option maxHeartbeats 400000 in
theorem moves_any (n : Int) (p : Option Addr) (len cap : Nat) (w : World) :
    Calls Tryz.prog 70 #[.agg #[.int .i64 n, .slice p len cap]] w fun e w' => e = .returned (.func (.func 104) #[] #[.pointer (some ⟨w.heap.size, 0, none⟩)]) ∧ w' = w.alloc (.cells #[.int .i64 n, .slice p len cap] 27) := by
  go_enter Tryz.func70, Tryz.ntmps70
  go_wp2
  go_ret
  exact ⟨rfl, rfl⟩

def encM (l : List (List Mv)) (i : Nat) : Array Value := #[.int .i64 (mvAt l i).1, (mvAt l i).2.v]

set_option maxHeartbeats 2000000 in
theorem moves1_seq (wd : World) (v : Value) (l : List (List Mv)) (hv : IsStates wd v l) (w : World) (hb : Below wd.heap.size wd w) (Bx : Nat) (hx : w.cell? ⟨Bx, 1, none⟩ = some v) :
    SeqIx Tryz.prog 104 #[.pointer (some ⟨Bx, 0, none⟩)] (encM l) (movesN l) (fun k => k < wd.heap.size) w := by
  intro yl J Jx W hW hJ hJx hY h0
  have hx1 := cell_up hW hx
  have hk0 : Keep wd.heap.size wd W := (Keep.of_below hb).trans (fun k hk => hW.block k (Nat.lt_of_lt_of_le hk hb.size))
  obtain ⟨pa, ca, rfl, la1, la2, ea⟩ := hv.at
  clear hv hx hW hb
  have EA := Lib.hid ea; clear ea
  have HJ := Lib.hid hJ; clear hJ
  have HJX := Lib.hid hJx; clear hJx
  have HY := Lib.hid hY; clear hY
  refine (callsIn_wide (n := 0)).1 ?_
  refine callsIn_of_wp Tryz.func104 rfl trivial ?_ rfl
  simp only [Tryz.ntmps104, List.size_toArray, List.length_cons, List.length_nil, Nat.reduceAdd, Nat.reduceSub, Array.replicate_succ, Array.replicate_zero, List.push_toArray, List.append_toArray, List.nil_append, List.cons_append]
  gi_wp2
  gi_loopw [10] (fun i wr => ∃ s : Nat, s ≤ l.length ∧ i = .int .i64 s ∧ Keep wd.heap.size wd wr ∧ J (cnt l s) wr) (fun i _ => l.length - (intOf i).toNat)
  case atStart => exact ⟨0, by omega, rfl, hk0, by rw [cnt_zero]; exact h0⟩
  case round =>
    obtain ⟨s, hs, rfl, hkr, hj⟩ := hrel
    have HKR := Lib.hid hkr; clear hkr
    have HJR := Lib.hid hj; clear hj
    by_cases hlt : s < l.length
    · obtain ⟨b1, o1, rfl, x, cx, hxs⟩ := EA.out s hlt
      rw [Nat.mul_one] at cx
      have d1 := HKR.out.cell cx
      obtain ⟨p2, c2, rfl, m1, m2, e2⟩ := hxs.at
      clear hxs cx
      have E2 := Lib.hid e2; clear e2
      gi_wp2
      obtain ⟨W0, hW0⟩ : ∃ W0 : World, W0 = wr := ⟨_, rfl⟩
      rw [← hW0] at HKR HJR d1 ⊢
      clear hW0 wr
      gi_loopw [17] (fun i wr => ∃ j : Nat, j ≤ l[s].length ∧ i = .int .i64 j ∧ Keep wd.heap.size wd wr ∧ J (cnt l s + j) wr) (fun i _ => l[s].length - (intOf i).toNat)
      case atStart => exact ⟨0, by omega, rfl, HKR.out, HJR.out⟩
      case round =>
        obtain ⟨j, hj, rfl, hkr, hjr⟩ := hrel
        have HKR2 := Lib.hid hkr; clear hkr
        have HJR2 := Lib.hid hjr; clear hjr
        by_cases hjt : j < l[s].length
        · obtain ⟨b2, o2, rfl, ⟨⟨c0, _⟩, ⟨c1, _⟩, ⟨c2, _⟩, ⟨c3, _⟩, ⟨c4, _⟩, ⟨c5, _⟩, ⟨c6, _⟩⟩, c7, _⟩ := E2.out j hjt
          have d0 := HKR2.out.cell c0
          have d1 := HKR2.out.cell c1
          have d2 := HKR2.out.cell c2
          have d3 := HKR2.out.cell c3
          have d4 := HKR2.out.cell c4
          have d5 := HKR2.out.cell c5
          have d6 := HKR2.out.cell c6
          have d7 := HKR2.out.cell c7
          clear c0 c1 c2 c3 c4 c5 c6 c7
          have hmv := mvAt_eq l s j hlt hjt
          have hle := cnt_le l s hlt
          generalize hm : l[s][j] = m at d0 d1 d2 d3 d4 d5 d6 d7 hmv
          obtain ⟨fn, tmps, assign, body, hy, hR⟩ := HY.out (cnt l s + j) (wr.alloc (.cells #[.int .i64 m.r.g.n, .int .i64 m.r.g.h0, .int .i64 m.r.g.h1, .int .i64 m.r.g.h2, .int .i64 m.r.g.h3, .int .i64 m.r.g.h4, .int .i64 m.r.f, .int .i64 m.to] 89)) (by omega) (HJ.out _ _ _ HJR2.out (by go_grown))
          unfold encM at hy
          rw [hmv] at hy
          dsimp only at hy
          have HR := Lib.hid hR; clear hR hmv hm
          gi_wp2
          refine ⟨rfl, HR.out.mono ?_⟩
          rintro e W3 (⟨rfl, hJ3, hz3, hk3⟩ | ⟨rfl, hJx3⟩)
          · gi_wp2
            go_roundw
            case rel => exact ⟨j + 1, by omega, by go_num, Keep.trans (HKR2.out.alloc _) hk3, hJ3⟩
            case measure => simp [intOf]; omega
          · gi_wp2
            refine bodyPost_ret (results_none rfl _ _ _) rfl ?_
            exact ⟨⟨_, rfl⟩, .inr ⟨_, by omega, hJx3⟩⟩
        · gi_wp2
          go_roundw
          case rel =>
            refine ⟨s + 1, by omega, by go_num, HKR2.out, ?_⟩
            have e : l[s].length = j := by omega
            rw [cnt_succ l s hlt, e]; exact HJR2.out
          case measure => simp [intOf]; omega
    · gi_wp2
      go_end0
      exact ⟨⟨_, rfl⟩, .inl (by rw [← cnt_all l s (by omega)]; exact HJR.out)⟩

def sizedE (a : Adv) : Int := if a.states.length < 1 ∨ 256 < a.states.length ∨ 4096 < movesN a.states then 5 else 0

set_option maxHeartbeats 2000000 in
theorem sized_any (a : Adv) (v : Value) (w : World) (hv : IsStates w v a.states) (hN : movesN a.states < 1099511627776) :
    Calls Tryz.prog 68 #[.agg #[.int .i64 a.n, v]] w fun e w' => e = .returned (.int .i64 (sizedE a)) ∧ Below w.heap.size w w' := by
  have G := Lib.hid hv
  obtain ⟨pa, ca, rfl, la1, la2, _⟩ := hv.at
  clear hv
  refine calls_marks Tryz.func68 rfl ?_
  simp only [Tryz.ntmps68, List.size_toArray, List.length_cons, List.length_nil, Nat.reduceAdd, Nat.reduceSub, Array.replicate_succ, Array.replicate_zero, List.push_toArray, List.append_toArray, List.nil_append, List.cons_append]
  go_wp2_with fail
  refine (moves_any _ _ _ _ _).mono ?_
  rintro e w1 ⟨rfl, rfl⟩
  go_wp2_with fail
  refine wp_gen (fun W => Below w.heap.size w W ∧ W.heap[w.heap.size]? = some (.cells #[.int .i64 a.n, .slice pa a.states.length ca] 27) ∧ W.heap[w.heap.size + 1]? = some (.cells #[.int .i64 0] 3) ∧ W.heap[w.heap.size + 1 + 1]? = some (.cells #[.int .i64 a.n, .slice pa a.states.length ca] 27))
    ⟨by go_grown, alloc_old _ (alloc_old _ (alloc_new _ _)), alloc_old _ (by simpa using alloc_new (w.alloc (.cells #[.int .i64 a.n, .slice pa a.states.length ca] 27)) (.cells #[.int .i64 0] 3)), by simpa using alloc_new ((w.alloc (.cells #[.int .i64 a.n, .slice pa a.states.length ca] 27)).alloc (.cells #[.int .i64 0] 3)) (.cells #[.int .i64 a.n, .slice pa a.states.length ca] 27)⟩ (fun W0 hW0 => ?_)
  obtain ⟨hb0, hA, hn0, hX⟩ := hW0
  have hseq := moves1_seq w _ a.states G.out W0 hb0 (w.heap.size + 1 + 1) (by simp [cell_block hX])
  have hsz := block_lt hX
  refine wp_range (gf := 104) (lb := #[.pointer (some ⟨w.heap.size + 1 + 1, 0, none⟩)]) rfl (enters_of Tryz.func104 (by kernel_rfl) rfl) hseq (Below.refl _ _) (fun k hk => Nat.lt_of_lt_of_le hk hb0.size) (fun i => rfl)
    (fun i W => Below w.heap.size w W ∧ W.heap[w.heap.size]? = some (.cells #[.int .i64 a.n, .slice pa a.states.length ca] 27) ∧ W.heap[w.heap.size + 1]? = some (.cells #[.int .i64 i] 3))
    (fun _ _ _ => False) (fun i => (Sta.below (by omega)).and (Sta.cells.and Sta.cells)) (fun _ _ => Sta.pure) ⟨hb0, hA, hn0⟩ ?round ?done ?stop
  case round =>
    intro l i W hi hl hI
    unfold encM
    gi_wp2
    refine ⟨Bod.refl _ _ _, _, (Sta.below (w := w) (by omega)).and (Sta.cells.and Sta.cells), hI, fun W2 h2 _ => ?_⟩
    obtain ⟨g1, g2, g3⟩ := h2
    have c1 := cell_block g3 0
    have f1 := frozen_block g3 0
    simp at c1
    have HG := Lib.hid (And.intro g1 (And.intro g2 g3))
    clear g1 g2 g3 hI hseq
    gi_wp2
    obtain ⟨g1, g2, g3⟩ := HG.out
    refine ⟨Bod.setCell _ _ _ (by simp), g1.setCell (by simp) _, setCell_other g2 (by omega) _ _, ?_⟩
    rw [setCell_same g3]
    simp
  case done =>
    intro D W hD hI hK
    obtain ⟨g1, g2, g3⟩ := hI
    have HG := Lib.hid (And.intro g1 (And.intro g2 g3))
    have t1 := cell_block g2
    have t2 := cell_block g3
    clear g1 g2 g3 hseq
    go_wp2
    all_goals
      refine marks_ret hK (results_tmp rfl _ _ _) ?_
      refine ⟨ret_int ?_, below_put (by omega) HG.out.1⟩
      go_light
      unfold sizedE
      grind
  case stop =>
    intro D c i W _ _ h
    exact h.elim
end Go.Proofs.YtjmejfgkogjpaaaGreat

namespace Go.Proofs.YtjmejfgkogjpaaaGreat
open Go.RowKit Go Go.Shelf

set_option maxHeartbeats 2000000 in
theorem state_any (a : Adv) (ps : Option Addr) (cs : Nat) (v : Value) (l : List Mv) (w : World) (hv : IsMoves w v l) :
    Calls Tryz.prog 69 #[.agg #[.int .i64 a.n, .slice ps a.states.length cs], v] w fun e w' => e = .returned (.int .i64 (stateE a l)) ∧ Below w.heap.size w w' := by
  obtain ⟨pa, ca, rfl, l1, m1, e1⟩ := hv.at
  clear hv
  have E := Lib.hid e1; clear e1
  by_cases hz : l.length = 0
  · have hz1 : ((l.length : Int) == 0) = true := beq_iff_eq.2 (by omega)
    have HV : Hid (stateE a l = 19) := by (have h : stateE a l = 19 := by (unfold stateE; rw [if_pos hz])); exact h
    clear hz
    go_enter Tryz.func69, Tryz.ntmps69
    go_wp2_with fail
    go_ret
    exact ⟨ret_int HV.out.symm, by go_grown⟩
  have hz1 : ((l.length : Int) == 0) = false := beq_eq_false_iff_ne.2 (by omega)
  have HV : Hid (stateE a l = firstNZ l.length (moveE a l)) := by (have h : stateE a l = firstNZ l.length (moveE a l) := by (unfold stateE; rw [if_neg hz])); exact h
  clear hz
  go_enter Tryz.func69, Tryz.ntmps69
  go_wp2_with fail
  refine wp_gen (fun W => Below w.heap.size w W ∧ W.heap[w.heap.size]? = some (.cells #[.int .i64 a.n, .slice ps a.states.length cs] 27))
    ⟨by go_grown, alloc_new _ _⟩ (fun W0 hW0 => ?_)
  obtain ⟨hb0, hT⟩ := hW0
  have HT := Lib.hid hT; clear hT hz1
  go_loopw [13] (fun i wr => Below W0.heap.size W0 wr ∧ ∃ k : Nat, k ≤ l.length ∧ i = .int .i64 k ∧ ∀ j, j < k → moveE a l j = 0) (fun i _ => l.length - (intOf i).toNat)
  case atStart => exact ⟨Below.refl _ _, 0, by omega, rfl, by simp⟩
  case round =>
    obtain ⟨hbr, k, hk, rfl, hinv⟩ := hrel
    have H := Lib.hid hinv; clear hinv
    have hbW := ext_trans hb0 hbr
    by_cases hlt : k < l.length
    · obtain ⟨b1, o1, rfl, ⟨⟨c0, _⟩, ⟨c1, _⟩, ⟨c2, _⟩, ⟨c3, _⟩, ⟨c4, _⟩, ⟨c5, _⟩, ⟨c6, _⟩⟩, c7, _⟩ := E.out k hlt
      have d0 := cell_up hbW c0
      have d1 := cell_up hbW c1
      have d2 := cell_up hbW c2
      have d3 := cell_up hbW c3
      have d4 := cell_up hbW c4
      have d5 := cell_up hbW c5
      have d6 := cell_up hbW c6
      have d7 := cell_up hbW c7
      clear c0 c1 c2 c3 c4 c5 c6 c7
      have HO : Hid (moveE a l k = if roundE l[k].r ≠ 0 then roundE l[k].r else if l[k].r.g.n ≠ a.n then 22 else if 0 < k ∧ 0 ≤ roundC (l.getD (k - 1) default).r l[k].r then 14 else if l[k].to < 0 ∨ (a.states.length : Int) ≤ l[k].to then 2 else 0) := by
        have h : moveE a l k = if roundE l[k].r ≠ 0 then roundE l[k].r else if l[k].r.g.n ≠ a.n then 22 else if 0 < k ∧ 0 ≤ roundC (l.getD (k - 1) default).r l[k].r then 14 else if l[k].to < 0 ∨ (a.states.length : Int) ≤ l[k].to then 2 else 0 := by unfold moveE; rw [getD_of_lt default hlt]
        exact h
      generalize l[k] = m at d0 d1 d2 d3 d4 d5 d6 d7 HO
      go_wp2_with fail
      refine calls_gen (fun W => Below wr.heap.size wr W ∧ W.heap[wr.heap.size]? = some (.cells #[.int .i64 m.r.g.n, .int .i64 m.r.g.h0, .int .i64 m.r.g.h1, .int .i64 m.r.g.h2, .int .i64 m.r.g.h3, .int .i64 m.r.g.h4, .int .i64 m.r.f, .int .i64 m.to] 89)) ⟨by go_grown, alloc_new _ _⟩ (fun V hV => ?_)
      obtain ⟨hbV, hC⟩ := hV
      have HC := Lib.hid hC; clear hC
      have hWV := ext_trans hbW hbV
      refine (roundCheck_any m.r _).mono ?_
      rintro e w1 ⟨rfl, hb1⟩
      clear d0 d1 d2 d3 d4 d5 d6 d7
      have hWU := ext_trans hWV hb1
      have hrU := ext_trans hbr (ext_trans hbV hb1)
      have s1 := cell_block (block_up hrU HT.out)
      have s2 := cell_block (block_up hb1 HC.out)
      generalize roundE m.r = er at HO
      by_cases her : er = 0
      case neg =>
        have her' : (er != 0) = true := by simpa using her
        go_wp2_with fail
        go_ret
        exact ⟨ret_int (by rw [HV.out, ← firstNZ_hit k er hlt H.out (by rw [HO.out, if_pos her]) her]), hWU⟩
      subst her
      by_cases hmn : m.r.g.n = a.n
      case neg =>
        have hmn' : (m.r.g.n != a.n) = true := by simpa using hmn
        go_wp2_with fail
        go_ret
        exact ⟨ret_int (by rw [HV.out, ← firstNZ_hit k 22 hlt H.out (by rw [HO.out, if_neg (by simp), if_pos hmn]) (by decide)]), hWU⟩
      have hmn' : (m.r.g.n != a.n) = false := by simpa using hmn
      have HO1 : Hid (moveE a l k = if 0 < k ∧ 0 ≤ roundC (l.getD (k - 1) default).r m.r then 14 else if m.to < 0 ∨ (a.states.length : Int) ≤ m.to then 2 else 0) := by
        have h : moveE a l k = if 0 < k ∧ 0 ≤ roundC (l.getD (k - 1) default).r m.r then 14 else if m.to < 0 ∨ (a.states.length : Int) ≤ m.to then 2 else 0 := by rw [HO.out, if_neg (by simp), if_neg (by simpa using hmn)]
        exact h
      clear HO hmn
      go_wp2_with fail
      clear hmn'
      by_cases hk0 : k = 0
      · have HO2 : Hid (moveE a l k = if m.to < 0 ∨ (a.states.length : Int) ≤ m.to then 2 else 0) := by (have h : moveE a l k = if m.to < 0 ∨ (a.states.length : Int) ≤ m.to then 2 else 0 := by (rw [HO1.out, if_neg (by omega)])); exact h
        have hd : decide ((0 : Int) < (k : Int)) = false := by simp; omega
        have hd2 : decide (0 < k) = false := by simp; omega
        clear HO1 hk0 s1 s2
        refine wp_region_quiet_ext (by kernel_rfl) (by kernel_rfl) ?_
        repeat (go_big_quiet_step (fail))
        refine wpQuiet_nil ?_
        intro _ hw'
        obtain ⟨xq, hw''⟩ := hw'
        subst hw''
        clear hd hd2
        have r1 := cell_block (block_up (ext_trans hrU xq.ext) HT.out)
        have r2 := cell_block (block_up (ext_trans hb1 xq.ext) HC.out)
        have hWX := ext_trans hWU xq.ext
        go_wp2_with fail
        all_goals first
          | (go_ret
             refine ⟨ret_int ?_, hWX⟩
             rw [HV.out]
             go_light
             refine firstNZ_hit k _ hlt H.out ?_ (by decide)
             rw [HO2.out]
             grind)
          | (go_roundw
             case rel =>
               refine ⟨ext_trans (ext_trans hrU xq.ext) (Below.refl _ _), k + 1, by omega, by go_num, below_succ H.out ?_⟩
               go_light
               rw [HO2.out]
               grind
             case measure => simp [intOf]; omega)
      · obtain ⟨j, hj⟩ : ∃ j, k = j + 1 := ⟨k - 1, by omega⟩
        have hjl : j < l.length := by omega
        have HJ := Lib.hid hj
        obtain ⟨b2, o2, e2, ⟨⟨c0, _⟩, ⟨c1, _⟩, ⟨c2, _⟩, ⟨c3, _⟩, ⟨c4, _⟩, ⟨c5, _⟩, ⟨c6, _⟩⟩, _⟩ := E.out j hjl
        obtain ⟨rfl, rfl⟩ : b1 = b2 ∧ o1 = o2 := by simpa using e2
        clear e2
        have hd : decide ((0 : Int) < (k : Int)) = true := by simp; omega
        have hd2 : 0 < k := by omega
        have HO2 : Hid (moveE a l k = if 0 ≤ roundC l[j].r m.r then 14 else if m.to < 0 ∨ (a.states.length : Int) ≤ m.to then 2 else 0) := by
          have h : moveE a l k = if 0 ≤ roundC l[j].r m.r then 14 else if m.to < 0 ∨ (a.states.length : Int) ≤ m.to then 2 else 0 := by
            rw [HO1.out]
            have e : k - 1 = j := by omega
            rw [e, getD_of_lt default hjl]
            grind
          exact h
        clear HO1 hk0 hj s1 s2
        have hw1 : IntKind.i64.wrap ((k : Int) - 1) = (j : Int) := by rw [HJ.out]; rw [IntWalk.i64_in _ (by omega)]; omega
        generalize l[j] = m2 at c0 c1 c2 c3 c4 c5 c6 HO2
        have q1 : ∀ x : ExtW w1, ∀ o, x.val.cell? ⟨w.heap.size, o, none⟩ = _ := fun x => cell_block (block_up (ext_trans hrU x.ext) HT.out)
        have q2 : ∀ x : ExtW w1, ∀ o, x.val.cell? ⟨wr.heap.size, o, none⟩ = _ := fun x => cell_block (block_up (ext_trans hb1 x.ext) HC.out)
        have k0 : ∀ x : ExtW w1, x.val.cell? _ = _ := fun x => x.cell (cell_up hWU c0)
        have k1 : ∀ x : ExtW w1, x.val.cell? _ = _ := fun x => x.cell (cell_up hWU c1)
        have k2 : ∀ x : ExtW w1, x.val.cell? _ = _ := fun x => x.cell (cell_up hWU c2)
        have k3 : ∀ x : ExtW w1, x.val.cell? _ = _ := fun x => x.cell (cell_up hWU c3)
        have k4 : ∀ x : ExtW w1, x.val.cell? _ = _ := fun x => x.cell (cell_up hWU c4)
        have k5 : ∀ x : ExtW w1, x.val.cell? _ = _ := fun x => x.cell (cell_up hWU c5)
        have k6 : ∀ x : ExtW w1, x.val.cell? _ = _ := fun x => x.cell (cell_up hWU c6)
        clear c0 c1 c2 c3 c4 c5 c6
        refine wp_region_quiet_ext (by kernel_rfl) (by kernel_rfl) ?_
        repeat (go_big_quiet_step ((go_at_call 103; exact Calls.ext_of (roundCompare_any m2.r m.r _))))
        refine wpQuiet_nil ?_
        intro _ hw'
        obtain ⟨xq, hw''⟩ := hw'
        subst hw''
        have r1 := q1 xq
        have r2 := q2 xq
        clear q1 q2 k0 k1 k2 k3 k4 k5 k6 hd hd2 hw1
        have hWX := ext_trans hWU xq.ext
        generalize roundC m2.r m.r = oo at HO2
        go_wp2_with fail
        all_goals first
          | (go_ret
             refine ⟨ret_int ?_, hWX⟩
             rw [HV.out]
             go_light
             refine firstNZ_hit k _ hlt H.out ?_ (by decide)
             rw [HO2.out]
             grind)
          | (go_roundw
             case rel =>
               refine ⟨ext_trans (ext_trans hrU xq.ext) (Below.refl _ _), k + 1, by omega, by go_num, below_succ H.out ?_⟩
               go_light
               rw [HO2.out]
               grind
             case measure => simp [intOf]; omega)
    · go_wp2_with fail
      go_ret
      exact ⟨ret_int (by rw [HV.out, firstNZ_zero]; intro j hj; exact H.out j (by omega)), hbW⟩

end Go.Proofs.YtjmejfgkogjpaaaGreat
