/-
  Parts of the proof, in order. Contract of the program's machine.Check. Conditions: the argument reads as a machine. A law for a region that draws its order: each operation's value is told by a predicate that stays true while memory grows, proved from those of the operations for which it waits. It proves nothing of the program. The plain specification of messages and traces. Numbers, bytes and lists alone, no program. It proves nothing of the program. What a trace is in memory; contracts of the program's simulate.outside, checkStates, checkDecisions. Conditions: the arguments read as a trace. A machine and a trace that came in, opened to lists. It proves nothing of the program's functions. Contracts of the library's slices.Clone at []int and [][]int. Conditions: the argument reads as a list. Contracts of the program's package task: vector, unordered, has, vectors, Check. Conditions: the arguments read as lists. Contracts of the program's task.vectors and task.Check. Conditions: the arguments read as a task and a case.
-/
import Derived.WalkSpells
import Derived.Laws.AppendOwnNone
import Derived.Test.YtjmejfgkogjpaaaGreatJ3
namespace Go.Proofs.YtjmejfgkogjpaaaGreat
open Go.RowKit Go Go.Shelf

theorem shapedB_true {m : Mac} (h : shapedB m = true) : (m.first.length : Int) = m.n ∧ (m.out.length : Int) = m.rounds + 1 ∧ (m.syms.length : Int) = m.rounds ∧ (∀ i (hi : i < m.first.length), (m.first[i].length : Int) = m.ins) ∧ (∀ i (hi : i < m.out.length), (m.out[i].length : Int) = m.n) ∧ ∀ k, k < m.syms.length → roundB m k = false := by
  unfold shapedB at h
  split at h
  · cases h
  · rename_i h1
    split at h
    · cases h
    · rename_i h2
      split at h
      · cases h
      · rename_i h3
        have h2' := (anyLt_eq_false _ _).1 (eq_false_of_ne_true h2)
        have h3' := (anyLt_eq_false _ _).1 (eq_false_of_ne_true h3)
        have h4' := (anyLt_eq_false _ _).1 (Bool.not_eq_true' _ ▸ h)
        refine ⟨by omega, by omega, by omega, fun i hi => ?_, fun i hi => ?_, h4'⟩
        · have := h2' i hi; rw [getD_of_lt [] hi] at this; simpa using this
        · have := h3' i hi; rw [getD_of_lt [] hi] at this; simpa using this
theorem step_in {w : World} {b o : Nat} {s : St} (h : StepAt w b o s) : s.In := ⟨h.1.2, h.2.1.2, h.2.2.1.2, h.2.2.2.1.2, h.2.2.2.2.1.2, h.2.2.2.2.2.1.2, h.2.2.2.2.2.2.1.2, h.2.2.2.2.2.2.2.2⟩
theorem orderI_in (a b : St) : InR (orderI a b) := by
  unfold orderI orI
  simp only [List.length_cons, List.length_nil, firstNZ, Nat.zero_add]
  have h1 := cmpI_in a.rd b.rd
  have h2 := cmpI_in a.pr b.pr
  have h3 := ordV_in a.heard b.heard
  have h4 : InR 0 := by unfold InR; omega
  simp
  split
  · split <;> assumption
  · assumption

set_option maxRecDepth 100000 in
set_option maxHeartbeats 8000000 in
theorem macCheck_any (m : Mac) (vf vy vt vo : Value) (w : World) (hf : IsVecs w vf m.first) (hy : IsV4 w vy m.syms) (ht : IsSteps w vt m.steps) (ho : IsV3 w vo m.out) :
    Calls Tryz.prog 19 #[.agg (macC m vf vy vt vo)] w fun e w' => e = .returned (.int .i64 (checkE m)) ∧ Below w.heap.size w w' := by
  have HF := Lib.hid hf
  have HY := Lib.hid hy
  have HO := Lib.hid ho
  obtain ⟨pf, cf, rfl, _⟩ := hf
  obtain ⟨py, cy, rfl, _⟩ := hy
  obtain ⟨po, co, rfl, _⟩ := ho
  obtain ⟨pt, ct, rfl, lt1, lt2, et⟩ := ht.at
  have ET := Lib.hid et
  clear et ht
  have HC : Hid (checkE m = if headE m then 2 else if !shapedB m then 15 else if 8192 < statesN m ∨ 65536 < m.steps.length then 5 else if !rangedB m then 2 else firstNZ m.steps.length (stepsE m)) := by exact rfl
  have HH : Hid (headE m = (!inB m.n 1 5 || !inB m.rounds 0 6 || !inB m.ins 1 8 || !inB m.outs 1 8)) := by exact rfl
  go_enter Tryz.func19, Tryz.ntmps19
  go_wp2_with fail
  refine (in_any _ _ _ _).mono ?_
  rintro e w1 ⟨rfl, rfl⟩
  cases h1 : inB m.n 1 5
  · have HD : Hid (checkE m = 2) := by (have h : checkE m = 2 := by (rw [HC.out, HH.out, h1]; rfl)); exact h
    go_wp2_with fail
    go_ret
    exact ⟨ret_int HD.out.symm, by go_grown⟩
  go_wp2_with fail
  refine (in_any _ _ _ _).mono ?_
  rintro e w1 ⟨rfl, rfl⟩
  cases h2 : inB m.rounds 0 6
  · have HD : Hid (checkE m = 2) := by (have h : checkE m = 2 := by (rw [HC.out, HH.out, h1, h2]; rfl)); exact h
    go_wp2_with fail
    go_ret
    exact ⟨ret_int HD.out.symm, by go_grown⟩
  go_wp2_with fail
  refine (in_any _ _ _ _).mono ?_
  rintro e w1 ⟨rfl, rfl⟩
  cases h3 : inB m.ins 1 8
  · have HD : Hid (checkE m = 2) := by (have h : checkE m = 2 := by (rw [HC.out, HH.out, h1, h2, h3]; rfl)); exact h
    go_wp2_with fail
    go_ret
    exact ⟨ret_int HD.out.symm, by go_grown⟩
  go_wp2_with fail
  refine (in_any _ _ _ _).mono ?_
  rintro e w1 ⟨rfl, rfl⟩
  cases h4 : inB m.outs 1 8
  · have HD : Hid (checkE m = 2) := by (have h : checkE m = 2 := by (rw [HC.out, HH.out, h1, h2, h3, h4]; rfl)); exact h
    go_wp2_with fail
    go_ret
    exact ⟨ret_int HD.out.symm, by go_grown⟩
  have HC2 : Hid (checkE m = if !shapedB m then 15 else if 8192 < statesN m ∨ 65536 < m.steps.length then 5 else if !rangedB m then 2 else firstNZ m.steps.length (stepsE m)) := by
    (have h : checkE m = if !shapedB m then 15 else if 8192 < statesN m ∨ 65536 < m.steps.length then 5 else if !rangedB m then 2 else firstNZ m.steps.length (stepsE m) := by (rw [HC.out, HH.out, h1, h2, h3, h4]; rfl)); exact h
  clear HC HH
  obtain ⟨hn1, hn2⟩ := inB_true h1
  obtain ⟨hr1, hr2⟩ := inB_true h2
  obtain ⟨hi1, hi2⟩ := inB_true h3
  obtain ⟨hu1, hu2⟩ := inB_true h4
  clear h1 h2 h3 h4
  go_wp2_with fail
  refine calls_gen (fun W => Below w.heap.size w W ∧ W.heap[w.heap.size]? = some (.cells (macC m (.slice pf m.first.length cf) (.slice py m.syms.length cy) (.slice pt m.steps.length ct) (.slice po m.out.length co)) 35)) ⟨by go_grown, alloc_new _ _⟩ (fun W0 hW0 => ?_)
  obtain ⟨hb0, hM⟩ := hW0
  have HM := Lib.hid hM; clear hM
  refine (shaped_any m _ _ _ _ W0 ⟨hr1, by omega⟩ (HF.out.up up_ints hb0) (HY.out.up up_v3 hb0) (HO.out.up up_vecs hb0)).mono ?_
  rintro e w1 ⟨rfl, hb1⟩
  cases hsh : shapedB m
  · have HD : Hid (checkE m = 15) := by (have h : checkE m = 15 := by (rw [HC2.out, hsh]; rfl)); exact h
    go_wp2_with fail
    go_ret
    exact ⟨ret_int HD.out.symm, ext_trans hb0 hb1⟩
  have HC3 : Hid (checkE m = if 8192 < statesN m ∨ 65536 < m.steps.length then 5 else if !rangedB m then 2 else firstNZ m.steps.length (stepsE m)) := by
    (have h : checkE m = if 8192 < statesN m ∨ 65536 < m.steps.length then 5 else if !rangedB m then 2 else firstNZ m.steps.length (stepsE m) := by (rw [HC2.out, hsh]; rfl)); exact h
  clear HC2
  have HS := Lib.hid (shapedB_true hsh)
  clear hsh
  have hbw1 := ext_trans hb0 hb1
  have s1 := cell_block (block_up hb1 HM.out)
  go_wp2_with fail
  refine (states_any m _ _ _ _ w1 (by have := HS.out.2.1; omega) (fun k hk => by have := HS.out.2.2.2.2.1 k hk; omega) (HO.out.up up_vecs hbw1)).mono ?_
  rintro e w2 ⟨rfl, hb2⟩
  have hbw2 := ext_trans hbw1 hb2
  have hm2 := block_up (ext_trans hb1 hb2) HM.out
  clear s1
  have s1 := cell_block hm2
  by_cases hst : 8192 < statesN m
  · have HD : Hid (checkE m = 5) := by (have h : checkE m = 5 := by (rw [HC3.out, if_pos (Or.inl hst)])); exact h
    go_wp2_with fail
    go_ret
    exact ⟨ret_int HD.out.symm, hbw2⟩
  by_cases hsl : 65536 < m.steps.length
  · have HD : Hid (checkE m = 5) := by (have h : checkE m = 5 := by (rw [HC3.out, if_pos (Or.inr hsl)])); exact h
    go_wp2_with fail
    go_ret
    exact ⟨ret_int HD.out.symm, hbw2⟩
  have HC4 : Hid (checkE m = if !rangedB m then 2 else firstNZ m.steps.length (stepsE m)) := by
    (have h : checkE m = if !rangedB m then 2 else firstNZ m.steps.length (stepsE m) := by (rw [HC3.out, if_neg (by omega)])); exact h
  clear HC3
  go_wp2_with fail
  refine (ranged_any m _ _ _ _ w2 (by have := HS.out.2.1; omega) (by
    have h0 : 0 < m.out.length := by have := HS.out.2.1; omega
    rw [getD_of_lt [] h0]
    have := HS.out.1; have := HS.out.2.2.2.2.1 0 h0; omega) ⟨hu1, hu2⟩ (HF.out.up up_ints hbw2) (HY.out.up up_v3 hbw2) (HO.out.up up_vecs hbw2)).mono ?_
  rintro e w3 ⟨rfl, hb3⟩
  have hbw3 := ext_trans hbw2 hb3
  cases hrg : rangedB m
  · have HD : Hid (checkE m = 2) := by (have h : checkE m = 2 := by (rw [HC4.out, hrg]; rfl)); exact h
    go_wp2_with fail
    go_ret
    exact ⟨ret_int HD.out.symm, hbw3⟩
  have HV : Hid (checkE m = firstNZ m.steps.length (stepsE m)) := by
    (have h : checkE m = firstNZ m.steps.length (stepsE m) := by (rw [HC4.out, hrg]; rfl)); exact h
  clear HC4 hrg s1
  have HM3 := Lib.hid (block_up hb3 hm2)
  have s1 := cell_block HM3.out
  clear hm2
  go_wp2_with fail
  clear s1
  go_loopw [50] (fun i wr => Below w3.heap.size w3 wr ∧ ∃ k : Nat, k ≤ m.steps.length ∧ i = .int .i64 k ∧ ∀ j, j < k → stepsE m j = 0) (fun i _ => m.steps.length - (intOf i).toNat)
  case atStart => exact ⟨Below.refl _ _, 0, by omega, rfl, by simp⟩
  case round =>
    obtain ⟨hbr, k, hk, rfl, hinv⟩ := hrel
    have H := Lib.hid hinv; clear hinv
    have t1 := cell_block (block_up hbr HM3.out)
    have hbW := ext_trans hbw3 hbr
    by_cases hlt : k < m.steps.length
    · obtain ⟨b1, o1, rfl, hsk⟩ := ET.out k hlt
      have hin := step_in hsk
      obtain ⟨c0, c1, c2, c3, c4, c5, c6, c7⟩ := hsk
      have d0 := cell_up hbW c0.1
      have d1 := cell_up hbW c1.1
      have d2 := cell_up hbW c2.1
      have d3 := cell_up hbW c3.1
      have d4 := cell_up hbW c4.1
      have d5 := cell_up hbW c5.1
      have d6 := cell_up hbW c6.1
      have d7 := cell_up hbW c7.1
      clear c0 c1 c2 c3 c4 c5 c6 c7
      have HG := Lib.hid (getD_of_lt default hlt)
      have hsz := block_lt (block_up hbr HM3.out)
      generalize hsk : m.steps[k] = s at hin d0 d1 d2 d3 d4 d5 d6 d7 HG
      clear hsk
      go_wp2_with fail
      refine calls_gen (fun W => Below wr.heap.size wr W ∧ W.heap[wr.heap.size]? = some (.cells s.c 95)) ⟨by go_grown, alloc_new _ _⟩ (fun V hV => ?_)
      obtain ⟨hbV, hS⟩ := hV
      have HSS := Lib.hid hS; clear hS
      have hWV := ext_trans hbW hbV
      refine (step_any m _ _ _ _ s hin V ⟨hn1, hn2⟩ ⟨hr1, hr2⟩ HS.out.2.1 HS.out.2.2.2.2.1 (HO.out.up up_vecs hWV)).mono ?_
      rintro e w4 ⟨rfl, hb4⟩
      have HO4 : Hid (stepsE m k = if stepE m s ≠ 0 then stepE m s else if 0 < k ∧ 0 ≤ orderI (m.steps.getD (k - 1) default) s then 14 else 0) := by
        (have h : stepsE m k = if stepE m s ≠ 0 then stepE m s else if 0 < k ∧ 0 ≤ orderI (m.steps.getD (k - 1) default) s then 14 else 0 := by (unfold stepsE; rw [HG.out])); exact h
      generalize stepE m s = ev at HO4
      have hWU := ext_trans hWV hb4
      by_cases hev : ev = 0
      case neg =>
        have hev' : (ev != 0) = true := by simpa using hev
        go_wp2_with fail
        go_ret
        exact ⟨ret_int (by rw [HV.out, ← firstNZ_hit k ev hlt H.out (by rw [HO4.out, if_pos hev]) hev]), hWU⟩
      subst hev
      have hrU := ext_trans hbV hb4
      clear t1 d0 d1 d2 d3 d4 d5 d6 d7 hsz
      go_wp2_with fail
      by_cases hk0 : k = 0
      · have HO5 : Hid (stepsE m k = 0) := by (have h : stepsE m k = 0 := by (rw [HO4.out, if_neg (by simp), if_neg (by omega)])); exact h
        have hd : decide ((0 : Int) < (k : Int)) = false := by simp; omega
        have hd2 : decide (0 < k) = false := by simp; omega
        clear HO4 hk0
        refine wp_region_quiet_ext (by kernel_rfl) (by kernel_rfl) ?_
        repeat (go_big_quiet_step (fail))
        refine wpQuiet_nil ?_
        intro _ hw'
        obtain ⟨xq, hw''⟩ := hw'
        subst hw''
        clear hd hd2
        go_wp2_with fail
        go_roundw
        case rel => exact ⟨ext_trans (ext_trans hbr hrU) xq.ext, k + 1, by omega, by go_num, below_succ H.out HO5.out⟩
        case measure => simp [intOf]; omega
      · obtain ⟨j, hj⟩ : ∃ j, k = j + 1 := ⟨k - 1, by omega⟩
        have hjl : j < m.steps.length := by omega
        have HJ := Lib.hid hj
        obtain ⟨b2, o2, e2, hsj⟩ := ET.out j hjl
        obtain ⟨rfl, rfl⟩ : b1 = b2 ∧ o1 = o2 := by simpa using e2
        clear e2
        have hinj := step_in hsj
        have HGJ := Lib.hid (getD_of_lt default hjl)
        obtain ⟨c0, c1, c2, c3, c4, c5, c6, c7⟩ := hsj
        generalize hsj : m.steps[j] = sj at hinj c0 c1 c2 c3 c4 c5 c6 c7 HGJ
        clear hsj
        have hd : decide ((0 : Int) < (k : Int)) = true := by simp; omega
        have hd2 : 0 < k := by omega
        have HO1 : Hid (stepsE m k = if 0 ≤ orderI sj s then 14 else 0) := by
          have h : stepsE m k = if 0 ≤ orderI sj s then 14 else 0 := by
            rw [HO4.out, if_neg (by simp)]
            have e : k - 1 = j := by omega
            rw [e, HGJ.out]
            grind
          exact h
        clear HO4 hk0 hj
        have hw1 : IntKind.i64.wrap ((k : Int) - 1) = (j : Int) := by rw [HJ.out]; rw [IntWalk.i64_in _ (by omega)]; omega
        have q1 : ∀ x : ExtW w4, ∀ o, x.val.cell? ⟨w.heap.size, o, none⟩ = _ := fun x => cell_block (block_up (ext_trans (ext_trans hbr hrU) x.ext) HM3.out)
        have q2 : ∀ x : ExtW w4, ∀ o, x.val.cell? ⟨wr.heap.size, o, none⟩ = _ := fun x => cell_block (block_up (ext_trans hb4 x.ext) HSS.out)
        have d0 : ∀ x : ExtW w4, x.val.cell? ⟨b1, o1 + j * 8, none⟩ = _ := fun x => x.cell (cell_up hWU c0.1)
        have d1 : ∀ x : ExtW w4, x.val.cell? ⟨b1, o1 + j * 8 + 1, none⟩ = _ := fun x => x.cell (cell_up hWU c1.1)
        have d2 : ∀ x : ExtW w4, x.val.cell? ⟨b1, o1 + j * 8 + 2, none⟩ = _ := fun x => x.cell (cell_up hWU c2.1)
        have d3 : ∀ x : ExtW w4, x.val.cell? ⟨b1, o1 + j * 8 + 3, none⟩ = _ := fun x => x.cell (cell_up hWU c3.1)
        have d4 : ∀ x : ExtW w4, x.val.cell? ⟨b1, o1 + j * 8 + 4, none⟩ = _ := fun x => x.cell (cell_up hWU c4.1)
        have d5 : ∀ x : ExtW w4, x.val.cell? ⟨b1, o1 + j * 8 + 5, none⟩ = _ := fun x => x.cell (cell_up hWU c5.1)
        have d6 : ∀ x : ExtW w4, x.val.cell? ⟨b1, o1 + j * 8 + 6, none⟩ = _ := fun x => x.cell (cell_up hWU c6.1)
        have d7 : ∀ x : ExtW w4, x.val.cell? ⟨b1, o1 + j * 8 + 7, none⟩ = _ := fun x => x.cell (cell_up hWU c7.1)
        clear c0 c1 c2 c3 c4 c5 c6 c7
        have HCALL := Lib.hid (show ∀ x : ExtW w4, Calls Tryz.prog 40 #[sj.v, s.v] x.val fun e w'' => e = .returned (.int .i64 (orderI sj s)) ∧ ∃ p : ExtW w4, w'' = p.val from fun x => Calls.ext_of (order_any sj s hinj hin _))
        generalize orderI sj s = oo at HCALL HO1
        refine wp_region_quiet_ext (by kernel_rfl) (by kernel_rfl) ?_
        repeat (go_big_quiet_step ((go_at_call 40; exact HCALL.out _)))
        refine wpQuiet_nil ?_
        intro _ hw'
        obtain ⟨xq, hw''⟩ := hw'
        subst hw''
        clear q1 q2 d0 d1 d2 d3 d4 d5 d6 d7 hd hd2
        have hWX := ext_trans hWU xq.ext
        by_cases hoo : 0 ≤ oo
        · go_wp2_with fail
          go_ret
          exact ⟨ret_int (by rw [HV.out, ← firstNZ_hit k 14 hlt H.out (by rw [HO1.out, if_pos hoo]) (by decide)]), hWX⟩
        · have HO5 : Hid (stepsE m k = 0) := by (have h : stepsE m k = 0 := by (rw [HO1.out, if_neg hoo])); exact h
          go_wp2_with fail
          go_roundw
          case rel => exact ⟨ext_trans (ext_trans hbr hrU) xq.ext, k + 1, by omega, by go_num, below_succ H.out HO5.out⟩
          case measure => simp [intOf]; omega
    · go_wp2_with fail
      go_ret
      exact ⟨ret_int (by rw [HV.out, firstNZ_zero]; intro j hj; exact H.out j (by omega)), hbW⟩
end Go.Proofs.YtjmejfgkogjpaaaGreat

namespace Go.Proofs.YtjmejfgkogjpaaaGreat
open Go.RowKit Go Go.Shelf

/-- What is told of a value; it stays true while memory grows. -/
structure MP where
  p : Value → World → Prop
  up : ∀ v W W', p v W → Below W.heap.size W W' → p v W'
def MP.any : MP := ⟨fun _ _ => True, fun _ _ _ _ _ => trivial⟩
def MP.eq (c : Value) : MP := ⟨fun v _ => v = c, fun _ _ _ h _ => h⟩
def MP.sl (base n : Nat) (cs : Array Value) (t : TypeId) : MP := ⟨fun v W => NewSl base n cs t v W, fun _ _ _ h hb => h.up hb⟩
def MP.box (base : Nat) (cs : Array Value) (t : TypeId) : MP := ⟨fun v W => NewBox base cs t v W, fun _ _ _ h hb => h.up hb⟩

def updV (x : Nat → Value) (i : Nat) (v : Value) : Nat → Value := fun j => if j = i then v else x j
theorem updV_same (x : Nat → Value) (i : Nat) (v : Value) : updV x i v i = v := by simp [updV]
theorem updV_ne (x : Nat → Value) {i j : Nat} (v : Value) (h : j ≠ i) : updV x i v j = x j := by simp [updV, h]
theorem exUpd {x : Nat → Value} {i : Nat} {c : Value} (h : x i = c) : ∃ y, x = updV y i c := ⟨x, by
  funext j
  unfold updV
  split
  · rename_i e; rw [e]; exact h
  · rfl⟩
def setFrom (x : Nat → Value) : List Nat → Nat → Array Value → Array Value
  | [], _, T => T
  | s :: r, j, T => setFrom x r (j + 1) (T.setIfInBounds s (x j))
def setAll (T : Array Value) (S : List Nat) (x : Nat → Value) : Array Value := setFrom x S 0 T

theorem setFrom_get (x : Nat → Value) (S : List Nat) : ∀ (j : Nat) (T : Array Value) (k : Nat), k ∉ S → (setFrom x S j T)[k]? = T[k]? := by
  induction S with
  | nil => intro j T k _; rfl
  | cons s r ih =>
    intro j T k hk
    simp at hk
    unfold setFrom
    rw [ih _ _ _ hk.2, Array.getElem?_setIfInBounds_ne (Ne.symm hk.1)]
theorem setFrom_size (x : Nat → Value) (S : List Nat) : ∀ (j : Nat) (T : Array Value), (setFrom x S j T).size = T.size := by
  induction S with
  | nil => intro j T; rfl
  | cons s r ih => intro j T; unfold setFrom; rw [ih]; simp
theorem setFrom_at (x : Nat → Value) (S : List Nat) (hS : S.Nodup) : ∀ (j : Nat) (T : Array Value) (i s : Nat), S[i]? = some s → s < T.size → (setFrom x S j T)[s]? = some (x (j + i)) := by
  induction S with
  | nil => intro j T i s h; simp at h
  | cons s0 r ih =>
    intro j T i s h hs
    rw [List.nodup_cons] at hS
    unfold setFrom
    cases i with
    | zero =>
      simp at h
      subst h
      rw [setFrom_get _ _ _ _ _ hS.1, Array.getElem?_setIfInBounds_self_of_lt (by exact hs)]
      simp
    | succ i =>
      simp at h
      rw [ih hS.2 (j + 1) _ i s h (by simpa using hs)]
      congr 2
      omega
theorem setAll_upd (T : Array Value) (S : List Nat) (hS : S.Nodup) (x : Nat → Value) (i s : Nat) (v : Value) (hi : S[i]? = some s) : setAll T S (updV x i v) = (setAll T S x).setIfInBounds s v := by
  unfold setAll
  apply Array.ext_getElem?
  intro k
  by_cases hks : k = s
  · subst hks
    by_cases hlt : k < T.size
    · rw [setFrom_at _ _ hS _ _ _ _ hi hlt, Array.getElem?_setIfInBounds_self_of_lt (by rw [setFrom_size]; exact hlt)]
      simp [updV]
    · rw [Array.getElem?_eq_none (by rw [setFrom_size]; omega), Array.getElem?_eq_none (by rw [Array.size_setIfInBounds, setFrom_size]; omega)]
  · rw [Array.getElem?_setIfInBounds_ne (Ne.symm hks)]
    by_cases hm : k ∈ S
    · obtain ⟨i', hi'⟩ := List.mem_iff_getElem?.1 hm
      by_cases hlt : k < T.size
      · rw [setFrom_at _ _ hS _ _ _ _ hi' hlt, setFrom_at _ _ hS _ _ _ _ hi' hlt]
        have : i' ≠ i := fun e => by subst e; rw [hi] at hi'; exact hks (Option.some.inj hi').symm
        simp [updV, this]
      · rw [Array.getElem?_eq_none (by rw [setFrom_size]; omega), Array.getElem?_eq_none (by rw [setFrom_size]; omega)]
    · rw [setFrom_get _ _ _ _ _ hm, setFrom_get _ _ _ _ _ hm]
theorem setAll_self (T : Array Value) (S : List Nat) (hS : S.Nodup) (x : Nat → Value) (hx : ∀ i s, S[i]? = some s → s < T.size → x i = T[s]!) : setAll T S x = T := by
  unfold setAll
  apply Array.ext_getElem?
  intro k
  by_cases hm : k ∈ S
  · obtain ⟨i, hi⟩ := List.mem_iff_getElem?.1 hm
    by_cases hlt : k < T.size
    · rw [setFrom_at _ _ hS _ _ _ _ hi hlt, Nat.zero_add, hx i k hi hlt]
      simp [hlt]
    · rw [Array.getElem?_eq_none (by rw [setFrom_size]; omega), Array.getElem?_eq_none (by omega)]
  · rw [setFrom_get _ _ _ _ _ hm]

/-- Where an operation of the region may end. -/
def EachK (F : Array Value) (d : List Deferred) (r : MP) (s : Nat) (W : World) (a' : Act) (W' : World) : Prop :=
  ∃ v, a' = { tmps := F.setIfInBounds s v, defers := d } ∧ Below W.heap.size W W' ∧ r.p v W'
theorem EachK.mk {F : Array Value} {d : List Deferred} {r : MP} {s : Nat} {W : World} {a' : Act} {W' : World} (v : Value) (hb : Below W.heap.size W W') (hr : r.p v W') (ha : a' = { tmps := F.setIfInBounds s v, defers := d }) : EachK F d r s W a' W' := ⟨v, ha, hb, hr⟩

/-- the slots of the first n operations -/
def slotsB (l : List Oper) (S : List Nat) : Bool := (List.range S.length).all fun i => match l[i]?, S[i]? with | some o, some s => o.dst == some s | _, _ => false

/-- The law: the last operation waits for all others. -/
theorem wp_region_each {P : Program} {id : Nat} {l : List Oper} {Q : Exit → Act → World → Prop} {T : Array Value} {d : List Deferred} {w : World} (n : Nat) (S : List Nat) (Rs : List MP) (hm : P.follows .mixedOrders = true) (hn : l.toArray.size = n + 1) (hS : S.Nodup) (hSl : S.length = n) (hB : growB l.toArray n = true)
    (hstep : ∀ x W i o s F, i < n → l.toArray[i]? = some o → S[i]? = some s → Below w.heap.size w W → (∀ e ∈ o.after, Region.binds .any e = true → (Rs.getD e.on MP.any).p (x e.on) W) → F = setAll T S x →
      wpList P l.toArray (Exit.then (EachK F d (Rs.getD i MP.any) s W) Q) [o] { tmps := F, defers := d } W)
    (hlast : ∀ x W o F, l.toArray[n]? = some o → Below w.heap.size w W → (∀ j, j < n → (Rs.getD j MP.any).p (x j) W) → F = setAll T S x → wpList P l.toArray Q [o] { tmps := F, defers := d } W) :
    (Code.region id l.toArray true).wp P Q { tmps := T, defers := d } w := by
  refine wp_region_grow n hm hn hB (fun D a W => ∃ x, a = { tmps := setAll T S x, defers := d } ∧ Below w.heap.size w W ∧ ∀ j, j < n → D j = true → (Rs.getD j MP.any).p (x j) W) ?_ ?_ ?_
  · refine ⟨fun i => T[S.getD i 0]!, ?_, (Below.refl _ _).drew, fun j _ h => by cases h⟩
    rw [setAll_self T S hS]
    intro i s hi hs
    rw [List.getD_eq_getElem?_getD, hi]
    rfl
  · rintro D a W i o hi ho hD hdep ⟨x, rfl, hb, hx⟩
    obtain ⟨s, hs⟩ : ∃ s, S[i]? = some s := ⟨S[i], List.getElem?_eq_getElem (by omega)⟩
    refine wpOp_mono' ?_ (wpOp_one ho (hstep x W i o s _ hi ho hs hb (fun e he hbi => hx e.on (by have := growB_back hB (by omega) ho e he; omega) (hdep e he hbi)) rfl))
    rintro a' W' ⟨v, rfl, hb', hr⟩
    refine ⟨updV x i v, by rw [setAll_upd T S hS x i s v hs], ext_trans hb hb', fun j hj hDj => ?_⟩
    by_cases e : j = i
    · subst e; rw [updV_same]; exact hr
    · rw [updV_ne _ _ e]
      refine (Rs.getD j MP.any).up _ _ _ (hx j hj ?_) hb'
      simpa [upd, e] using hDj
  · rintro D a W hall ⟨x, rfl, hb, hx⟩
    obtain ⟨o, ho⟩ : ∃ o, l.toArray[n]? = some o := ⟨l.toArray[n], Array.getElem?_eq_getElem (by omega)⟩
    refine wpOp_one ho ?_
    have he : Exit.then (fun a' w' => Q .normal a' w') Q = Q := by funext e a w; cases e <;> rfl
    rw [he]
    exact hlast x W o _ ho hb (fun j hj => hx j hj (hall j hj)) rfl

/-- every edge leads back -/
def backB (ops : Array Oper) (n : Nat) : Bool :=
  (List.range n).all (fun i => match ops[i]? with | some o => o.after.all fun e => decide (e.on < i) | none => false)
theorem backB_back {ops : Array Oper} {n : Nat} (h : backB ops n = true) {i : Nat} {o : Oper} (hi : i < n) (ho : ops[i]? = some o) : ∀ e ∈ o.after, e.on < i := by
  simp only [backB, List.all_eq_true] at h
  have := h i (List.mem_range.2 hi)
  rw [ho] at this
  intro e he
  have := Array.all_eq_true'.1 this e he
  simpa using this
theorem wpAny_inv {P : Program} {ops : Array Oper} {Q : Exit → Act → World → Prop} {n : Nat} (hn : ops.size = n) (hB : backB ops n = true) (Inv : (Nat → Bool) → Act → World → Prop)
    (hstep : ∀ D a w i o, i < n → ops[i]? = some o → D i = false → (∀ e ∈ o.after, Region.binds .any e = true → D e.on = true) → Inv D a w → wpOp P ops Q i (fun a' w' => Inv (upd D i) a' w') a w)
    (hend : ∀ D a w, (∀ j, j < n → D j = true) → Inv D a w → Q .normal a w) :
    ∀ (fuel : Nat) (L : Array Bool) (a : Act) (w : World), L.size = n → (List.range n).countP (fun j => !L.getD j false) ≤ fuel → Inv (fun j => L.getD j false) a w → wpAny P .any ops Q fuel L a w := by
  have hnone : ∀ L : Array Bool, L.size = n → (∀ j, j < n → L.getD j false = true) → Region.ready .any ops L = [] := by
    intro L hL h1
    refine List.eq_nil_iff_forall_not_mem.2 fun j hj => ?_
    obtain ⟨hj1, o, ho, _⟩ := mem_ready.1 hj
    have hjn : j < n := by have := (Array.getElem?_eq_some_iff.1 ho).1; omega
    have := h1 j hjn
    rw [show L.getD j false = L.getD j true by simp [Array.getD, hL, hjn]] at this
    rw [hj1] at this; cases this
  intro fuel
  induction fuel with
  | zero =>
    intro L a w hL hc h1
    have h3 : (List.range n).countP (fun j => !L.getD j false) = 0 := by omega
    rw [List.countP_eq_zero] at h3
    have hall : ∀ j, j < n → L.getD j false = true := fun j hj => by simpa using h3 j (List.mem_range.2 hj)
    exact ⟨hnone L hL hall, hend _ a w hall h1⟩
  | succ fuel ih =>
    intro L a w hL hc h2
    refine ⟨fun hr => ?_, fun i hi => ?_⟩
    · refine hend _ a w ?_ h2
      intro j
      induction j using Nat.strongRecOn with
      | ind j ihj =>
        intro hj
        cases hv : L.getD j false with
        | true => rfl
        | false =>
          exfalso
          obtain ⟨o, ho⟩ : ∃ o, ops[j]? = some o := ⟨ops[j]'(by omega), Array.getElem?_eq_getElem _⟩
          have : j ∈ Region.ready .any ops L := mem_ready.2 ⟨by rw [show L.getD j true = L.getD j false by simp [Array.getD, hL, hj]]; exact hv, o, ho, fun e he _ => by
            have := backB_back hB hj ho e he
            exact ihj e.on this (by omega)⟩
          rw [hr] at this
          cases this
    · obtain ⟨hi1, o, ho, hdep⟩ := mem_ready.1 hi
      have hin : i < n := by have := (Array.getElem?_eq_some_iff.1 ho).1; omega
      have hiD : L.getD i false = false := by rw [show L.getD i false = L.getD i true by simp [Array.getD, hL, hin]]; exact hi1
      have hupd : (fun j => (L.setIfInBounds i true).getD j false) = upd (fun j => L.getD j false) i := by
        funext j
        unfold upd
        by_cases hji : j = i
        · subst hji; simp [Array.getD, hL, hin]
        · rw [if_neg hji]
          simp only [Array.getD, Array.size_setIfInBounds]
          split
          · exact Array.getElem_setIfInBounds_ne _ (Ne.symm hji)
          · rfl
      have hcnt : (List.range n).countP (fun j => !(L.setIfInBounds i true).getD j false) ≤ fuel := by
        have h3 := upd_count (fun j => L.getD j false) i hiD (List.range n)
        rw [if_pos (List.mem_range.2 hin)] at h3
        have h4 : (fun j => !(L.setIfInBounds i true).getD j false) = fun j => !upd (fun j => L.getD j false) i j := by
          funext j; rw [← hupd]
        rw [h4]
        omega
      exact wpOp_mono' (fun a' w' h => ih (L.setIfInBounds i true) a' w' (by simpa using hL) hcnt (by rw [hupd]; exact h)) (hstep (fun j => L.getD j false) a w i o hin ho hiD hdep h2)

/-- The law: all operations grow. -/
theorem wp_region_all {P : Program} {id : Nat} {l : List Oper} {Q : Exit → Act → World → Prop} {T : Array Value} {d : List Deferred} {w : World} (n : Nat) (S : List Nat) (Rs : List MP) (hm : P.follows .mixedOrders = true) (hn : l.toArray.size = n) (hS : S.Nodup) (hSl : S.length = n) (hB : backB l.toArray n = true)
    (hstep : ∀ x W i o s F, i < n → l.toArray[i]? = some o → S[i]? = some s → Below w.heap.size w W → (∀ e ∈ o.after, Region.binds .any e = true → (Rs.getD e.on MP.any).p (x e.on) W) → F = setAll T S x →
      wpList P l.toArray (Exit.then (EachK F d (Rs.getD i MP.any) s W) Q) [o] { tmps := F, defers := d } W)
    (hend : ∀ x W F, Below w.heap.size w W → (∀ j, j < n → (Rs.getD j MP.any).p (x j) W) → F = setAll T S x → Q .normal { tmps := F, defers := d } W) :
    (Code.region id l.toArray true).wp P Q { tmps := T, defers := d } w := by
  refine wp_region_any hm ?_
  refine wpAny_inv hn hB (fun D a W => ∃ x, a = { tmps := setAll T S x, defers := d } ∧ Below w.heap.size w W ∧ ∀ j, j < n → D j = true → (Rs.getD j MP.any).p (x j) W) ?_ ?_ _ _ _ _ (by rw [Array.size_replicate, hn]) ?_ ?_
  · rintro D a W i o hi ho hD hdep ⟨x, rfl, hb, hx⟩
    obtain ⟨s, hs⟩ : ∃ s, S[i]? = some s := ⟨S[i], List.getElem?_eq_getElem (by omega)⟩
    refine wpOp_mono' ?_ (wpOp_one ho (hstep x W i o s _ hi ho hs hb (fun e he hbi => hx e.on (by have := backB_back hB hi ho e he; omega) (hdep e he hbi)) rfl))
    rintro a' W' ⟨v, rfl, hb', hr⟩
    refine ⟨updV x i v, by rw [setAll_upd T S hS x i s v hs], ext_trans hb hb', fun j hj hDj => ?_⟩
    by_cases e : j = i
    · subst e; rw [updV_same]; exact hr
    · rw [updV_ne _ _ e]
      refine (Rs.getD j MP.any).up _ _ _ (hx j hj ?_) hb'
      simpa [upd, e] using hDj
  · rintro D a W hall ⟨x, rfl, hb, hx⟩
    exact hend x W _ hb (fun j hj => hx j hj (hall j hj)) rfl
  · rw [hn]; exact Nat.le_trans List.countP_le_length (by simp)
  · refine ⟨fun i => T[S.getD i 0]!, ?_, (Below.refl _ _).drew, fun j hj h => ?_⟩
    · rw [setAll_self T S hS]
      intro i s hi hs
      rw [List.getD_eq_getElem?_getD, hi]
      rfl
    · exfalso
      simp only [Array.getD] at h
      split at h <;> simp at h
end Go.Proofs.YtjmejfgkogjpaaaGreat

namespace Go.Proofs.YtjmejfgkogjpaaaGreat

structure Msg where
  rd : Int
  fr : Int
  to : Int
  bs : ByteArray
structure Tr where
  inp : List Int
  word : List Rd
  states : List (List Int)
  msgs : List Msg
  dec : List Int
  times : List Int
instance : Inhabited Msg := ⟨⟨0, 0, 0, ByteArray.empty⟩⟩
instance : DecidableEq Msg := fun a b => decidable_of_iff (a.rd = b.rd ∧ a.fr = b.fr ∧ a.to = b.to ∧ a.bs = b.bs) (by cases a; cases b; simp)

/-! ### bytes -/
/-- the checksum of the first k bytes of a list of n -/
def ckAt (l : List UInt8) (n : Nat) : Nat → Nat
  | 0 => n % 65521
  | k + 1 => (ckAt l n k + (k + 1) % 65521 * (l.getD k 0).toNat) % 65521
def ckS (l : List UInt8) : Nat := ckAt l l.length l.length
theorem ckAt_lt (l : List UInt8) (n k : Nat) : ckAt l n k < 65521 := by
  cases k with
  | zero => exact Nat.mod_lt _ (by omega)
  | succ k => exact Nat.mod_lt _ (by omega)
theorem ckS_lt (l : List UInt8) : ckS l < 65521 := ckAt_lt _ _ _
/-- a number in groups of seven bits -/
def vint (n : Nat) : List UInt8 := if n ≤ 127 then [UInt8.ofNat n] else UInt8.ofNat (n % 128 + 128) :: vint (n / 128)
termination_by n
decreasing_by omega
def sealL (l : List UInt8) : List UInt8 := l ++ [UInt8.ofNat (ckS l / 256), UInt8.ofNat (ckS l % 256)]
def msgL (k p q sym : Nat) : List UInt8 := sealL ([UInt8.ofNat k, UInt8.ofNat p, UInt8.ofNat q] ++ vint sym)
def bytesOf (l : List UInt8) : ByteArray := ⟨l.toArray⟩

/-! ### what is found among the first numbers -/
def filtR {α : Type} (f : Nat → Option α) (n : Nat) : List α := (List.range n).filterMap f
theorem filtR_succ {α : Type} (f : Nat → Option α) (n : Nat) : filtR f (n + 1) = filtR f n ++ (f n).toList := by
  unfold filtR
  rw [List.range_succ, List.filterMap_append]
  cases h : f n <;> simp [h]
theorem filtR_none {α : Type} {f : Nat → Option α} {n : Nat} (h : f n = none) : filtR f (n + 1) = filtR f n := by rw [filtR_succ, h]; simp
theorem filtR_some {α : Type} {f : Nat → Option α} {n : Nat} {x : α} (h : f n = some x) : filtR f (n + 1) = filtR f n ++ [x] := by rw [filtR_succ, h]; rfl
theorem filtR_skip {α : Type} {f : Nat → Option α} {a b : Nat} (hab : a ≤ b) (h : ∀ j, a ≤ j → j < b → f j = none) : filtR f b = filtR f a := by
  induction b with
  | zero => rw [show a = 0 by omega]
  | succ b ih =>
    by_cases e : a = b + 1
    · rw [e]
    · rw [filtR_none (h b (by omega) (by omega)), ih (by omega) fun j h1 h2 => h j h1 (by omega)]
theorem filtR_prefix {α : Type} (f : Nat → Option α) {a b : Nat} (hab : a ≤ b) : filtR f a <+: filtR f b := by
  induction b with
  | zero => rw [show a = 0 by omega]; exact List.prefix_refl _
  | succ b ih =>
    by_cases e : a = b + 1
    · rw [e]; exact List.prefix_refl _
    · rw [filtR_succ]; exact (ih (by omega)).trans (List.prefix_append _ _)
theorem filtR_at {α : Type} {f : Nat → Option α} {j n : Nat} {x : α} (hj : j < n) (h : f j = some x) : (filtR f n)[(filtR f j).length]? = some x := by
  obtain ⟨t, ht⟩ := filtR_prefix f (show j + 1 ≤ n by omega)
  rw [← ht, filtR_some h, List.append_assoc, List.getElem?_append_right (Nat.le_refl _)]
  simp

/-! ### places of messages -/
def placeAt (n : Nat) (word : List Rd) (j : Nat) : Option (Nat × Nat × Nat) :=
  if j / 5 % 5 < n ∧ j % 5 < n ∧ j / 5 % 5 ≠ j % 5 ∧ hasB ((word.getD (j / 25) default).g.hear (j % 5)) (j / 5 % 5) = true then some (j / 25, j / 5 % 5, j % 5) else none
def placesTo (n : Nat) (word : List Rd) (j : Nat) : List (Nat × Nat × Nat) := filtR (placeAt n word) j
def placesL (n : Nat) (word : List Rd) : List (Nat × Nat × Nat) := placesTo n word (word.length * 25)

/-! ### checks of traces -/
def statesE (t : Tr) : Int :=
  if t.states.length ≠ t.word.length + 1 then 15 else if anyLt t.states.length (fun i => decide ((t.states.getD i []).length ≠ t.inp.length)) then 15
  else if anyLt t.states.length (fun i => anyLt (t.states.getD i []).length fun j => !inB ((t.states.getD i []).getD j 0) 0 1048576) then 2 else 0
def byteI (b : ByteArray) (i : Nat) : Int := ((b.data.toList.getD i 0).toNat : Int)
def corruptB (b : ByteArray) : Bool :=
  decide (b.size < 6) || decide ((ckS (b.data.toList.take (b.size - 2)) : Int) ≠ byteI b (b.size - 2) * 256 + byteI b (b.size - 1))
def messE (t : Tr) (i : Nat) : Int :=
  let x := t.msgs.getD i default
  let d := (placesL t.inp.length t.word).getD i (0, 0, 0)
  if x.rd ≠ d.1 ∨ x.fr ≠ d.2.1 ∨ x.to ≠ d.2.2 then 14 else if corruptB x.bs then 24
  else if byteI x.bs 0 ≠ x.rd ∨ byteI x.bs 1 ≠ x.fr ∨ byteI x.bs 2 ≠ x.to then 22 else 0
def messagesE (t : Tr) : Int := if (placesL t.inp.length t.word).length ≠ t.msgs.length then 15 else firstNZ t.msgs.length (messE t)
def deciE (t : Tr) (p : Nat) : Int :=
  if !inB (t.times.getD p 0) (-1) t.word.length || !inB (t.dec.getD p 0) (-1) 7 then 2 else if decide (t.dec.getD p 0 = -1) != decide (t.times.getD p 0 = -1) then 3 else 0
def decisionsE (t : Tr) : Int := if t.dec.length ≠ t.inp.length ∨ t.times.length ≠ t.inp.length then 15 else firstNZ t.dec.length (deciE t)
def traceE (t : Tr) : Int :=
  if t.inp.length < 1 ∨ 5 < t.inp.length then 2 else if anyLt t.inp.length (fun i => !inB (t.inp.getD i 0) 0 7) then 2
  else if wordE t.inp.length t.word ≠ 0 then wordE t.inp.length t.word else if 6 < t.word.length then 5
  else if statesE t ≠ 0 then statesE t else if messagesE t ≠ 0 then messagesE t else decisionsE t

/-! ### the trace of a machine -/
def outS (m : Mac) (k p : Nat) (s : Int) : Int := ((m.out.getD k []).getD p []).getD s.toNat 0
def whenS (m : Mac) (states : List (List Int)) (p : Nat) : Int := firstIx states.length fun k => decide (outS m k p ((states.getD k []).getD p 0) ≠ -1)
def decS (m : Mac) (states : List (List Int)) (p : Nat) : Int :=
  if whenS m states p < 0 then -1 else outS m (whenS m states p).toNat p ((states.getD (whenS m states p).toNat []).getD p 0)
def msgS (m : Mac) (states : List (List Int)) (x : Nat × Nat × Nat) : Msg :=
  ⟨x.1, x.2.1, x.2.2, bytesOf (msgL x.1 x.2.1 x.2.2 (symS m x.1 x.2.1 x.2.2 ((states.getD x.1 []).getD x.2.1 0)).toNat)⟩
def madeT (m : Mac) (inputs : List Int) (word : List Rd) : Tr :=
  let s := runL m inputs word
  ⟨inputs, word, s, (placesL m.n.toNat word).map (msgS m s), (List.range m.n.toNat).map (decS m s), (List.range m.n.toNat).map (whenS m s)⟩
def sameT (a b : Tr) : Bool :=
  eqV a.inp b.inp && decide (a.word = b.word) && decide (a.states = b.states) && decide (a.msgs = b.msgs) && eqV a.dec b.dec && eqV a.times b.times
def replayE (m : Mac) (t : Tr) : Int :=
  if checkE m ≠ 0 then checkE m else if traceE t ≠ 0 then traceE t else if playE m t.inp t.word ≠ 0 then playE m t.inp t.word else if sameT (madeT m t.inp t.word) t then 0 else 18
end Go.Proofs.YtjmejfgkogjpaaaGreat

namespace Go.Proofs.YtjmejfgkogjpaaaGreat
open Go.RowKit Go Go.Shelf

def MsgAt (w : World) (b o : Nat) (x : Msg) : Prop := IntAt w b o x.rd ∧ IntAt w b (o + 1) x.fr ∧ IntAt w b (o + 2) x.to ∧ w.cell? ⟨b, o + 3, none⟩ = some (.string x.bs) ∧ x.bs.size ≤ 140737488351232
theorem up_msg : Up MsgAt := fun _ _ _ _ _ hb ⟨h0, h1, h2, h3, h4⟩ => ⟨up_int _ _ _ _ _ hb h0, up_int _ _ _ _ _ hb h1, up_int _ _ _ _ _ hb h2, hb.cell h3, h4⟩
abbrev IsMsgs := IsSl 4 MsgAt
abbrev trC (vi vw vs vm vd vt : Value) : Array Value := #[vi, vw, vs, vm, vd, vt]
structure IsTr (w : World) (t : Tr) (vi vw vs vm vd vt : Value) : Prop where
  inp : IsInts w vi t.inp
  word : IsWord w vw t.word
  states : IsVecs w vs t.states
  msgs : IsMsgs w vm t.msgs
  dec : IsInts w vd t.dec
  times : IsInts w vt t.times
theorem IsTr.up {w w' : World} {t : Tr} {vi vw vs vm vd vt : Value} (h : IsTr w t vi vw vs vm vd vt) (hb : Below w.heap.size w w') : IsTr w' t vi vw vs vm vd vt :=
  ⟨h.inp.up up_int hb, h.word.up up_round hb, h.states.up up_ints hb, h.msgs.up up_msg hb, h.dec.up up_int hb, h.times.up up_int hb⟩

/-- the value of simulate.outside -/
def OutF (lo hi : Int) (v : Value) (W : World) : Prop := ∃ b c, v = .func (.func 77) #[] #[.pointer (some ⟨b, 0, none⟩), .pointer (some ⟨c, 0, none⟩)] ∧ W.heap[b]? = some (.cells #[.int .i64 lo] 3) ∧ W.heap[c]? = some (.cells #[.int .i64 hi] 3)
theorem OutF.up {lo hi : Int} {v : Value} {W W' : World} (h : OutF lo hi v W) (hb : Below W.heap.size W W') : OutF lo hi v W' := by
  obtain ⟨b, c, rfl, h1, h2⟩ := h
  exact ⟨b, c, rfl, block_up hb h1, block_up hb h2⟩
def MP.outF (lo hi : Int) : MP := ⟨OutF lo hi, fun _ _ _ h hb => h.up hb⟩

set_option maxHeartbeats 400000 in
theorem outside_any (lo hi : Int) (w : World) :
    Calls Tryz.prog 41 #[.int .i64 lo, .int .i64 hi] w fun e w' => ∃ v, e = .returned v ∧ OutF lo hi v w' ∧ Below w.heap.size w w' := by
  go_enter Tryz.func41, Tryz.ntmps41
  go_wp2
  go_ret
  exact ⟨_, rfl, ⟨_, _, rfl, alloc_old _ (alloc_new _ _), by simpa using alloc_new (w.alloc _) _⟩, by go_grown⟩

set_option maxHeartbeats 400000 in
theorem outside1_any (n lo hi : Int) (B C : Nat) (W : World) (h1 : W.heap[B]? = some (.cells #[.int .i64 lo] 3)) (h2 : W.heap[C]? = some (.cells #[.int .i64 hi] 3)) :
    Calls Tryz.prog 77 #[.int .i64 n, .pointer (some ⟨B, 0, none⟩), .pointer (some ⟨C, 0, none⟩)] W fun e W' => e = .returned (.bool (!inB n lo hi)) ∧ W = W' := by
  have c1 := cell_block h1 0
  have c2 := cell_block h2 0
  simp at c1 c2
  clear h1 h2
  by_cases h1 : n < lo
  · have HR : Hid ((!inB n lo hi) = true) := by (have h : (!inB n lo hi) = true := by (unfold inB; simp; omega)); exact h
    go_enter Tryz.func77, Tryz.ntmps77
    go_wp2
    go_ret
    exact ⟨ret_bool HR.out.symm, rfl⟩
  · have HR : Hid ((!inB n lo hi) = decide (hi < n)) := by (have h : (!inB n lo hi) = decide (hi < n) := by (unfold inB; rw [show decide (lo ≤ n) = true by simp; omega]; simp; by_cases h : hi < n <;> simp [h] <;> omega)); exact h
    go_enter Tryz.func77, Tryz.ntmps77
    go_wp2
    go_ret
    exact ⟨ret_bool HR.out.symm, rfl⟩

theorem containsOut_any (lo hi : Int) (f v : Value) (l : List Int) (w : World) (hf : OutF lo hi f w) (hv : IsInts w v l) :
    Calls Tryz.prog 24 #[v, f] w fun e w' => e = .returned (.bool (anyLt l.length fun i => !inB (l.getD i 0) lo hi)) ∧ Below w.heap.size w w' := by
  obtain ⟨b, c, rfl, h1, h2⟩ := hf
  refine containsFuncInts_any 77 _ (enters_of Tryz.func77 (by kernel_rfl) rfl) v l _ w hv fun i hi' W hW => ?_
  rw [getD_of_lt 0 hi']
  exact (outside1_any _ _ _ b c W (block_up hW h1) (block_up hW h2)).mono fun e w' h => ⟨h.1, by rw [← h.2]; exact Below.refl _ _⟩

set_option maxHeartbeats 400000 in
theorem checkStates1_any (x : Value) (l : List Int) (inp : List Int) (pi : Option Addr) (ci : Nat) (vw vs vm vd vt : Value) (B : Nat) (W : World) (hx : IsInts W x l) (hl : inp.length ≤ 17592186044416) (hB : W.heap[B]? = some (.cells (trC (.slice pi inp.length ci) vw vs vm vd vt) 40)) :
    Calls Tryz.prog 81 #[x, .pointer (some ⟨B, 0, none⟩)] W fun e W' => e = .returned (.bool (decide (l.length ≠ inp.length))) ∧ Below W.heap.size W W' := by
  obtain ⟨px, cx, rfl, _, l2, _⟩ := hx.at
  clear hx
  have t1 := cell_block hB
  clear hB
  have HR : Hid (decide (l.length ≠ inp.length) = ((l.length : Int) != (inp.length : Int))) := by (have h : decide (l.length ≠ inp.length) = ((l.length : Int) != (inp.length : Int)) := by (by_cases h : l.length = inp.length <;> simp [h] <;> omega)); exact h
  go_enter Tryz.func81, Tryz.ntmps81
  go_wp2
  go_ret
  exact ⟨ret_bool HR.out.symm, Below.refl _ _⟩

set_option maxHeartbeats 400000 in
theorem checkStates2_any (x : Value) (l : List Int) (W : World) (hx : IsInts W x l) :
    Calls Tryz.prog 82 #[x] W fun e W' => e = .returned (.bool (anyLt l.length fun j => !inB (l.getD j 0) 0 1048576)) ∧ Below W.heap.size W W' := by
  have HX := Lib.hid hx
  obtain ⟨px, cx, rfl, _, l2, _⟩ := hx.at
  clear hx
  go_enter Tryz.func82, Tryz.ntmps82
  go_wp2_with fail
  refine (outside_any _ _ _).mono ?_
  rintro e w1 ⟨v, rfl, hv, hb1⟩
  have HC := Lib.hid (containsOut_any _ _ _ _ _ w1 hv (HX.out.up up_int hb1))
  obtain ⟨b, c, rfl, _⟩ := hv
  go_wp2_with fail
  refine HC.out.mono ?_
  rintro e w2 ⟨rfl, hb2⟩
  go_wp2_with fail
  go_ret
  exact ⟨rfl, ext_trans hb1 hb2⟩

set_option maxHeartbeats 1000000 in
theorem checkStates_any (t : Tr) (vi vw vs vm vd vt : Value) (w : World) (ht : IsTr w t vi vw vs vm vd vt) :
    Calls Tryz.prog 43 #[.agg (trC vi vw vs vm vd vt)] w fun e w' => e = .returned (.int .i64 (statesE t)) ∧ Below w.heap.size w w' := by
  have HT := Lib.hid ht
  obtain ⟨hi, hw, hs, hm, hd, htt⟩ := ht
  obtain ⟨pi, ci, rfl, li1, li2, _⟩ := hi.at
  obtain ⟨pw, cw, rfl, lw1, lw2, _⟩ := hw.at
  obtain ⟨ps, cs, rfl, ls1, ls2, _⟩ := hs.at
  obtain ⟨pm, cm, rfl, _⟩ := hm.at
  obtain ⟨pd, cd, rfl, _⟩ := hd.at
  obtain ⟨pt, ct, rfl, _⟩ := htt.at
  clear hi hw hs hm hd htt
  have HV : Hid (statesE t = if t.states.length ≠ t.word.length + 1 then 15 else if anyLt t.states.length (fun i => decide ((t.states.getD i []).length ≠ t.inp.length)) then 15 else if anyLt t.states.length (fun i => anyLt (t.states.getD i []).length fun j => !inB ((t.states.getD i []).getD j 0) 0 1048576) then 2 else 0) := by exact rfl
  have e1 := enters_of Tryz.func81 (P := Tryz.prog) (by kernel_rfl) rfl
  have e2 := enters_of Tryz.func82 (P := Tryz.prog) (by kernel_rfl) rfl
  have E1 := Lib.hid e1
  have E2 := Lib.hid e2
  clear e1 e2
  by_cases hl : t.states.length = t.word.length + 1
  case neg =>
    have d1 : ((t.states.length : Int) != (t.word.length : Int) + 1) = true := by simp; omega
    have HV1 : Hid (statesE t = 15) := by (have h : statesE t = 15 := by (rw [HV.out, if_pos hl])); exact h
    go_enter Tryz.func43, Tryz.ntmps43
    go_wp2_with fail
    go_ret
    exact ⟨ret_int HV1.out.symm, by go_grown⟩
  have d1 : ((t.states.length : Int) != (t.word.length : Int) + 1) = false := by simp; omega
  have HL := Lib.hid hl
  clear hl
  go_enter Tryz.func43, Tryz.ntmps43
  go_wp2_with fail
  refine calls_gen (fun W => Below w.heap.size w W ∧ W.heap[w.heap.size]? = some (.cells (trC (.slice pi t.inp.length ci) (.slice pw t.word.length cw) (.slice ps t.states.length cs) (.slice pm t.msgs.length cm) (.slice pd t.dec.length cd) (.slice pt t.times.length ct)) 40)) ⟨by go_grown, alloc_new _ _⟩ (fun W0 hW0 => ?_)
  obtain ⟨hb0, hT0⟩ := hW0
  refine (containsFuncVecs_any 81 _ E1.out _ t.states (fun i => decide ((t.states.getD i []).length ≠ t.inp.length)) W0 (HT.out.states.up up_ints hb0) (fun i hi x hx W hW => ?_)).mono ?_
  · rw [getD_of_lt [] hi]
    exact checkStates1_any x _ t.inp _ _ _ _ _ _ _ w.heap.size W (hx.up up_int hW) li2 (block_up hW hT0)
  rintro e w1 ⟨rfl, hb1⟩
  have HV2 : Hid (statesE t = if anyLt t.states.length (fun i => decide ((t.states.getD i []).length ≠ t.inp.length)) then 15 else if anyLt t.states.length (fun i => anyLt (t.states.getD i []).length fun j => !inB ((t.states.getD i []).getD j 0) 0 1048576) then 2 else 0) := by
    (have h : statesE t = if anyLt t.states.length (fun i => decide ((t.states.getD i []).length ≠ t.inp.length)) then 15 else if anyLt t.states.length (fun i => anyLt (t.states.getD i []).length fun j => !inB ((t.states.getD i []).getD j 0) 0 1048576) then 2 else 0 := by (rw [HV.out, if_neg (fun h => h HL.out)])); exact h
  have hb01 := ext_trans hb0 hb1
  have HC := Lib.hid (containsFuncVecs_any 82 #[] E2.out _ t.states (fun i => anyLt (t.states.getD i []).length fun j => !inB ((t.states.getD i []).getD j 0) 0 1048576) w1 (HT.out.states.up up_ints hb01) (fun i hi x hx W hW => by
    rw [getD_of_lt [] hi]
    exact checkStates2_any x _ W (hx.up up_int hW)))
  generalize anyLt t.states.length (fun i => decide ((t.states.getD i []).length ≠ t.inp.length)) = r1 at HV2
  generalize anyLt t.states.length (fun i => anyLt (t.states.getD i []).length fun j => !inB ((t.states.getD i []).getD j 0) 0 1048576) = r2 at HV2 HC
  have t1 := cell_block (block_up hb1 hT0)
  clear hT0 HV
  cases r1 with
  | true =>
    go_wp2_with fail
    go_ret
    exact ⟨ret_int (by rw [HV2.out]; rfl), hb01⟩
  | false =>
    go_wp2_with fail
    refine HC.out.mono ?_
    rintro e w2 ⟨rfl, hb2⟩
    cases r2 with
    | true =>
      go_wp2_with fail
      go_ret
      exact ⟨ret_int (by rw [HV2.out]; rfl), ext_trans hb01 hb2⟩
    | false =>
      go_wp2_with fail
      go_ret
      exact ⟨ret_int (by rw [HV2.out]; rfl), ext_trans hb01 hb2⟩
end Go.Proofs.YtjmejfgkogjpaaaGreat

namespace Go.Proofs.YtjmejfgkogjpaaaGreat
open Go.ChangeShapes Go.WideShapes Go.ChangeAt Go.RowKit Go

theorem Tryz.own : ownKnob Tryz.prog.godebug = none := by kernel_rfl
theorem Tryz.laidOut : laidOutB Tryz.prog = true := by kernel_rfl
section
variable {H : Type} {enc : TypeId × Value → H} {w : World}
theorem list4 {l : List Value} (h : l.length = 4) : ∃ c0 c1 c2 c3, l = [c0, c1, c2, c3] := by
  match l, h with
  | [c0, c1, c2, c3], _ => exact ⟨c0, c1, c2, c3, rfl⟩
theorem list6 {l : List Value} (h : l.length = 6) : ∃ c0 c1 c2 c3 c4 c5, l = [c0, c1, c2, c3, c4, c5] := by
  match l, h with
  | [c0, c1, c2, c3, c4, c5], _ => exact ⟨c0, c1, c2, c3, c4, c5, rfl⟩
theorem list8 {l : List Value} (h : l.length = 8) : ∃ c0 c1 c2 c3 c4 c5 c6 c7, l = [c0, c1, c2, c3, c4, c5, c6, c7] := by
  match l, h with
  | [c0, c1, c2, c3, c4, c5, c6, c7], _ => exact ⟨c0, c1, c2, c3, c4, c5, c6, c7, rfl⟩
theorem Tryz.cWord : Tryz.prog.cellsOf 37 = 1 := by kernel_rfl
theorem Tryz.cV3 : Tryz.prog.cellsOf 33 = 1 := by kernel_rfl
theorem Tryz.cV4 : Tryz.prog.cellsOf 31 = 1 := by kernel_rfl
theorem Tryz.cStep : Tryz.prog.cellsOf 95 = 8 := by kernel_rfl
theorem Tryz.cSteps : Tryz.prog.cellsOf 32 = 1 := by kernel_rfl
theorem Tryz.cMach : Tryz.prog.cellsOf 35 = 8 := by kernel_rfl
theorem Tryz.cMsg : Tryz.prog.cellsOf 58 = 4 := by kernel_rfl
theorem Tryz.cMsgs : Tryz.prog.cellsOf 38 = 1 := by kernel_rfl
theorem Tryz.cTrace : Tryz.prog.cellsOf 40 = 6 := by kernel_rfl
theorem Tryz.cArr : Tryz.prog.cellsOf 60 = 5 := by kernel_rfl
theorem Tryz.cStr : Tryz.prog.cellsOf 9 = 1 := by kernel_rfl
theorem opn_v3 : Opn enc w 33 1 V3At := opn_slice Tryz.underlying33 Tryz.cVecs (by omega) (of_decide_eq_true (by kernel_rfl)) opn_vecs
theorem opn_step : Opn enc w 95 8 StepAt := fun fuel cs x b off h hz hc => by
  obtain ⟨hl, n, hf⟩ := rdg_struct Tryz.underlying95 h hz
  rw [Tryz.cStep] at hl
  obtain ⟨c0, c1, c2, c3, c4, c5, c6, c7, rfl⟩ := list8 hl
  obtain ⟨y0, r0, _⟩ := hf 0 _ rfl
  obtain ⟨y1, r1, _⟩ := hf 1 _ rfl
  obtain ⟨y2, r2, _⟩ := hf 2 _ rfl
  obtain ⟨y3, r3, _⟩ := hf 3 _ rfl
  change Rdg enc w n 3 (([c0, c1, c2, c3, c4, c5, c6, c7].drop 0).take (Tryz.prog.cellsOf 3)) y0 at r0
  change Rdg enc w n 3 (([c0, c1, c2, c3, c4, c5, c6, c7].drop 1).take (Tryz.prog.cellsOf 3)) y1 at r1
  change Rdg enc w n 60 (([c0, c1, c2, c3, c4, c5, c6, c7].drop 2).take (Tryz.prog.cellsOf 60)) y2 at r2
  change Rdg enc w n 3 (([c0, c1, c2, c3, c4, c5, c6, c7].drop 7).take (Tryz.prog.cellsOf 3)) y3 at r3
  rw [Tryz.cInt] at r0 r1 r3
  rw [Tryz.cArr] at r2
  obtain ⟨m0, e0, _, w0⟩ := DataW.trod_int Tryz.underlying3 r0
  obtain ⟨m1, e1, _, w1⟩ := DataW.trod_int Tryz.underlying3 r1
  obtain ⟨m7, e7, _, w7⟩ := DataW.trod_int Tryz.underlying3 r3
  have ha := (allInt_array (enc := enc) (w := w) Tryz.underlying60 Tryz.underlying3 Tryz.cInt Tryz.cArr _ _ _ r2).2
  obtain ⟨m2, e2, w2⟩ := ha 0 (by omega)
  obtain ⟨m3, e3, w3⟩ := ha 1 (by omega)
  obtain ⟨m4, e4, w4⟩ := ha 2 (by omega)
  obtain ⟨m5, e5, w5⟩ := ha 3 (by omega)
  obtain ⟨m6, e6, w6⟩ := ha 4 (by omega)
  simp at e0 e1 e2 e3 e4 e5 e6 e7
  subst e0 e1 e2 e3 e4 e5 e6 e7
  exact ⟨⟨m0, m1, m2, m3, m4, m5, m6, m7⟩, ⟨hc 0 (by omega), inR_wf w0⟩, ⟨hc 1 (by omega), inR_wf w1⟩, ⟨hc 2 (by omega), w2⟩, ⟨hc 3 (by omega), w3⟩, ⟨hc 4 (by omega), w4⟩, ⟨hc 5 (by omega), w5⟩, ⟨hc 6 (by omega), w6⟩, hc 7 (by omega), inR_wf w7⟩
theorem opn_msg : Opn enc w 58 4 MsgAt := fun fuel cs x b off h hz hc => by
  obtain ⟨hl, n, hf⟩ := rdg_struct Tryz.underlying58 h hz
  rw [Tryz.cMsg] at hl
  obtain ⟨c0, c1, c2, c3, rfl⟩ := list4 hl
  obtain ⟨y0, r0, _⟩ := hf 0 _ rfl
  obtain ⟨y1, r1, _⟩ := hf 1 _ rfl
  obtain ⟨y2, r2, _⟩ := hf 2 _ rfl
  obtain ⟨y3, r3, z3⟩ := hf 3 _ rfl
  change Rdg enc w n 3 (([c0, c1, c2, c3].drop 0).take (Tryz.prog.cellsOf 3)) y0 at r0
  change Rdg enc w n 3 (([c0, c1, c2, c3].drop 1).take (Tryz.prog.cellsOf 3)) y1 at r1
  change Rdg enc w n 3 (([c0, c1, c2, c3].drop 2).take (Tryz.prog.cellsOf 3)) y2 at r2
  change Rdg enc w n 9 (([c0, c1, c2, c3].drop 3).take (Tryz.prog.cellsOf 9)) y3 at r3
  change Szd 9 y3.1 at z3
  rw [Tryz.cInt] at r0 r1 r2
  rw [Tryz.cStr] at r3
  obtain ⟨m0, e0, _, w0⟩ := DataW.trod_int Tryz.underlying3 r0
  obtain ⟨m1, e1, _, w1⟩ := DataW.trod_int Tryz.underlying3 r1
  obtain ⟨m2, e2, _, w2⟩ := DataW.trod_int Tryz.underlying3 r2
  obtain ⟨s, e3, e4, _⟩ := DataW.trod_string Tryz.underlying9 r3
  simp at e0 e1 e2 e3
  subst e0 e1 e2 e3
  have hs : s.data.toList.length ≤ reachBytes := z3 _ (by rw [e4]; simp [DataW.weights])
  have hs' : s.size ≤ 140737488351232 := by
    have h1 : s.data.toList.length = s.size := by simp
    unfold reachBytes at hs
    omega
  exact ⟨⟨m0, m1, m2, s⟩, ⟨hc 0 (by omega), inR_wf w0⟩, ⟨hc 1 (by omega), inR_wf w1⟩, ⟨hc 2 (by omega), inR_wf w2⟩, hc 3 (by omega), hs'⟩
/-- a machine -/
theorem open_mach {fuel : Nat} {cs : List Value} {x : DataW H × List MemPlace} (h : Rdg enc w fuel 35 cs x) (hz : Szd 35 x.1) :
    ∃ (m : Mac) (vf vy vt vo : Value), cs = [.int .i64 m.n, .int .i64 m.rounds, .int .i64 m.ins, .int .i64 m.outs, vf, vy, vt, vo] ∧ IsVecs w vf m.first ∧ IsV4 w vy m.syms ∧ IsSteps w vt m.steps ∧ IsV3 w vo m.out := by
  obtain ⟨hl, n, hf⟩ := rdg_struct Tryz.underlying35 h hz
  rw [Tryz.cMach] at hl
  obtain ⟨c0, c1, c2, c3, c4, c5, c6, c7, rfl⟩ := list8 hl
  obtain ⟨y0, r0, _⟩ := hf 0 _ rfl
  obtain ⟨y1, r1, _⟩ := hf 1 _ rfl
  obtain ⟨y2, r2, _⟩ := hf 2 _ rfl
  obtain ⟨y3, r3, _⟩ := hf 3 _ rfl
  obtain ⟨y4, r4, z4⟩ := hf 4 _ rfl
  obtain ⟨y5, r5, z5⟩ := hf 5 _ rfl
  obtain ⟨y6, r6, z6⟩ := hf 6 _ rfl
  obtain ⟨y7, r7, z7⟩ := hf 7 _ rfl
  change Rdg enc w n 3 (([c0, c1, c2, c3, c4, c5, c6, c7].drop 0).take (Tryz.prog.cellsOf 3)) y0 at r0
  change Rdg enc w n 3 (([c0, c1, c2, c3, c4, c5, c6, c7].drop 1).take (Tryz.prog.cellsOf 3)) y1 at r1
  change Rdg enc w n 3 (([c0, c1, c2, c3, c4, c5, c6, c7].drop 2).take (Tryz.prog.cellsOf 3)) y2 at r2
  change Rdg enc w n 3 (([c0, c1, c2, c3, c4, c5, c6, c7].drop 3).take (Tryz.prog.cellsOf 3)) y3 at r3
  change Rdg enc w n 30 (([c0, c1, c2, c3, c4, c5, c6, c7].drop 4).take (Tryz.prog.cellsOf 30)) y4 at r4
  change Rdg enc w n 31 (([c0, c1, c2, c3, c4, c5, c6, c7].drop 5).take (Tryz.prog.cellsOf 31)) y5 at r5
  change Rdg enc w n 32 (([c0, c1, c2, c3, c4, c5, c6, c7].drop 6).take (Tryz.prog.cellsOf 32)) y6 at r6
  change Rdg enc w n 33 (([c0, c1, c2, c3, c4, c5, c6, c7].drop 7).take (Tryz.prog.cellsOf 33)) y7 at r7
  change Szd 30 y4.1 at z4
  change Szd 31 y5.1 at z5
  change Szd 32 y6.1 at z6
  change Szd 33 y7.1 at z7
  rw [Tryz.cInt] at r0 r1 r2 r3
  rw [Tryz.cVecs] at r4
  rw [Tryz.cV4] at r5
  rw [Tryz.cSteps] at r6
  rw [Tryz.cV3] at r7
  obtain ⟨m0, e0, _, _⟩ := DataW.trod_int Tryz.underlying3 r0
  obtain ⟨m1, e1, _, _⟩ := DataW.trod_int Tryz.underlying3 r1
  obtain ⟨m2, e2, _, _⟩ := DataW.trod_int Tryz.underlying3 r2
  obtain ⟨m3, e3, _, _⟩ := DataW.trod_int Tryz.underlying3 r3
  obtain ⟨v4, l4, e4, g4⟩ := opn_val Tryz.underlying30 Tryz.cInts (by omega) (of_decide_eq_true (by kernel_rfl)) opn_ints r4 z4
  obtain ⟨v5, l5, e5, g5⟩ := opn_val Tryz.underlying31 Tryz.cV3 (by omega) (of_decide_eq_true (by kernel_rfl)) opn_v3 r5 z5
  obtain ⟨v6, l6, e6, g6⟩ := opn_val Tryz.underlying32 Tryz.cStep (by omega) (of_decide_eq_true (by kernel_rfl)) opn_step r6 z6
  obtain ⟨v7, l7, e7, g7⟩ := opn_val Tryz.underlying33 Tryz.cVecs (by omega) (of_decide_eq_true (by kernel_rfl)) opn_vecs r7 z7
  simp at e0 e1 e2 e3 e4 e5 e6 e7
  subst e0 e1 e2 e3 e4 e5 e6 e7
  exact ⟨⟨m0, m1, m2, m3, l4, l5, l6, l7⟩, _, _, _, _, rfl, g4, g5, g6, g7⟩
/-- a trace -/
theorem open_trace {fuel : Nat} {cs : List Value} {x : DataW H × List MemPlace} (h : Rdg enc w fuel 40 cs x) (hz : Szd 40 x.1) :
    ∃ (t : Tr) (vi vw vs vm vd vt : Value), cs = [vi, vw, vs, vm, vd, vt] ∧ IsTr w t vi vw vs vm vd vt := by
  obtain ⟨hl, n, hf⟩ := rdg_struct Tryz.underlying40 h hz
  rw [Tryz.cTrace] at hl
  obtain ⟨c0, c1, c2, c3, c4, c5, rfl⟩ := list6 hl
  obtain ⟨y0, r0, z0⟩ := hf 0 _ rfl
  obtain ⟨y1, r1, z1⟩ := hf 1 _ rfl
  obtain ⟨y2, r2, z2⟩ := hf 2 _ rfl
  obtain ⟨y3, r3, z3⟩ := hf 3 _ rfl
  obtain ⟨y4, r4, z4⟩ := hf 4 _ rfl
  obtain ⟨y5, r5, z5⟩ := hf 5 _ rfl
  change Rdg enc w n 36 (([c0, c1, c2, c3, c4, c5].drop 0).take (Tryz.prog.cellsOf 36)) y0 at r0
  change Rdg enc w n 37 (([c0, c1, c2, c3, c4, c5].drop 1).take (Tryz.prog.cellsOf 37)) y1 at r1
  change Rdg enc w n 30 (([c0, c1, c2, c3, c4, c5].drop 2).take (Tryz.prog.cellsOf 30)) y2 at r2
  change Rdg enc w n 38 (([c0, c1, c2, c3, c4, c5].drop 3).take (Tryz.prog.cellsOf 38)) y3 at r3
  change Rdg enc w n 36 (([c0, c1, c2, c3, c4, c5].drop 4).take (Tryz.prog.cellsOf 36)) y4 at r4
  change Rdg enc w n 36 (([c0, c1, c2, c3, c4, c5].drop 5).take (Tryz.prog.cellsOf 36)) y5 at r5
  change Szd 36 y0.1 at z0
  change Szd 37 y1.1 at z1
  change Szd 30 y2.1 at z2
  change Szd 38 y3.1 at z3
  change Szd 36 y4.1 at z4
  change Szd 36 y5.1 at z5
  rw [Tryz.cInts] at r0 r4 r5
  rw [Tryz.cWord] at r1
  rw [Tryz.cVecs] at r2
  rw [Tryz.cMsgs] at r3
  obtain ⟨v0, l0, e0, g0⟩ := opn_val Tryz.underlying36 Tryz.cInt (by omega) (of_decide_eq_true (by kernel_rfl)) opn_int r0 z0
  obtain ⟨v1, l1, e1, g1⟩ := opn_val Tryz.underlying37 Tryz.cRound (by omega) (of_decide_eq_true (by kernel_rfl)) opn_round r1 z1
  obtain ⟨v2, l2, e2, g2⟩ := opn_val Tryz.underlying30 Tryz.cInts (by omega) (of_decide_eq_true (by kernel_rfl)) opn_ints r2 z2
  obtain ⟨v3, l3, e3, g3⟩ := opn_val Tryz.underlying38 Tryz.cMsg (by omega) (of_decide_eq_true (by kernel_rfl)) opn_msg r3 z3
  obtain ⟨v4, l4, e4, g4⟩ := opn_val Tryz.underlying36 Tryz.cInt (by omega) (of_decide_eq_true (by kernel_rfl)) opn_int r4 z4
  obtain ⟨v5, l5, e5, g5⟩ := opn_val Tryz.underlying36 Tryz.cInt (by omega) (of_decide_eq_true (by kernel_rfl)) opn_int r5 z5
  simp at e0 e1 e2 e3 e4 e5
  subst e0 e1 e2 e3 e4 e5
  exact ⟨⟨l0, l1, l2, l3, l4, l5⟩, _, _, _, _, _, _, rfl, g0, g1, g2, g3, g4, g5⟩
end
end Go.Proofs.YtjmejfgkogjpaaaGreat

namespace Go.Proofs.YtjmejfgkogjpaaaGreat
open Go.RowKit Go Go.Shelf

/-- The cells of a slice whose elements take one cell each. -/
def RawSl (w : World) (v : Value) (xs : List Value) : Prop :=
  ∃ a cap, v = .slice a xs.length cap ∧ (a = none → xs.length = 0 ∧ cap = 0) ∧ (∀ i x, xs[i]? = some x → ∃ b off, a = some ⟨b, off, none⟩ ∧ w.cell? ⟨b, off + i, none⟩ = some x) ∧ ∀ x ∈ xs, x.oneCell' = true

theorem Tryz.infoInt : (Tryz.prog.info? 3).map (fun i => (i.zero, i.size, i.bytes)) = some (some (.int .i64 0), 1, 8) := by kernel_rfl
theorem Tryz.infoInts : (Tryz.prog.info? 36).map (fun i => (i.zero, i.size, i.bytes)) = some (some (.slice none 0 0), 1, 24) := by kernel_rfl

set_option maxHeartbeats 1000000 in
theorem cloneRawInts (v : Value) (xs : List Value) (w : World) (hv : RawSl w v xs) (hn : xs.length ≤ 1099511627776) :
    Calls Tryz.prog 54 #[v] w fun e w' => ∃ u, e = .returned u ∧ w'.ownsRow w.heap.size 3 1 u xs.length xs ∧ Below w.heap.size w w' := by
  obtain ⟨a, cap, rfl, ha, hc, h1⟩ := hv
  obtain ⟨i0, hi, hz0, hz1, hz2⟩ := info_parts Tryz.infoInt
  cases a with
  | none =>
    obtain ⟨hl, rfl⟩ := ha rfl
    obtain rfl : xs = [] := List.eq_nil_of_length_eq_zero hl
    have heq := fun w => Lib.run_eql_slice_nil (P := Tryz.prog) w 36
    go_enter Tryz.func54, Tryz.ntmps54
    go_wp2_with fail
    go_ret
    exact ⟨_, rfl, World.ownsRow_nil _ _ _ _, Below.refl _ _⟩
  | some ad =>
    have heq := fun w => Lib.run_eql_slice_nil (P := Tryz.prog) w 36
    have hnews : ∀ j u, xs[j]? = some u → (w.alloc (.cells #[] 3)).cell? (ad.add j) = some u := fun j u hj => by
      obtain ⟨b, off, e, hcell⟩ := hc j u hj
      cases e
      have : (Addr.add ⟨b, off, none⟩ j) = ⟨b, off + j, none⟩ := by unfold Addr.add; split <;> simp_all
      rw [this]; exact cell_up (by go_grown) hcell
    have hown : (w.alloc (.cells #[] 3)).ownsRow w.heap.size 3 1 (.slice (some ⟨w.heap.size, 0, none⟩) 0 0) 0 [] := ⟨by simp, .inr ⟨w.heap.size, 0, #[], rfl, Nat.le_refl _, alloc_new _ _, by omega, by simp [maxLen], by simp, by simp⟩⟩
    have HNEWS := Lib.hid hnews
    have HOWN := Lib.hid hown
    have H1 := Lib.hid h1
    clear hnews hown h1 hc ha
    go_enter Tryz.func54, Tryz.ntmps54
    go_wp2_with (at_builtin; refine wpList_append_own _ rfl (.tmp 5) (.tmp 6) 36 rfl w.heap.size 3 i0 (.int .i64 0) 1 8 Tryz.underlying36 hi hz0 hz1 hz2 rfl (by decide) _ 0 [] rfl HOWN.out ad xs.length cap xs rfl (by simp) HNEWS.out H1.out (by unfold maxLen; omega) (by omega) (by simp) ?_; intro v' w1 hown1 hgrow1 _)
    go_ret
    refine ⟨_, rfl, by simpa using hown1, Below.grown (w := w.alloc (.cells #[] 3)) (by go_grown) hgrow1 (by simp) (fun k hk => ?_)⟩
    cases hk; exact Nat.le_refl _

set_option maxHeartbeats 1000000 in
theorem cloneRawVecs (v : Value) (xs : List Value) (w : World) (hv : RawSl w v xs) (hn : xs.length ≤ 1099511627776) :
    Calls Tryz.prog 116 #[v] w fun e w' => ∃ u, e = .returned u ∧ w'.ownsRow w.heap.size 36 1 u xs.length xs ∧ Below w.heap.size w w' := by
  obtain ⟨a, cap, rfl, ha, hc, h1⟩ := hv
  obtain ⟨i0, hi, hz0, hz1, hz2⟩ := info_parts Tryz.infoInts
  cases a with
  | none =>
    obtain ⟨hl, rfl⟩ := ha rfl
    obtain rfl : xs = [] := List.eq_nil_of_length_eq_zero hl
    have heq := fun w => Lib.run_eql_slice_nil (P := Tryz.prog) w 30
    go_enter Tryz.func116, Tryz.ntmps116
    go_wp2_with fail
    go_ret
    exact ⟨_, rfl, World.ownsRow_nil _ _ _ _, Below.refl _ _⟩
  | some ad =>
    have heq := fun w => Lib.run_eql_slice_nil (P := Tryz.prog) w 30
    have hnews : ∀ j u, xs[j]? = some u → (w.alloc (.cells #[] 36)).cell? (ad.add j) = some u := fun j u hj => by
      obtain ⟨b, off, e, hcell⟩ := hc j u hj
      cases e
      have : (Addr.add ⟨b, off, none⟩ j) = ⟨b, off + j, none⟩ := by unfold Addr.add; split <;> simp_all
      rw [this]; exact cell_up (by go_grown) hcell
    have hown : (w.alloc (.cells #[] 36)).ownsRow w.heap.size 36 1 (.slice (some ⟨w.heap.size, 0, none⟩) 0 0) 0 [] := ⟨by simp, .inr ⟨w.heap.size, 0, #[], rfl, Nat.le_refl _, alloc_new _ _, by omega, by simp [maxLen], by simp, by simp⟩⟩
    have HNEWS := Lib.hid hnews
    have HOWN := Lib.hid hown
    have H1 := Lib.hid h1
    clear hnews hown h1 hc ha
    go_enter Tryz.func116, Tryz.ntmps116
    go_wp2_with (at_builtin; refine wpList_append_own _ rfl (.tmp 5) (.tmp 6) 30 rfl w.heap.size 36 i0 (.slice none 0 0) 1 24 Tryz.underlying30 hi hz0 hz1 hz2 rfl (by decide) _ 0 [] rfl HOWN.out ad xs.length cap xs rfl (by simp) HNEWS.out H1.out (by unfold maxLen; omega) (by omega) (by simp) ?_; intro v' w1 hown1 hgrow1 _)
    go_ret
    refine ⟨_, rfl, by simpa using hown1, Below.grown (w := w.alloc (.cells #[] 36)) (by go_grown) hgrow1 (by simp) (fun k hk => ?_)⟩
    cases hk; exact Nat.le_refl _


theorem oneCell_slice {w : World} {v : Value} {α : Type} {k : Nat} {R : World → Nat → Nat → α → Prop} {l : List α} (h : IsSl k R w v l) : v.oneCell' = true := by
  obtain ⟨a, cap, rfl, _⟩ := h; rfl
theorem raw_of_ints {w : World} {v : Value} {l : List Int} (h : IsInts w v l) : RawSl w v (l.map (Value.int .i64)) := by
  obtain ⟨a, cap, rfl, h1, h2, h3⟩ := h
  refine ⟨a, cap, by simp, fun e => ?_, fun i x hx => ?_, fun x hx => ?_⟩
  · have := h1.2.2 e; exact ⟨by rw [List.length_map]; omega, this⟩
  · simp only [List.getElem?_map, Option.map_eq_some_iff] at hx
    obtain ⟨y, hy, rfl⟩ := hx
    obtain ⟨b, off, ha, hr⟩ := h3 i y hy
    exact ⟨b, off, ha, by have := hr.1; rwa [Nat.mul_one] at this⟩
  · obtain ⟨y, _, rfl⟩ := List.mem_map.1 hx; rfl
/-- The slices that lie in a slice of slices. -/
theorem vals_of_vecs {w : World} {v : Value} {l : List (List Int)} (h : IsVecs w v l) : ∃ xs : List Value, xs.length = l.length ∧ RawSl w v xs ∧ ∀ i (hi : i < l.length) (hx : i < xs.length), IsInts w xs[i] l[i] := by
  obtain ⟨a, cap, rfl, h1, h2, h3⟩ := h
  have key : ∀ i : Fin l.length, ∃ x : Value, ∃ b off, a = some ⟨b, off, none⟩ ∧ w.cell? ⟨b, off + i.1, none⟩ = some x ∧ IsInts w x l[i.1] := fun i => by
    obtain ⟨b, off, ha, x, hx, hs⟩ := h3 i.1 _ (List.getElem?_eq_getElem i.2)
    exact ⟨x, b, off, ha, by rwa [Nat.mul_one] at hx, hs⟩
  refine ⟨List.ofFn fun i => Classical.choose (key i), by simp, ⟨a, cap, by simp, fun e => ?_, fun i x hx => ?_, fun x hx => ?_⟩, fun i hi hx => ?_⟩
  · have := h1.2.2 e; exact ⟨by rw [List.length_ofFn]; omega, this⟩
  · have hi : i < l.length := by have := (List.getElem?_eq_some_iff.1 hx).1; simpa using this
    have e : x = Classical.choose (key ⟨i, hi⟩) := by
      rw [List.getElem?_ofFn] at hx; simp [hi] at hx; exact hx.symm
    obtain ⟨b, off, ha, hc, _⟩ := Classical.choose_spec (key ⟨i, hi⟩)
    exact ⟨b, off, ha, by rw [e]; exact hc⟩
  · obtain ⟨i, rfl⟩ := (List.mem_ofFn).1 hx
    obtain ⟨_, _, _, _, hs⟩ := Classical.choose_spec (key i)
    exact oneCell_slice hs
  · rw [List.getElem_ofFn]
    obtain ⟨_, _, _, _, hs⟩ := Classical.choose_spec (key ⟨i, hi⟩)
    exact hs
theorem owns_cell {w : World} {base : Nat} {e : TypeId} {v : Value} {n : Nat} {xs : List Value} (h : w.ownsRow base e 1 v n xs) : ∃ a cap, v = .slice a n cap ∧ n ≤ cap ∧ cap ≤ 9223372036854775807 ∧ (a = none → cap = 0) ∧ xs.length = n ∧ ∀ i x, xs[i]? = some x → ∃ b, a = some ⟨b, 0, none⟩ ∧ w.cell? ⟨b, i, none⟩ = some x := by
  obtain ⟨hl, h⟩ := h
  rw [Nat.mul_one] at hl
  rcases h with ⟨rfl, rfl⟩ | ⟨g, cap, cur, rfl, hg, hb, hn, hm, hs, ht⟩
  · exact ⟨none, 0, rfl, by omega, by omega, fun _ => rfl, hl, fun i x hx => by have := (List.getElem?_eq_some_iff.1 hx).1; omega⟩
  · refine ⟨_, cap, rfl, hn, by simpa [maxLen] using hm, (fun e => (by cases e)), hl, fun i x hx => ⟨g, rfl, ?_⟩⟩
    rw [cell_block hb, ← hx, ← ht, Nat.mul_one]
    have hi := (List.getElem?_eq_some_iff.1 hx).1
    rw [List.getElem?_take_of_lt (by omega)]
    simp
theorem ints_of_owns {w : World} {base : Nat} {e : TypeId} {v : Value} {l : List Int} (h : w.ownsRow base e 1 v l.length (l.map (Value.int .i64))) (hr : ∀ x ∈ l, InR x) (hn : l.length ≤ 17592186044416) : IsInts w v l := by
  obtain ⟨a, cap, rfl, h1, h2, h3, _, h4⟩ := owns_cell h
  refine ⟨a, cap, rfl, ⟨h1, h2, h3⟩, hn, fun i x hx => ?_⟩
  obtain ⟨b, ha, hc⟩ := h4 i (.int .i64 x) (by simp [hx])
  exact ⟨b, 0, ha, by simpa using hc, hr x (List.mem_of_getElem? hx)⟩
theorem vecs_of_owns {w : World} {base : Nat} {e : TypeId} {v : Value} {l : List (List Int)} {xs : List Value} (h : w.ownsRow base e 1 v l.length xs) (hx : ∀ i (hi : i < l.length) (hx : i < xs.length), IsInts w xs[i] l[i]) (hn : l.length ≤ 17592186044416) : IsVecs w v l := by
  obtain ⟨a, cap, rfl, h1, h2, h3, hl, h4⟩ := owns_cell h
  refine ⟨a, cap, rfl, ⟨h1, h2, h3⟩, hn, fun i x hi => ?_⟩
  obtain ⟨hi1, hi2⟩ := List.getElem?_eq_some_iff.1 hi
  obtain ⟨b, ha, hc⟩ := h4 i xs[i] (by simp)
  exact ⟨b, 0, ha, xs[i], by simpa using hc, by rw [← hi2]; exact hx i hi1 (by omega)⟩
theorem ints_inR {w : World} {v : Value} {l : List Int} (h : IsInts w v l) : ∀ x ∈ l, InR x := fun x hx => by
  obtain ⟨a, cap, rfl, _, _, h3⟩ := h
  obtain ⟨i, hi, rfl⟩ := List.getElem_of_mem hx
  obtain ⟨b, off, _, hr⟩ := h3 i _ (List.getElem?_eq_getElem hi)
  exact hr.2

theorem cloneInts_any (v : Value) (l : List Int) (w : World) (hv : IsInts w v l) (hn : l.length ≤ 1099511627776) :
    Calls Tryz.prog 54 #[v] w fun e w' => ∃ u, e = .returned u ∧ IsInts w' u l ∧ Below w.heap.size w w' := by
  refine (cloneRawInts v _ w (raw_of_ints hv) (by simpa using hn)).mono ?_
  rintro e w' ⟨u, rfl, ho, hb⟩
  exact ⟨u, rfl, ints_of_owns (by simpa using ho) (ints_inR hv) (by omega), hb⟩

end Go.Proofs.YtjmejfgkogjpaaaGreat

namespace Go.Proofs.YtjmejfgkogjpaaaGreat
open Go.RowKit Go Go.Shelf

set_option maxHeartbeats 400000 in
theorem vector1_any (x most : Int) (B : Nat) (W : World) (hc : W.cell? ⟨B, 0, none⟩ = some (.int .i64 most)) :
    Calls Tryz.prog 100 #[.int .i64 x, .pointer (some ⟨B, 0, none⟩)] W fun e W' => e = .returned (.bool (decide (x < 0) || decide (most ≤ x))) ∧ Below W.heap.size W W' := by
  by_cases hx : x < 0
  · go_enter Tryz.func100, Tryz.ntmps100
    go_wp2
    go_ret
    exact ⟨ret_bool (by simp [hx]), Below.refl _ _⟩
  · go_enter Tryz.func100, Tryz.ntmps100
    go_wp2
    go_ret
    exact ⟨ret_bool (by simp; omega), Below.refl _ _⟩

set_option maxHeartbeats 400000 in
theorem vector_any (v : Value) (l : List Int) (n most : Int) (w : World) (hv : IsInts w v l) :
    Calls Tryz.prog 65 #[v, .int .i64 n, .int .i64 most] w fun e w' => e = .returned (.int .i64 (vectorE l n most)) ∧ Below w.heap.size w w' := by
  have hb0 : Below w.heap.size w (w.alloc (.cells #[.int .i64 most] 3)) := by go_grown
  have hcon := containsFuncInts_any 100 #[.pointer (some ⟨w.heap.size, 0, none⟩)] (enters_of Tryz.func100 (by kernel_rfl) rfl) v l (fun i => decide (l.getD i 0 < 0) || decide (most ≤ l.getD i 0))
    (w.alloc (.cells #[.int .i64 most] 3)) (hv.up up_int hb0) (fun i hi W hW => by
      rw [getD_of_lt 0 hi]
      exact vector1_any _ _ _ _ (cell_up hW (by simp [cell_block (alloc_new _ _)])))
  have HV : Hid (vectorE l n most = if (l.length : Int) ≠ n then 15 else if anyLt l.length (fun i => decide (l.getD i 0 < 0) || decide (most ≤ l.getD i 0)) then 2 else 0) := by exact rfl
  generalize anyLt l.length (fun i => decide (l.getD i 0 < 0) || decide (most ≤ l.getD i 0)) = r at hcon HV
  have HC := Lib.hid hcon; clear hcon
  obtain ⟨pa, ca, rfl, la1, la2, _⟩ := hv.at
  clear hv
  by_cases hl : (l.length : Int) = n
  · have hl1 : ((l.length : Int) != n) = false := by simp [hl]
    have HL := Lib.hid hl; clear hl
    cases r with
    | true =>
      go_enter Tryz.func65, Tryz.ntmps65
      go_wp2_with fail
      refine HC.out.mono ?_
      rintro e w1 ⟨rfl, hb1⟩
      go_wp2_with fail
      go_ret
      exact ⟨ret_int (by rw [HV.out, if_neg (by simpa using HL.out)]; rfl), ext_trans hb0 hb1⟩
    | false =>
      go_enter Tryz.func65, Tryz.ntmps65
      go_wp2_with fail
      refine HC.out.mono ?_
      rintro e w1 ⟨rfl, hb1⟩
      go_wp2_with fail
      go_ret
      exact ⟨ret_int (by rw [HV.out, if_neg (by simpa using HL.out)]; rfl), ext_trans hb0 hb1⟩
  · have hl1 : ((l.length : Int) != n) = true := by simp [hl]
    go_enter Tryz.func65, Tryz.ntmps65
    go_wp2_with fail
    go_ret
    exact ⟨ret_int (by rw [HV.out, if_pos hl]), hb0⟩

set_option maxHeartbeats 1000000 in
theorem unordered_any (v : Value) (l : List (List Int)) (i : Nat) (hi : i < l.length) (w : World) (hv : IsVecs w v l) :
    Calls Tryz.prog 101 #[v, .int .i64 i] w fun e w' => e = .returned (.bool (unordB l i)) ∧ Below w.heap.size w w' := by
  obtain ⟨pa, ca, rfl, la1, la2, ea⟩ := hv.at
  clear hv
  by_cases h0 : 0 < i
  · obtain ⟨j, rfl⟩ : ∃ j, i = j + 1 := ⟨i - 1, by omega⟩
    have hj : j < l.length := by omega
    obtain ⟨b1, o1, rfl, x1, c1, h1⟩ := ea j hj
    obtain ⟨b2, o2, e2, x2, c2, h2⟩ := ea (j + 1) hi
    obtain ⟨rfl, rfl⟩ : b1 = b2 ∧ o1 = o2 := by simpa using e2
    clear e2 ea
    rw [Nat.mul_one] at c1 c2
    have HU : Hid (unordB l (j + 1) = decide (0 ≤ ordV l[j] l[j + 1])) := by
      have h : unordB l (j + 1) = decide (0 ≤ ordV l[j] l[j + 1]) := by
        unfold unordB; rw [Nat.add_sub_cancel, getD_of_lt [] hj, getD_of_lt [] hi]; simp
      exact h
    generalize l[j] = y1 at h1 HU
    generalize l[j + 1] = y2 at h2 HU
    have d1 : ∀ x : ExtW w, x.val.cell? ⟨b1, o1 + j, none⟩ = some x1 := fun x => x.cell c1
    have d2 : ∀ x : ExtW w, x.val.cell? ⟨b1, o1 + (j + 1), none⟩ = some x2 := fun x => x.cell c2
    have hcall : ∀ x : ExtW w, Calls Tryz.prog 66 #[x1, x2] x.val fun e w'' => e = .returned (.int .i64 (ordV y1 y2)) ∧ ∃ p : ExtW w, w'' = p.val :=
      fun x => Calls.ext_of (slicesCompare_any _ _ _ _ _ (h1.up up_int x.ext) (h2.up up_int x.ext))
    have HCALL := Lib.hid hcall; clear hcall
    clear c1 c2 h1 h2
    have hwj : IntKind.i64.wrap (j : Int) = (j : Int) := IntWalk.i64_in _ (by omega)
    have hj1 : (0 : Int) ≤ (j : Int) + 1 := by omega
    have hj2 : (j : Int) + 1 < (l.length : Int) := by omega
    have hj3 : ((j : Int) + 1).toNat = j + 1 := by omega
    go_enter Tryz.func101, Tryz.ntmps101
    go_wp2_with fail
    refine wp_region_quiet_ext (by kernel_rfl) (by kernel_rfl) ?_
    repeat (quiet_step ((go_at_call 66; exact HCALL.out _)))
    refine wpQuiet_nil ?_
    intro _ hw'
    obtain ⟨xq, hw''⟩ := hw'
    subst hw''
    go_wp2_with fail
    go_ret
    exact ⟨ret_bool HU.out.symm, xq.ext⟩
  · obtain rfl : i = 0 := by omega
    go_enter Tryz.func101, Tryz.ntmps101
    go_wp2_with fail
    go_quiet (fail)
    go_wp2_with fail
    go_ret
    exact ⟨ret_bool (by simp [unordB]), below_drewN (Below.refl _ _) _⟩

set_option maxHeartbeats 400000 in
theorem has1_any (x : Value) (v : Value) (y z : List Int) (B : Nat) (W : World) (hc : W.cell? ⟨B, 0, none⟩ = some v) (hx : IsInts W x y) (hv : IsInts W v z) :
    Calls Tryz.prog 130 #[x, .pointer (some ⟨B, 0, none⟩)] W fun e W' => e = .returned (.bool (eqV y z)) ∧ Below W.heap.size W W' := by
  have HC := Lib.hid (slicesEqual_any x v y z W hx hv)
  obtain ⟨_, _, rfl, _⟩ := hv
  clear hx
  go_enter Tryz.func130, Tryz.ntmps130
  go_wp2_with fail
  refine HC.out.mono ?_
  rintro e w1 ⟨rfl, hb1⟩
  go_wp2_with fail
  go_ret
  exact ⟨rfl, hb1⟩

set_option maxHeartbeats 400000 in
theorem has_any (v : Value) (l : List (List Int)) (x : Value) (y : List Int) (w : World) (hv : IsVecs w v l) (hx : IsInts w x y) :
    Calls Tryz.prog 102 #[v, x] w fun e w' => e = .returned (.bool (hasV l y)) ∧ Below w.heap.size w w' := by
  have hb0 : Below w.heap.size w (w.alloc (.cells #[x] 36)) := by go_grown
  have hcon := containsFuncVecs_any 130 #[.pointer (some ⟨w.heap.size, 0, none⟩)] (enters_of Tryz.func130 (by kernel_rfl) rfl) v l (fun i => eqV (l.getD i []) y)
    (w.alloc (.cells #[x] 36)) (hv.up up_ints hb0) (fun i hi z hz W hW => by
      rw [getD_of_lt [] hi]
      exact has1_any _ _ _ _ _ _ (cell_up hW (by simp [cell_block (alloc_new _ _)])) (hz.up up_int hW) ((hx.up up_int hb0).up up_int hW))
  have HC := Lib.hid hcon; clear hcon
  obtain ⟨_, _, rfl, _⟩ := hx
  clear hv
  go_enter Tryz.func102, Tryz.ntmps102
  go_wp2_with fail
  refine HC.out.mono ?_
  rintro e w1 ⟨rfl, hb1⟩
  go_wp2_with fail
  go_ret
  exact ⟨rfl, ext_trans hb0 hb1⟩

end Go.Proofs.YtjmejfgkogjpaaaGreat

namespace Go.Proofs.YtjmejfgkogjpaaaGreat
open Go.RowKit Go Go.Shelf

set_option maxHeartbeats 2000000 in
theorem vectors_any (t : Tk) (pc : Option Addr) (nc cc : Nat) (c : Cs) (x0 x1 x2 : Value) (w : World) (h0 : IsInts w x0 c.inp) (h1 : IsVecs w x1 c.out) (h2 : IsVecs w x2 c.calm) :
    Calls Tryz.prog 67 #[.agg #[.int .i64 t.n, .int .i64 t.ins, .int .i64 t.outs, .slice pc nc cc], .agg #[x0, x1, x2]] w fun e w' => e = .returned (.int .i64 (vectorsE t c)) ∧ Below w.heap.size w w' := by
  have G1 := Lib.hid h1
  have G2 := Lib.hid h2
  obtain ⟨p0, c0, rfl, _⟩ := h0
  obtain ⟨p1, c1, rfl, l1, m1, e1⟩ := h1.at
  obtain ⟨p2, c2, rfl, l2, m2, e2⟩ := h2.at
  have E1 := Lib.hid e1
  have E2 := Lib.hid e2
  clear h1 h2 e1 e2
  by_cases hl : c.out.length < 1 ∨ 1024 < c.out.length
  · have HV : Hid (vectorsE t c = 5) := by (have h : vectorsE t c = 5 := by (unfold vectorsE; rw [if_pos hl])); exact h
    rcases hl with hl | hl
    · go_enter Tryz.func67, Tryz.ntmps67
      go_wp2_with fail
      go_ret
      exact ⟨ret_int HV.out.symm, by go_grown⟩
    · go_enter Tryz.func67, Tryz.ntmps67
      go_wp2_with fail
      go_ret
      exact ⟨ret_int HV.out.symm, by go_grown⟩
  have hl1 : 1 ≤ c.out.length := by omega
  have hl2 : c.out.length ≤ 1024 := by omega
  have HV : Hid (vectorsE t c = if firstNZ c.out.length (outE t c) ≠ 0 then firstNZ c.out.length (outE t c) else firstNZ c.calm.length (calmE c)) := by
    have h : vectorsE t c = if firstNZ c.out.length (outE t c) ≠ 0 then firstNZ c.out.length (outE t c) else firstNZ c.calm.length (calmE c) := by unfold vectorsE; rw [if_neg hl]
    exact h
  clear hl
  go_enter Tryz.func67, Tryz.ntmps67
  go_wp2_with fail
  refine wp_gen (fun W => Below w.heap.size w W ∧ W.heap[w.heap.size]? = some (.cells #[.int .i64 t.n, .int .i64 t.ins, .int .i64 t.outs, .slice pc nc cc] 24) ∧ W.heap[w.heap.size + 1]? = some (.cells #[.slice p0 c.inp.length c0, .slice p1 c.out.length c1, .slice p2 c.calm.length c2] 83))
    ⟨by go_grown, alloc_old _ (alloc_new _ _), by simpa using alloc_new (w.alloc (.cells #[.int .i64 t.n, .int .i64 t.ins, .int .i64 t.outs, .slice pc nc cc] 24)) _⟩ (fun W0 hW0 => ?_)
  obtain ⟨hb0, hT, hC⟩ := hW0
  have HT := Lib.hid hT; clear hT
  have HC := Lib.hid hC; clear hC
  go_loopw [23] (fun i wr => Below W0.heap.size W0 wr ∧ ∃ k : Nat, k ≤ c.out.length ∧ i = .int .i64 k ∧ ∀ j, j < k → outE t c j = 0) (fun i _ => c.out.length - (intOf i).toNat)
  case atStart => exact ⟨Below.refl _ _, 0, by omega, rfl, by simp⟩
  case round =>
    obtain ⟨hbr, k, hk, rfl, hinv⟩ := hrel
    have H := Lib.hid hinv; clear hinv
    have t1 := cell_block (block_up hbr HT.out)
    have t2 := cell_block (block_up hbr HC.out)
    by_cases hlt : k < c.out.length
    · obtain ⟨b1, o1, rfl, x, cx, hx⟩ := E1.out k hlt
      rw [Nat.mul_one] at cx
      have d1 := cell_up (ext_trans hb0 hbr) cx
      have HX := Lib.hid (hx.up up_int (ext_trans hb0 hbr))
      obtain ⟨px, qx, rfl, _⟩ := hx
      clear cx
      go_wp2_with fail
      refine (vector_any _ _ _ _ _ HX.out).mono ?_
      rintro e w1 ⟨rfl, hb1⟩
      have HO : Hid (outE t c k = if vectorE c.out[k] t.n t.outs ≠ 0 then vectorE c.out[k] t.n t.outs else if unordB c.out k then 14 else 0) := by
        have h : outE t c k = if vectorE c.out[k] t.n t.outs ≠ 0 then vectorE c.out[k] t.n t.outs else if unordB c.out k then 14 else 0 := by unfold outE; rw [getD_of_lt [] hlt]
        exact h
      generalize vectorE c.out[k] t.n t.outs = ev at HO
      by_cases hev : ev = 0
      · subst hev
        have s1 := cell_block (block_up (ext_trans hbr hb1) HT.out)
        have s2 := cell_block (block_up (ext_trans hbr hb1) HC.out)
        clear t1 t2 d1
        go_wp2_with fail
        refine (unordered_any _ _ k hlt _ (G1.out.up up_ints (ext_trans (ext_trans hb0 hbr) hb1))).mono ?_
        rintro e w2 ⟨rfl, hb2⟩
        generalize unordB c.out k = u at HO
        cases u with
        | true =>
          go_wp2_with fail
          go_ret
          exact ⟨ret_int (by rw [HV.out, ← firstNZ_hit k 14 hlt H.out (by rw [HO.out]; rfl) (by decide)]; rfl), ext_trans (ext_trans (ext_trans hb0 hbr) hb1) hb2⟩
        | false =>
          go_wp2_with fail
          go_roundw
          case rel => exact ⟨ext_trans (ext_trans hbr hb1) hb2, k + 1, by omega, by go_num, below_succ H.out (by rw [HO.out]; rfl)⟩
          case measure => simp [intOf]; omega
      · have hev' : (ev != 0) = true := by simpa using hev
        go_wp2_with fail
        go_ret
        exact ⟨ret_int (by rw [HV.out, ← firstNZ_hit k ev hlt H.out (by rw [HO.out, if_pos hev]) hev, if_pos hev]), ext_trans (ext_trans hb0 hbr) hb1⟩
    · have HV2 : Hid (vectorsE t c = firstNZ c.calm.length (calmE c)) := by
        have h : vectorsE t c = firstNZ c.calm.length (calmE c) := by rw [HV.out, firstNZ_zero _ _ (fun j hj => H.out j (by omega))]; simp
        exact h
      go_wp2_with fail
      clear t1 t2
      have hbW := ext_trans hb0 hbr
      obtain ⟨W1, hW1⟩ : ∃ W1 : World, W1 = wr := ⟨_, rfl⟩
      rw [← hW1] at hbr hbW ⊢
      clear hW1 wr
      go_loopw [45] (fun i wr => Below W1.heap.size W1 wr ∧ ∃ k : Nat, k ≤ c.calm.length ∧ i = .int .i64 k ∧ ∀ j, j < k → calmE c j = 0) (fun i _ => c.calm.length - (intOf i).toNat)
      case atStart => exact ⟨Below.refl _ _, 0, by omega, rfl, by simp⟩
      case round =>
        obtain ⟨hbr2, q, hq, rfl, hinv2⟩ := hrel
        have H2 := Lib.hid hinv2; clear hinv2
        have t2 := cell_block (block_up (ext_trans hbr hbr2) HC.out)
        by_cases hqt : q < c.calm.length
        · obtain ⟨b1, o1, rfl, x, cx, hx⟩ := E2.out q hqt
          rw [Nat.mul_one] at cx
          have d1 := cell_up (ext_trans hbW hbr2) cx
          have HX := Lib.hid (hx.up up_int (ext_trans hbW hbr2))
          obtain ⟨px, qx, rfl, _⟩ := hx
          clear cx
          go_wp2_with fail
          refine (has_any _ _ _ _ _ (G1.out.up up_ints (ext_trans hbW hbr2)) HX.out).mono ?_
          rintro e w1 ⟨rfl, hb1⟩
          have HO : Hid (calmE c q = if hasV c.out c.calm[q] then (if unordB c.calm q then 14 else 0) else 6) := by
            have h : calmE c q = if hasV c.out c.calm[q] then (if unordB c.calm q then 14 else 0) else 6 := by unfold calmE; rw [getD_of_lt [] hqt]
            exact h
          generalize hasV c.out c.calm[q] = ev at HO
          cases ev with
          | true =>
            have s2 := cell_block (block_up (ext_trans (ext_trans hbr hbr2) hb1) HC.out)
            clear t2 d1
            go_wp2_with fail
            refine (unordered_any _ _ q hqt _ (G2.out.up up_ints (ext_trans (ext_trans hbW hbr2) hb1))).mono ?_
            rintro e w2 ⟨rfl, hb2⟩
            generalize unordB c.calm q = u at HO
            cases u with
            | true =>
              go_wp2_with fail
              go_ret
              exact ⟨ret_int (by rw [HV2.out, ← firstNZ_hit q 14 hqt H2.out (by rw [HO.out]; rfl) (by decide)]), ext_trans (ext_trans (ext_trans hbW hbr2) hb1) hb2⟩
            | false =>
              go_wp2_with fail
              go_roundw
              case rel => exact ⟨ext_trans (ext_trans hbr2 hb1) hb2, q + 1, by omega, by go_num, below_succ H2.out (by rw [HO.out]; rfl)⟩
              case measure => simp [intOf]; omega
          | false =>
            go_wp2_with fail
            go_ret
            exact ⟨ret_int (by rw [HV2.out, ← firstNZ_hit q 6 hqt H2.out (by rw [HO.out]; rfl) (by decide)]), ext_trans (ext_trans hbW hbr2) hb1⟩
        · go_wp2_with fail
          go_ret
          exact ⟨ret_int (by rw [HV2.out, firstNZ_zero]; intro j hj; exact H2.out j (by omega)), ext_trans hbW hbr2⟩

end Go.Proofs.YtjmejfgkogjpaaaGreat
