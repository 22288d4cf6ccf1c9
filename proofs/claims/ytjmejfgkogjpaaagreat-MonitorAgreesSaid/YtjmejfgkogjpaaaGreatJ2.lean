/-
  Parts of the proof, in order. What a machine is in memory; contracts of the program's machine.in and machine.all. Conditions: the arguments read as lists. Contract of the program's machine.shaped. Conditions: the argument reads as a machine with few rounds. Contracts of the program's machine.states and machine.ranged. Conditions: the argument reads as a machine of the right shape. The plain specification of what machines do: checks, runs, plays. Numbers and lists alone, no program. It proves nothing of the program. A law for a region that draws its order and makes memory: what is said of each operation's value holds once the operation has come up, whatever the order. The last operation waits for all others. It proves nothing of the program.
-/
import Derived.Test.YtjmejfgkogjpaaaGreatJ1
namespace Go.Proofs.YtjmejfgkogjpaaaGreat
open Go.RowKit Go Go.Shelf

abbrev IsV3 := IsSl 1 VecsAt
abbrev V3At := SlAt 1 VecsAt
theorem up_v3 : Up V3At := up_slAt up_vecs
abbrev IsV4 := IsSl 1 V3At
def StepAt (w : World) (b o : Nat) (s : St) : Prop :=
  IntAt w b o s.rd ∧ IntAt w b (o + 1) s.pr ∧ IntAt w b (o + 2) s.h0 ∧ IntAt w b (o + 3) s.h1 ∧ IntAt w b (o + 4) s.h2 ∧ IntAt w b (o + 5) s.h3 ∧ IntAt w b (o + 6) s.h4 ∧ IntAt w b (o + 7) s.to
theorem up_step : Up StepAt := fun _ _ _ _ _ hb ⟨h0, h1, h2, h3, h4, h5, h6, h7⟩ =>
  ⟨up_int _ _ _ _ _ hb h0, up_int _ _ _ _ _ hb h1, up_int _ _ _ _ _ hb h2, up_int _ _ _ _ _ hb h3, up_int _ _ _ _ _ hb h4, up_int _ _ _ _ _ hb h5, up_int _ _ _ _ _ hb h6, up_int _ _ _ _ _ hb h7⟩
abbrev IsSteps := IsSl 8 StepAt
abbrev macC (m : Mac) (vf vy vt vo : Value) : Array Value := #[.int .i64 m.n, .int .i64 m.rounds, .int .i64 m.ins, .int .i64 m.outs, vf, vy, vt, vo]

set_option maxHeartbeats 400000 in
theorem in_any (n lo hi : Int) (w : World) :
    Calls Tryz.prog 35 #[.int .i64 n, .int .i64 lo, .int .i64 hi] w fun e w' => e = .returned (.bool (inB n lo hi)) ∧ w = w' := by
  by_cases h1 : lo ≤ n
  · go_enter Tryz.func35, Tryz.ntmps35
    go_wp2
    go_ret
    refine ⟨ret_bool ?_, rfl⟩
    unfold inB
    simp [h1]
  · have hd : decide (lo ≤ n) = false := decide_eq_false h1
    have HR : Hid (inB n lo hi = false) := by (have h : inB n lo hi = false := by (unfold inB; rw [hd]; rfl)); exact h
    go_enter Tryz.func35, Tryz.ntmps35
    go_wp2
    go_ret
    exact ⟨ret_bool HR.out.symm, rfl⟩

set_option maxHeartbeats 400000 in
theorem all1_any (n lo hi : Int) (B C : Nat) (W : World) (h1 : W.cell? ⟨B, 0, none⟩ = some (.int .i64 lo)) (h2 : W.cell? ⟨C, 0, none⟩ = some (.int .i64 hi)) :
    Calls Tryz.prog 105 #[.int .i64 n, .pointer (some ⟨B, 0, none⟩), .pointer (some ⟨C, 0, none⟩)] W fun e W' => e = .returned (.bool (!inB n lo hi)) ∧ Below W.heap.size W W' := by
  go_enter Tryz.func105, Tryz.ntmps105
  go_wp2_with fail
  refine (in_any _ _ _ _).mono ?_
  rintro e w1 ⟨rfl, rfl⟩
  go_wp2_with fail
  go_ret
  exact ⟨rfl, Below.refl _ _⟩

set_option maxHeartbeats 400000 in
theorem all_any (v : Value) (l : List Int) (lo hi : Int) (w : World) (hv : IsInts w v l) :
    Calls Tryz.prog 71 #[v, .int .i64 lo, .int .i64 hi] w fun e w' => e = .returned (.bool (allB l lo hi)) ∧ Below w.heap.size w w' := by
  have hb0 : Below w.heap.size w ((w.alloc (.cells #[.int .i64 lo] 3)).alloc (.cells #[.int .i64 hi] 3)) := by go_grown
  have hcon := containsFuncInts_any 105 #[.pointer (some ⟨w.heap.size, 0, none⟩), .pointer (some ⟨w.heap.size + 1, 0, none⟩)] (enters_of Tryz.func105 (by kernel_rfl) rfl) v l (fun i => !inB (l.getD i 0) lo hi)
    ((w.alloc (.cells #[.int .i64 lo] 3)).alloc (.cells #[.int .i64 hi] 3)) (hv.up up_int hb0) (fun i hi' W hW => by
      rw [getD_of_lt 0 hi']
      refine all1_any _ _ _ _ _ _ (cell_up hW (by rw [cell_block (alloc_old _ (alloc_new w _))]; rfl)) (cell_up hW (by rw [cell_block (by simpa using alloc_new (w.alloc (.cells #[.int .i64 lo] 3)) (.cells #[.int .i64 hi] 3))]; rfl)))
  have HV : Hid (allB l lo hi = !anyLt l.length fun i => !inB (l.getD i 0) lo hi) := by exact rfl
  generalize (anyLt l.length fun i => !inB (l.getD i 0) lo hi) = r at hcon HV
  have HC := Lib.hid hcon; clear hcon
  obtain ⟨pa, ca, rfl, la1, la2, _⟩ := hv.at
  clear hv
  go_enter Tryz.func71, Tryz.ntmps71
  go_wp2_with fail
  refine HC.out.mono ?_
  rintro e w1 ⟨rfl, hb1⟩
  go_wp2_with fail
  go_ret
  exact ⟨ret_bool HV.out.symm, ext_trans hb0 hb1⟩
end Go.Proofs.YtjmejfgkogjpaaaGreat

namespace Go.Proofs.YtjmejfgkogjpaaaGreat
open Go.RowKit Go Go.Shelf

theorem anyLt_at {n k : Nat} {p : Nat → Bool} (hk : k < n) (h : p k = true) : anyLt n p = true := anyLt_true n k p hk h
theorem anyLt_none {n : Nat} {p : Nat → Bool} (h : ∀ j, j < n → p j = false) : anyLt n p = false := anyLt_false n p h

set_option maxRecDepth 100000 in
set_option maxHeartbeats 4000000 in
theorem shaped_any (m : Mac) (vf vy vt vo : Value) (w : World) (hr : 0 ≤ m.rounds ∧ m.rounds ≤ 100) (hf : IsVecs w vf m.first) (hy : IsV4 w vy m.syms) (ho : IsV3 w vo m.out) :
    Calls Tryz.prog 36 #[.agg (macC m vf vy vt vo)] w fun e w' => e = .returned (.bool (shapedB m)) ∧ Below w.heap.size w w' := by
  obtain ⟨pf, cf, rfl, lf1, lf2, ef⟩ := hf.at
  obtain ⟨py, cy, rfl, ly1, ly2, ey⟩ := hy.at
  obtain ⟨po, co, rfl, lo1, lo2, eo⟩ := ho.at
  clear hf hy ho
  have EF := Lib.hid ef; clear ef
  have EY := Lib.hid ey; clear ey
  have EO := Lib.hid eo; clear eo
  obtain ⟨hr0, hr1⟩ := hr
  by_cases h1 : (m.first.length : Int) = m.n
  case neg =>
    have d1 : ((m.first.length : Int) != m.n) = true := by simpa using h1
    have HD : Hid (shapedB m = false) := by (have h : shapedB m = false := by (unfold shapedB; rw [if_pos (Or.inl h1)])); exact h
    go_enter Tryz.func36, Tryz.ntmps36
    go_wp2
    go_ret
    exact ⟨ret_bool HD.out.symm, by go_grown⟩
  have d1 : ((m.first.length : Int) != m.n) = false := by simpa using h1
  by_cases h2 : (m.out.length : Int) = m.rounds + 1
  case neg =>
    have d2 : ((m.out.length : Int) != m.rounds + 1) = true := by simpa using h2
    have HD : Hid (shapedB m = false) := by (have h : shapedB m = false := by (unfold shapedB; rw [if_pos (Or.inr (Or.inl h2))])); exact h
    clear h1 h2
    go_enter Tryz.func36, Tryz.ntmps36
    go_wp2
    go_ret
    exact ⟨ret_bool HD.out.symm, by go_grown⟩
  have d2 : ((m.out.length : Int) != m.rounds + 1) = false := by simpa using h2
  by_cases h3 : (m.syms.length : Int) = m.rounds
  case neg =>
    have d3 : ((m.syms.length : Int) != m.rounds) = true := by simpa using h3
    have HD : Hid (shapedB m = false) := by (have h : shapedB m = false := by (unfold shapedB; rw [if_pos (Or.inr (Or.inr h3))])); exact h
    clear h1 h2 h3
    go_enter Tryz.func36, Tryz.ntmps36
    go_wp2
    go_ret
    exact ⟨ret_bool HD.out.symm, by go_grown⟩
  have d3 : ((m.syms.length : Int) != m.rounds) = false := by simpa using h3
  have HD : Hid (shapedB m = if anyLt m.first.length (fun i => decide (((m.first.getD i []).length : Int) ≠ m.ins)) then false
      else if anyLt m.out.length (fun i => decide (((m.out.getD i []).length : Int) ≠ m.n)) then false else !anyLt m.syms.length (roundB m)) := by
    have h : shapedB m = if anyLt m.first.length (fun i => decide (((m.first.getD i []).length : Int) ≠ m.ins)) then false
      else if anyLt m.out.length (fun i => decide (((m.out.getD i []).length : Int) ≠ m.n)) then false else !anyLt m.syms.length (roundB m) := by
      unfold shapedB; rw [if_neg (by omega)]
    exact h
  have HOS : Hid (m.out.length = m.syms.length + 1) := by (have h : m.out.length = m.syms.length + 1 := by omega); exact h
  clear h1 h2 h3
  go_enter Tryz.func36, Tryz.ntmps36
  go_wp2
  refine wp_gen (fun W => Below w.heap.size w W ∧ W.heap[w.heap.size]? = some (.cells (macC m (.slice pf m.first.length cf) (.slice py m.syms.length cy) vt (.slice po m.out.length co)) 35)) ⟨by go_grown, alloc_new _ _⟩ (fun W0 hW0 => ?_)
  obtain ⟨hb0, hA0⟩ := hW0
  have t1 := cell_block hA0
  clear hA0
  go_loop [40] (fun i => ∃ k : Nat, k ≤ m.first.length ∧ i = .int .i64 k ∧ ∀ j, j < k → decide (((m.first.getD j []).length : Int) ≠ m.ins) = false) (fun i => m.first.length - (intOf i).toNat)
  case atStart => exact ⟨0, by omega, rfl, by simp⟩
  case round =>
    obtain ⟨k, hk, rfl, hinv⟩ := hrel
    have H := Lib.hid hinv; clear hinv
    by_cases hlt : k < m.first.length
    · obtain ⟨b1, o1, rfl, x, cx, hx⟩ := EF.out k hlt
      rw [Nat.mul_one] at cx
      have c1 := cell_up hb0 cx
      obtain ⟨px, qx, rfl, lx1, lx2, _⟩ := hx.at
      clear hx cx
      have HG := Lib.hid (getD_of_lt [] hlt)
      generalize m.first[k] = l at c1 lx1 lx2 HG
      by_cases hq : (l.length : Int) = m.ins
      · have dq : ((l.length : Int) != m.ins) = false := by simpa using hq
        have HQ := Lib.hid hq; clear hq
        go_wp2
        go_round
        case rel => exact ⟨k + 1, by omega, by go_num, below_succ H.out (by rw [HG.out]; simpa using HQ.out)⟩
        case measure => simp [intOf]; omega
      · have dq : ((l.length : Int) != m.ins) = true := by simpa using hq
        have HQ := Lib.hid hq; clear hq
        go_wp2
        go_ret
        exact ⟨ret_bool (by rw [HD.out, if_pos (anyLt_at hlt (by rw [HG.out]; simpa using HQ.out))]), hb0⟩
    · obtain rfl : k = m.first.length := by omega
      have HN := Lib.hid (anyLt_none H.out)
      go_wp2
      go_loop [53] (fun i => ∃ k : Nat, k ≤ m.out.length ∧ i = .int .i64 k ∧ ∀ j, j < k → decide (((m.out.getD j []).length : Int) ≠ m.n) = false) (fun i => m.out.length - (intOf i).toNat)
      case atStart => exact ⟨0, by omega, rfl, by simp⟩
      case round =>
        clear hk hlt H
        obtain ⟨k, hk, rfl, hinv⟩ := hrel
        have H := Lib.hid hinv; clear hinv
        by_cases hlt : k < m.out.length
        · obtain ⟨b1, o1, rfl, x, cx, hx⟩ := EO.out k hlt
          rw [Nat.mul_one] at cx
          have c1 := cell_up hb0 cx
          obtain ⟨px, qx, rfl, lx1, lx2, _⟩ := hx.at
          clear hx cx
          have HG := Lib.hid (getD_of_lt [] hlt)
          generalize m.out[k] = l at c1 lx1 lx2 HG
          by_cases hq : (l.length : Int) = m.n
          · have dq : ((l.length : Int) != m.n) = false := by simpa using hq
            have HQ := Lib.hid hq; clear hq
            go_wp2
            go_round
            case rel => exact ⟨k + 1, by omega, by go_num, below_succ H.out (by rw [HG.out]; simpa using HQ.out)⟩
            case measure => simp [intOf]; omega
          · have dq : ((l.length : Int) != m.n) = true := by simpa using hq
            have HQ := Lib.hid hq; clear hq
            go_wp2
            go_ret
            exact ⟨ret_bool (by rw [HD.out, HN.out, if_neg (by simp), if_pos (anyLt_at hlt (by rw [HG.out]; simpa using HQ.out))]), hb0⟩
        · obtain rfl : k = m.out.length := by omega
          have HM := Lib.hid (anyLt_none H.out)
          have HO := Lib.hid H.out
          have HDD : Hid (shapedB m = !anyLt m.syms.length (roundB m)) := by (have h : shapedB m = !anyLt m.syms.length (roundB m) := by (rw [HD.out, HN.out, HM.out]; simp)); exact h
          clear hk hlt H HM HN HD
          go_wp2
          go_loop [66] (fun i => ∃ k : Nat, k ≤ m.syms.length ∧ i = .int .i64 k ∧ ∀ j, j < k → roundB m j = false) (fun i => m.syms.length - (intOf i).toNat)
          case atStart => exact ⟨0, by omega, rfl, by simp⟩
          case round =>
            obtain ⟨k, hk, rfl, hinv⟩ := hrel
            have H := Lib.hid hinv; clear hinv
            by_cases hlt : k < m.syms.length
            · obtain ⟨b1, o1, rfl, x, cx, hx⟩ := EY.out k hlt
              rw [Nat.mul_one] at cx
              have c1 := cell_up hb0 cx
              obtain ⟨px, qx, rfl, lx1, lx2, ex⟩ := hx.at
              clear hx cx
              have hlo : k < m.out.length := by have := HOS.out; omega
              obtain ⟨b2, o2, rfl, y, cy', hy⟩ := EO.out k hlo
              rw [Nat.mul_one] at cy'
              have c2 := cell_up hb0 cy'
              obtain ⟨pz, qz, rfl, lz1, lz2, ez⟩ := hy.at
              clear hy cy'
              have HRB : Hid (roundB m k = (decide ((m.syms[k].length : Int) ≠ m.n) || anyLt m.syms[k].length (sendB m.n m.out[k] m.syms[k]))) := by
                (have h : roundB m k = (decide ((m.syms[k].length : Int) ≠ m.n) || anyLt m.syms[k].length (sendB m.n m.out[k] m.syms[k])) := by (unfold roundB; rw [getD_of_lt [] hlt, getD_of_lt [] hlo])); exact h
              have HOL : Hid ((m.out[k].length : Int) = m.n) := by (have h : (m.out[k].length : Int) = m.n := by (have := HO.out k hlo; rw [getD_of_lt [] hlo] at this; simpa using this)); exact h
              have EX := Lib.hid ex; clear ex
              have EZ := Lib.hid ez; clear ez
              have hlz : (k : Int) < (m.out.length : Int) := by omega
              generalize m.syms[k] = l at c1 lx1 lx2 HRB EX
              generalize m.out[k] = o at c2 lz1 lz2 HRB EZ HOL
              by_cases hq : (l.length : Int) = m.n
              · have dq : ((l.length : Int) != m.n) = false := by simpa using hq
                have hlo' : l.length = o.length := by have := HOL.out; omega
                have HQ := Lib.hid hq; clear hq
                go_wp2
                go_loop [78] (fun i => ∃ p : Nat, p ≤ l.length ∧ i = .int .i64 p ∧ ∀ j, j < p → sendB m.n o l j = false) (fun i => l.length - (intOf i).toNat)
                case atStart => exact ⟨0, by omega, rfl, by simp⟩
                case round =>
                  obtain ⟨p, hp, rfl, hinv⟩ := hrel
                  have H2 := Lib.hid hinv; clear hinv
                  by_cases hpl : p < l.length
                  · obtain ⟨b3, o3, rfl, x, cx, hx⟩ := EX.out p hpl
                    rw [Nat.mul_one] at cx
                    have c3 := cell_up hb0 cx
                    obtain ⟨pu, qu, rfl, lu1, lu2, eu⟩ := hx.at
                    clear hx cx
                    have hpo : p < o.length := by omega
                    obtain ⟨b4, o4, rfl, y, cy', hy⟩ := EZ.out p hpo
                    rw [Nat.mul_one] at cy'
                    have c4 := cell_up hb0 cy'
                    obtain ⟨pv, qv, rfl, lv1, lv2, _⟩ := hy.at
                    clear hy cy'
                    have HSB : Hid (sendB m.n o l p = (decide ((l[p].length : Int) ≠ m.n) || symB o p l[p])) := by (have h : sendB m.n o l p = (decide ((l[p].length : Int) ≠ m.n) || symB o p l[p]) := by (unfold sendB; rw [getD_of_lt [] hpl])); exact h
                    have HSY : Hid (symB o p l[p] = anyLt l[p].length fun q => decide ((l[p].getD q []).length ≠ if p = q then 0 else o[p].length)) := by (have h : symB o p l[p] = anyLt l[p].length fun q => decide ((l[p].getD q []).length ≠ if p = q then 0 else o[p].length) := by (unfold symB; rw [getD_of_lt [] hpo])); exact h
                    have EU := Lib.hid eu; clear eu
                    have hpo' : (p : Int) < (o.length : Int) := by omega
                    generalize l[p] = u at c3 lu1 lu2 HSB HSY EU
                    generalize o[p] = z at c4 lv1 lv2 HSY
                    by_cases hq2 : (u.length : Int) = m.n
                    · have dq2 : ((u.length : Int) != m.n) = false := by simpa using hq2
                      have HQ2 := Lib.hid hq2; clear hq2
                      go_wp2
                      go_loop [90] (fun i => ∃ q : Nat, q ≤ u.length ∧ i = .int .i64 q ∧ ∀ j, j < q → decide ((u.getD j []).length ≠ if p = j then 0 else z.length) = false) (fun i => u.length - (intOf i).toNat)
                      case atStart => exact ⟨0, by omega, rfl, by simp⟩
                      case round =>
                        obtain ⟨q, hq, rfl, hinv⟩ := hrel
                        have H3 := Lib.hid hinv; clear hinv
                        by_cases hql : q < u.length
                        · obtain ⟨b5, o5, rfl, x, cx, hx⟩ := EU.out q hql
                          rw [Nat.mul_one] at cx
                          have c5 := cell_up hb0 cx
                          obtain ⟨ps, qs, rfl, ls1, ls2, _⟩ := hx.at
                          clear hx cx
                          have HG := Lib.hid (getD_of_lt [] hql)
                          generalize u[q] = s at c5 ls1 ls2 HG
                          by_cases hpq : p = q
                          · subst hpq
                            by_cases hz : s.length = 0
                            · have dz : ((s.length : Int) != 0) = false := by simpa using hz
                              have HZ := Lib.hid hz; clear hz
                              go_wp2
                              go_round
                              case rel => exact ⟨p + 1, by omega, by go_num, below_succ H3.out (by rw [HG.out]; simpa using HZ.out)⟩
                              case measure => simp [intOf]; omega
                            · have dz : ((s.length : Int) != 0) = true := by simpa using hz
                              have HZ := Lib.hid hz; clear hz
                              go_wp2
                              go_ret
                              exact ⟨ret_bool (by rw [HDD.out, anyLt_at hlt (by rw [HRB.out, anyLt_at hpl (by rw [HSB.out, HSY.out, anyLt_at hql (by rw [HG.out]; simpa using HZ.out)]; simp)]; simp)]; rfl), hb0⟩
                          · have dpq : ((p : Int) == (q : Int)) = false := by simp; omega
                            by_cases hz : s.length = z.length
                            · have dz : ((s.length : Int) != (z.length : Int)) = false := by simp; omega
                              have HZ := Lib.hid hz; clear hz
                              go_wp2
                              go_round
                              case rel => exact ⟨q + 1, by omega, by go_num, below_succ H3.out (by rw [HG.out, if_neg hpq]; simpa using HZ.out)⟩
                              case measure => simp [intOf]; omega
                            · have dz : ((s.length : Int) != (z.length : Int)) = true := by simp; omega
                              have HZ := Lib.hid hz; clear hz
                              go_wp2
                              go_ret
                              exact ⟨ret_bool (by rw [HDD.out, anyLt_at hlt (by rw [HRB.out, anyLt_at hpl (by rw [HSB.out, HSY.out, anyLt_at hql (by rw [HG.out, if_neg hpq]; simpa using HZ.out)]; simp)]; simp)]; rfl), hb0⟩
                        · obtain rfl : q = u.length := by omega
                          go_wp2
                          go_round
                          case rel => exact ⟨p + 1, by omega, by go_num, below_succ H2.out (by rw [HSB.out, HSY.out, anyLt_none H3.out]; simpa using HQ2.out)⟩
                          case measure => simp [intOf]; omega
                    · have dq2 : ((u.length : Int) != m.n) = true := by simpa using hq2
                      have HQ2 := Lib.hid hq2; clear hq2
                      go_wp2
                      go_ret
                      exact ⟨ret_bool (by rw [HDD.out, anyLt_at hlt (by rw [HRB.out, anyLt_at hpl (by rw [HSB.out]; simp; exact Or.inl HQ2.out)]; simp)]; rfl), hb0⟩
                  · obtain rfl : p = l.length := by omega
                    go_wp2
                    go_round
                    case rel => exact ⟨k + 1, by omega, by go_num, below_succ H.out (by rw [HRB.out, anyLt_none H2.out]; simpa using HQ.out)⟩
                    case measure => simp [intOf]; omega
              · have dq : ((l.length : Int) != m.n) = true := by simpa using hq
                have HQ := Lib.hid hq; clear hq
                go_wp2
                go_ret
                exact ⟨ret_bool (by rw [HDD.out, anyLt_at hlt (by rw [HRB.out]; simp; exact Or.inl HQ.out)]; rfl), hb0⟩
            · obtain rfl : k = m.syms.length := by omega
              go_wp2
              go_ret
              exact ⟨ret_bool (by rw [HDD.out, anyLt_none H.out]; rfl), hb0⟩
end Go.Proofs.YtjmejfgkogjpaaaGreat

namespace Go.Proofs.YtjmejfgkogjpaaaGreat
open Go.RowKit Go Go.Shelf

def lenS (l : List (List Int)) : Nat := (l.map List.length).sum
theorem lenS_snoc (l : List (List Int)) (i : Nat) (hi : i < l.length) : lenS (l.take (i + 1)) = lenS (l.take i) + l[i].length := by
  unfold lenS; rw [List.take_succ_eq_append_getElem hi, List.map_append, List.sum_append, List.map_cons, List.map_nil, List.sum_cons, List.sum_nil, Nat.add_zero]
def lenT (l : List (List (List Int))) : Nat := (l.map lenS).sum
theorem lenT_snoc (l : List (List (List Int))) (i : Nat) (hi : i < l.length) : lenT (l.take (i + 1)) = lenT (l.take i) + lenS l[i] := by
  unfold lenT; rw [List.take_succ_eq_append_getElem hi, List.map_append, List.sum_append, List.map_cons, List.map_nil, List.sum_cons, List.sum_nil, Nat.add_zero]
theorem statesN_eq (m : Mac) : statesN m = lenT m.out := rfl

set_option maxHeartbeats 1000000 in
theorem states_any (m : Mac) (vf vy vt vo : Value) (w : World) (h1 : m.out.length ≤ 7) (h2 : ∀ k (hk : k < m.out.length), m.out[k].length ≤ 5) (ho : IsV3 w vo m.out) :
    Calls Tryz.prog 37 #[.agg (macC m vf vy vt vo)] w fun e w' => e = .returned (.int .i64 (statesN m)) ∧ Below w.heap.size w w' := by
  obtain ⟨po, co, rfl, lo1, lo2, eo⟩ := ho.at
  clear ho
  have EO := Lib.hid eo; clear eo
  have H2 := Lib.hid h2; clear h2
  have HS := Lib.hid (statesN_eq m)
  go_enter Tryz.func37, Tryz.ntmps37
  go_wp2
  refine wp_gen (fun W => Below w.heap.size w W ∧ W.heap[w.heap.size]? = some (.cells (macC m vf vy vt (.slice po m.out.length co)) 35)) ⟨by go_grown, alloc_new _ _⟩ (fun W0 hW0 => ?_)
  obtain ⟨hb0, hA0⟩ := hW0
  have t1 := cell_block hA0
  clear hA0
  go_loop [3, 11] (fun s i => ∃ k n : Nat, k ≤ m.out.length ∧ i = .int .i64 k ∧ s = .int .i64 n ∧ n ≤ k * 87960930222080 ∧ n = lenT (m.out.take k)) (fun _ i => m.out.length - (intOf i).toNat)
  case atStart => exact ⟨0, 0, by omega, rfl, rfl, by omega, by simp [lenT]⟩
  case round =>
    obtain ⟨k, n, hk, rfl, rfl, hn, hs⟩ := hrel
    have HN := Lib.hid hs; clear hs
    by_cases hlt : k < m.out.length
    · obtain ⟨b1, o1, rfl, x, cx, hx⟩ := EO.out k hlt
      rw [Nat.mul_one] at cx
      have c1 := cell_up hb0 cx
      obtain ⟨px, qx, rfl, lx1, lx2, ex⟩ := hx.at
      clear hx cx
      have hl5 := H2.out k hlt
      have HK := Lib.hid (lenT_snoc m.out k hlt)
      have EX := Lib.hid ex; clear ex
      generalize m.out[k] = l at c1 lx1 lx2 EX hl5 HK
      go_wp2
      go_loop [3, 17] (fun s i => ∃ q c : Nat, q ≤ l.length ∧ i = .int .i64 q ∧ s = .int .i64 c ∧ c ≤ k * 87960930222080 + q * 17592186044416 ∧ c = n + lenS (l.take q)) (fun _ i => l.length - (intOf i).toNat)
      case atStart => exact ⟨0, n, by omega, rfl, rfl, (by rw [Nat.zero_mul, Nat.add_zero]; exact hn), by simp [lenS]⟩
      case round =>
        obtain ⟨q, c, hq, rfl, rfl, hc, hs⟩ := hrel
        have HC := Lib.hid hs; clear hs
        by_cases hql : q < l.length
        · obtain ⟨b2, o2, rfl, y, cy, hy⟩ := EX.out q hql
          rw [Nat.mul_one] at cy
          have c2 := cell_up hb0 cy
          obtain ⟨py, qy, rfl, ly1, ly2, _⟩ := hy.at
          clear hy cy
          have HL := Lib.hid (lenS_snoc l q hql)
          generalize l[q] = u at c2 ly1 ly2 HL
          go_wp2
          go_round
          case rel => exact ⟨q + 1, c + u.length, by omega, by go_num, by go_num, by omega, by rw [HL.out, HC.out]; omega⟩
          case measure => simp [intOf]; omega
        · obtain rfl : q = l.length := by omega
          go_wp2
          go_round
          case rel => exact ⟨k + 1, c, by omega, by go_num, rfl, by omega, by rw [HK.out, HC.out, HN.out, List.take_length]⟩
          case measure => simp [intOf]; omega
    · obtain rfl : k = m.out.length := by omega
      go_wp2
      go_ret
      exact ⟨ret_int (by rw [HS.out, HN.out, List.take_length]), hb0⟩

set_option maxHeartbeats 400000 in
theorem ranged1_any (x : Value) (l : List Int) (m : Mac) (vf vy vt vo : Value) (B : Nat) (W : World) (ho : 1 ≤ m.outs ∧ m.outs ≤ 8) (hx : IsInts W x l) (hB : W.heap[B]? = some (.cells (macC m vf vy vt vo) 35)) :
    Calls Tryz.prog 73 #[x, .pointer (some ⟨B, 0, none⟩)] W fun e W' => e = .returned (.bool (!allB l (-1) (m.outs - 1))) ∧ Below W.heap.size W W' := by
  have HC := Lib.hid (all_any x l (-1) (m.outs - 1) W hx)
  obtain ⟨_, _, rfl, _⟩ := hx
  have t1 := cell_block hB
  obtain ⟨ho1, ho2⟩ := ho
  have hlt := block_lt hB
  clear hB
  go_enter Tryz.func73, Tryz.ntmps73
  go_wp2_with fail
  refine HC.out.mono ?_
  rintro e w1 ⟨rfl, hb1⟩
  go_wp2_with fail
  go_ret
  exact ⟨rfl, hb1⟩

set_option maxHeartbeats 400000 in
theorem ranged2_any (x : Value) (l : List Int) (W : World) (hx : IsInts W x l) :
    Calls Tryz.prog 74 #[x] W fun e W' => e = .returned (.bool (!allB l 0 1048576)) ∧ Below W.heap.size W W' := by
  have HC := Lib.hid (all_any x l 0 1048576 W hx)
  obtain ⟨_, _, rfl, _⟩ := hx
  go_enter Tryz.func74, Tryz.ntmps74
  go_wp2_with fail
  refine HC.out.mono ?_
  rintro e w1 ⟨rfl, hb1⟩
  go_wp2_with fail
  go_ret
  exact ⟨rfl, hb1⟩

def outBad (m : Mac) (k : Nat) : Bool := anyLt (m.out.getD k []).length fun p => !allB ((m.out.getD k []).getD p []) (-1) (m.outs - 1)
def sendBad (l : List (List (List Int))) (p : Nat) : Bool := anyLt (l.getD p []).length fun q => !allB ((l.getD p []).getD q []) 0 1048576
def symBad (m : Mac) (k : Nat) : Bool := anyLt (m.syms.getD k []).length (sendBad (m.syms.getD k []))
def firstBad (m : Mac) (p : Nat) : Bool := !allB (m.first.getD p []) (-1) ((((m.out.getD 0 []).getD p []).length : Int) - 1)
theorem rangedB_eq (m : Mac) : rangedB m = if anyLt m.first.length (firstBad m) then false else if anyLt m.out.length (outBad m) then false else !anyLt m.syms.length (symBad m) := rfl

set_option maxRecDepth 100000 in
set_option maxHeartbeats 4000000 in
theorem ranged_any (m : Mac) (vf vy vt vo : Value) (w : World) (h1 : 0 < m.out.length) (h2 : m.first.length ≤ (m.out.getD 0 []).length) (h3 : 1 ≤ m.outs ∧ m.outs ≤ 8) (hf : IsVecs w vf m.first) (hy : IsV4 w vy m.syms) (ho : IsV3 w vo m.out) :
    Calls Tryz.prog 38 #[.agg (macC m vf vy vt vo)] w fun e w' => e = .returned (.bool (rangedB m)) ∧ Below w.heap.size w w' := by
  obtain ⟨pf, cf, rfl, lf1, lf2, ef⟩ := hf.at
  obtain ⟨py, cy, rfl, ly1, ly2, ey⟩ := hy.at
  obtain ⟨po, co, rfl, lo1, lo2, eo⟩ := ho.at
  clear hf hy ho
  have EF := Lib.hid ef; clear ef
  have EY := Lib.hid ey; clear ey
  have EO := Lib.hid eo; clear eo
  have HD := Lib.hid (rangedB_eq m)
  have H3 := Lib.hid h3; clear h3
  have e1 := enters_of Tryz.func73 (by kernel_rfl) rfl
  have e2 := enters_of Tryz.func74 (by kernel_rfl) rfl
  go_enter Tryz.func38, Tryz.ntmps38
  go_wp2
  refine wp_gen (fun W => Below w.heap.size w W ∧ W.heap[w.heap.size]? = some (.cells (macC m (.slice pf m.first.length cf) (.slice py m.syms.length cy) vt (.slice po m.out.length co)) 35)) ⟨by go_grown, alloc_new _ _⟩ (fun W0 hW0 => ?_)
  obtain ⟨hb0, hA0⟩ := hW0
  have HA := Lib.hid hA0; clear hA0
  go_loopw [14] (fun i wr => Below W0.heap.size W0 wr ∧ ∃ k : Nat, k ≤ m.first.length ∧ i = .int .i64 k ∧ ∀ j, j < k → firstBad m j = false) (fun i _ => m.first.length - (intOf i).toNat)
  case atStart => exact ⟨Below.refl _ _, 0, by omega, rfl, by simp⟩
  case round =>
    obtain ⟨hbr0, k, hk, rfl, hinv⟩ := hrel
    have H := Lib.hid hinv; clear hinv
    have hbr := ext_trans hb0 hbr0
    have t1 := cell_block (block_up hbr0 HA.out)
    by_cases hlt : k < m.first.length
    · obtain ⟨b1, o1, rfl, x, cx, hx⟩ := EF.out k hlt
      rw [Nat.mul_one] at cx
      have c1 := cell_up hbr cx
      have hx' := hx.up up_int hbr
      clear cx
      obtain ⟨b2, o2, rfl, y, cy', hy⟩ := EO.out 0 h1
      rw [Nat.zero_mul, Nat.add_zero] at cy'
      have c2 := cell_up hbr cy'
      obtain ⟨pz, qz, rfl, lz1, lz2, ez⟩ := hy.at
      clear hy cy'
      have hko : k < m.out[0].length := by rw [getD_of_lt [] h1] at h2; omega
      obtain ⟨b3, o3, rfl, z, cz, hz⟩ := ez k hko
      rw [Nat.mul_one] at cz
      have c3 := cell_up hbr cz
      obtain ⟨pu, qu, rfl, lu1, lu2, _⟩ := hz.at
      clear hz cz ez
      have HB : Hid (firstBad m k = !allB m.first[k] (-1) ((m.out[0][k].length : Int) - 1)) := by (have h : firstBad m k = !allB m.first[k] (-1) ((m.out[0][k].length : Int) - 1) := by (unfold firstBad; rw [getD_of_lt [] hlt, getD_of_lt [] h1, getD_of_lt [] hko])); exact h
      have HC := Lib.hid (all_any x m.first[k] (-1) ((m.out[0][k].length : Int) - 1) wr hx')
      obtain ⟨px, qx, rfl, lx1, lx2, _⟩ := hx'.at
      clear hx hx'
      generalize m.out[0][k] = u at c3 lu1 lu2 HB HC
      have hko' : (k : Int) < (m.out[0].length : Int) := by omega
      generalize m.out[0] = o at c2 lz1 lz2 hko hko'
      generalize m.first[k] = l at c1 lx1 lx2 HB HC
      generalize allB l (-1) ((u.length : Int) - 1) = r at HB HC
      have h0o : (0 : Int) < (m.out.length : Int) := by omega
      cases r with
      | true =>
        go_wp2_with fail
        refine HC.out.mono ?_
        rintro e w1 ⟨rfl, hb1⟩
        go_wp2_with fail
        go_roundw
        case rel => exact ⟨ext_trans hbr0 hb1, k + 1, by omega, by go_num, below_succ H.out HB.out⟩
        case measure => simp [intOf]; omega
      | false =>
        go_wp2_with fail
        refine HC.out.mono ?_
        rintro e w1 ⟨rfl, hb1⟩
        go_wp2_with fail
        go_ret
        exact ⟨ret_bool (by rw [HD.out, if_pos (anyLt_at hlt HB.out)]), ext_trans hbr hb1⟩
    · obtain rfl : k = m.first.length := by omega
      have HN := Lib.hid (anyLt_none H.out)
      go_wp2
      clear t1 hbr H hk hlt
      go_loopw [35] (fun i ws => Below W0.heap.size W0 ws ∧ ∃ k : Nat, k ≤ m.out.length ∧ i = .int .i64 k ∧ ∀ j, j < k → outBad m j = false) (fun i _ => m.out.length - (intOf i).toNat)
      case atStart => exact ⟨hbr0, 0, by omega, rfl, by simp⟩
      case round =>
        clear hbr0
        rename World => ws
        obtain ⟨hbr0, k, hk, rfl, hinv⟩ := hrel
        have H := Lib.hid hinv; clear hinv
        have hbr := ext_trans hb0 hbr0
        have hA1 := block_up hbr0 HA.out
        have t1 := cell_block hA1
        by_cases hlt : k < m.out.length
        · obtain ⟨b1, o1, rfl, x, cx, hx⟩ := EO.out k hlt
          rw [Nat.mul_one] at cx
          have c1 := cell_up hbr cx
          have hx' := hx.up up_ints hbr
          clear cx
          have HB : Hid (outBad m k = anyLt m.out[k].length fun p => !allB (m.out[k].getD p []) (-1) (m.outs - 1)) := by (have h : outBad m k = anyLt m.out[k].length fun p => !allB (m.out[k].getD p []) (-1) (m.outs - 1) := by (unfold outBad; rw [getD_of_lt [] hlt])); exact h
          have HC := Lib.hid (containsFuncVecs_any 73 #[.pointer (some ⟨w.heap.size, 0, none⟩)] e1 x m.out[k] (fun p => !allB (m.out[k].getD p []) (-1) (m.outs - 1)) ws hx' (fun i hi y hy W hW => by
            rw [getD_of_lt [] hi]
            exact ranged1_any y m.out[k][i] m _ _ _ _ _ W H3.out (hy.up up_int hW) (block_up hW hA1)))
          obtain ⟨px, qx, rfl, lx1, lx2, _⟩ := hx'.at
          clear hx hx'
          generalize m.out[k] = l at c1 lx1 lx2 HB HC
          generalize (anyLt l.length fun p => !allB (l.getD p []) (-1) (m.outs - 1)) = r at HB HC
          cases r with
          | false =>
            go_wp2_with fail
            refine HC.out.mono ?_
            rintro e w1 ⟨rfl, hb1⟩
            go_wp2_with fail
            go_roundw
            case rel => exact ⟨ext_trans hbr0 hb1, k + 1, by omega, by go_num, below_succ H.out HB.out⟩
            case measure => simp [intOf]; omega
          | true =>
            go_wp2_with fail
            refine HC.out.mono ?_
            rintro e w1 ⟨rfl, hb1⟩
            go_wp2_with fail
            go_ret
            exact ⟨ret_bool (by rw [HD.out, HN.out, if_neg (by simp), if_pos (anyLt_at hlt HB.out)]), ext_trans hbr hb1⟩
        · obtain rfl : k = m.out.length := by omega
          have HDD : Hid (rangedB m = !anyLt m.syms.length (symBad m)) := by (have h : rangedB m = !anyLt m.syms.length (symBad m) := by (rw [HD.out, HN.out, anyLt_none H.out]; simp)); exact h
          go_wp2
          clear t1 hbr H hk hlt HN HD hA1
          go_loopw [46] (fun i wt => Below W0.heap.size W0 wt ∧ ∃ k : Nat, k ≤ m.syms.length ∧ i = .int .i64 k ∧ ∀ j, j < k → symBad m j = false) (fun i _ => m.syms.length - (intOf i).toNat)
          case atStart => exact ⟨hbr0, 0, by omega, rfl, by simp⟩
          case round =>
            clear hbr0
            rename World => wt
            obtain ⟨hbr0, k, hk, rfl, hinv⟩ := hrel
            have H := Lib.hid hinv; clear hinv
            have hbr := ext_trans hb0 hbr0
            by_cases hlt : k < m.syms.length
            · obtain ⟨b1, o1, rfl, x, cx, hx⟩ := EY.out k hlt
              rw [Nat.mul_one] at cx
              have c1 := cell_up hbr cx
              obtain ⟨px, qx, rfl, lx1, lx2, ex⟩ := hx.at
              have EX := Lib.hid ex
              clear hx cx ex
              have HB : Hid (symBad m k = anyLt m.syms[k].length (sendBad m.syms[k])) := by (have h : symBad m k = anyLt m.syms[k].length (sendBad m.syms[k]) := by (unfold symBad; rw [getD_of_lt [] hlt])); exact h
              generalize m.syms[k] = l at c1 lx1 lx2 HB EX
              go_wp2
              clear c1
              go_loopw [52] (fun i wu => Below W0.heap.size W0 wu ∧ ∃ p : Nat, p ≤ l.length ∧ i = .int .i64 p ∧ ∀ j, j < p → sendBad l j = false) (fun i _ => l.length - (intOf i).toNat)
              case atStart => exact ⟨hbr0, 0, by omega, rfl, by simp⟩
              case round =>
                clear hbr0 hbr
                rename World => wu
                obtain ⟨hbr0, p, hp, rfl, hinv⟩ := hrel
                have H2 := Lib.hid hinv; clear hinv
                have hbr := ext_trans hb0 hbr0
                by_cases hpl : p < l.length
                · obtain ⟨b2, o2, rfl, x, cx, hx⟩ := EX.out p hpl
                  rw [Nat.mul_one] at cx
                  have c1 := cell_up hbr cx
                  have hx' := hx.up up_ints hbr
                  clear cx
                  have HS : Hid (sendBad l p = anyLt l[p].length fun q => !allB (l[p].getD q []) 0 1048576) := by (have h : sendBad l p = anyLt l[p].length fun q => !allB (l[p].getD q []) 0 1048576 := by (unfold sendBad; rw [getD_of_lt [] hpl])); exact h
                  have HC := Lib.hid (containsFuncVecs_any 74 #[] e2 x l[p] (fun q => !allB (l[p].getD q []) 0 1048576) wu hx' (fun i hi y hy W hW => by
                    rw [getD_of_lt [] hi]
                    exact ranged2_any y l[p][i] W (hy.up up_int hW)))
                  obtain ⟨py, qy, rfl, ly1, ly2, _⟩ := hx'.at
                  clear hx hx'
                  generalize l[p] = u at c1 ly1 ly2 HS HC
                  generalize (anyLt u.length fun q => !allB (u.getD q []) 0 1048576) = r at HS HC
                  cases r with
                  | false =>
                    go_wp2_with fail
                    refine HC.out.mono ?_
                    rintro e w1 ⟨rfl, hb1⟩
                    go_wp2_with fail
                    go_roundw
                    case rel => exact ⟨ext_trans hbr0 hb1, p + 1, by omega, by go_num, below_succ H2.out HS.out⟩
                    case measure => simp [intOf]; omega
                  | true =>
                    go_wp2_with fail
                    refine HC.out.mono ?_
                    rintro e w1 ⟨rfl, hb1⟩
                    go_wp2_with fail
                    go_ret
                    exact ⟨ret_bool (by rw [HDD.out, anyLt_at hlt (by rw [HB.out]; exact anyLt_at hpl HS.out)]; rfl), ext_trans hbr hb1⟩
                · obtain rfl : p = l.length := by omega
                  go_wp2
                  go_roundw
                  case rel => exact ⟨hbr0, k + 1, by omega, by go_num, below_succ H.out (by rw [HB.out]; exact anyLt_none H2.out)⟩
                  case measure => simp [intOf]; omega
            · obtain rfl : k = m.syms.length := by omega
              go_wp2
              go_ret
              exact ⟨ret_bool (by rw [HDD.out, anyLt_none H.out]; rfl), hbr⟩
end Go.Proofs.YtjmejfgkogjpaaaGreat

namespace Go.Proofs.YtjmejfgkogjpaaaGreat

def orI (l : List Int) : Int := firstNZ l.length fun i => l.getD i 0
def orderI (a b : St) : Int := orI [cmpI a.rd b.rd, cmpI a.pr b.pr, ordV a.heard b.heard]
/-- the error of step i: its own, or that of the order -/
def stepsE (m : Mac) (i : Nat) : Int :=
  if stepE m (m.steps.getD i default) ≠ 0 then stepE m (m.steps.getD i default)
  else if 0 < i ∧ 0 ≤ orderI (m.steps.getD (i - 1) default) (m.steps.getD i default) then 14 else 0
def headE (m : Mac) : Bool := !inB m.n 1 5 || !inB m.rounds 0 6 || !inB m.ins 1 8 || !inB m.outs 1 8
def checkE (m : Mac) : Int :=
  if headE m then 2 else if !shapedB m then 15 else if 8192 < statesN m ∨ 65536 < m.steps.length then 5
  else if !rangedB m then 2 else firstNZ m.steps.length (stepsE m)

/-! ### words of rounds -/
def beforeF (l : List Rd) (i : Nat) : Int := if i = 0 then 0 else (l.getD (i - 1) default).f
def wordRE (n : Int) (l : List Rd) (i : Nat) : Int :=
  if roundE (l.getD i default) ≠ 0 then roundE (l.getD i default) else if (l.getD i default).g.n ≠ n then 22 else if !insideB (beforeF l i) (l.getD i default).f then 14 else 0
def wordE (n : Int) (l : List Rd) : Int := if n < 1 ∨ 5 < n then 1 else if 1024 < l.length then 5 else firstNZ l.length (wordRE n l)

/-! ### runs -/
structure Pl where
  rd : Int
  pr : Int
  h0 : Int
  h1 : Int
  h2 : Int
  h3 : Int
  h4 : Int
instance : DecidableEq Pl := fun a b => decidable_of_iff (a.rd = b.rd ∧ a.pr = b.pr ∧ a.h0 = b.h0 ∧ a.h1 = b.h1 ∧ a.h2 = b.h2 ∧ a.h3 = b.h3 ∧ a.h4 = b.h4) (by cases a; cases b; simp)
def St.pl (s : St) : Pl := ⟨s.rd, s.pr, s.h0, s.h1, s.h2, s.h3, s.h4⟩
/-- where a step leads -/
def stepTo (m : Mac) (x : Pl) : Option Int := (m.steps.find? fun s => decide (x = s.pl)).map (·.to)
/-- the symbol of a state of a sender for a receiver -/
def symS (m : Mac) (k q p : Nat) (s : Int) : Int := (((m.syms.getD k []).getD q []).getD p []).getD s.toNat 0
def hearsF (m : Mac) (k p : Nat) (now : List Int) (set : Int) (q : Nat) : Int :=
  if q = p then now.getD p 0 else if (q : Int) < m.n ∧ hasB set q = true then symS m k q p (now.getD q 0) else -1
def hearsP (m : Mac) (k p : Nat) (now : List Int) (set : Int) : Pl :=
  ⟨k, p, hearsF m k p now set 0, hearsF m k p now set 1, hearsF m k p now set 2, hearsF m k p now set 3, hearsF m k p now set 4⟩
def nextP (m : Mac) (k : Nat) (now : List Int) (r : Rd) (p : Nat) : Option Int := stepTo m (hearsP m k p now (r.g.hear p))
/-- the states behind round k, if no step is missing -/
def nextS (m : Mac) (k : Nat) (now : List Int) (r : Rd) : Option (List Int) :=
  if anyLt m.n.toNat (fun p => (nextP m k now r p).isNone) then none else some ((List.range m.n.toNat).map fun p => (nextP m k now r p).getD 0)
def firstS (m : Mac) (inputs : List Int) : List Int := (List.range m.n.toNat).map fun p => (m.first.getD p []).getD (inputs.getD p 0).toNat 0
def runFrom (m : Mac) (k : Nat) (now : List Int) : List Rd → List (List Int)
  | [] => [now]
  | r :: rest => match nextS m k now r with | none => [now] | some x => now :: runFrom m (k + 1) x rest
def runL (m : Mac) (inputs : List Int) (word : List Rd) : List (List Int) :=
  if (firstS m inputs).contains (-1) then [] else runFrom m 0 (firstS m inputs) word
theorem runFrom_head (m : Mac) (k : Nat) (now : List Int) (word : List Rd) : (runFrom m k now word)[0]? = some now := by
  cases word with
  | nil => rfl
  | cons r rest => unfold runFrom; split <;> rfl
theorem runFrom_pos (m : Mac) (k : Nat) (now : List Int) (word : List Rd) : 0 < (runFrom m k now word).length := by
  have := runFrom_head m k now word
  cases h : runFrom m k now word with
  | nil => rw [h] at this; cases this
  | cons x l => simp
theorem runFrom_le (m : Mac) (k : Nat) (now : List Int) (word : List Rd) : (runFrom m k now word).length ≤ word.length + 1 := by
  induction word generalizing k now with
  | nil => simp [runFrom]
  | cons r rest ih =>
    unfold runFrom
    split
    · simp
    · rename_i x _
      have := ih (k + 1) x
      simp; omega
/-- what follows the states with number i -/
theorem runFrom_step (m : Mac) (k : Nat) (now : List Int) (word : List Rd) (i : Nat) (x : List Int) (hx : (runFrom m k now word)[i]? = some x) (hi : i < word.length) :
    (∀ y, nextS m (k + i) x word[i] = some y → (runFrom m k now word)[i + 1]? = some y) ∧ (nextS m (k + i) x word[i] = none → (runFrom m k now word).length = i + 1) := by
  induction word generalizing k now i with
  | nil => simp at hi
  | cons r rest ih =>
    cases i with
    | zero =>
      rw [runFrom_head] at hx
      cases hx
      refine ⟨fun y hy => ?_, fun hy => ?_⟩
      · simp only [Nat.add_zero, List.getElem_cons_zero] at hy
        unfold runFrom
        rw [hy]
        simp only [List.getElem?_cons_succ]
        exact runFrom_head _ _ _ _
      · simp only [Nat.add_zero, List.getElem_cons_zero] at hy
        unfold runFrom
        rw [hy]; rfl
    | succ i =>
      unfold runFrom at hx ⊢
      cases hn : nextS m k now r with
      | none => rw [hn] at hx; simp at hx
      | some z =>
        rw [hn] at hx
        simp only [List.getElem?_cons_succ] at hx
        have := ih (k + 1) z i hx (by simpa using hi)
        simp only [List.getElem_cons_succ, List.getElem?_cons_succ, List.length_cons]
        rw [show k + (i + 1) = k + 1 + i by omega]
        exact ⟨this.1, fun h => by rw [this.2 h]⟩
theorem nextS_length {m : Mac} {k : Nat} {now x : List Int} {r : Rd} (h : nextS m k now r = some x) : x.length = m.n.toNat := by
  unfold nextS at h
  split at h
  · cases h
  · cases h; simp

/-! ### plays -/
def playE (m : Mac) (inputs : List Int) (word : List Rd) : Int :=
  if checkE m ≠ 0 then checkE m else if (inputs.length : Int) ≠ m.n then 15 else if !allB inputs 0 (m.ins - 1) then 2
  else if wordE m.n word ≠ 0 then wordE m.n word else if (word.length : Int) ≠ m.rounds then 15 else if ((runL m inputs word).length : Int) ≠ m.rounds + 1 then 20 else 0
end Go.Proofs.YtjmejfgkogjpaaaGreat

namespace Go.Proofs.YtjmejfgkogjpaaaGreat
open Go.RowKit Go Go.Shelf

def upd (D : Nat → Bool) (i : Nat) : Nat → Bool := fun j => if j = i then true else D j
theorem upd_count (D : Nat → Bool) (i : Nat) (hi : D i = false) (l : List Nat) : l.countP (fun j => !upd D i j) + (if i ∈ l then 1 else 0) ≤ l.countP (fun j => !D j) := by
  induction l with
  | nil => simp
  | cons x t ih =>
    rw [List.countP_cons, List.countP_cons]
    by_cases hx : x = i
    · subst hx
      have h1 : (!upd D x x) = false := by simp [upd]
      have h2 : (!D x) = true := by simp [hi]
      rw [h1, h2]
      simp only [List.mem_cons, true_or, if_true]
      have : t.countP (fun j => !upd D x j) ≤ t.countP (fun j => !D j) := by
        refine Nat.le_trans ?_ ih
        omega
      simp
      omega
    · have h1 : (!upd D i x) = !D x := by simp [upd, hx]
      rw [h1]
      have hm : (if i ∈ x :: t then 1 else 0) = (if i ∈ t then 1 else 0) := by
        have : i ∈ x :: t ↔ i ∈ t := by simp [Ne.symm hx]
        simp only [this]
      rw [hm]
      omega
/-- every edge leads back; the last operation waits for all others -/
def growB (ops : Array Oper) (n : Nat) : Bool :=
  (List.range (n + 1)).all (fun i => match ops[i]? with | some o => o.after.all fun e => decide (e.on < i) | none => false) &&
  (List.range n).all (fun j => match ops[n]? with | some o => o.after.any fun e => Region.binds .any e && decide (e.on = j) | none => false)
theorem growB_back {ops : Array Oper} {n : Nat} (h : growB ops n = true) {i : Nat} {o : Oper} (hi : i < n + 1) (ho : ops[i]? = some o) : ∀ e ∈ o.after, e.on < i := by
  simp only [growB, Bool.and_eq_true, List.all_eq_true] at h
  have := h.1 i (List.mem_range.2 hi)
  rw [ho] at this
  intro e he
  have := Array.all_eq_true'.1 this e he
  simpa using this
theorem growB_last {ops : Array Oper} {n : Nat} (h : growB ops n = true) {o : Oper} (ho : ops[n]? = some o) {j : Nat} (hj : j < n) : ∃ e ∈ o.after, Region.binds .any e = true ∧ e.on = j := by
  simp only [growB, Bool.and_eq_true, List.all_eq_true] at h
  have := h.2 j (List.mem_range.2 hj)
  rw [ho] at this
  obtain ⟨e, he, h2⟩ := Array.any_eq_true'.1 this
  simp at h2
  exact ⟨e, he, h2.1, h2.2⟩

theorem wpOp_mono' {P : Program} {ops : Array Oper} {Q : Exit → Act → World → Prop} {i : Nat} {K K' : Act → World → Prop} {a : Act} {w : World} (h : ∀ a w, K a w → K' a w) (hh : wpOp P ops Q i K a w) : wpOp P ops Q i K' a w := by
  unfold wpOp at hh ⊢
  split at hh
  · exact h _ _ hh
  · split at hh
    · rename_i hw
      rw [if_pos hw]
      rcases hh with hh | hh
      · exact .inl (Oper.wp_mono h hh)
      · exact .inr hh
    · rename_i hw
      rw [if_neg hw]
      exact h _ _ hh

theorem wpAny_grow {P : Program} {ops : Array Oper} {Q : Exit → Act → World → Prop} {n : Nat} (hn : ops.size = n + 1) (hB : growB ops n = true) (Inv : (Nat → Bool) → Act → World → Prop)
    (hstep : ∀ D a w i o, i < n → ops[i]? = some o → D i = false → (∀ e ∈ o.after, Region.binds .any e = true → D e.on = true) → Inv D a w → wpOp P ops Q i (fun a' w' => Inv (upd D i) a' w') a w)
    (hend : ∀ D a w, (∀ j, j < n → D j = true) → Inv D a w → wpOp P ops Q n (fun a' w' => Q .normal a' w') a w) :
    ∀ (fuel : Nat) (L : Array Bool) (a : Act) (w : World), L.size = n + 1 → (List.range (n + 1)).countP (fun j => !L.getD j false) ≤ fuel →
      ((L.getD n true = false ∧ Inv (fun j => L.getD j false) a w) ∨ ((∀ j, j < n + 1 → L.getD j false = true) ∧ Q .normal a w)) → wpAny P .any ops Q fuel L a w := by
  intro fuel
  induction fuel with
  | zero =>
    rintro L a w hL hc (⟨h1, _⟩ | ⟨h1, h2⟩)
    · have h3 : (List.range (n + 1)).countP (fun j => !L.getD j false) = 0 := by omega
      rw [List.countP_eq_zero] at h3
      have := h3 n (List.mem_range.2 (by omega))
      rw [show L.getD n false = L.getD n true by simp [Array.getD, hL]] at this
      rw [h1] at this
      simp at this
    · refine ⟨?_, h2⟩
      refine List.eq_nil_iff_forall_not_mem.2 fun j hj => ?_
      obtain ⟨hj1, o, ho, _⟩ := mem_ready.1 hj
      have hjn : j < n + 1 := by have := (Array.getElem?_eq_some_iff.1 ho).1; omega
      have := h1 j hjn
      rw [show L.getD j false = L.getD j true by simp [Array.getD, hL, hjn]] at this
      rw [hj1] at this; cases this
  | succ fuel ih =>
    rintro L a w hL hc (⟨h1, h2⟩ | ⟨h1, h2⟩)
    · have hDn : L.getD n false = false := by rw [show L.getD n false = L.getD n true by simp [Array.getD, hL]]; exact h1
      refine ⟨fun hr => ?_, fun i hi => ?_⟩
      · exfalso
        have key : ∀ j, j < n + 1 → L.getD j false = true := by
          intro j
          induction j using Nat.strongRecOn with
          | ind j ihj =>
            intro hj
            cases hv : L.getD j false with
            | true => rfl
            | false =>
              exfalso
              obtain ⟨o, ho⟩ : ∃ o, ops[j]? = some o := ⟨ops[j]'(by omega), Array.getElem?_eq_getElem _⟩
              have : j ∈ Region.ready .any ops L := mem_ready.2 ⟨by rw [show L.getD j true = L.getD j false by simp [Array.getD, hL, hj]]; exact hv, o, ho, fun e he _ => by
                have := growB_back hB hj ho e he
                exact ihj e.on this (by omega)⟩
              rw [hr] at this
              cases this
        have := key n (by omega)
        rw [hDn] at this; cases this
      · obtain ⟨hi1, o, ho, hdep⟩ := mem_ready.1 hi
        have hin : i < n + 1 := by have := (Array.getElem?_eq_some_iff.1 ho).1; omega
        have hiD : L.getD i false = false := by rw [show L.getD i false = L.getD i true by simp [Array.getD, hL, hin]]; exact hi1
        have hupd : (fun j => (L.setIfInBounds i true).getD j false) = upd (fun j => L.getD j false) i := by
          funext j
          unfold upd
          by_cases hji : j = i
          · subst hji; simp [Array.getD, hL, hin]
          · rw [if_neg hji]
            simp only [Array.getD, Array.size_setIfInBounds]
            split
            · exact Array.getElem_setIfInBounds_ne _ (Ne.symm hji)
            · rfl
        have hcnt : (List.range (n + 1)).countP (fun j => !(L.setIfInBounds i true).getD j false) ≤ fuel := by
          have h3 := upd_count (fun j => L.getD j false) i hiD (List.range (n + 1))
          rw [if_pos (List.mem_range.2 hin)] at h3
          have h4 : (fun j => !(L.setIfInBounds i true).getD j false) = fun j => !upd (fun j => L.getD j false) i j := by
            funext j; rw [← hupd]
          rw [h4]
          omega
        by_cases hlt : i < n
        · refine wpOp_mono' (fun a' w' h => ih (L.setIfInBounds i true) a' w' (by simpa using hL) hcnt (.inl ⟨?_, by rw [hupd]; exact h⟩)) (hstep (fun j => L.getD j false) a w i o hlt ho hiD hdep h2)
          have h5 := congrFun hupd n
          unfold upd at h5
          rw [if_neg (by omega)] at h5
          dsimp only at h5
          rw [hDn] at h5
          rw [show (L.setIfInBounds i true).getD n true = (L.setIfInBounds i true).getD n false by simp [Array.getD, hL]]
          exact h5
        · obtain rfl : i = n := by omega
          have hall : ∀ j, j < i → L.getD j false = true := fun j hj => by
            obtain ⟨e, he, hb, rfl⟩ := growB_last hB ho hj
            exact hdep e he hb
          refine wpOp_mono' (fun a' w' h => ih (L.setIfInBounds i true) a' w' (by simpa using hL) hcnt (.inr ⟨fun j hj => ?_, h⟩)) (hend (fun j => L.getD j false) a w hall h2)
          have := congrFun hupd j
          rw [this]
          unfold upd
          by_cases hji : j = i
          · simp [hji]
          · rw [if_neg hji]; exact hall j (by omega)
    · have hr : Region.ready .any ops L = [] := by
        refine List.eq_nil_iff_forall_not_mem.2 fun j hj => ?_
        obtain ⟨hj1, o, ho, _⟩ := mem_ready.1 hj
        have hjn : j < n + 1 := by have := (Array.getElem?_eq_some_iff.1 ho).1; omega
        have := h1 j hjn
        rw [show L.getD j false = L.getD j true by simp [Array.getD, hL, hjn]] at this
        rw [hj1] at this; cases this
      exact ⟨fun _ => h2, fun i hi => by rw [hr] at hi; cases hi⟩

/-- The law. -/
theorem wp_region_grow {P : Program} {id : Nat} {l : List Oper} {Q : Exit → Act → World → Prop} {a : Act} {w : World} (n : Nat) (hm : P.follows .mixedOrders = true) (hn : l.toArray.size = n + 1) (hB : growB l.toArray n = true) (Inv : (Nat → Bool) → Act → World → Prop)
    (h0 : Inv (fun _ => false) a w.drew)
    (hstep : ∀ D a w i o, i < n → l.toArray[i]? = some o → D i = false → (∀ e ∈ o.after, Region.binds .any e = true → D e.on = true) → Inv D a w → wpOp P l.toArray Q i (fun a' w' => Inv (upd D i) a' w') a w)
    (hend : ∀ D a w, (∀ j, j < n → D j = true) → Inv D a w → wpOp P l.toArray Q n (fun a' w' => Q .normal a' w') a w) : (Code.region id l.toArray true).wp P Q a w := by
  refine wp_region_any hm ?_
  refine wpAny_grow hn hB Inv hstep hend _ _ _ _ (by rw [Array.size_replicate, hn]) ?_ (.inl ⟨?_, ?_⟩)
  · rw [hn]; exact Nat.le_trans List.countP_le_length (by simp)
  · simp [Array.getD, hn]
  · have : (fun j => (Array.replicate l.toArray.size false).getD j false) = fun _ => false := by
      funext j
      simp only [Array.getD]
      split <;> simp
    rw [this]; exact h0

theorem upon_then {P : Program} {o : Oper} {a : Act} {K next : Act → World → Prop} {Q : Exit → Act → World → Prop} {r : Result Next} (h : o.upon P a next (Exit.then K Q) r) : o.upon P a next Q r := by
  cases r with
  | ok x w' =>
    cases x with
    | enter f args =>
      refine Calls.mono h ?_
      rintro e w'' he
      cases e with
      | returned v => exact he
      | panicked ch => exact he
      | outgrown => exact he
    | _ => exact h
  | halt x w' => cases x <;> exact h
/-- One operation, walked alone. -/
theorem wpOp_one {P : Program} {ops : Array Oper} {Q : Exit → Act → World → Prop} {i : Nat} {o : Oper} {K : Act → World → Prop} {a : Act} {w : World} (ho : ops[i]? = some o)
    (h : wpList P ops (Exit.then K Q) [o] a w) : wpOp P ops Q i K a w := by
  unfold wpOp
  rw [ho]
  unfold wpList at h
  dsimp only
  split at h
  · rename_i hw
    rw [if_pos hw]
    rcases h with h | ⟨h1, h2⟩
    · exact .inl (upon_then h)
    · exact .inr ⟨h1, h2⟩
  · rename_i hw
    rw [if_neg hw]
    exact h
/-- A slice that was just made. -/
def NewSl (base n : Nat) (cs : Array Value) (t : TypeId) (x : Value) (w : World) : Prop := ∃ b, x = .slice (some ⟨b, 0, none⟩) n n ∧ base ≤ b ∧ w.heap[b]? = some (.cells cs t)
theorem NewSl.up {base n : Nat} {cs : Array Value} {t : TypeId} {x : Value} {w w' : World} (h : NewSl base n cs t x w) (hb : Below w.heap.size w w') : NewSl base n cs t x w' := by
  obtain ⟨b, e, hl, hc⟩ := h
  exact ⟨b, e, hl, block_up hb hc⟩
def NewBox (base : Nat) (cs : Array Value) (t : TypeId) (x : Value) (w : World) : Prop := ∃ b, x = .pointer (some ⟨b, 0, none⟩) ∧ base ≤ b ∧ w.heap[b]? = some (.cells cs t)
theorem NewBox.up {base : Nat} {cs : Array Value} {t : TypeId} {x : Value} {w w' : World} (h : NewBox base cs t x w) (hb : Below w.heap.size w w') : NewBox base cs t x w' := by
  obtain ⟨b, e, hl, hc⟩ := h
  exact ⟨b, e, hl, block_up hb hc⟩

end Go.Proofs.YtjmejfgkogjpaaaGreat
