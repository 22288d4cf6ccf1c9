/-
  Parts of the proof, in order. Contracts of the reference's Moves and move of adversaries. Conditions: the arguments read as an adversary. Contract of the reference's grows of adversaries. Conditions: the argument reads as an adversary whose states are without errors. Contracts of the reference's Check, To, After, Few of adversaries. Conditions: the arguments read as an adversary. Contracts of the reference's To, After, Few of adversaries. Conditions: the arguments read as an adversary; its states are without errors where a word is followed. Contract of the reference's Number of adversaries. Conditions: the argument reads as an adversary whose states are without errors; few rounds. Contracts of the reference's Check, Number and Few of problems, and of Faulty. Conditions: the arguments read as a problem, a word. Plain facts: the faulty processes behind a permitted word are a set of processes; the program's way of finding the process that is responsible for an output finds the reference's one. It proves nothing of the program. Contracts of the reference's agrees and Judge. Conditions: the arguments read as a problem without errors, a word and decisions of all processes. Contracts of the reference's Judge and Blame. Conditions: the arguments read as a problem, inputs, a word and decisions.
-/
import Derived.Test.YtlfnfphkhokdiaaJ6
namespace Go.Proofs.Ytlfnfphkhokdiaa
open Go.RowKit Go Go.Shelf

set_option maxHeartbeats 1000000 in
theorem rmoves_any (n : Int) (v : Value) (l : List (List Mv)) (w : World) (hv : IsStates w v l) (hN : movesN l < 2305843009213693952) :
    Calls Try.prog 31 #[.agg #[.int .i64 n, v]] w fun e w' => e = .returned (.int .i64 (movesN l)) ∧ Below w.heap.size w w' := by
  obtain ⟨pa, ca, rfl, la1, la2, ea⟩ := hv.at
  clear hv
  have EA := Lib.hid ea; clear ea
  go_enter Try.func31, Try.ntmps31
  go_wp2
  refine wp_gen (fun W => Below w.heap.size w W ∧ W.heap[w.heap.size]? = some (.cells #[.int .i64 n, .slice pa l.length ca] 27)) ⟨by go_grown, alloc_new _ _⟩ (fun W0 hW0 => ?_)
  obtain ⟨hb0, hA0⟩ := hW0
  have t1 := cell_block hA0 1
  simp at t1
  clear hA0
  go_loop [3, 4] (fun o i => ∃ k : Nat, k ≤ l.length ∧ i = .int .i64 k ∧ o = .int .i64 (cnt l k)) (fun _ i => l.length - (intOf i).toNat)
  case atStart => exact ⟨0, by omega, rfl, by rw [cnt_zero]; rfl⟩
  case round =>
    obtain ⟨k, hk, rfl, rfl⟩ := hrel
    by_cases hlt : k < l.length
    · obtain ⟨b1, o1, rfl, x, cx, hx⟩ := EA.out k hlt
      rw [Nat.mul_one] at cx
      have c1 := cell_up hb0 cx
      have hcl := cnt_le l k hlt
      have HCS := Lib.hid (cnt_succ l k hlt)
      obtain ⟨px, qx, rfl, _⟩ := hx
      clear cx
      generalize cnt l k = c at hcl HCS
      go_wp2
      go_round
      case rel => exact ⟨k + 1, by omega, by go_num, by rw [HCS.out]; go_num⟩
      case measure => simp [intOf]; omega
    · go_wp2
      go_ret
      exact ⟨ret_int (by rw [cnt_all l k (by omega)]), hb0⟩

set_option maxRecDepth 100000 in
set_option maxHeartbeats 4000000 in
theorem rmove_any (a : Adv) (ps : Option Addr) (cs : Nat) (vl : Value) (l : List Mv) (k : Nat) (hlt : k < l.length) (w : World) (hv : IsMoves w vl l) :
    Calls Try.prog 47 #[.agg #[.int .i64 a.n, .slice ps a.states.length cs], vl, .int .i64 k] w fun e w' => e = .returned (.int .i64 (moveE a l k)) ∧ Below w.heap.size w w' := by
  obtain ⟨pc, cc, rfl, l1, m1, e1⟩ := hv.at
  clear hv
  have E := Lib.hid e1; clear e1
  obtain ⟨b1, o1, rfl, ⟨⟨c0, _⟩, ⟨c1, _⟩, ⟨c2, _⟩, ⟨c3, _⟩, ⟨c4, _⟩, ⟨c5, _⟩, ⟨c6, _⟩⟩, ⟨c7, hc7⟩⟩ := E.out k hlt
  have hlb : b1 < w.heap.size := cell_lt c0
  have hlb' : b1 < w.heap.size + 1 := by omega
  have HO : Hid (moveE a l k = if roundE l[k].r ≠ 0 then roundE l[k].r else if l[k].r.g.n ≠ a.n then 22 else if 0 < k ∧ 0 ≤ roundC (l.getD (k - 1) default).r l[k].r then 14 else if l[k].to < 0 ∨ (a.states.length : Int) ≤ l[k].to then 2 else 0) := by
    have h : moveE a l k = if roundE l[k].r ≠ 0 then roundE l[k].r else if l[k].r.g.n ≠ a.n then 22 else if 0 < k ∧ 0 ≤ roundC (l.getD (k - 1) default).r l[k].r then 14 else if l[k].to < 0 ∨ (a.states.length : Int) ≤ l[k].to then 2 else 0 := by unfold moveE; rw [getD_of_lt default hlt]
    exact h
  have hcc := c7
  generalize l[k] = m at c0 c1 c2 c3 c4 c5 c6 c7 hc7 HO hcc
  have HC7 := Lib.hid hcc; clear hcc
  go_enter Try.func47, Try.ntmps47
  go_wp2_with fail
  refine calls_gen (fun V => Below w.heap.size w V ∧ V.heap[w.heap.size]? = some (.cells #[.int .i64 a.n, .slice ps a.states.length cs] 27) ∧ V.heap[w.heap.size + 1]? = some (.cells #[.int .i64 m.r.g.n, .int .i64 m.r.g.h0, .int .i64 m.r.g.h1, .int .i64 m.r.g.h2, .int .i64 m.r.g.h3, .int .i64 m.r.g.h4, .int .i64 m.r.f] 62)) ⟨by go_grown, alloc_old _ (alloc_new _ _), by simpa using alloc_new (w.alloc _) _⟩ (fun V hV => ?_)
  obtain ⟨hbV, hT, hC⟩ := hV
  have HT := Lib.hid hT
  have HC := Lib.hid hC
  clear hT hC c0 c1 c2 c3 c4 c5 c6 c7
  refine (rroundCheck_any m.r V).mono ?_
  rintro e w1 ⟨rfl, hb1⟩
  have hWU := ext_trans hbV hb1
  have s1 := cell_block (block_up hb1 HT.out)
  have s2 := cell_block (block_up hb1 HC.out)
  generalize roundE m.r = er at HO
  by_cases her : er = 0
  case neg =>
    have her' : (er != 0) = true := by simpa using her
    go_wp2_with fail
    go_ret
    exact ⟨ret_int (by rw [HO.out, if_pos her]), hWU⟩
  subst her
  by_cases hmn : m.r.g.n = a.n
  case neg =>
    have hmn' : (m.r.g.n != a.n) = true := by simpa using hmn
    go_wp2_with fail
    go_ret
    exact ⟨ret_int (by rw [HO.out, if_neg (by simp), if_pos hmn]), hWU⟩
  have hmn' : (m.r.g.n != a.n) = false := by simpa using hmn
  have HO1 : Hid (moveE a l k = if 0 < k ∧ 0 ≤ roundC (l.getD (k - 1) default).r m.r then 14 else if m.to < 0 ∨ (a.states.length : Int) ≤ m.to then 2 else 0) := by
    have h : moveE a l k = if 0 < k ∧ 0 ≤ roundC (l.getD (k - 1) default).r m.r then 14 else if m.to < 0 ∨ (a.states.length : Int) ≤ m.to then 2 else 0 := by rw [HO.out, if_neg (by simp), if_neg (by simpa using hmn)]
    exact h
  clear HO hmn
  go_wp2_with fail
  clear hmn' s1 s2
  by_cases hk0 : k = 0
  case' pos =>
    have HO2 : Hid (moveE a l k = if m.to < 0 ∨ (a.states.length : Int) ≤ m.to then 2 else 0) := by (have h : moveE a l k = if m.to < 0 ∨ (a.states.length : Int) ≤ m.to then 2 else 0 := by (rw [HO1.out, if_neg (by omega)])); exact h
    have hd : decide ((0 : Int) < (k : Int)) = false := decide_eq_false (by omega)
    have hd2 : decide (0 < k) = false := decide_eq_false (by omega)
    clear HO1 hk0
    refine wp_region_quiet_ext (by kernel_rfl) (by kernel_rfl) ?_
    repeat (go_big_quiet_step (fail))
    refine wpQuiet_nil ?_
    intro _ hw'
    obtain ⟨xq, hw''⟩ := hw'
    subst hw''
    clear hd hd2
  case' neg =>
    obtain ⟨j, hj⟩ : ∃ j, k = j + 1 := ⟨k - 1, by omega⟩
    have hjl : j < l.length := by omega
    have HJ := Lib.hid hj
    obtain ⟨b2, o2, e2, ⟨⟨c0, _⟩, ⟨c1, _⟩, ⟨c2, _⟩, ⟨c3, _⟩, ⟨c4, _⟩, ⟨c5, _⟩, ⟨c6, _⟩⟩, _⟩ := E.out j hjl
    obtain ⟨rfl, rfl⟩ : b1 = b2 ∧ o1 = o2 := by simpa using e2
    clear e2
    have hd : decide ((0 : Int) < (k : Int)) = true := decide_eq_true (by omega)
    have hd2 : 0 < k := by omega
    have HO3 : Hid (moveE a l k = if 0 ≤ roundC l[j].r m.r then 14 else if m.to < 0 ∨ (a.states.length : Int) ≤ m.to then 2 else 0) := by
      have h : moveE a l k = if 0 ≤ roundC l[j].r m.r then 14 else if m.to < 0 ∨ (a.states.length : Int) ≤ m.to then 2 else 0 := by
        rw [HO1.out]
        have e : k - 1 = j := by omega
        rw [e, getD_of_lt default hjl]
        grind
      exact h
    clear HO1 hk0 hj
    have hw1 : IntKind.i64.wrap ((k : Int) - 1) = (j : Int) := by rw [HJ.out]; rw [IntWalk.i64_in _ (by omega)]; omega
    generalize l[j] = m2 at c0 c1 c2 c3 c4 c5 c6 HO3
    have r1 : ∀ x : ExtW w1, ∀ o, x.val.cell? ⟨w.heap.size, o, none⟩ = _ := fun x => cell_block (block_up (ext_trans hb1 x.ext) HT.out)
    have r2 : ∀ x : ExtW w1, ∀ o, x.val.cell? ⟨w.heap.size + 1, o, none⟩ = _ := fun x => cell_block (block_up (ext_trans hb1 x.ext) HC.out)
    have k0 : ∀ x : ExtW w1, x.val.cell? _ = _ := fun x => x.cell (cell_up hWU c0)
    have k1 : ∀ x : ExtW w1, x.val.cell? _ = _ := fun x => x.cell (cell_up hWU c1)
    have k2 : ∀ x : ExtW w1, x.val.cell? _ = _ := fun x => x.cell (cell_up hWU c2)
    have k3 : ∀ x : ExtW w1, x.val.cell? _ = _ := fun x => x.cell (cell_up hWU c3)
    have k4 : ∀ x : ExtW w1, x.val.cell? _ = _ := fun x => x.cell (cell_up hWU c4)
    have k5 : ∀ x : ExtW w1, x.val.cell? _ = _ := fun x => x.cell (cell_up hWU c5)
    have k6 : ∀ x : ExtW w1, x.val.cell? _ = _ := fun x => x.cell (cell_up hWU c6)
    clear c0 c1 c2 c3 c4 c5 c6
    refine wp_region_quiet_ext (by kernel_rfl) (by kernel_rfl) ?_
    repeat (go_big_quiet_step ((go_at_call 62; exact Calls.ext_of (rroundCompare_any m2.r m.r _))))
    refine wpQuiet_nil ?_
    intro _ hw'
    obtain ⟨xq, hw''⟩ := hw'
    subst hw''
    clear r1 r2 k0 k1 k2 k3 k4 k5 k6 hd hd2 hw1
    generalize roundC m2.r m.r = oo at HO3
    by_cases hoo : 0 ≤ oo
    · go_wp2_with fail
      go_ret
      exact ⟨ret_int (by rw [HO3.out, if_pos hoo]), ext_trans hWU xq.ext⟩
    have HO2 : Hid (moveE a l k = if m.to < 0 ∨ (a.states.length : Int) ≤ m.to then 2 else 0) := by (have h : moveE a l k = if m.to < 0 ∨ (a.states.length : Int) ≤ m.to then 2 else 0 := by (rw [HO3.out, if_neg hoo])); exact h
    clear HO3 HJ
  all_goals
    have hb5 := ext_trans hWU xq.ext
    have hT5 := block_up (ext_trans hb1 xq.ext) HT.out
    generalize xq.val = W5 at hb5 hT5 ⊢
    have r1 : ∀ n o, (W5.drewN n).cell? ⟨w.heap.size, o, none⟩ = _ := fun n => cell_block hT5
    have r7 : ∀ n, (W5.drewN n).cell? _ = _ := fun n => cell_up hb5 HC7.out
    clear hT5
    by_cases ht : m.to < 0
    · go_wp2_with fail
      go_quiet (fail)
      go_wp2_with fail
      go_ret
      exact ⟨ret_int (by rw [HO2.out, if_pos (by omega)]), below_drewN hb5 _⟩
    · have hd : decide (m.to < 0) = false := decide_eq_false ht
      go_wp2_with fail
      go_quiet (fail)
      go_wp2_with fail
      · go_ret
        refine ⟨ret_int ?_, below_drewN hb5 _⟩
        rw [HO2.out]
        go_light
        grind
      · go_ret
        refine ⟨ret_int ?_, below_drewN hb5 _⟩
        rw [HO2.out]
        go_light
        grind
end Go.Proofs.Ytlfnfphkhokdiaa

namespace Go.Proofs.Ytlfnfphkhokdiaa
open Go.RowKit Go Go.Shelf

theorem badAt_eq (a : Adv) (s j : Nat) (hs : s < a.states.length) (hj : j < a.states[s].length) :
    badAt a (cnt a.states s + j) = anyLt (a.states.getD a.states[s][j].to.toNat []).length fun k => !insideB a.states[s][j].r.f ((a.states.getD a.states[s][j].to.toNat []).getD k default).r.f := by
  unfold badAt nextL; rw [mvAt_eq _ s j hs hj]
theorem badAt_at (a : Adv) (s j u : Nat) (hs : s < a.states.length) (hj : j < a.states[s].length) (hu : u < a.states.length) (h : a.states[s][j].to = u) :
    badAt a (cnt a.states s + j) = anyLt a.states[u].length fun k => !insideB a.states[s][j].r.f (a.states[u].getD k default).r.f := by
  rw [badAt_eq a s j hs hj, h, Int.toNat_natCast, getD_of_lt [] hu]

set_option maxRecDepth 100000 in
set_option maxHeartbeats 4000000 in
theorem rgrows_any (a : Adv) (v : Value) (w : World) (hv : IsStates w v a.states) (hok : ∀ s, s < a.states.length → stateE a (a.states.getD s []) = 0) :
    Calls Try.prog 48 #[.agg #[.int .i64 a.n, v]] w fun e w' => e = .returned (.bool (growsB a)) ∧ Below w.heap.size w w' := by
  obtain ⟨pa, ca, rfl, la1, la2, ea⟩ := hv.at
  clear hv
  have EA := Lib.hid ea; clear ea
  have HOK := Lib.hid hok; clear hok
  have HV : Hid (growsB a = !anyLt (movesN a.states) (badAt a)) := by exact rfl
  go_enter Try.func48, Try.ntmps48
  go_wp2
  refine wp_gen (fun W => Below w.heap.size w W ∧ W.heap[w.heap.size]? = some (.cells #[.int .i64 a.n, .slice pa a.states.length ca] 27)) ⟨by go_grown, alloc_new _ _⟩ (fun W0 hW0 => ?_)
  obtain ⟨hb0, hA0⟩ := hW0
  have HA := Lib.hid hA0; clear hA0
  go_loopw [3] (fun i wr => Below W0.heap.size W0 wr ∧ ∃ s : Nat, s ≤ a.states.length ∧ i = .int .i64 s ∧ ∀ j, j < cnt a.states s → badAt a j = false) (fun i _ => a.states.length - (intOf i).toNat)
  case atStart => exact ⟨Below.refl _ _, 0, by omega, rfl, by rw [cnt_zero]; simp⟩
  case round =>
    obtain ⟨hbr0, s, hs, rfl, hinv⟩ := hrel
    have H := Lib.hid hinv; clear hinv
    have hbr := ext_trans hb0 hbr0
    have t1 := cell_block (block_up hbr0 HA.out)
    by_cases hlt : s < a.states.length
    · obtain ⟨b1, o1, rfl, x, cx, hx⟩ := EA.out s hlt
      rw [Nat.mul_one] at cx
      obtain ⟨px, qx, rfl, x1, x2, ex⟩ := hx.at
      have EX := Lib.hid ex
      have CX := Lib.hid cx
      have HCS := Lib.hid (cnt_succ a.states s hlt)
      have hcl := cnt_le a.states s hlt
      clear hx cx ex
      go_wp2
      clear t1
      go_loopw [4] (fun i ws => Below wr.heap.size wr ws ∧ ∃ m : Nat, m ≤ a.states[s].length ∧ i = .int .i64 m ∧ ∀ j, j < cnt a.states s + m → badAt a j = false) (fun i _ => a.states[s].length - (intOf i).toNat)
      case atStart => exact ⟨Below.refl _ _, 0, by omega, rfl, by simpa using H.out⟩
      case round =>
        obtain ⟨hbs0, m, hm, rfl, hinv⟩ := hrel
        rename World => ws
        have H2 := Lib.hid hinv; clear hinv
        have hbs5 := ext_trans hbr0 hbs0
        have hbs := ext_trans hbr hbs0
        have t1 := cell_block (block_up hbs5 HA.out)
        have c1 := cell_up hbs CX.out
        have hsz := block_lt (block_up hbs5 HA.out)
        have hb1 : b1 < ws.heap.size := cell_lt c1
        by_cases hml : m < a.states[s].length
        · obtain ⟨b3, o3, rfl, ⟨⟨d0, _⟩, ⟨d1, _⟩, ⟨d2, _⟩, ⟨d3, _⟩, ⟨d4, _⟩, ⟨d5, _⟩, ⟨d6, _⟩⟩, ⟨d7, _⟩⟩ := EX.out m hml
          have hso := states_ok HOK.out hlt hml
          obtain ⟨u, hu⟩ : ∃ u : Nat, a.states[s][m].to = u := ⟨a.states[s][m].to.toNat, by omega⟩
          have hul : u < a.states.length := by omega
          have HBA := Lib.hid (badAt_at a s m u hlt hml hul hu)
          rw [hu] at d7
          have hf1 := hso.1
          obtain ⟨b4, o4, e4, y, cy, hy⟩ := EA.out u hul
          obtain ⟨rfl, rfl⟩ : b1 = b4 ∧ o1 = o4 := by simpa using e4
          rw [Nat.mul_one] at cy
          obtain ⟨py, qy, rfl, y1, y2, ey⟩ := hy.at
          have EY := Lib.hid ey
          have CY := Lib.hid cy
          have HSO := Lib.hid (fun j (hj : j < a.states[u].length) => (states_ok HOK.out hul hj).1)
          have g0 := cell_up hbs d0
          have g1 := cell_up hbs d1
          have g2 := cell_up hbs d2
          have g3 := cell_up hbs d3
          have g4 := cell_up hbs d4
          have g5 := cell_up hbs d5
          have g6 := cell_up hbs d6
          have g7 := cell_up hbs d7
          clear hu hso hy cy ey e4 d0 d1 d2 d3 d4 d5 d6 d7
          generalize a.states[s][m] = mv at g0 g1 g2 g3 g4 g5 g6 HBA hf1
          go_wp2
          refine wp_gen (fun W => Below ws.heap.size ws W ∧ W.heap[ws.heap.size]? = some (.cells #[.int .i64 mv.r.g.n, .int .i64 mv.r.g.h0, .int .i64 mv.r.g.h1, .int .i64 mv.r.g.h2, .int .i64 mv.r.g.h3, .int .i64 mv.r.g.h4, .int .i64 mv.r.f, .int .i64 u] 84)) ⟨by go_grown, alloc_new _ _⟩ (fun W6 hW6 => ?_)
          obtain ⟨hb6, hM6⟩ := hW6
          have HM6 := Lib.hid hM6
          clear hM6 g0 g1 g2 g3 g4 g5 g6 g7 t1 c1 hsz hb1
          go_loopw [6] (fun i wt => Below W6.heap.size W6 wt ∧ ∃ q : Nat, q ≤ a.states[u].length ∧ i = .int .i64 q ∧ ∀ j, j < q → (!insideB mv.r.f (a.states[u].getD j default).r.f) = false) (fun i _ => a.states[u].length - (intOf i).toNat)
          case atStart => exact ⟨Below.refl _ _, 0, by omega, rfl, by simp⟩
          case round =>
            obtain ⟨hbt0, q, hq, rfl, hinv⟩ := hrel
            rename World => wt
            have H3 := Lib.hid hinv; clear hinv
            have hbt6 := ext_trans hb6 hbt0
            have hbt5 := ext_trans hbs5 hbt6
            have hbt := ext_trans hbs hbt6
            have t1 := cell_block (block_up hbt5 HA.out)
            have t2 := cell_block (block_up hbt0 HM6.out)
            have c2 := cell_up hbt CY.out
            by_cases hql : q < a.states[u].length
            · obtain ⟨b5, o5, rfl, ⟨_, _, _, _, _, _, ⟨f6, _⟩⟩, _⟩ := EY.out q hql
              have hf2 := HSO.out q hql
              have HNX := Lib.hid (getD_of_lt default hql)
              generalize a.states[u][q] = nx at f6 hf2 HNX
              have HCALL := Lib.hid (fun x : ExtW wt => Calls.ext_of ((rinside_any mv.r.f nx.r.f (by omega) (by omega) x.val).mono (fun _ _ ⟨h1, h2⟩ => ⟨h1, h2 ▸ Below.refl _ _⟩)))
              go_wp2_with fail
              have r1 : ∀ x : ExtW wt, ∀ o, x.val.cell? ⟨w.heap.size, o, none⟩ = _ := fun x => cell_block (block_up (ext_trans hbt5 x.ext) HA.out)
              have r2 : ∀ x : ExtW wt, ∀ o, x.val.cell? ⟨ws.heap.size, o, none⟩ = _ := fun x => cell_block (block_up (ext_trans hbt0 x.ext) HM6.out)
              have r3 : ∀ x : ExtW wt, x.val.cell? ⟨b1, o1 + u, none⟩ = _ := fun x => x.cell c2
              have r4 : ∀ x : ExtW wt, x.val.cell? _ = _ := fun x => x.cell (cell_up hbt f6)
              clear t1 t2 c2 f6
              cases hin : insideB mv.r.f nx.r.f with
              | false =>
                rw [hin] at HCALL
                have HIN := Lib.hid hin; clear hin
                refine wp_region_quiet_ext (by kernel_rfl) (by kernel_rfl) ?_
                repeat (go_big_quiet_step ((go_at_call 63; exact HCALL.out _)))
                refine wpQuiet_nil ?_
                intro _ hw'
                obtain ⟨xq, hw''⟩ := hw'
                subst hw''
                clear r1 r2 r3 r4 HCALL
                go_wp2_with fail
                go_ret
                refine ⟨ret_bool ?_, ext_trans hbt xq.ext⟩
                rw [HV.out, anyLt_true _ (cnt a.states s + m) _ (by omega) (by rw [HBA.out]; exact anyLt_true _ q _ hql (by rw [HNX.out, HIN.out]; rfl))]
                rfl
              | true =>
                rw [hin] at HCALL
                have HIN := Lib.hid hin; clear hin
                refine wp_region_quiet_ext (by kernel_rfl) (by kernel_rfl) ?_
                repeat (go_big_quiet_step ((go_at_call 63; exact HCALL.out _)))
                refine wpQuiet_nil ?_
                intro _ hw'
                obtain ⟨xq, hw''⟩ := hw'
                subst hw''
                clear r1 r2 r3 r4 HCALL
                go_wp2_with fail
                go_roundw
                case rel => exact ⟨ext_trans hbt0 xq.ext, q + 1, by omega, by go_num, below_succ H3.out (by rw [HNX.out, HIN.out]; rfl)⟩
                case measure => simp [intOf]; omega
            · go_wp2_with fail
              go_roundw
              case rel =>
                refine ⟨ext_trans hbs0 hbt6, m + 1, by omega, by go_num, ?_⟩
                rw [← Nat.add_assoc]
                refine below_succ H2.out ?_
                rw [HBA.out]
                exact anyLt_false _ _ fun j hj => H3.out j (by omega)
              case measure => simp [intOf]; omega
        · go_wp2_with fail
          go_roundw
          case rel =>
            refine ⟨ext_trans hbr0 hbs0, s + 1, by omega, by go_num, ?_⟩
            rw [HCS.out]
            exact fun j hj => H2.out j (by omega)
          case measure => simp [intOf]; omega
    · go_wp2
      go_ret
      refine ⟨ret_bool ?_, hbr⟩
      rw [HV.out, anyLt_false]
      · rfl
      · intro j hj
        refine H.out j ?_
        rw [cnt_all _ _ (by omega)]; exact hj
end Go.Proofs.Ytlfnfphkhokdiaa

namespace Go.Proofs.Ytlfnfphkhokdiaa
open Go.RowKit Go Go.Shelf

set_option maxRecDepth 100000 in
set_option maxHeartbeats 4000000 in
theorem radvCheck_any (a : Adv) (v : Value) (w : World) (hv : IsStates w v a.states) (hN : movesN a.states < 2305843009213693952) :
    Calls Try.prog 33 #[.agg #[.int .i64 a.n, v]] w fun e w' => e = .returned (.int .i64 (advE a)) ∧ Below w.heap.size w w' := by
  have G := Lib.hid hv
  obtain ⟨pa, ca, rfl, la1, la2, ea⟩ := hv.at
  clear hv
  have EA := Lib.hid ea; clear ea
  by_cases c0 : a.n < 1
  · have HR : Hid (advE a = 2) := by (have h : advE a = 2 := by (unfold advE; rw [if_pos (by omega)])); exact h
    go_enter Try.func33, Try.ntmps33
    go_wp2
    go_ret
    exact ⟨ret_int HR.out.symm, by go_grown⟩
  by_cases c1 : 5 < a.n
  · have HR : Hid (advE a = 2) := by (have h : advE a = 2 := by (unfold advE; rw [if_pos (by omega)])); exact h
    go_enter Try.func33, Try.ntmps33
    go_wp2
    go_ret
    exact ⟨ret_int HR.out.symm, by go_grown⟩
  by_cases c2 : a.states.length < 1
  · have HR : Hid (advE a = 5) := by (have h : advE a = 5 := by (unfold advE; rw [if_neg (by omega), if_pos (by omega)])); exact h
    go_enter Try.func33, Try.ntmps33
    go_wp2
    go_ret
    exact ⟨ret_int HR.out.symm, by go_grown⟩
  by_cases c3 : 256 < a.states.length
  · have HR : Hid (advE a = 5) := by (have h : advE a = 5 := by (unfold advE; rw [if_neg (by omega), if_pos (by omega)])); exact h
    go_enter Try.func33, Try.ntmps33
    go_wp2
    go_ret
    exact ⟨ret_int HR.out.symm, by go_grown⟩
  have HC := Lib.hid (fun W (hb : Below w.heap.size w W) => rmoves_any a.n _ a.states W (G.out.up up_moves hb) hN)
  have HV : Hid (advE a = if 4096 < movesN a.states then 5 else if firstNZ a.states.length (fun s => stateE a (a.states.getD s [])) ≠ 0 then firstNZ a.states.length (fun s => stateE a (a.states.getD s [])) else if growsB a then 0 else 21) := by
    have h : advE a = if 4096 < movesN a.states then 5 else if firstNZ a.states.length (fun s => stateE a (a.states.getD s [])) ≠ 0 then firstNZ a.states.length (fun s => stateE a (a.states.getD s [])) else if growsB a then 0 else 21 := by
      unfold advE; rw [if_neg (by omega)]
      by_cases h4 : 4096 < movesN a.states
      · rw [if_pos (by omega), if_pos h4]
      · rw [if_neg (by omega), if_neg h4]
    exact h
  generalize movesN a.states = mN at HC HV hN
  go_enter Try.func33, Try.ntmps33
  go_wp2_with fail
  refine calls_gen (fun W => Below w.heap.size w W ∧ W.heap[w.heap.size]? = some (.cells #[.int .i64 a.n, .slice pa a.states.length ca] 27)) ⟨by go_grown, alloc_new _ _⟩ (fun W0 hW0 => ?_)
  obtain ⟨hb0, hA0⟩ := hW0
  refine (HC.out W0 hb0).mono ?_
  rintro e W1 ⟨rfl, hb1⟩
  have hbW := ext_trans hb0 hb1
  have HA := Lib.hid (block_up hb1 hA0)
  have t1 := cell_block HA.out
  clear hA0 HC
  by_cases c4 : 4096 < mN
  · have HR : Hid (advE a = 5) := by (have h : advE a = 5 := by (rw [HV.out, if_pos c4])); exact h
    go_wp2_with fail
    go_ret
    exact ⟨ret_int HR.out.symm, hbW⟩
  have HV1 : Hid (advE a = if firstNZ a.states.length (fun s => stateE a (a.states.getD s [])) ≠ 0 then firstNZ a.states.length (fun s => stateE a (a.states.getD s [])) else if growsB a then 0 else 21) := by
    have h : advE a = if firstNZ a.states.length (fun s => stateE a (a.states.getD s [])) ≠ 0 then firstNZ a.states.length (fun s => stateE a (a.states.getD s [])) else if growsB a then 0 else 21 := by rw [HV.out, if_neg c4]
    exact h
  clear HV
  go_wp2_with fail
  clear t1 c0 c1 c2 c3 c4
  go_loopw [3] (fun i wr => Below W1.heap.size W1 wr ∧ ∃ s : Nat, s ≤ a.states.length ∧ i = .int .i64 s ∧ ∀ j, j < s → stateE a (a.states.getD j []) = 0) (fun i _ => a.states.length - (intOf i).toNat)
  case atStart => exact ⟨Below.refl _ _, 0, by omega, rfl, by simp⟩
  case round =>
    obtain ⟨hbr0, s, hs, rfl, hinv⟩ := hrel
    have H := Lib.hid hinv; clear hinv
    have hbr := ext_trans hbW hbr0
    have t1 := cell_block (block_up hbr0 HA.out)
    by_cases hlt : s < a.states.length
    · obtain ⟨b1, o1, rfl, x, cx, hx⟩ := EA.out s hlt
      rw [Nat.mul_one] at cx
      have HX := Lib.hid hx
      obtain ⟨px, qx, rfl, _⟩ := hx
      have CX := Lib.hid cx
      have c1 := cell_up hbr cx
      have HS : Hid (stateE a (a.states.getD s []) = if a.states[s].length = 0 then 19 else firstNZ a.states[s].length (moveE a a.states[s])) := by
        have h : stateE a (a.states.getD s []) = if a.states[s].length = 0 then 19 else firstNZ a.states[s].length (moveE a a.states[s]) := by rw [getD_of_lt [] hlt]; rfl
        exact h
      clear cx
      by_cases h0 : a.states[s].length = 0
      · have h0' : ((a.states[s].length : Int) == 0) = true := by simp [h0]
        have h1' : (a.states[s].length == 0) = true := by simp [h0]
        have HR : Hid (stateE a (a.states.getD s []) = 19) := by (have h : stateE a (a.states.getD s []) = 19 := by (rw [HS.out, if_pos h0])); exact h
        have H0 := Lib.hid h0
        clear h0
        go_wp2_with fail
        go_ret
        exact ⟨ret_int (by rw [HV1.out, ← firstNZ_hit (f := fun s => stateE a (a.states.getD s [])) s 19 hlt H.out HR.out (by decide)]; rfl), hbr⟩
      · have h0' : ((a.states[s].length : Int) == 0) = false := beq_eq_false_iff_ne.2 (by omega)
        have h1' : (a.states[s].length == 0) = false := beq_eq_false_iff_ne.2 (by omega)
        have HR : Hid (stateE a (a.states.getD s []) = firstNZ a.states[s].length (moveE a a.states[s])) := by (have h : stateE a (a.states.getD s []) = firstNZ a.states[s].length (moveE a a.states[s]) := by (rw [HS.out, if_neg h0])); exact h
        clear h0
        go_wp2_with fail
        clear t1 c1 h0' h1'
        go_loopw [4] (fun i ws => Below wr.heap.size wr ws ∧ ∃ m : Nat, m ≤ a.states[s].length ∧ i = .int .i64 m ∧ ∀ j, j < m → moveE a a.states[s] j = 0) (fun i _ => a.states[s].length - (intOf i).toNat)
        case atStart => exact ⟨Below.refl _ _, 0, by omega, rfl, by simp⟩
        case round =>
          obtain ⟨hbs0, m, hm, rfl, hinv⟩ := hrel
          rename World => ws
          have H2 := Lib.hid hinv; clear hinv
          have hbs5 := ext_trans hbr0 hbs0
          have hbs := ext_trans hbr hbs0
          have t1 := cell_block (block_up hbs5 HA.out)
          have c1 := cell_up hbs CX.out
          by_cases hml : m < a.states[s].length
          · have HCALL := Lib.hid (fun x : ExtW ws => Calls.ext_of (rmove_any a (some ⟨b1, o1, none⟩) ca _ a.states[s] m hml x.val (HX.out.up up_move (ext_trans hbs x.ext))))
            generalize hge : moveE a a.states[s] m = em at HCALL
            have HGE := Lib.hid hge; clear hge
            go_wp2_with fail
            have r1 : ∀ x : ExtW ws, ∀ o, x.val.cell? ⟨w.heap.size, o, none⟩ = _ := fun x => cell_block (block_up (ext_trans hbs5 x.ext) HA.out)
            have r3 : ∀ x : ExtW ws, x.val.cell? _ = _ := fun x => x.cell c1
            clear t1 c1
            refine wp_region_quiet_ext (by kernel_rfl) (by kernel_rfl) ?_
            repeat (go_big_quiet_step ((go_at_call 47; exact HCALL.out _)))
            refine wpQuiet_nil ?_
            intro _ hw'
            obtain ⟨xq, hw''⟩ := hw'
            subst hw''
            clear r1 r3 HCALL
            by_cases hem : em = 0
            · subst hem
              go_wp2_with fail
              go_roundw
              case rel => exact ⟨ext_trans hbs0 xq.ext, m + 1, by omega, by go_num, below_succ H2.out HGE.out⟩
              case measure => simp [intOf]; omega
            · have hem' : (em != 0) = true := by simpa using hem
              go_wp2_with fail
              go_ret
              refine ⟨ret_int ?_, ext_trans hbs xq.ext⟩
              have e1 : em = stateE a (a.states.getD s []) := by rw [HR.out]; exact firstNZ_hit m em hml H2.out HGE.out hem
              rw [HV1.out, ← firstNZ_hit (f := fun s => stateE a (a.states.getD s [])) s em hlt H.out e1.symm hem, if_pos hem]
          · go_wp2_with fail
            go_roundw
            case rel => exact ⟨ext_trans hbr0 hbs0, s + 1, by omega, by go_num, below_succ H.out (by rw [HR.out]; exact firstNZ_zero _ _ fun j hj => H2.out j (by omega))⟩
            case measure => simp [intOf]; omega
    · have hall : ∀ j, j < a.states.length → stateE a (a.states.getD j []) = 0 := fun j hj => H.out j (by omega)
      have HV2 : Hid (advE a = if growsB a then 0 else 21) := by
        have h : advE a = if growsB a then 0 else 21 := by rw [HV1.out, firstNZ_zero _ _ hall]; simp
        exact h
      have HG := Lib.hid (rgrows_any a _ wr (G.out.up up_moves hbr) hall)
      clear hall
      generalize growsB a = gb at HG HV2
      cases gb with
      | true =>
        go_wp2_with fail
        refine HG.out.mono ?_
        rintro e w2 ⟨rfl, hb2⟩
        go_wp2_with fail
        go_ret
        exact ⟨ret_int (by rw [HV2.out]; rfl), ext_trans hbr hb2⟩
      | false =>
        go_wp2_with fail
        refine HG.out.mono ?_
        rintro e w2 ⟨rfl, hb2⟩
        go_wp2_with fail
        go_ret
        exact ⟨ret_int (by rw [HV2.out]; rfl), ext_trans hbr hb2⟩
end Go.Proofs.Ytlfnfphkhokdiaa

namespace Go.Proofs.Ytlfnfphkhokdiaa
open Go.RowKit Go Go.Shelf

def toL (l : List Mv) (r : Rd) : Int := ((l.find? fun m => decide (r = m.r)).map (·.to)).getD (-1)
theorem toL_none (l : List Mv) (r : Rd) (h : ∀ j, j < l.length → decide ((l.getD j default).r = r) = false) : toL l r = -1 := by
  unfold toL
  have : l.find? (fun m => decide (r = m.r)) = none := List.find?_eq_none.2 fun x hx => by
    obtain ⟨j, hj, rfl⟩ := List.getElem_of_mem hx
    have := h j hj
    rw [getD_of_lt default hj] at this
    have h1 := of_decide_eq_false this
    simp
    exact fun e => h1 e.symm
  rw [this]; rfl
theorem toL_at (l : List Mv) (r : Rd) (k : Nat) (hk : k < l.length) (h : ∀ j, j < k → decide ((l.getD j default).r = r) = false) (e : l[k].r = r) : toL l r = l[k].to := by
  induction l generalizing k with
  | nil => simp at hk
  | cons x t ih =>
    unfold toL
    cases k with
    | zero =>
      simp at e
      simp [e]
    | succ k =>
      have h0 := h 0 (by omega)
      simp at h0
      have hn : decide (r = x.r) = false := decide_eq_false fun e => h0 e.symm
      rw [List.find?_cons, hn]
      have := ih k (by simpa using hk) (fun j hj => by have := h (j + 1) (by omega); simpa using this) (by simpa using e)
      simpa [toL] using this

set_option maxRecDepth 100000 in
set_option maxHeartbeats 2000000 in
theorem rto_any (a : Adv) (v : Value) (s : Nat) (hs : s < a.states.length) (r : Rd) (w : World) (hv : IsStates w v a.states) :
    Calls Try.prog 58 #[.agg #[.int .i64 a.n, v], .int .i64 s, r.v] w fun e w' => e = .returned (.int .i64 (toS a s r)) ∧ Below w.heap.size w w' := by
  obtain ⟨pa, ca, rfl, la1, la2, ea⟩ := hv.at
  clear hv
  obtain ⟨b1, o1, rfl, x, cx, hx⟩ := ea s hs
  rw [Nat.mul_one] at cx
  obtain ⟨px, qx, rfl, x1, x2, ex⟩ := hx.at
  have EX := Lib.hid ex
  have HV : Hid (toS a s r = toL a.states[s] r) := by
    have h : toS a s r = toL a.states[s] r := by unfold toS toL; rw [Int.toNat_natCast, getD_of_lt [] hs]
    exact h
  have hb1 : b1 < w.heap.size := cell_lt cx
  have hb2 : b1 < w.heap.size + 1 := by omega
  clear hx ex ea
  generalize a.states[s] = l at EX HV x1 x2 cx
  go_enter Try.func58, Try.ntmps58
  go_wp2
  refine wp_gen (fun W => Below w.heap.size w W ∧ W.heap[w.heap.size + 1]? = some (.cells #[.int .i64 r.g.n, .int .i64 r.g.h0, .int .i64 r.g.h1, .int .i64 r.g.h2, .int .i64 r.g.h3, .int .i64 r.g.h4, .int .i64 r.f] 62)) ⟨by go_grown, by simpa using alloc_new (w.alloc _) _⟩ (fun W0 hW0 => ?_)
  obtain ⟨hb0, hR0⟩ := hW0
  have HR := Lib.hid hR0; clear hR0 cx hb1 hb2
  go_loopw [8] (fun i wr => Below W0.heap.size W0 wr ∧ ∃ k : Nat, k ≤ l.length ∧ i = .int .i64 k ∧ ∀ j, j < k → decide ((l.getD j default).r = r) = false) (fun i _ => l.length - (intOf i).toNat)
  case atStart => exact ⟨Below.refl _ _, 0, by omega, rfl, by simp⟩
  case round =>
    obtain ⟨hbr0, k, hk, rfl, hinv⟩ := hrel
    have H := Lib.hid hinv; clear hinv
    have hbr := ext_trans hb0 hbr0
    by_cases hlt : k < l.length
    · obtain ⟨b3, o3, rfl, ⟨⟨d0, _⟩, ⟨d1, _⟩, ⟨d2, _⟩, ⟨d3, _⟩, ⟨d4, _⟩, ⟨d5, _⟩, ⟨d6, _⟩⟩, ⟨d7, _⟩⟩ := EX.out k hlt
      have HNX := Lib.hid (getD_of_lt default hlt)
      have HAT := Lib.hid (toL_at l r k hlt H.out)
      generalize l[k] = m at d0 d1 d2 d3 d4 d5 d6 d7 HNX HAT
      have heq := eql_rd m.r r
      have q0 : ∀ n, (wr.drewN n).cell? _ = _ := fun n => cell_up hbr d0
      have q1 : ∀ n, (wr.drewN n).cell? _ = _ := fun n => cell_up hbr d1
      have q2 : ∀ n, (wr.drewN n).cell? _ = _ := fun n => cell_up hbr d2
      have q3 : ∀ n, (wr.drewN n).cell? _ = _ := fun n => cell_up hbr d3
      have q4 : ∀ n, (wr.drewN n).cell? _ = _ := fun n => cell_up hbr d4
      have q5 : ∀ n, (wr.drewN n).cell? _ = _ := fun n => cell_up hbr d5
      have q6 : ∀ n, (wr.drewN n).cell? _ = _ := fun n => cell_up hbr d6
      have q7 : ∀ n, (wr.drewN n).cell? _ = _ := fun n => cell_up hbr d7
      have r1 : ∀ n o, (wr.drewN n).cell? ⟨w.heap.size + 1, o, none⟩ = _ := fun n => cell_block (block_up hbr0 HR.out)
      clear d0 d1 d2 d3 d4 d5 d6 d7
      by_cases he : m.r = r
      · rw [decide_eq_true he] at heq
        have HE := Lib.hid he; clear he
        go_wp2_with fail
        go_quiet (fail)
        go_wp2_with fail
        go_ret
        exact ⟨ret_int (by rw [HV.out, HAT.out HE.out]), below_drewN hbr _⟩
      · rw [decide_eq_false he] at heq
        have HE := Lib.hid he; clear he
        go_wp2_with fail
        go_quiet (fail)
        go_wp2_with fail
        go_roundw
        case rel => exact ⟨below_drewN hbr0 _, k + 1, by omega, by go_num, below_succ H.out (by rw [HNX.out]; exact decide_eq_false HE.out)⟩
        case measure => simp [intOf]; omega
    · go_wp2
      go_ret
      exact ⟨ret_int (by rw [HV.out, toL_none]; intro j hj; exact H.out j (by omega)), hbr⟩

set_option maxRecDepth 100000 in
set_option maxHeartbeats 2000000 in
theorem rafter_any (a : Adv) (v u : Value) (word : List Rd) (w : World) (hv : IsStates w v a.states) (hu : IsWord w u word) (hok : ∀ s, s < a.states.length → stateE a (a.states.getD s []) = 0) (h1 : 1 ≤ a.states.length) :
    Calls Try.prog 44 #[.agg #[.int .i64 a.n, v], .int .i64 0, u] w fun e w' => e = .returned (.int .i64 (afterS a 0 word)) ∧ Below w.heap.size w w' := by
  have G := Lib.hid hv
  obtain ⟨pa, ca, rfl, la1, la2, _⟩ := hv
  obtain ⟨pu, cu, rfl, lu1, lu2, eu⟩ := hu.at
  have EU := Lib.hid eu
  have HOK := Lib.hid hok
  clear hu eu hok
  go_enter Try.func44, Try.ntmps44
  go_wp2
  refine wp_gen (fun W => Below w.heap.size w W ∧ W.heap[w.heap.size]? = some (.cells #[.int .i64 a.n, .slice pa a.states.length ca] 27)) ⟨by go_grown, alloc_new _ _⟩ (fun W0 hW0 => ?_)
  obtain ⟨hb0, hA0⟩ := hW0
  have HA := Lib.hid hA0; clear hA0
  go_loopw [1, 7] (fun st i wr => Below W0.heap.size W0 wr ∧ ∃ (k : Nat) (s : Int), k ≤ word.length ∧ i = .int .i64 k ∧ st = .int .i64 s ∧ (s = -1 ∨ (0 ≤ s ∧ s < a.states.length)) ∧ afterS a 0 word = if s < 0 then -1 else afterS a s (word.drop k)) (fun _ i _ => word.length - (intOf i).toNat)
  case atStart => exact ⟨Below.refl _ _, 0, 0, by omega, rfl, rfl, by omega, by simp⟩
  case round =>
    obtain ⟨hbr0, k, s, hk, rfl, rfl, hs, hinv⟩ := hrel
    have H := Lib.hid hinv; clear hinv
    have hbr := ext_trans hb0 hbr0
    by_cases hlt : k < word.length
    · by_cases hs0 : s < 0
      · have HR : Hid (afterS a 0 word = s) := by (have h : afterS a 0 word = s := by (rw [H.out, if_pos hs0]; omega)); exact h
        have hd : decide (0 ≤ s) = false := decide_eq_false (by omega)
        go_wp2
        go_ret
        exact ⟨ret_int HR.out.symm, hbr⟩
      · obtain ⟨n, rfl⟩ : ∃ n : Nat, s = n := ⟨s.toNat, by omega⟩
        obtain ⟨b3, o3, rfl, ⟨d0, _⟩, ⟨d1, _⟩, ⟨d2, _⟩, ⟨d3, _⟩, ⟨d4, _⟩, ⟨d5, _⟩, ⟨d6, _⟩⟩ := EU.out k hlt
        have HR : Hid (afterS a 0 word = if toS a n word[k] < 0 then -1 else afterS a (toS a n word[k]) (word.drop (k + 1))) := by
          have h : afterS a 0 word = if toS a n word[k] < 0 then -1 else afterS a (toS a n word[k]) (word.drop (k + 1)) := by
            rw [H.out, if_neg hs0, drop_cons hlt]; rfl
          exact h
        have hrng := toS_range HOK.out n (by omega) word[k]
        generalize word[k] = r at d0 d1 d2 d3 d4 d5 d6 HR hrng
        have HCALL := Lib.hid (fun x : ExtW wr => Calls.ext_of (rto_any a _ n (by omega) r x.val (G.out.up up_moves (ext_trans hbr x.ext))))
        generalize toS a n r = tn at HCALL HR hrng
        have hd0 : (0 : Int) ≤ (n : Int) := by omega
        go_wp2_with fail
        have q0 : ∀ x : ExtW wr, x.val.cell? _ = _ := fun x => x.cell (cell_up hbr d0)
        have q1 : ∀ x : ExtW wr, x.val.cell? _ = _ := fun x => x.cell (cell_up hbr d1)
        have q2 : ∀ x : ExtW wr, x.val.cell? _ = _ := fun x => x.cell (cell_up hbr d2)
        have q3 : ∀ x : ExtW wr, x.val.cell? _ = _ := fun x => x.cell (cell_up hbr d3)
        have q4 : ∀ x : ExtW wr, x.val.cell? _ = _ := fun x => x.cell (cell_up hbr d4)
        have q5 : ∀ x : ExtW wr, x.val.cell? _ = _ := fun x => x.cell (cell_up hbr d5)
        have q6 : ∀ x : ExtW wr, x.val.cell? _ = _ := fun x => x.cell (cell_up hbr d6)
        have r1 : ∀ x : ExtW wr, ∀ o, x.val.cell? ⟨w.heap.size, o, none⟩ = _ := fun x => cell_block (block_up (ext_trans hbr0 x.ext) HA.out)
        clear d0 d1 d2 d3 d4 d5 d6
        refine wp_region_quiet_ext (by kernel_rfl) (by kernel_rfl) ?_
        repeat (go_big_quiet_step ((go_at_call 58; exact HCALL.out _)))
        refine wpQuiet_nil ?_
        intro _ hw'
        obtain ⟨xq, hw''⟩ := hw'
        subst hw''
        clear q0 q1 q2 q3 q4 q5 q6 r1 HCALL
        go_wp2_with fail
        go_roundw
        case rel => exact ⟨ext_trans hbr0 xq.ext, k + 1, tn, by omega, by go_num, rfl, hrng, HR.out⟩
        case measure => simp [intOf]; omega
    · have HR : Hid (afterS a 0 word = s) := by
        have h : afterS a 0 word = s := by
          rw [H.out, List.drop_of_length_le (by omega)]
          unfold afterS
          split <;> omega
        exact h
      go_wp2
      go_ret
      exact ⟨ret_int HR.out.symm, hbr⟩

def fewAB (a : Adv) : Bool := decide (a.states.length ≤ 8) && decide (movesN a.states ≤ 40)
theorem cnt_bd (l : List (List Mv)) (B : Nat) (h : ∀ k (hk : k < l.length), l[k].length ≤ B) : ∀ k, k ≤ l.length → cnt l k ≤ k * B := by
  intro k
  induction k with
  | zero => intro _; rw [cnt_zero]; exact Nat.zero_le _
  | succ k ih =>
    intro hk
    rw [cnt_succ l k (by omega), Nat.succ_mul]
    exact Nat.add_le_add (ih (by omega)) (h k (by omega))
theorem movesN_le {w : World} {v : Value} {l : List (List Mv)} (hv : IsStates w v l) : movesN l ≤ l.length * 17592186044416 := by
  obtain ⟨pa, ca, rfl, la1, la2, ea⟩ := hv.at
  have := cnt_bd l 17592186044416 (fun k hk => by
    obtain ⟨b, o, _, x, _, hx⟩ := ea k hk
    obtain ⟨_, _, _, _, hx2, _⟩ := hx
    exact hx2) l.length (Nat.le_refl _)
  rwa [cnt_all l _ (Nat.le_refl _)] at this

set_option maxHeartbeats 1000000 in
theorem rfewAdv_any (a : Adv) (v : Value) (w : World) (hv : IsStates w v a.states) :
    Calls Try.prog 16 #[.agg #[.int .i64 a.n, v]] w fun e w' => e = .returned (.bool (fewAB a)) ∧ Below w.heap.size w w' := by
  have hN := movesN_le hv
  have HV : Hid (fewAB a = (decide (a.states.length ≤ 8) && decide (movesN a.states ≤ 40))) := by exact rfl
  by_cases h8 : a.states.length ≤ 8
  · have HC := Lib.hid (fun W (hb : Below w.heap.size w W) => rmoves_any a.n _ a.states W (hv.up up_moves hb) (by omega))
    obtain ⟨pa, ca, rfl, _⟩ := hv
    have H8 : Hid (decide (a.states.length ≤ 8) = true) := by (have h := decide_eq_true h8); exact h
    generalize movesN a.states = mN at HC HV hN
    go_enter Try.func16, Try.ntmps16
    go_wp2_with fail
    refine (HC.out _ (by go_grown)).mono ?_
    rintro e W1 ⟨rfl, hb1⟩
    go_wp2_with fail
    go_ret
    refine ⟨ret_bool ?_, ext_trans (by go_grown) hb1⟩
    rw [HV.out, H8.out]
    simp
    omega
  · have H8 : Hid (decide (a.states.length ≤ 8) = false) := by (have h := decide_eq_false h8); exact h
    obtain ⟨pa, ca, rfl, _⟩ := hv
    go_enter Try.func16, Try.ntmps16
    go_wp2_with fail
    go_ret
    exact ⟨ret_bool (by rw [HV.out, H8.out]; rfl), by go_grown⟩
end Go.Proofs.Ytlfnfphkhokdiaa

namespace Go.Proofs.Ytlfnfphkhokdiaa
open Go.RowKit Go Go.Shelf

def stepN (c : List Int) (n : Int) (m : Mv) : Int := min (n + c.getD m.to.toNat 0) 4097
def rowN (c : List Int) (l : List Mv) : Int := l.foldl (stepN c) 0
def nextN (a : Adv) (c : List Int) : List Int := a.states.map (rowN c)
def iterN (a : Adv) : Nat → List Int
  | 0 => List.replicate a.states.length 1
  | k + 1 => nextN a (iterN a k)
def numberS (a : Adv) (k : Nat) : Int := (iterN a k).getD 0 0
def okN (c : List Int) : Prop := ∀ x ∈ c, 0 ≤ x ∧ x ≤ 4097
theorem okN_get {c : List Int} (h : okN c) (i : Nat) : 0 ≤ c.getD i 0 ∧ c.getD i 0 ≤ 4097 := by
  by_cases hi : i < c.length
  · rw [getD_of_lt 0 hi]; exact h _ (List.getElem_mem hi)
  · rw [List.getD_eq_getElem?_getD, List.getElem?_eq_none (by omega)]; simp
theorem stepN_ok {c : List Int} (h : okN c) {n : Int} (hn : 0 ≤ n ∧ n ≤ 4097) (m : Mv) : 0 ≤ stepN c n m ∧ stepN c n m ≤ 4097 := by
  have := okN_get h m.to.toNat
  unfold stepN
  omega
theorem fold_ok {c : List Int} (h : okN c) (l : List Mv) : ∀ n : Int, (0 ≤ n ∧ n ≤ 4097) → 0 ≤ l.foldl (stepN c) n ∧ l.foldl (stepN c) n ≤ 4097 := by
  induction l with
  | nil => intro n hn; exact hn
  | cons m r ih => intro n hn; exact ih _ (stepN_ok h hn m)
theorem rowN_ok {c : List Int} (h : okN c) (l : List Mv) : 0 ≤ rowN c l ∧ rowN c l ≤ 4097 := fold_ok h l 0 (by omega)
theorem nextN_ok {c : List Int} (h : okN c) (a : Adv) : okN (nextN a c) := fun x hx => by
  obtain ⟨l, _, rfl⟩ := List.mem_map.1 hx
  exact rowN_ok h l
theorem iterN_ok (a : Adv) (k : Nat) : okN (iterN a k) := by
  induction k with
  | zero => intro x hx; rw [(List.mem_replicate.1 hx).2]; omega
  | succ k ih => exact nextN_ok ih a
theorem iterN_len (a : Adv) (k : Nat) : (iterN a k).length = a.states.length := by
  cases k with
  | zero => simp [iterN]
  | succ k => simp [iterN, nextN]
theorem rowN_snoc (c : List Int) (l : List Mv) (i : Nat) (hi : i < l.length) : rowN c (l.take (i + 1)) = stepN c (rowN c (l.take i)) l[i] := by
  unfold rowN
  rw [List.take_succ_eq_append_getElem hi, List.foldl_append]
  rfl
theorem owned_one {w : World} {v : Value} {t : TypeId} (j : Nat) (u : Value) (hj : [v][j]? = some u) : (w.alloc (.cells #[v] t)).cell? (Addr.add ⟨w.heap.size, 0, none⟩ j) = some u := by
  cases j with
  | zero => simp at hj; subst hj; simp [Addr.add, cell_block (alloc_new w _)]
  | succ j => simp at hj

theorem run_min (P : Program) (ats : Array TypeId) (ty : TypeId) (x y : Int) (w : World) : (Builtin.min_ ats ty #[.int .i64 x, .int .i64 y]).run P w = .ok (.int .i64 (min x y)) w := by
  have h : (if y < x then y else x) = min x y := by omega
  simp [Builtin.min_, Builtin.min2, h]

set_option maxRecDepth 100000 in
set_option maxHeartbeats 8000000 in
theorem rnumber_any (a : Adv) (v : Value) (n : Nat) (hn : n ≤ 6) (w : World) (hv : IsStates w v a.states) (hok : ∀ s, s < a.states.length → stateE a (a.states.getD s []) = 0) (h1 : 1 ≤ a.states.length ∧ a.states.length ≤ 256) :
    Calls Try.prog 34 #[.agg #[.int .i64 a.n, v], .int .i64 n, .int .i64 4096] w fun e w' => e = .returned (.int .i64 (numberS a n)) ∧ Below w.heap.size w w' := by
  obtain ⟨pa, ca, rfl, la1, la2, ea⟩ := hv.at
  have EA := Lib.hid ea
  have HOK := Lib.hid hok
  clear hv ea hok
  obtain ⟨i0, hi, hz0, hz1, hz2⟩ := info_parts Try.infoInt
  go_enter Try.func34, Try.ntmps34
  go_wp2
  refine wp_gen (fun W => Below w.heap.size w W ∧ W.heap[w.heap.size]? = some (.cells #[.int .i64 a.n, .slice pa a.states.length ca] 27)) ⟨by go_grown, alloc_new _ _⟩ (fun W0 hW0 => ?_)
  obtain ⟨hb0, hA0⟩ := hW0
  have HA := Lib.hid hA0; clear hA0
  go_loopw [7, 8] (fun o i wr => Below W0.heap.size W0 wr ∧ ∃ k : Nat, k ≤ a.states.length ∧ i = .int .i64 k ∧ wr.ownsRow W0.heap.size 3 1 o k (List.replicate k (.int .i64 1))) (fun _ i _ => a.states.length - (intOf i).toNat)
  case atStart => exact ⟨Below.refl _ _, 0, by omega, rfl, World.ownsRow_nil _ _ _ _⟩
  case round =>
    obtain ⟨hbr0, k, hk, rfl, hown⟩ := hrel
    have HOWN := Lib.hid hown
    obtain ⟨ao, co, rfl, _⟩ := owns_cell hown
    clear hown
    have t1 := cell_block (block_up hbr0 HA.out)
    by_cases hlt : k < a.states.length
    · have hA : Below wr.heap.size wr (wr.alloc (.cells #[.int .i64 1] 3)) := by go_grown
      have HOWN1 := Lib.hid (owns_up HOWN.out hA)
      have HNEWS := Lib.hid (fun j u hj => owned_one (w := wr) (v := .int .i64 1) (t := 3) j u hj)
      clear hA
      have hbs := hbr0.size
      go_wp2_with (at_builtin; (refine wpList_append_own _ rfl (.tmp 21) (.tmp 22) 30 rfl W0.heap.size 3 i0 (.int .i64 0) 1 8 Try.underlying30 hi hz0 hz1 hz2 rfl (by decide) _ k (List.replicate k (.int .i64 1)) rfl HOWN1.out ⟨wr.heap.size, 0, none⟩ 1 1 [.int .i64 1] rfl rfl HNEWS.out (by simp [Value.oneCell']) (by unfold maxLen; omega) (by omega) (by simp; omega) ?_; intro v' w2 hown2 hgrow2 _))
      go_roundw
      case rel =>
        refine ⟨Below.grown (w := wr.alloc (.cells #[.int .i64 1] 3)) (hbr0.alloc hbs _) hgrow2 (by simp; omega) (fun g hg => (owns_lt HOWN.out g hg).1), k + 1, by omega, by go_num, ?_⟩
        rw [List.replicate_succ']; exact hown2
      case measure => simp [intOf]; omega
    · obtain rfl : k = a.states.length := by omega
      have hin : (List.replicate a.states.length (Value.int .i64 1)) = (iterN a 0).map (Value.int .i64) := by simp [iterN]
      rw [hin] at HOWN
      clear hin
      go_wp2
      clear t1
      go_loopw [7, 9] (fun o i ws => Below wr.heap.size wr ws ∧ ∃ k : Nat, k ≤ n ∧ i = .int .i64 k ∧ ws.ownsRow W0.heap.size 3 1 o a.states.length ((iterN a k).map (Value.int .i64))) (fun _ i _ => n - (intOf i).toNat)
      case atStart => exact ⟨Below.refl _ _, 0, by omega, rfl, HOWN.out⟩
      case round =>
        obtain ⟨hbs0, k, hk, rfl, hown⟩ := hrel
        rename World => ws
        have HOWN2 := Lib.hid hown
        have hbs := ext_trans hbr0 hbs0
        obtain ⟨ac, cc, rfl, _, _, _, _, hcell⟩ := owns_cell hown
        have HCELL := Lib.hid hcell
        clear hown hcell
        have HIL := Lib.hid (iterN_len a k)
        have HIO := Lib.hid (iterN_ok a k)
        by_cases hlt : k < n
        · have t1 := cell_block (block_up hbs HA.out)
          go_wp2
          clear t1
          go_loopw [10, 11] (fun o i wt => Below ws.heap.size ws wt ∧ ∃ s : Nat, s ≤ a.states.length ∧ i = .int .i64 s ∧ wt.ownsRow ws.heap.size 3 1 o s (((nextN a (iterN a k)).take s).map (Value.int .i64))) (fun _ i _ => a.states.length - (intOf i).toNat)
          case atStart => exact ⟨Below.refl _ _, 0, by omega, rfl, World.ownsRow_nil _ _ _ _⟩
          case round =>
            obtain ⟨hbt0, s, hs, rfl, hown⟩ := hrel
            rename World => wt
            have HOWN3 := Lib.hid hown
            have hbt := ext_trans hbs hbt0
            have hbtw := ext_trans hb0 hbt
            obtain ⟨an, cn, rfl, _⟩ := owns_cell hown
            clear hown
            have t1 := cell_block (block_up hbt HA.out)
            by_cases hls : s < a.states.length
            · obtain ⟨b1, o1, rfl, x, cx, hx⟩ := EA.out s hls
              rw [Nat.mul_one] at cx
              obtain ⟨px, qx, rfl, x1, x2, ex⟩ := hx.at
              have EX := Lib.hid ex
              have c1 := cell_up hbtw cx
              have HNX : Hid ((nextN a (iterN a k)).take (s + 1) = (nextN a (iterN a k)).take s ++ [rowN (iterN a k) a.states[s]]) := by
                have h : (nextN a (iterN a k)).take (s + 1) = (nextN a (iterN a k)).take s ++ [rowN (iterN a k) a.states[s]] := by
                  rw [List.take_succ_eq_append_getElem (by simp [nextN]; exact hls)]
                  simp [nextN]
                exact h
              have HSO := Lib.hid (fun j (hj : j < a.states[s].length) => (states_ok HOK.out hls hj).2)
              clear hx ex cx
              go_wp2
              go_loop [12, 13] (fun o i => ∃ m : Nat, m ≤ a.states[s].length ∧ i = .int .i64 m ∧ o = .int .i64 (rowN (iterN a k) (a.states[s].take m))) (fun _ i => a.states[s].length - (intOf i).toNat)
              case atStart => exact ⟨0, by omega, rfl, by simp [rowN]⟩
              case round =>
                obtain ⟨m, hm, rfl, rfl⟩ := hrel
                have hro := rowN_ok HIO.out (a.states[s].take m)
                by_cases hml : m < a.states[s].length
                · obtain ⟨b3, o3, rfl, _, ⟨d7, _⟩⟩ := EX.out m hml
                  have hto := HSO.out m hml
                  obtain ⟨u, hu⟩ : ∃ u : Nat, a.states[s][m].to = u := ⟨a.states[s][m].to.toNat, by omega⟩
                  have HSN : Hid (rowN (iterN a k) (a.states[s].take (m + 1)) = min (rowN (iterN a k) (a.states[s].take m) + (iterN a k).getD u 0) 4097) := by
                    have h : rowN (iterN a k) (a.states[s].take (m + 1)) = min (rowN (iterN a k) (a.states[s].take m) + (iterN a k).getD u 0) 4097 := by
                      rw [rowN_snoc _ _ m hml]; unfold stepN; rw [hu, Int.toNat_natCast]
                    exact h
                  rw [hu] at d7
                  have hul : u < a.states.length := by omega
                  have hgo := okN_get HIO.out u
                  have hgl : u < (iterN a k).length := by rw [HIL.out]; exact hul
                  obtain ⟨b, e4, hc⟩ := HCELL.out u (.int .i64 ((iterN a k).getD u 0)) (by rw [getD_of_lt 0 hgl]; simp)
                  have c2 := cell_up hbtw d7
                  subst e4
                  have c3 := cell_up hbt0 hc
                  have hmin := run_min Try.prog
                  generalize rowN (iterN a k) (a.states[s].take m) = r0 at hro HSN
                  generalize (iterN a k).getD u 0 = g0 at hgo HSN c3 hc
                  clear d7 hc hu hto hgl
                  go_wp2
                  go_round
                  case rel => exact ⟨m + 1, by omega, by go_num, by rw [HSN.out]⟩
                  case measure => simp [intOf]; omega
                · obtain rfl : m = a.states[s].length := by omega
                  rw [List.take_length]
                  rw [List.take_length] at hro
                  generalize rowN (iterN a k) a.states[s] = r0 at hro HNX
                  have hA : Below wt.heap.size wt (wt.alloc (.cells #[.int .i64 r0] 3)) := by go_grown
                  have HOWN4 := Lib.hid (owns_up HOWN3.out hA)
                  have HNEWS := Lib.hid (fun j u hj => owned_one (w := wt) (v := .int .i64 r0) (t := 3) j u hj)
                  have hbs3 := hbt0.size
                  clear hA
                  go_wp2_with (at_builtin; (refine wpList_append_own _ rfl (.tmp 63) (.tmp 65) 30 rfl ws.heap.size 3 i0 (.int .i64 0) 1 8 Try.underlying30 hi hz0 hz1 hz2 rfl (by decide) _ s (((nextN a (iterN a k)).take s).map (Value.int .i64)) rfl HOWN4.out ⟨wt.heap.size, 0, none⟩ 1 1 [.int .i64 r0] rfl rfl HNEWS.out (by simp [Value.oneCell']) (by unfold maxLen; omega) (by omega) (by simp; omega) ?_; intro v' w2 hown2 hgrow2 _))
                  go_roundw
                  case rel =>
                    refine ⟨Below.grown (w := wt.alloc (.cells #[.int .i64 r0] 3)) (hbt0.alloc hbs3 _) hgrow2 (by simp; omega) (fun g hg => (owns_lt HOWN3.out g hg).1), s + 1, by omega, by go_num, ?_⟩
                    rw [HNX.out, List.map_append]; exact hown2
                  case measure => simp [intOf]; omega
            · obtain rfl : s = a.states.length := by omega
              go_wp2
              go_roundw
              case rel =>
                refine ⟨ext_trans hbs0 hbt0, k + 1, by omega, by go_num, ?_⟩
                have h := owns_base (base' := W0.heap.size) HOWN3.out (by have := hbs.size; exact this)
                rw [List.take_of_length_le (by simp [nextN])] at h
                exact h
              case measure => simp [intOf]; omega
        · obtain rfl : k = n := by omega
          obtain ⟨b, rfl, hc⟩ := HCELL.out 0 (.int .i64 (numberS a k)) (by
            have h0 : 0 < (iterN a k).length := by rw [HIL.out]; omega
            unfold numberS
            rw [getD_of_lt 0 h0]
            simp)
          go_wp2
          go_ret
          exact ⟨rfl, ext_trans hb0 hbs⟩
end Go.Proofs.Ytlfnfphkhokdiaa

namespace Go.Proofs.Ytlfnfphkhokdiaa
open Go.RowKit Go Go.Shelf


set_option maxHeartbeats 1000000 in
theorem rprobCheck_any (p : Pb) (vc vs : Value) (w : World) (hc : IsCases w vc p.t.cases) (hs : IsStates w vs p.a.states) (hN : movesN p.a.states < 2305843009213693952) :
    Calls Try.prog 17 #[pbV p vc vs] w fun e w' => e = .returned (.int .i64 (probE p)) ∧ Below w.heap.size w w' := by
  have GC := Lib.hid hc
  have GS := Lib.hid hs
  obtain ⟨pc, cc, rfl, _⟩ := hc.at
  obtain ⟨ps, cs, rfl, _⟩ := hs.at
  clear hc hs
  have HV : Hid (probE p = if taskE p.t ≠ 0 then taskE p.t else if advE p.a ≠ 0 then advE p.a else if p.t.n ≠ p.a.n then 22 else if p.rounds < 0 ∨ 6 < p.rounds then 2 else 0) := by exact rfl
  go_enter Try.func17, Try.ntmps17
  go_wp2_with fail
  refine calls_gen (fun W => Below w.heap.size w W ∧ W.heap[w.heap.size]? = some (.cells (pbC p (.slice pc p.t.cases.length cc) (.slice ps p.a.states.length cs)) 29)) ⟨by go_grown, alloc_new _ _⟩ (fun W0 hW0 => ?_)
  obtain ⟨hb0, hA0⟩ := hW0
  refine (rtaskCheck_any p.t _ W0 (GC.out.up up_case hb0)).mono ?_
  rintro e w1 ⟨rfl, hb1⟩
  have hb1' := ext_trans hb0 hb1
  have hA1 := block_up hb1 hA0
  have t1 := cell_block hA1
  generalize taskE p.t = et at HV
  have HA1 := Lib.hid hA1; clear hA1 hA0
  by_cases het : et = 0
  case neg =>
    have het' : (et != 0) = true := by simpa using het
    go_wp2_with fail
    go_ret
    exact ⟨ret_int (by rw [HV.out, if_pos het]), hb1'⟩
  subst het
  go_wp2_with fail
  refine (radvCheck_any p.a _ w1 (GS.out.up up_moves hb1') hN).mono ?_
  rintro e w2 ⟨rfl, hb2⟩
  have hb2' := ext_trans hb1' hb2
  have t2 := cell_block (block_up hb2 HA1.out)
  clear t1
  generalize advE p.a = ea at HV
  by_cases hea : ea = 0
  case neg =>
    have hea' : (ea != 0) = true := by simpa using hea
    go_wp2_with fail
    go_ret
    exact ⟨ret_int (by rw [HV.out, if_neg (by simp), if_pos hea]), hb2'⟩
  subst hea
  go_wp2_with fail
  all_goals
    go_ret
    refine ⟨ret_int ?_, hb2'⟩
    rw [HV.out]
    go_light
    grind

theorem prob_rounds {p : Pb} (h : probE p = 0) : ∃ n : Nat, p.rounds = n ∧ n ≤ 6 := ⟨p.rounds.toNat, by have := prob_ok h; omega, by have := prob_ok h; omega⟩

def numberP (p : Pb) : Int := p.t.cases.length * numberS p.a p.rounds.toNat
theorem numberS_ok (a : Adv) (n : Nat) : 0 ≤ numberS a n ∧ numberS a n ≤ 4097 := okN_get (iterN_ok a n) 0

set_option maxRecDepth 100000 in
set_option maxHeartbeats 2000000 in
theorem rprobNumber_any (p : Pb) (vc vs : Value) (w : World) (hc : IsCases w vc p.t.cases) (hs : IsStates w vs p.a.states) (hp : probE p = 0) :
    Calls Try.prog 18 #[pbV p vc vs, .int .i64 4096] w fun e w' => e = .returned (.int .i64 (numberP p)) ∧ Below w.heap.size w w' := by
  obtain ⟨ht, ha, hna, _, _⟩ := prob_ok hp
  clear hna
  obtain ⟨h1, h2, _⟩ := adv_ok ha
  have hcl := (task_ok ht).2.2.2.1
  obtain ⟨n, hn, hn6⟩ := prob_rounds hp
  have HV : Hid (numberP p = p.t.cases.length * numberS p.a n) := by (have h : numberP p = p.t.cases.length * numberS p.a n := by (unfold numberP; rw [hn, Int.toNat_natCast])); exact h
  have HCALL := Lib.hid (fun W (hb : Below w.heap.size w W) => rnumber_any p.a vs n hn6 W (hs.up up_moves hb) h2 h1)
  have hno := numberS_ok p.a n
  generalize numberS p.a n = nn at HCALL HV hno
  obtain ⟨pc, cc, rfl, _⟩ := hc
  obtain ⟨ps, cs, rfl, _⟩ := hs
  have HM : Hid (IntKind.i64.wrap ((p.t.cases.length : Int) * nn) = p.t.cases.length * nn) := by
    have h : IntKind.i64.wrap ((p.t.cases.length : Int) * nn) = p.t.cases.length * nn := by
      have h1 : (0 : Int) ≤ (p.t.cases.length : Int) * nn := Int.mul_nonneg (by omega) (by omega)
      have h2 : (p.t.cases.length : Int) * nn ≤ 1024 * 4097 := Int.mul_le_mul (by omega) (by omega) (by omega) (by omega)
      exact IntWalk.i64_in _ (by omega)
    exact h
  rw [← hn] at HCALL
  clear ht ha h1 h2 hp hno hn
  go_enter Try.func18, Try.ntmps18
  go_wp2_with fail
  refine wp_gen (fun V => Below w.heap.size w V ∧ V.heap[w.heap.size]? = some (.cells (pbC p (.slice pc p.t.cases.length cc) (.slice ps p.a.states.length cs)) 29)) ⟨by go_grown, alloc_new _ _⟩ (fun V hV => ?_)
  obtain ⟨hb0, hA0⟩ := hV
  have HCA := Lib.hid (fun x : ExtW V => Calls.ext_of (HCALL.out x.val (ext_trans hb0 x.ext)))
  have r1 : ∀ x : ExtW V, ∀ o, x.val.cell? ⟨w.heap.size, o, none⟩ = _ := fun x => cell_block (block_up x.ext hA0)
  have hM := HM.out
  clear hA0
  refine wp_region_quiet_ext (by kernel_rfl) (by kernel_rfl) ?_
  repeat (go_big_quiet_step ((go_at_call 34; exact HCA.out _)))
  refine wpQuiet_nil ?_
  intro _ hw'
  obtain ⟨xq, hw''⟩ := hw'
  subst hw''
  clear r1 HCALL hM
  go_wp2_with fail
  go_ret
  exact ⟨ret_int (by rw [HV.out]), ext_trans hb0 xq.ext⟩

set_option maxHeartbeats 400000 in
theorem rfaulty_any (u : Value) (word : List Rd) (w : World) (hu : IsWord w u word) :
    Calls Try.prog 10 #[u] w fun e w' => e = .returned (.int .i64 (faultyS word)) ∧ w = w' := by
  obtain ⟨pu, cu, rfl, lu1, lu2, eu⟩ := hu.at
  clear hu
  by_cases h0 : word.length = 0
  · have HF : Hid (faultyS word = 0) := by (have h : faultyS word = 0 := by (unfold faultyS; rw [if_pos h0])); exact h
    have h0' : ((word.length : Int) == 0) = true := by simp [h0]
    have h1' : (word.length == 0) = true := by simp [h0]
    have H0 := Lib.hid h0; clear h0 eu
    go_enter Try.func10, Try.ntmps10
    go_wp2
    go_ret
    exact ⟨ret_int HF.out.symm, rfl⟩
  · have h0' : ((word.length : Int) == 0) = false := beq_eq_false_iff_ne.2 (by omega)
    have h1' : (word.length == 0) = false := beq_eq_false_iff_ne.2 (by omega)
    obtain ⟨b1, o1, rfl, hr⟩ := eu (word.length - 1) (by omega)
    have c6 := hr.2.2.2.2.2.2.1
    have HF : Hid (faultyS word = word[word.length - 1].f) := by
      have h : faultyS word = word[word.length - 1].f := by
        unfold faultyS; rw [if_neg h0, getD_of_lt default (by omega)]
      exact h
    clear hr
    generalize word[word.length - 1] = r at c6 HF
    have h1 : 1 ≤ word.length := by omega
    clear eu h0
    go_enter Try.func10, Try.ntmps10
    go_wp2
    go_ret
    exact ⟨ret_int HF.out.symm, rfl⟩

def fewPB (p : Pb) : Bool :=
  if fewTB p.t = false then false else if fewAB p.a = false then false else if 3 < p.t.n ∧ p.t.n ≤ 5 then false
  else if probE p ≠ 0 then true else decide (numberP p ≤ 60) || decide (4096 < numberP p)

set_option maxRecDepth 100000 in
set_option maxHeartbeats 2000000 in
theorem rfewProb_any (p : Pb) (vc vs : Value) (w : World) (hc : IsCases w vc p.t.cases) (hs : IsStates w vs p.a.states) :
    Calls Try.prog 5 #[pbV p vc vs] w fun e w' => e = .returned (.bool (fewPB p)) ∧ Below w.heap.size w w' := by
  have GC := Lib.hid hc
  have GS := Lib.hid hs
  obtain ⟨pc, cc, rfl, _⟩ := hc
  obtain ⟨ps, cs, rfl, _⟩ := hs
  have HV : Hid (fewPB p = if fewTB p.t = false then false else if fewAB p.a = false then false else if 3 < p.t.n ∧ p.t.n ≤ 5 then false else if probE p ≠ 0 then true else decide (numberP p ≤ 60) || decide (4096 < numberP p)) := by exact rfl
  have HF : Hid (fewAB p.a = (decide (p.a.states.length ≤ 8) && decide (movesN p.a.states ≤ 40))) := by exact rfl
  go_enter Try.func5, Try.ntmps5
  go_wp2_with fail
  refine calls_gen (fun W => Below w.heap.size w W ∧ W.heap[w.heap.size]? = some (.cells (pbC p (.slice pc p.t.cases.length cc) (.slice ps p.a.states.length cs)) 29)) ⟨by go_grown, alloc_new _ _⟩ (fun W0 hW0 => ?_)
  obtain ⟨hb0, hA0⟩ := hW0
  refine (rfewTask_any p.t _ W0 (GC.out.up up_case hb0)).mono ?_
  rintro e w1 ⟨rfl, hb1⟩
  have hb1' := ext_trans hb0 hb1
  have HA1 := Lib.hid (block_up hb1 hA0)
  have t1 := cell_block HA1.out
  clear hA0
  generalize fewTB p.t = ft at HV
  cases ft with
  | false =>
    go_wp2_with fail
    go_ret
    exact ⟨ret_bool (by rw [HV.out]; rfl), hb1'⟩
  | true =>
  go_wp2_with fail
  refine (rfewAdv_any p.a _ w1 (GS.out.up up_moves hb1')).mono ?_
  rintro e w2 ⟨rfl, hb2⟩
  have hb2' := ext_trans hb1' hb2
  have HA2 := Lib.hid (block_up hb2 HA1.out)
  have t2 := cell_block HA2.out
  clear t1
  cases hfa : fewAB p.a with
  | false =>
    have HFA := Lib.hid hfa; clear hfa
    go_wp2_with fail
    go_ret
    exact ⟨ret_bool (by rw [HV.out, HFA.out]; rfl), hb2'⟩
  | true =>
  have hmv : movesN p.a.states ≤ 40 := by
    have h := HF.out
    rw [hfa] at h
    simp at h
    exact h.2
  rw [hfa] at HV
  clear HF hfa
  by_cases h3 : 3 < p.t.n ∧ p.t.n ≤ 5
  · obtain ⟨h31, h32⟩ := h3
    have HR : Hid (fewPB p = false) := by (have h : fewPB p = false := by (rw [HV.out]; simp [h31, h32])); exact h
    go_wp2_with fail
    go_ret
    exact ⟨ret_bool HR.out.symm, hb2'⟩
  have HR : Hid (fewPB p = if probE p ≠ 0 then true else decide (numberP p ≤ 60) || decide (4096 < numberP p)) := by
    have h : fewPB p = if probE p ≠ 0 then true else decide (numberP p ≤ 60) || decide (4096 < numberP p) := by
      rw [HV.out, if_neg (by simp), if_neg (by simp), if_neg h3]
    exact h
  clear HV
  have h3' : ¬ 3 < p.t.n ∨ (3 < p.t.n ∧ 5 < p.t.n) := by omega
  clear h3
  have HC := Lib.hid (rprobCheck_any p _ _ w2 (GC.out.up up_case hb2') (GS.out.up up_moves hb2') (by omega))
  have HNU := Lib.hid (fun (hp : probE p = 0) W (hb : Below w.heap.size w W) => rprobNumber_any p _ _ W (GC.out.up up_case hb) (GS.out.up up_moves hb) hp)
  rcases h3' with h3 | ⟨h3, h3b⟩
  all_goals
    go_wp2_with fail
    refine HC.out.mono ?_
    rintro e w3 ⟨rfl, hb3⟩
    have hb3' := ext_trans hb2' hb3
    have t3 := cell_block (block_up hb3 HA2.out)
    clear t2
    by_cases hp : probE p = 0
    case neg =>
      generalize probE p = ep at hp HR
      have hp' : (ep != 0) = true := by simpa using hp
      go_wp2_with fail
      go_ret
      exact ⟨ret_bool (by rw [HR.out, if_pos hp]), hb3'⟩
    have HN2 := Lib.hid (HNU.out hp w3 hb3')
    rw [hp] at HR ⊢
    clear hp HNU
    go_wp2_with fail
    refine HN2.out.mono ?_
    rintro e w4 ⟨rfl, hb4⟩
    clear t3
    generalize numberP p = nn at HR
    by_cases h60 : nn ≤ 60
    · go_wp2_with fail
      go_ret
      exact ⟨ret_bool (by rw [HR.out, if_neg (by simp), decide_eq_true h60]; rfl), ext_trans hb3' hb4⟩
    · have hd : decide (nn ≤ 60) = false := decide_eq_false h60
      have HD := Lib.hid hd
      go_wp2_with fail
      go_ret
      exact ⟨ret_bool (by rw [HR.out, if_neg (by simp), HD.out]; rfl), ext_trans hb3' hb4⟩
end Go.Proofs.Ytlfnfphkhokdiaa

namespace Go.Proofs.Ytlfnfphkhokdiaa

theorem moveE_pset {a : Adv} {l : List Mv} {j : Nat} (h : moveE a l j = 0) : psetE a.n (l.getD j default).r.f = 0 := by
  unfold moveE at h
  split at h
  · omega
  · rename_i h1
    have h1' : roundE (l.getD j default).r = 0 := by simpa using h1
    split at h
    · omega
    · rename_i h2
      have hp : psetE (l.getD j default).r.g.n (l.getD j default).r.f = 0 := by
        unfold roundE at h1'
        split at h1'
        · omega
        · exact h1'
      have h2' : (l.getD j default).r.g.n = a.n := by simpa using h2
      rwa [h2'] at hp
theorem states_pset {a : Adv} (h : ∀ s, s < a.states.length → stateE a (a.states.getD s []) = 0) {s j : Nat} (hs : s < a.states.length) (hj : j < a.states[s].length) : psetE a.n a.states[s][j].r.f = 0 := by
  have h1 := h s hs
  rw [show a.states.getD s [] = a.states[s] by simp [hs]] at h1
  unfold stateE at h1
  rw [if_neg (by omega)] at h1
  have := moveE_pset (firstNZ_all h1 j hj)
  rwa [show a.states[s].getD j default = a.states[s][j] by simp [hj]] at this
theorem faulty_pset {a : Adv} (h : ∀ s, s < a.states.length → stateE a (a.states.getD s []) = 0) (word : List Rd) : ∀ s : Nat, s < a.states.length → 0 ≤ afterS a s word → word ≠ [] → psetE a.n (faultyS word) = 0 := by
  induction word with
  | nil => intro s _ _ h; exact absurd rfl h
  | cons r t ih =>
    intro s hs ha _
    unfold afterS at ha
    split at ha
    · omega
    · rename_i hr
      rcases toS_range h s hs r with hn | hn
      · omega
      · cases ht : t with
        | nil =>
          have hf : faultyS [r] = r.f := by simp [faultyS]
          rw [hf]
          unfold toS at hr
          rw [Int.toNat_natCast, show a.states.getD s [] = a.states[s] by simp [hs]] at hr
          cases hm : a.states[s].find? (fun m => decide (r = m.r)) with
          | none => rw [hm] at hr; simp at hr
          | some m =>
            have hmem := List.mem_of_find?_eq_some hm
            have hp := List.find?_some hm
            have e : r = m.r := by simpa using hp
            obtain ⟨j, hj, rfl⟩ := List.getElem_of_mem hmem
            rw [e]
            exact states_pset h hs hj
        | cons r2 t2 =>
          have hf : faultyS (r :: r2 :: t2) = faultyS (r2 :: t2) := by
            unfold faultyS
            simp
          rw [hf]
          obtain ⟨n, hn2⟩ : ∃ n : Nat, toS a s r = n := ⟨(toS a s r).toNat, by omega⟩
          rw [hn2] at ha
          have := ih n (by omega) ha (by rw [ht]; simp)
          rwa [ht] at this
theorem pset_lt {n f : Int} (h : psetE n f = 0) : 0 ≤ f ∧ f < 2 ^ n.toNat := by
  unfold psetE at h
  split at h
  · rename_i h1; exact absurd h h1
  · split at h
    · omega
    · rename_i h2
      refine ⟨by omega, ?_⟩
      rcases Int.lt_or_le f (2 ^ n.toNat) with h3 | h3
      · exact h3
      · have hp : (0 : Int) < 2 ^ n.toNat := Int.pow_pos (by decide)
        have : (1 : Int) ≤ f / 2 ^ n.toNat := (Int.le_ediv_iff_mul_le hp).2 (by omega)
        omega
/-- the faulty processes behind a permitted word -/
theorem faulty_ok {a : Adv} (ha : advE a = 0) (word : List Rd) (h : 0 ≤ afterS a 0 word) : 0 ≤ faultyS word ∧ faultyS word < 2 ^ a.n.toNat ∧ faultyS word < 32 := by
  obtain ⟨h1, h2, _⟩ := adv_ok ha
  by_cases hw : word = []
  · subst hw
    have hp : (0 : Int) < 2 ^ a.n.toNat := Int.pow_pos (by decide)
    have e : faultyS [] = 0 := rfl
    rw [e]
    omega
  · have hp := faulty_pset h2 word 0 (by omega) h hw
    have := pset_lt hp
    have := pset_ok hp
    omega

/-! ### the process that is responsible for an output -/
def disB (f : Int) (v dec : List Int) (p : Nat) : Bool := !hasB f p && (v.getD p 0 != dec.getD p 0)
def agB (f : Int) (v dec : List Int) (q : Nat) : Bool := !anyLt (q + 1) (disB f v dec)
def agrB (f : Int) (ls : List (List Int)) (dec : List Int) (q : Nat) : Bool := anyLt ls.length fun i => agB f (ls.getD i []) dec q
theorem agB_eq (f : Int) (v dec : List Int) (q : Nat) : agB f v dec q = agreesB (oblL (q + 1) f) dec v := by
  unfold agB agreesB
  rw [Bool.eq_iff_iff]
  simp only [Bool.not_eq_true', anyLt_eq_false, List.all_eq_true, beq_iff_eq]
  constructor
  · intro h p hp
    obtain ⟨h1, h2⟩ := oblL_mem.1 hp
    have := h p h1
    unfold disB at this
    rw [h2] at this
    simpa using this
  · intro h p hp
    unfold disB
    cases hb : hasB f p with
    | true => rfl
    | false =>
      have := h p (oblL_mem.2 ⟨hp, hb⟩)
      rw [this]; simp
theorem agrB_eq (f : Int) (ls : List (List Int)) (dec : List Int) (q : Nat) : agrB f ls dec q = !noneB f dec ls q := by
  unfold agrB noneB
  rw [Bool.not_not, Bool.eq_iff_iff, anyLt_iff, List.any_eq_true]
  constructor
  · rintro ⟨i, hi, h⟩
    refine ⟨ls[i], List.getElem_mem hi, ?_⟩
    rw [agB_eq, show ls.getD i [] = ls[i] by simp [hi]] at h
    exact h
  · rintro ⟨v, hv, h⟩
    obtain ⟨i, hi, rfl⟩ := List.getElem_of_mem hv
    refine ⟨i, hi, ?_⟩
    rw [agB_eq, show ls.getD i [] = ls[i] by simp [hi]]
    exact h
theorem noneB_skip (f : Int) (dec : List Int) (ls : List (List Int)) (q : Nat) (h : hasB f (q + 1) = true) : noneB f dec ls (q + 1) = noneB f dec ls q := by
  unfold noneB
  rw [oblL_succ (q + 1), h]
  rfl
theorem noneB_skip0 (f : Int) (dec : List Int) (ls : List (List Int)) (h : hasB f 0 = true) (hl : ls ≠ []) : noneB f dec ls 0 = false := by
  unfold noneB
  rw [oblL_succ 0, h]
  cases ls with
  | nil => exact absurd rfl hl
  | cons v t => simp [oblL, agreesB]
/-- the first process with which no vector agrees is obliged -/
theorem outp_first (n : Nat) (f : Int) (dec : List Int) (ls : List (List Int)) (hl : ls ≠ []) : firstIx n (fun q => !agrB f ls dec q) = outpE n f dec ls := by
  unfold outpE firstObl
  rcases firstIx_cases n (fun q => !agrB f ls dec q) with ⟨h, hn⟩ | ⟨k, hk, h, hp, hn⟩
  · rw [h]
    refine (firstIx_none _ _ fun j hj => ?_).symm
    have := hn j hj
    rw [agrB_eq, Bool.not_not] at this
    rw [this]; simp
  · rw [h]
    refine (firstIx_at n k _ hk (fun j hj => ?_) ?_).symm
    · have := hn j hj
      rw [agrB_eq, Bool.not_not] at this
      rw [this]; simp
    · rw [agrB_eq, Bool.not_not] at hp
      rw [hp, Bool.and_true, Bool.not_eq_true']
      cases hb : hasB f k with
      | false => rfl
      | true =>
        cases k with
        | zero => rw [noneB_skip0 f dec ls hb hl] at hp; cases hp
        | succ k =>
          rw [noneB_skip f dec ls k hb] at hp
          have := hn k (by omega)
          rw [agrB_eq, Bool.not_not, hp] at this
          cases this
end Go.Proofs.Ytlfnfphkhokdiaa

namespace Go.Proofs.Ytlfnfphkhokdiaa
open Go.RowKit Go Go.Shelf

set_option maxRecDepth 100000 in
set_option maxHeartbeats 4000000 in
theorem ragrees_any (f : Int) (hf : 0 ≤ f ∧ f ≤ 9223372036854775807) (vl vd : Value) (ls : List (List Int)) (dec : List Int) (q n : Nat) (hq : q < n) (hn : n ≤ 5) (hdl : dec.length = n) (hll : ∀ v ∈ ls, v.length = n) (w : World) (hl : IsVecs w vl ls) (hd : IsInts w vd dec) :
    Calls Try.prog 45 #[vl, .int .i64 f, vd, .int .i64 q] w fun e w' => e = .returned (.bool (agrB f ls dec q)) ∧ Below w.heap.size w w' := by
  obtain ⟨pa, ca, rfl, la1, la2, ea⟩ := hl.at
  obtain ⟨pd, cd, rfl, ld1, ld2, ed⟩ := hd.at
  have EA := Lib.hid ea
  have ED := Lib.hid ed
  have HLL := Lib.hid (fun i (hi : i < ls.length) => hll ls[i] (List.getElem_mem hi))
  have HDL := Lib.hid hdl
  clear hl hd ea ed hll hdl
  have HV : Hid (agrB f ls dec q = anyLt ls.length fun i => agB f (ls.getD i []) dec q) := by exact rfl
  go_enter Try.func45, Try.ntmps45
  go_wp2
  go_loopw [9] (fun i wr => Below w.heap.size w wr ∧ ∃ k : Nat, k ≤ ls.length ∧ i = .int .i64 k ∧ ∀ j, j < k → agB f (ls.getD j []) dec q = false) (fun i _ => ls.length - (intOf i).toNat)
  case atStart => exact ⟨Below.refl _ _, 0, by omega, rfl, by simp⟩
  case round =>
    obtain ⟨hbr, k, hk, rfl, hinv⟩ := hrel
    have H := Lib.hid hinv; clear hinv
    by_cases hlt : k < ls.length
    · obtain ⟨b1, o1, rfl, x, cx, hx⟩ := EA.out k hlt
      rw [Nat.mul_one] at cx
      obtain ⟨px, qx, rfl, x1, x2, ex⟩ := hx.at
      have EX := Lib.hid ex
      have CX := Lib.hid cx
      have HXL := Lib.hid (HLL.out k hlt)
      have HAG : Hid (agB f (ls.getD k []) dec q = !anyLt (q + 1) (disB f ls[k] dec)) := by
        have h : agB f (ls.getD k []) dec q = !anyLt (q + 1) (disB f ls[k] dec) := by rw [getD_of_lt [] hlt]; rfl
        exact h
      clear hx ex cx
      generalize ls[k] = v at x1 x2 EX CX HXL HAG
      go_wp2
      go_loopw [10, 11] (fun o i ws => Below wr.heap.size wr ws ∧ ∃ p : Nat, p ≤ q + 1 ∧ i = .int .i64 p ∧ o = .bool (!anyLt p (disB f v dec))) (fun _ i _ => q + 1 - (intOf i).toNat)
      case atStart => exact ⟨Below.refl _ _, 0, by omega, rfl, rfl⟩
      case round =>
        obtain ⟨hbs0, p, hp, rfl, rfl⟩ := hrel
        rename World => ws
        have hbs := ext_trans hbr hbs0
        by_cases hpq : p ≤ q
        · have HST : Hid (anyLt (p + 1) (disB f v dec) = (anyLt p (disB f v dec) || disB f v dec p)) := by exact rfl
          have HDI : Hid (disB f v dec p = (!hasB f p && (v.getD p 0 != dec.getD p 0))) := by exact rfl
          have HCALL := Lib.hid (fun x : ExtW ws => Calls.ext_of ((rhas_any f p (by omega) hf.1 hf.2 x.val).mono (fun _ _ ⟨h1, h2⟩ => ⟨h1, h2 ▸ Below.refl _ _⟩)))
          generalize anyLt p (disB f v dec) = ap at HST
          cases hh : hasB f p with
          | true =>
            rw [hh] at HCALL HDI
            have HR : Hid (anyLt (p + 1) (disB f v dec) = ap) := by (have h : anyLt (p + 1) (disB f v dec) = ap := by (rw [HST.out, HDI.out]; simp)); exact h
            clear hh
            go_wp2_with fail
            refine wp_region_quiet_ext (by kernel_rfl) (by kernel_rfl) ?_
            repeat (go_big_quiet_step ((go_at_call 12; exact HCALL.out _)))
            refine wpQuiet_nil ?_
            intro _ hw'
            obtain ⟨xq, hw''⟩ := hw'
            subst hw''
            clear HCALL
            go_wp2_with fail
            go_roundw
            case rel => exact ⟨ext_trans hbs0 xq.ext, p + 1, by omega, by go_num, by rw [HR.out]⟩
            case measure => simp [intOf]; omega
          | false =>
            rw [hh] at HCALL HDI
            clear hh
            have hpl : p < v.length := by rw [HXL.out]; omega
            have hpd : p < dec.length := by rw [HDL.out]; omega
            obtain ⟨b3, o3, rfl, c3, _⟩ := EX.out p hpl
            obtain ⟨b4, o4, rfl, c4, _⟩ := ED.out p hpd
            rw [Nat.mul_one] at c3 c4
            have HR : Hid (anyLt (p + 1) (disB f v dec) = (ap || (v[p] != dec[p]))) := by
              have h : anyLt (p + 1) (disB f v dec) = (ap || (v[p] != dec[p])) := by rw [HST.out, HDI.out, getD_of_lt 0 hpl, getD_of_lt 0 hpd]; rfl
              exact h
            generalize v[p] = y at c3 HR
            generalize dec[p] = z at c4 HR
            have r1 : ∀ x : ExtW ws, x.val.cell? ⟨b1, o1 + k, none⟩ = _ := fun x => x.cell (cell_up hbs CX.out)
            have r2 : ∀ x : ExtW ws, x.val.cell? ⟨b3, o3 + p, none⟩ = _ := fun x => x.cell (cell_up hbs c3)
            have r3 : ∀ x : ExtW ws, x.val.cell? ⟨b4, o4 + p, none⟩ = _ := fun x => x.cell (cell_up hbs c4)
            clear c3 c4
            go_wp2_with fail
            refine wp_region_quiet_ext (by kernel_rfl) (by kernel_rfl) ?_
            repeat (go_big_quiet_step ((go_at_call 12; exact HCALL.out _)))
            refine wpQuiet_nil ?_
            intro _ hw'
            obtain ⟨xq, hw''⟩ := hw'
            subst hw''
            clear HCALL r1 r2 r3
            by_cases hyz : y = z
            · have hyz' : (y != z) = false := by simp [hyz]
              have HYZ := Lib.hid hyz'
              clear hyz
              go_wp2_with fail
              go_roundw
              case rel => exact ⟨ext_trans hbs0 xq.ext, p + 1, by omega, by go_num, by rw [HR.out, HYZ.out, Bool.or_false]⟩
              case measure => simp [intOf]; omega
            · have hyz' : (y != z) = true := by simpa using hyz
              have HYZ := Lib.hid hyz'
              clear hyz
              go_wp2_with fail
              go_roundw
              case rel => exact ⟨ext_trans hbs0 xq.ext, p + 1, by omega, by go_num, by rw [HR.out, HYZ.out, Bool.or_true]; rfl⟩
              case measure => simp [intOf]; omega
        · obtain rfl : p = q + 1 := by omega
          generalize anyLt (q + 1) (disB f v dec) = ap at HAG
          cases ap with
          | false =>
            go_wp2_with fail
            go_ret
            exact ⟨ret_bool (by rw [HV.out, anyLt_true _ k _ hlt HAG.out]), hbs⟩
          | true =>
            go_wp2_with fail
            go_roundw
            case rel => exact ⟨hbs, k + 1, by omega, by go_num, below_succ H.out HAG.out⟩
            case measure => simp [intOf]; omega
    · go_wp2
      go_ret
      exact ⟨ret_bool (by rw [HV.out, anyLt_false]; intro j hj; exact H.out j (by omega)), hbr⟩
end Go.Proofs.Ytlfnfphkhokdiaa

namespace Go.Proofs.Ytlfnfphkhokdiaa
open Go.RowKit Go Go.Shelf

theorem vecs_ne {c : Cs} (h : 1 ≤ c.out.length) (f : Int) : vecsS c f ≠ [] := by
  unfold vecsS
  split
  · rename_i h1; intro e; rw [e] at h1; simp at h1
  · intro e; rw [e] at h; simp at h
theorem schedB_cases (p : Pb) (word : List Rd) : schedB p word = if (word.length : Int) ≠ p.rounds then true else decide (afterS p.a 0 word < 0) := by
  unfold schedB
  by_cases h : (word.length : Int) = p.rounds <;> simp [h]

set_option maxRecDepth 100000 in
set_option maxHeartbeats 4000000 in
theorem rjudge_any (p : Pb) (vc vs : Value) (i : Nat) (hi : i < p.t.cases.length) (u : Value) (word : List Rd) (vd : Value) (dec : List Int) (w : World) (hc : IsCases w vc p.t.cases) (hv : IsStates w vs p.a.states) (hu : IsWord w u word) (hd : IsInts w vd dec)
    (hp : probE p = 0) (hl : (dec.length : Int) = p.t.n) :
    Calls Try.prog 27 #[pbV p vc vs, .int .i64 i, u, vd] w fun e w' => e = .returned (.tuple #[.int .i64 (judgeR p i word dec).1, .int .i64 (judgeR p i word dec).2]) ∧ Below w.heap.size w w' := by
  obtain ⟨ht, ha, hna, hr0, hr6⟩ := prob_ok hp
  obtain ⟨ha1, ha2, _⟩ := adv_ok ha
  have htn := (task_ok ht).1
  obtain ⟨n, hn⟩ : ∃ n : Nat, p.t.n = n := ⟨p.t.n.toNat, by omega⟩
  have HJ : Hid (judgeR p i word dec = if schedB p word then (1, -1) else if 0 ≤ undecE n (faultyS word) dec then (2, undecE n (faultyS word) dec) else if 0 ≤ outpE n (faultyS word) dec (allowedS p.t i (faultyS word)) then (3, outpE n (faultyS word) dec (allowedS p.t i (faultyS word))) else (0, -1)) := by
    have h : judgeR p i word dec = if schedB p word then (1, -1) else if 0 ≤ undecE n (faultyS word) dec then (2, undecE n (faultyS word) dec) else if 0 ≤ outpE n (faultyS word) dec (allowedS p.t i (faultyS word)) then (3, outpE n (faultyS word) dec (allowedS p.t i (faultyS word))) else (0, -1) := by
      unfold judgeR; rw [hn, Int.toNat_natCast]
    exact h
  have HSB := Lib.hid (schedB_cases p word)
  have HFO := Lib.hid (fun h : 0 ≤ afterS p.a 0 word => faulty_ok ha word h)
  have HCO := Lib.hid (vecs_ok ((task_ok ht).2.2.2.2 _ (List.getElem_mem hi)))
  have HNE := Lib.hid ((task_ok ht).2.2.2.2 _ (List.getElem_mem hi)).out1
  have GC := Lib.hid hc
  have GV := Lib.hid hv
  have GU := Lib.hid hu
  have GD := Lib.hid hd
  obtain ⟨pc, cc, rfl, l1, m1, e1⟩ := hc.at
  obtain ⟨ps, cs, rfl, _⟩ := hv
  obtain ⟨pu, cu, rfl, _⟩ := hu
  obtain ⟨pd, cd, rfl, ld1, ld2, ed⟩ := hd.at
  have ED := Lib.hid ed
  have EC := Lib.hid e1
  have HN := Lib.hid hn
  have HNA := Lib.hid hna
  have HL := Lib.hid hl
  have HP := Lib.hid hp
  have HT := Lib.hid ht
  have hn5 : n ≤ 5 := by omega
  have HAF := Lib.hid (fun W (hb : Below w.heap.size w W) => rafter_any p.a _ _ word W (GV.out.up up_moves hb) (GU.out.up up_round hb) ha2 ha1.1)
  clear hc hd ed e1 ht ha hna hp htn ha1 ha2 hn
  by_cases hlr : (word.length : Int) = p.rounds
  case neg =>
    have hlr' : ((word.length : Int) != p.rounds) = true := by simpa using hlr
    have HR : Hid (judgeR p i word dec = (1, -1)) := by (have h : judgeR p i word dec = (1, -1) := by (rw [HJ.out, HSB.out, if_pos hlr]; rfl)); exact h
    clear hl
    go_enter Try.func27, Try.ntmps27
    go_wp2_with fail
    go_ret2
    refine ⟨ret_pair ?_ ?_, by go_grown⟩ <;> rw [HR.out]
  have hlr' : ((word.length : Int) != p.rounds) = false := by simp [hlr]
  have HS1 : Hid (schedB p word = decide (afterS p.a 0 word < 0)) := by (have h : schedB p word = decide (afterS p.a 0 word < 0) := by (rw [HSB.out, if_neg (by simpa using hlr)])); exact h
  clear HSB hlr hl
  generalize afterS p.a 0 word = af at HAF HS1 HFO
  go_enter Try.func27, Try.ntmps27
  go_wp2_with fail
  refine calls_gen (fun W => Below w.heap.size w W ∧ W.heap[w.heap.size]? = some (.cells (pbC p (.slice pc p.t.cases.length cc) (.slice ps p.a.states.length cs)) 29)) ⟨by go_grown, alloc_new _ _⟩ (fun W0 hW0 => ?_)
  obtain ⟨hb0, hA0⟩ := hW0
  refine (HAF.out W0 hb0).mono ?_
  rintro e w1 ⟨rfl, hb1⟩
  have hb1' := ext_trans hb0 hb1
  have HA1 := Lib.hid (block_up hb1 hA0)
  clear hA0 HAF
  by_cases haf : af < 0
  · have HR : Hid (judgeR p i word dec = (1, -1)) := by (have h : judgeR p i word dec = (1, -1) := by (rw [HJ.out, HS1.out, decide_eq_true haf]; rfl)); exact h
    go_wp2_with fail
    go_ret2
    refine ⟨ret_pair ?_ ?_, hb1'⟩ <;> rw [HR.out]
  have HJ2 : Hid (judgeR p i word dec = if 0 ≤ undecE n (faultyS word) dec then (2, undecE n (faultyS word) dec) else if 0 ≤ outpE n (faultyS word) dec (allowedS p.t i (faultyS word)) then (3, outpE n (faultyS word) dec (allowedS p.t i (faultyS word))) else (0, -1)) := by
    have h : judgeR p i word dec = if 0 ≤ undecE n (faultyS word) dec then (2, undecE n (faultyS word) dec) else if 0 ≤ outpE n (faultyS word) dec (allowedS p.t i (faultyS word)) then (3, outpE n (faultyS word) dec (allowedS p.t i (faultyS word))) else (0, -1) := by
      rw [HJ.out, HS1.out, decide_eq_false haf]; rfl
    exact h
  have HFA := Lib.hid (rfaulty_any _ word w1 (GU.out.up up_round hb1'))
  have hfo := HFO.out (by omega)
  rw [← HNA.out, HN.out, Int.toNat_natCast] at hfo
  have HPL : Hid (allowedS p.t i (faultyS word) = vecsS p.t.cases[i] (faultyS word)) := by
    have h : allowedS p.t i (faultyS word) = vecsS p.t.cases[i] (faultyS word) := by
      have h0 : placeE p.t i (faultyS word) = 0 := by
        unfold placeE
        rw [HT.out, HN.out, Int.toNat_natCast, if_neg (by simp), if_neg (by omega), if_neg (by omega)]
      unfold allowedS
      rw [if_neg (by simpa using h0), Int.toNat_natCast, getD_of_lt default hi]
    exact h
  rw [HPL.out] at HJ2
  have HFX := Lib.hid hfo.2.1
  have hf0 := hfo.1
  have hf1 := hfo.2.2
  clear HJ HS1 HFO HPL hfo
  generalize hfe : faultyS word = f at HJ2 HFA HFX hf0 hf1
  clear hfe
  go_wp2_with fail
  refine HFA.out.mono ?_
  rintro e w2 ⟨rfl, rfl⟩
  go_wp2_with fail
  have t1 := cell_block HA1.out
  have HUE : Hid (undecE n f dec = firstIx n fun p => !hasB f p && decide (dec.getD p 0 < 0)) := by exact rfl
  go_loop [11] (fun i => ∃ q : Nat, q ≤ n ∧ i = .int .i64 q ∧ ∀ j, j < q → (!hasB f j && decide (dec.getD j 0 < 0)) = false) (fun i => n - (intOf i).toNat)
  case atStart => exact ⟨0, by omega, rfl, by simp⟩
  case round =>
    obtain ⟨q, hq, rfl, hinv⟩ := hrel
    have H := Lib.hid hinv; clear hinv
    by_cases hqn : q < n
    · have hqi : (q : Int) < p.t.n := by rw [HN.out]; omega
      have C1 := Lib.hid (fun w => rhas_any f q (by omega) hf0 (by omega) w)
      cases hh : hasB f q with
      | true =>
        rw [hh] at C1
        have HH := Lib.hid hh; clear hh
        go_wp2_with fail
        refine (C1.out _).mono ?_
        rintro e w' ⟨rfl, rfl⟩
        go_wp2_with fail
        go_round
        case rel => exact ⟨q + 1, by omega, by go_num, below_succ H.out (by rw [HH.out]; rfl)⟩
        case measure => simp [intOf]; omega
      | false =>
        rw [hh] at C1
        have HH := Lib.hid hh; clear hh
        have hpd : q < dec.length := by have := HL.out; have := HN.out; omega
        obtain ⟨b4, o4, rfl, c4, _⟩ := ED.out q hpd
        rw [Nat.mul_one] at c4
        have d4 := cell_up hb1' c4
        have HDG := Lib.hid (getD_of_lt 0 hpd)
        generalize dec[q] = y at c4 d4 HDG
        clear c4
        by_cases hy : y < 0
        · have HR : Hid (undecE n f dec = q) := by (have h : undecE n f dec = q := by (rw [HUE.out]; exact firstIx_at n q _ hqn H.out (by rw [HH.out, HDG.out, decide_eq_true hy]; rfl))); exact h
          go_wp2_with fail
          refine (C1.out _).mono ?_
          rintro e w' ⟨rfl, rfl⟩
          go_wp2_with fail
          go_ret2
          refine ⟨ret_pair ?_ ?_, hb1'⟩ <;> rw [HJ2.out, if_pos (by rw [HR.out]; omega)]
          rw [HR.out]
        · go_wp2_with fail
          refine (C1.out _).mono ?_
          rintro e w' ⟨rfl, rfl⟩
          go_wp2_with fail
          go_round
          case rel => exact ⟨q + 1, by omega, by go_num, below_succ H.out (by rw [HH.out, HDG.out, decide_eq_false (by omega)]; rfl)⟩
          case measure => simp [intOf]; omega
    · have hqi : ¬ (q : Int) < p.t.n := by rw [HN.out]; omega
      have HR : Hid (undecE n f dec = -1) := by (have h : undecE n f dec = -1 := by (rw [HUE.out]; exact firstIx_none n _ fun j hj => H.out j (by omega))); exact h
      have HJ3 : Hid (judgeR p i word dec = if 0 ≤ outpE n f dec (vecsS p.t.cases[i] f) then (3, outpE n f dec (vecsS p.t.cases[i] f)) else (0, -1)) := by
        have h : judgeR p i word dec = if 0 ≤ outpE n f dec (vecsS p.t.cases[i] f) then (3, outpE n f dec (vecsS p.t.cases[i] f)) else (0, -1) := by rw [HJ2.out, if_neg (by rw [HR.out]; omega)]
        exact h
      have HOF := Lib.hid (outp_first n f dec (vecsS p.t.cases[i] f) (vecs_ne HNE.out f))
      have HVL := Lib.hid (fun v (hv : v ∈ vecsS p.t.cases[i] f) => show v.length = n by have h1 := (HCO.out f).2 v hv; have h2 := HN.out; omega)
      obtain ⟨b1, o1, rfl, ⟨x0, cx0, hx0⟩, ⟨x1, cx1, hx1⟩, ⟨x2, cx2, hx2⟩⟩ := EC.out i hi
      have d0 := cell_up hb1' cx0
      have d1 := cell_up hb1' cx1
      have d2 := cell_up hb1' cx2
      have HVC := Lib.hid (rvectors_any x0 x1 x2 p.t.cases[i] f w1 (hx0.up up_int hb1') (hx1.up up_ints hb1') (hx2.up up_ints hb1'))
      obtain ⟨p0, q0, rfl, _⟩ := hx0
      obtain ⟨p1, q1, rfl, _⟩ := hx1
      obtain ⟨p2, q2, rfl, _⟩ := hx2
      clear HJ2 HR HUE cx0 cx1 cx2
      generalize vecsS p.t.cases[i] f = L at HJ3 HOF HVL HVC
      go_wp2_with fail
      refine HVC.out.mono ?_
      rintro e w3 ⟨u3, rfl, hu3, hb3⟩
      have HU3 := Lib.hid hu3
      obtain ⟨pv, cv, rfl, _⟩ := hu3
      have hb3' := ext_trans hb1' hb3
      have HA3 := Lib.hid (block_up hb3 HA1.out)
      clear d0 d1 d2 t1
      go_wp2_with fail
      go_loopw [13] (fun i wr => Below w3.heap.size w3 wr ∧ ∃ q : Nat, q ≤ n ∧ i = .int .i64 q ∧ ∀ j, j < q → (!agrB f L dec j) = false) (fun i _ => n - (intOf i).toNat)
      case atStart => exact ⟨Below.refl _ _, 0, by omega, rfl, by simp⟩
      case round =>
        obtain ⟨hbr, q2, hq2, rfl, hinv⟩ := hrel
        have H2 := Lib.hid hinv; clear hinv
        have hbrw := ext_trans hb3' hbr
        have t1 := cell_block (block_up hbr HA3.out)
        by_cases hqn2 : q2 < n
        · have hqi2 : (q2 : Int) < p.t.n := by rw [HN.out]; omega
          have HAG := Lib.hid (ragrees_any f ⟨hf0, by omega⟩ _ _ L dec q2 n hqn2 hn5 (by have := HL.out; have := HN.out; omega) HVL.out wr (HU3.out.up up_ints hbr) (GD.out.up up_int hbrw))
          cases hag : agrB f L dec q2 with
          | true =>
            rw [hag] at HAG
            have HG2 := Lib.hid hag; clear hag
            go_wp2_with fail
            refine HAG.out.mono ?_
            rintro e w4 ⟨rfl, hb4⟩
            go_wp2_with fail
            go_roundw
            case rel => exact ⟨ext_trans hbr hb4, q2 + 1, by omega, by go_num, below_succ H2.out (by rw [HG2.out]; rfl)⟩
            case measure => simp [intOf]; omega
          | false =>
            rw [hag] at HAG
            have HR : Hid (outpE n f dec L = q2) := by (have h : outpE n f dec L = q2 := by (rw [← HOF.out]; exact firstIx_at n q2 _ hqn2 H2.out (by rw [hag]; rfl))); exact h
            clear hag
            go_wp2_with fail
            refine HAG.out.mono ?_
            rintro e w4 ⟨rfl, hb4⟩
            go_wp2_with fail
            go_ret2
            refine ⟨ret_pair ?_ ?_, ext_trans hbrw hb4⟩ <;> rw [HJ3.out, if_pos (by rw [HR.out]; omega)]
            rw [HR.out]
        · have hqi2 : ¬ (q2 : Int) < p.t.n := by rw [HN.out]; omega
          have HR : Hid (outpE n f dec L = -1) := by (have h : outpE n f dec L = -1 := by (rw [← HOF.out]; exact firstIx_none n _ fun j hj => H2.out j (by omega))); exact h
          go_wp2_with fail
          go_ret2
          refine ⟨ret_pair ?_ ?_, hbrw⟩ <;> rw [HJ3.out, if_neg (by rw [HR.out]; omega)]
end Go.Proofs.Ytlfnfphkhokdiaa
