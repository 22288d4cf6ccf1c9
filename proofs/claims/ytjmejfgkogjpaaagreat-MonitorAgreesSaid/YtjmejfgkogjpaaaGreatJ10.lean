/-
  Parts of the proof, in order. Contract of the reference's grows of adversaries. Conditions: the argument reads as an adversary whose states are without errors. Contracts of the reference's Check, To, After, Few of adversaries. Conditions: the arguments read as an adversary. Contracts of the reference's To, After, Few of adversaries. Conditions: the arguments read as an adversary; its states are without errors where a word is followed. Contract of the reference's Number of adversaries. Conditions: the argument reads as an adversary whose states are without errors; few rounds. Contracts of the reference's Check, Number and Few of problems, and of Faulty. Conditions: the arguments read as a problem, a word. Contracts of the reference's Count and Few of machines and Few of traces: they return some number, some truth value. Conditions: the arguments read as a machine, a trace. Maps whose keys are structs, in general: what a look-up gives, and a store at a key that is not there yet. Conditions: the block is such a map; the keys compare as the premise says. It proves nothing of the program. A law for 'append' to a row of the caller's own, which may bear the mark of bytes that came of a string; it tells in which block the row lies. It proves nothing of the program. Contract of the program's machine.steps (a map of places); how places are compared as keys. Conditions: the argument reads as a machine whose steps have different places.
-/
import Derived.ArgAppend
import Derived.OwnWalkIn
import Derived.Laws.IdiomStrings
import Derived.Test.YtjmejfgkogjpaaaGreatJ9
namespace Go.Proofs.YtjmejfgkogjpaaaGreat
open Go.RowKit Go Go.Shelf

theorem badAt_eq (a : Adv) (s j : Nat) (hs : s < a.states.length) (hj : j < a.states[s].length) :
    badAt a (cnt a.states s + j) = anyLt (a.states.getD a.states[s][j].to.toNat []).length fun k => !insideB a.states[s][j].r.f ((a.states.getD a.states[s][j].to.toNat []).getD k default).r.f := by
  unfold badAt nextL; rw [mvAt_eq _ s j hs hj]
theorem badAt_at (a : Adv) (s j u : Nat) (hs : s < a.states.length) (hj : j < a.states[s].length) (hu : u < a.states.length) (h : a.states[s][j].to = u) :
    badAt a (cnt a.states s + j) = anyLt a.states[u].length fun k => !insideB a.states[s][j].r.f (a.states[u].getD k default).r.f := by
  rw [badAt_eq a s j hs hj, h, Int.toNat_natCast, getD_of_lt [] hu]

set_option maxRecDepth 100000 in
set_option maxHeartbeats 4000000 in
theorem rgrows_any (a : Adv) (v : Value) (w : World) (hv : IsStates w v a.states) (hok : ∀ s, s < a.states.length → stateE a (a.states.getD s []) = 0) :
    Calls Tryz.prog 64 #[.agg #[.int .i64 a.n, v]] w fun e w' => e = .returned (.bool (growsB a)) ∧ Below w.heap.size w w' := by
  obtain ⟨pa, ca, rfl, la1, la2, ea⟩ := hv.at
  clear hv
  have EA := Lib.hid ea; clear ea
  have HOK := Lib.hid hok; clear hok
  have HV : Hid (growsB a = !anyLt (movesN a.states) (badAt a)) := by exact rfl
  go_enter Tryz.func64, Tryz.ntmps64
  go_wp2
  refine wp_gen (fun W => Below w.heap.size w W ∧ W.heap[w.heap.size]? = some (.cells #[.int .i64 a.n, .slice pa a.states.length ca] 27)) ⟨by go_grown, alloc_new _ _⟩ (fun W0 hW0 => ?_)
  obtain ⟨hb0, hA0⟩ := hW0
  have HA := Lib.hid hA0; clear hA0
  go_loopw [3] (fun i wr => Below W0.heap.size W0 wr ∧ ∃ s : Nat, s ≤ a.states.length ∧ i = .int .i64 s ∧ ∀ j, j < cnt a.states s → badAt a j = false) (fun i _ => a.states.length - (intOf i).toNat)
  case atStart => exact ⟨Below.refl _ _, 0, by omega, rfl, by rw [cnt_zero]; simp⟩
  case round =>
    obtain ⟨hbr0, s, hs, rfl, hinv⟩ := hrel
    have H := Lib.hid hinv; clear hinv
    have hbr := ext_trans hb0 hbr0
    have t1 := cell_block (block_up hbr0 HA.out)
    by_cases hlt : s < a.states.length
    · obtain ⟨b1, o1, rfl, x, cx, hx⟩ := EA.out s hlt
      rw [Nat.mul_one] at cx
      obtain ⟨px, qx, rfl, x1, x2, ex⟩ := hx.at
      have EX := Lib.hid ex
      have CX := Lib.hid cx
      have HCS := Lib.hid (cnt_succ a.states s hlt)
      have hcl := cnt_le a.states s hlt
      clear hx cx ex
      go_wp2
      clear t1
      go_loopw [4] (fun i ws => Below wr.heap.size wr ws ∧ ∃ m : Nat, m ≤ a.states[s].length ∧ i = .int .i64 m ∧ ∀ j, j < cnt a.states s + m → badAt a j = false) (fun i _ => a.states[s].length - (intOf i).toNat)
      case atStart => exact ⟨Below.refl _ _, 0, by omega, rfl, by simpa using H.out⟩
      case round =>
        obtain ⟨hbs0, m, hm, rfl, hinv⟩ := hrel
        rename World => ws
        have H2 := Lib.hid hinv; clear hinv
        have hbs5 := ext_trans hbr0 hbs0
        have hbs := ext_trans hbr hbs0
        have t1 := cell_block (block_up hbs5 HA.out)
        have c1 := cell_up hbs CX.out
        have hsz := block_lt (block_up hbs5 HA.out)
        have hb1 : b1 < ws.heap.size := cell_lt c1
        by_cases hml : m < a.states[s].length
        · obtain ⟨b3, o3, rfl, ⟨⟨d0, _⟩, ⟨d1, _⟩, ⟨d2, _⟩, ⟨d3, _⟩, ⟨d4, _⟩, ⟨d5, _⟩, ⟨d6, _⟩⟩, ⟨d7, _⟩⟩ := EX.out m hml
          have hso := states_ok HOK.out hlt hml
          obtain ⟨u, hu⟩ : ∃ u : Nat, a.states[s][m].to = u := ⟨a.states[s][m].to.toNat, by omega⟩
          have hul : u < a.states.length := by omega
          have HBA := Lib.hid (badAt_at a s m u hlt hml hul hu)
          rw [hu] at d7
          have hf1 := hso.1
          obtain ⟨b4, o4, e4, y, cy, hy⟩ := EA.out u hul
          obtain ⟨rfl, rfl⟩ : b1 = b4 ∧ o1 = o4 := by simpa using e4
          rw [Nat.mul_one] at cy
          obtain ⟨py, qy, rfl, y1, y2, ey⟩ := hy.at
          have EY := Lib.hid ey
          have CY := Lib.hid cy
          have HSO := Lib.hid (fun j (hj : j < a.states[u].length) => (states_ok HOK.out hul hj).1)
          have g0 := cell_up hbs d0
          have g1 := cell_up hbs d1
          have g2 := cell_up hbs d2
          have g3 := cell_up hbs d3
          have g4 := cell_up hbs d4
          have g5 := cell_up hbs d5
          have g6 := cell_up hbs d6
          have g7 := cell_up hbs d7
          clear hu hso hy cy ey e4 d0 d1 d2 d3 d4 d5 d6 d7
          generalize a.states[s][m] = mv at g0 g1 g2 g3 g4 g5 g6 HBA hf1
          go_wp2
          refine wp_gen (fun W => Below ws.heap.size ws W ∧ W.heap[ws.heap.size]? = some (.cells #[.int .i64 mv.r.g.n, .int .i64 mv.r.g.h0, .int .i64 mv.r.g.h1, .int .i64 mv.r.g.h2, .int .i64 mv.r.g.h3, .int .i64 mv.r.g.h4, .int .i64 mv.r.f, .int .i64 u] 89)) ⟨by go_grown, alloc_new _ _⟩ (fun W6 hW6 => ?_)
          obtain ⟨hb6, hM6⟩ := hW6
          have HM6 := Lib.hid hM6
          clear hM6 g0 g1 g2 g3 g4 g5 g6 g7 t1 c1 hsz hb1
          go_loopw [6] (fun i wt => Below W6.heap.size W6 wt ∧ ∃ q : Nat, q ≤ a.states[u].length ∧ i = .int .i64 q ∧ ∀ j, j < q → (!insideB mv.r.f (a.states[u].getD j default).r.f) = false) (fun i _ => a.states[u].length - (intOf i).toNat)
          case atStart => exact ⟨Below.refl _ _, 0, by omega, rfl, by simp⟩
          case round =>
            obtain ⟨hbt0, q, hq, rfl, hinv⟩ := hrel
            rename World => wt
            have H3 := Lib.hid hinv; clear hinv
            have hbt6 := ext_trans hb6 hbt0
            have hbt5 := ext_trans hbs5 hbt6
            have hbt := ext_trans hbs hbt6
            have t1 := cell_block (block_up hbt5 HA.out)
            have t2 := cell_block (block_up hbt0 HM6.out)
            have c2 := cell_up hbt CY.out
            by_cases hql : q < a.states[u].length
            · obtain ⟨b5, o5, rfl, ⟨_, _, _, _, _, _, ⟨f6, _⟩⟩, _⟩ := EY.out q hql
              have hf2 := HSO.out q hql
              have HNX := Lib.hid (getD_of_lt default hql)
              generalize a.states[u][q] = nx at f6 hf2 HNX
              have HCALL := Lib.hid (fun x : ExtW wt => Calls.ext_of ((rinside_any mv.r.f nx.r.f (by omega) (by omega) x.val).mono (fun _ _ ⟨h1, h2⟩ => ⟨h1, h2 ▸ Below.refl _ _⟩)))
              go_wp2_with fail
              have r1 : ∀ x : ExtW wt, ∀ o, x.val.cell? ⟨w.heap.size, o, none⟩ = _ := fun x => cell_block (block_up (ext_trans hbt5 x.ext) HA.out)
              have r2 : ∀ x : ExtW wt, ∀ o, x.val.cell? ⟨ws.heap.size, o, none⟩ = _ := fun x => cell_block (block_up (ext_trans hbt0 x.ext) HM6.out)
              have r3 : ∀ x : ExtW wt, x.val.cell? ⟨b1, o1 + u, none⟩ = _ := fun x => x.cell c2
              have r4 : ∀ x : ExtW wt, x.val.cell? _ = _ := fun x => x.cell (cell_up hbt f6)
              clear t1 t2 c2 f6
              cases hin : insideB mv.r.f nx.r.f with
              | false =>
                rw [hin] at HCALL
                have HIN := Lib.hid hin; clear hin
                refine wp_region_quiet_ext (by kernel_rfl) (by kernel_rfl) ?_
                repeat (go_big_quiet_step ((go_at_call 99; exact HCALL.out _)))
                refine wpQuiet_nil ?_
                intro _ hw'
                obtain ⟨xq, hw''⟩ := hw'
                subst hw''
                clear r1 r2 r3 r4 HCALL
                go_wp2_with fail
                go_ret
                refine ⟨ret_bool ?_, ext_trans hbt xq.ext⟩
                rw [HV.out, anyLt_true _ (cnt a.states s + m) _ (by omega) (by rw [HBA.out]; exact anyLt_true _ q _ hql (by rw [HNX.out, HIN.out]; rfl))]
                rfl
              | true =>
                rw [hin] at HCALL
                have HIN := Lib.hid hin; clear hin
                refine wp_region_quiet_ext (by kernel_rfl) (by kernel_rfl) ?_
                repeat (go_big_quiet_step ((go_at_call 99; exact HCALL.out _)))
                refine wpQuiet_nil ?_
                intro _ hw'
                obtain ⟨xq, hw''⟩ := hw'
                subst hw''
                clear r1 r2 r3 r4 HCALL
                go_wp2_with fail
                go_roundw
                case rel => exact ⟨ext_trans hbt0 xq.ext, q + 1, by omega, by go_num, below_succ H3.out (by rw [HNX.out, HIN.out]; rfl)⟩
                case measure => simp [intOf]; omega
            · go_wp2_with fail
              go_roundw
              case rel =>
                refine ⟨ext_trans hbs0 hbt6, m + 1, by omega, by go_num, ?_⟩
                rw [← Nat.add_assoc]
                refine below_succ H2.out ?_
                rw [HBA.out]
                exact anyLt_false _ _ fun j hj => H3.out j (by omega)
              case measure => simp [intOf]; omega
        · go_wp2_with fail
          go_roundw
          case rel =>
            refine ⟨ext_trans hbr0 hbs0, s + 1, by omega, by go_num, ?_⟩
            rw [HCS.out]
            exact fun j hj => H2.out j (by omega)
          case measure => simp [intOf]; omega
    · go_wp2
      go_ret
      refine ⟨ret_bool ?_, hbr⟩
      rw [HV.out, anyLt_false]
      · rfl
      · intro j hj
        refine H.out j ?_
        rw [cnt_all _ _ (by omega)]; exact hj
end Go.Proofs.YtjmejfgkogjpaaaGreat

namespace Go.Proofs.YtjmejfgkogjpaaaGreat
open Go.RowKit Go Go.Shelf

set_option maxRecDepth 100000 in
set_option maxHeartbeats 4000000 in
theorem radvCheck_any (a : Adv) (v : Value) (w : World) (hv : IsStates w v a.states) (hN : movesN a.states < 2305843009213693952) :
    Calls Tryz.prog 31 #[.agg #[.int .i64 a.n, v]] w fun e w' => e = .returned (.int .i64 (advE a)) ∧ Below w.heap.size w w' := by
  have G := Lib.hid hv
  obtain ⟨pa, ca, rfl, la1, la2, ea⟩ := hv.at
  clear hv
  have EA := Lib.hid ea; clear ea
  by_cases c0 : a.n < 1
  · have HR : Hid (advE a = 2) := by (have h : advE a = 2 := by (unfold advE; rw [if_pos (by omega)])); exact h
    go_enter Tryz.func31, Tryz.ntmps31
    go_wp2
    go_ret
    exact ⟨ret_int HR.out.symm, by go_grown⟩
  by_cases c1 : 5 < a.n
  · have HR : Hid (advE a = 2) := by (have h : advE a = 2 := by (unfold advE; rw [if_pos (by omega)])); exact h
    go_enter Tryz.func31, Tryz.ntmps31
    go_wp2
    go_ret
    exact ⟨ret_int HR.out.symm, by go_grown⟩
  by_cases c2 : a.states.length < 1
  · have HR : Hid (advE a = 5) := by (have h : advE a = 5 := by (unfold advE; rw [if_neg (by omega), if_pos (by omega)])); exact h
    go_enter Tryz.func31, Tryz.ntmps31
    go_wp2
    go_ret
    exact ⟨ret_int HR.out.symm, by go_grown⟩
  by_cases c3 : 256 < a.states.length
  · have HR : Hid (advE a = 5) := by (have h : advE a = 5 := by (unfold advE; rw [if_neg (by omega), if_pos (by omega)])); exact h
    go_enter Tryz.func31, Tryz.ntmps31
    go_wp2
    go_ret
    exact ⟨ret_int HR.out.symm, by go_grown⟩
  have HC := Lib.hid (fun W (hb : Below w.heap.size w W) => rmoves_any a.n _ a.states W (G.out.up up_moves hb) hN)
  have HV : Hid (advE a = if 4096 < movesN a.states then 5 else if firstNZ a.states.length (fun s => stateE a (a.states.getD s [])) ≠ 0 then firstNZ a.states.length (fun s => stateE a (a.states.getD s [])) else if growsB a then 0 else 21) := by
    have h : advE a = if 4096 < movesN a.states then 5 else if firstNZ a.states.length (fun s => stateE a (a.states.getD s [])) ≠ 0 then firstNZ a.states.length (fun s => stateE a (a.states.getD s [])) else if growsB a then 0 else 21 := by
      unfold advE; rw [if_neg (by omega)]
      by_cases h4 : 4096 < movesN a.states
      · rw [if_pos (by omega), if_pos h4]
      · rw [if_neg (by omega), if_neg h4]
    exact h
  generalize movesN a.states = mN at HC HV hN
  go_enter Tryz.func31, Tryz.ntmps31
  go_wp2_with fail
  refine calls_gen (fun W => Below w.heap.size w W ∧ W.heap[w.heap.size]? = some (.cells #[.int .i64 a.n, .slice pa a.states.length ca] 27)) ⟨by go_grown, alloc_new _ _⟩ (fun W0 hW0 => ?_)
  obtain ⟨hb0, hA0⟩ := hW0
  refine (HC.out W0 hb0).mono ?_
  rintro e W1 ⟨rfl, hb1⟩
  have hbW := ext_trans hb0 hb1
  have HA := Lib.hid (block_up hb1 hA0)
  have t1 := cell_block HA.out
  clear hA0 HC
  by_cases c4 : 4096 < mN
  · have HR : Hid (advE a = 5) := by (have h : advE a = 5 := by (rw [HV.out, if_pos c4])); exact h
    go_wp2_with fail
    go_ret
    exact ⟨ret_int HR.out.symm, hbW⟩
  have HV1 : Hid (advE a = if firstNZ a.states.length (fun s => stateE a (a.states.getD s [])) ≠ 0 then firstNZ a.states.length (fun s => stateE a (a.states.getD s [])) else if growsB a then 0 else 21) := by
    have h : advE a = if firstNZ a.states.length (fun s => stateE a (a.states.getD s [])) ≠ 0 then firstNZ a.states.length (fun s => stateE a (a.states.getD s [])) else if growsB a then 0 else 21 := by rw [HV.out, if_neg c4]
    exact h
  clear HV
  go_wp2_with fail
  clear t1 c0 c1 c2 c3 c4
  go_loopw [3] (fun i wr => Below W1.heap.size W1 wr ∧ ∃ s : Nat, s ≤ a.states.length ∧ i = .int .i64 s ∧ ∀ j, j < s → stateE a (a.states.getD j []) = 0) (fun i _ => a.states.length - (intOf i).toNat)
  case atStart => exact ⟨Below.refl _ _, 0, by omega, rfl, by simp⟩
  case round =>
    obtain ⟨hbr0, s, hs, rfl, hinv⟩ := hrel
    have H := Lib.hid hinv; clear hinv
    have hbr := ext_trans hbW hbr0
    have t1 := cell_block (block_up hbr0 HA.out)
    by_cases hlt : s < a.states.length
    · obtain ⟨b1, o1, rfl, x, cx, hx⟩ := EA.out s hlt
      rw [Nat.mul_one] at cx
      have HX := Lib.hid hx
      obtain ⟨px, qx, rfl, _⟩ := hx
      have CX := Lib.hid cx
      have c1 := cell_up hbr cx
      have HS : Hid (stateE a (a.states.getD s []) = if a.states[s].length = 0 then 19 else firstNZ a.states[s].length (moveE a a.states[s])) := by
        have h : stateE a (a.states.getD s []) = if a.states[s].length = 0 then 19 else firstNZ a.states[s].length (moveE a a.states[s]) := by rw [getD_of_lt [] hlt]; rfl
        exact h
      clear cx
      by_cases h0 : a.states[s].length = 0
      · have h0' : ((a.states[s].length : Int) == 0) = true := by simp [h0]
        have h1' : (a.states[s].length == 0) = true := by simp [h0]
        have HR : Hid (stateE a (a.states.getD s []) = 19) := by (have h : stateE a (a.states.getD s []) = 19 := by (rw [HS.out, if_pos h0])); exact h
        have H0 := Lib.hid h0
        clear h0
        go_wp2_with fail
        go_ret
        exact ⟨ret_int (by rw [HV1.out, ← firstNZ_hit (f := fun s => stateE a (a.states.getD s [])) s 19 hlt H.out HR.out (by decide)]; rfl), hbr⟩
      · have h0' : ((a.states[s].length : Int) == 0) = false := beq_eq_false_iff_ne.2 (by omega)
        have h1' : (a.states[s].length == 0) = false := beq_eq_false_iff_ne.2 (by omega)
        have HR : Hid (stateE a (a.states.getD s []) = firstNZ a.states[s].length (moveE a a.states[s])) := by (have h : stateE a (a.states.getD s []) = firstNZ a.states[s].length (moveE a a.states[s]) := by (rw [HS.out, if_neg h0])); exact h
        clear h0
        go_wp2_with fail
        clear t1 c1 h0' h1'
        go_loopw [4] (fun i ws => Below wr.heap.size wr ws ∧ ∃ m : Nat, m ≤ a.states[s].length ∧ i = .int .i64 m ∧ ∀ j, j < m → moveE a a.states[s] j = 0) (fun i _ => a.states[s].length - (intOf i).toNat)
        case atStart => exact ⟨Below.refl _ _, 0, by omega, rfl, by simp⟩
        case round =>
          obtain ⟨hbs0, m, hm, rfl, hinv⟩ := hrel
          rename World => ws
          have H2 := Lib.hid hinv; clear hinv
          have hbs5 := ext_trans hbr0 hbs0
          have hbs := ext_trans hbr hbs0
          have t1 := cell_block (block_up hbs5 HA.out)
          have c1 := cell_up hbs CX.out
          by_cases hml : m < a.states[s].length
          · have HCALL := Lib.hid (fun x : ExtW ws => Calls.ext_of (rmove_any a (some ⟨b1, o1, none⟩) ca _ a.states[s] m hml x.val (HX.out.up up_move (ext_trans hbs x.ext))))
            generalize hge : moveE a a.states[s] m = em at HCALL
            have HGE := Lib.hid hge; clear hge
            go_wp2_with fail
            have r1 : ∀ x : ExtW ws, ∀ o, x.val.cell? ⟨w.heap.size, o, none⟩ = _ := fun x => cell_block (block_up (ext_trans hbs5 x.ext) HA.out)
            have r3 : ∀ x : ExtW ws, x.val.cell? _ = _ := fun x => x.cell c1
            clear t1 c1
            refine wp_region_quiet_ext (by kernel_rfl) (by kernel_rfl) ?_
            repeat (go_big_quiet_step ((go_at_call 63; exact HCALL.out _)))
            refine wpQuiet_nil ?_
            intro _ hw'
            obtain ⟨xq, hw''⟩ := hw'
            subst hw''
            clear r1 r3 HCALL
            by_cases hem : em = 0
            · subst hem
              go_wp2_with fail
              go_roundw
              case rel => exact ⟨ext_trans hbs0 xq.ext, m + 1, by omega, by go_num, below_succ H2.out HGE.out⟩
              case measure => simp [intOf]; omega
            · have hem' : (em != 0) = true := by simpa using hem
              go_wp2_with fail
              go_ret
              refine ⟨ret_int ?_, ext_trans hbs xq.ext⟩
              have e1 : em = stateE a (a.states.getD s []) := by rw [HR.out]; exact firstNZ_hit m em hml H2.out HGE.out hem
              rw [HV1.out, ← firstNZ_hit (f := fun s => stateE a (a.states.getD s [])) s em hlt H.out e1.symm hem, if_pos hem]
          · go_wp2_with fail
            go_roundw
            case rel => exact ⟨ext_trans hbr0 hbs0, s + 1, by omega, by go_num, below_succ H.out (by rw [HR.out]; exact firstNZ_zero _ _ fun j hj => H2.out j (by omega))⟩
            case measure => simp [intOf]; omega
    · have hall : ∀ j, j < a.states.length → stateE a (a.states.getD j []) = 0 := fun j hj => H.out j (by omega)
      have HV2 : Hid (advE a = if growsB a then 0 else 21) := by
        have h : advE a = if growsB a then 0 else 21 := by rw [HV1.out, firstNZ_zero _ _ hall]; simp
        exact h
      have HG := Lib.hid (rgrows_any a _ wr (G.out.up up_moves hbr) hall)
      clear hall
      generalize growsB a = gb at HG HV2
      cases gb with
      | true =>
        go_wp2_with fail
        refine HG.out.mono ?_
        rintro e w2 ⟨rfl, hb2⟩
        go_wp2_with fail
        go_ret
        exact ⟨ret_int (by rw [HV2.out]; rfl), ext_trans hbr hb2⟩
      | false =>
        go_wp2_with fail
        refine HG.out.mono ?_
        rintro e w2 ⟨rfl, hb2⟩
        go_wp2_with fail
        go_ret
        exact ⟨ret_int (by rw [HV2.out]; rfl), ext_trans hbr hb2⟩
end Go.Proofs.YtjmejfgkogjpaaaGreat

namespace Go.Proofs.YtjmejfgkogjpaaaGreat
open Go.RowKit Go Go.Shelf

def toL (l : List Mv) (r : Rd) : Int := ((l.find? fun m => decide (r = m.r)).map (·.to)).getD (-1)
theorem toL_none (l : List Mv) (r : Rd) (h : ∀ j, j < l.length → decide ((l.getD j default).r = r) = false) : toL l r = -1 := by
  unfold toL
  have : l.find? (fun m => decide (r = m.r)) = none := List.find?_eq_none.2 fun x hx => by
    obtain ⟨j, hj, rfl⟩ := List.getElem_of_mem hx
    have := h j hj
    rw [getD_of_lt default hj] at this
    have h1 := of_decide_eq_false this
    simp
    exact fun e => h1 e.symm
  rw [this]; rfl
theorem toL_at (l : List Mv) (r : Rd) (k : Nat) (hk : k < l.length) (h : ∀ j, j < k → decide ((l.getD j default).r = r) = false) (e : l[k].r = r) : toL l r = l[k].to := by
  induction l generalizing k with
  | nil => simp at hk
  | cons x t ih =>
    unfold toL
    cases k with
    | zero =>
      simp at e
      simp [e]
    | succ k =>
      have h0 := h 0 (by omega)
      simp at h0
      have hn : decide (r = x.r) = false := decide_eq_false fun e => h0 e.symm
      rw [List.find?_cons, hn]
      have := ih k (by simpa using hk) (fun j hj => by have := h (j + 1) (by omega); simpa using this) (by simpa using e)
      simpa [toL] using this

def fewAB (a : Adv) : Bool := decide (a.states.length ≤ 8) && decide (movesN a.states ≤ 40)
theorem cnt_bd (l : List (List Mv)) (B : Nat) (h : ∀ k (hk : k < l.length), l[k].length ≤ B) : ∀ k, k ≤ l.length → cnt l k ≤ k * B := by
  intro k
  induction k with
  | zero => intro _; rw [cnt_zero]; exact Nat.zero_le _
  | succ k ih =>
    intro hk
    rw [cnt_succ l k (by omega), Nat.succ_mul]
    exact Nat.add_le_add (ih (by omega)) (h k (by omega))
theorem movesN_le {w : World} {v : Value} {l : List (List Mv)} (hv : IsStates w v l) : movesN l ≤ l.length * 17592186044416 := by
  obtain ⟨pa, ca, rfl, la1, la2, ea⟩ := hv.at
  have := cnt_bd l 17592186044416 (fun k hk => by
    obtain ⟨b, o, _, x, _, hx⟩ := ea k hk
    obtain ⟨_, _, _, _, hx2, _⟩ := hx
    exact hx2) l.length (Nat.le_refl _)
  rwa [cnt_all l _ (Nat.le_refl _)] at this

set_option maxHeartbeats 1000000 in
theorem rfewAdv_any (a : Adv) (v : Value) (w : World) (hv : IsStates w v a.states) :
    Calls Tryz.prog 12 #[.agg #[.int .i64 a.n, v]] w fun e w' => e = .returned (.bool (fewAB a)) ∧ Below w.heap.size w w' := by
  have hN := movesN_le hv
  have HV : Hid (fewAB a = (decide (a.states.length ≤ 8) && decide (movesN a.states ≤ 40))) := by exact rfl
  by_cases h8 : a.states.length ≤ 8
  · have HC := Lib.hid (fun W (hb : Below w.heap.size w W) => rmoves_any a.n _ a.states W (hv.up up_moves hb) (by omega))
    obtain ⟨pa, ca, rfl, _⟩ := hv
    have H8 : Hid (decide (a.states.length ≤ 8) = true) := by (have h := decide_eq_true h8); exact h
    generalize movesN a.states = mN at HC HV hN
    go_enter Tryz.func12, Tryz.ntmps12
    go_wp2_with fail
    refine (HC.out _ (by go_grown)).mono ?_
    rintro e W1 ⟨rfl, hb1⟩
    go_wp2_with fail
    go_ret
    refine ⟨ret_bool ?_, ext_trans (by go_grown) hb1⟩
    rw [HV.out, H8.out]
    simp
    omega
  · have H8 : Hid (decide (a.states.length ≤ 8) = false) := by (have h := decide_eq_false h8); exact h
    obtain ⟨pa, ca, rfl, _⟩ := hv
    go_enter Tryz.func12, Tryz.ntmps12
    go_wp2_with fail
    go_ret
    exact ⟨ret_bool (by rw [HV.out, H8.out]; rfl), by go_grown⟩
end Go.Proofs.YtjmejfgkogjpaaaGreat

namespace Go.Proofs.YtjmejfgkogjpaaaGreat
open Go.RowKit Go Go.Shelf

def stepN (c : List Int) (n : Int) (m : Mv) : Int := min (n + c.getD m.to.toNat 0) 4097
def rowN (c : List Int) (l : List Mv) : Int := l.foldl (stepN c) 0
def nextN (a : Adv) (c : List Int) : List Int := a.states.map (rowN c)
def iterN (a : Adv) : Nat → List Int
  | 0 => List.replicate a.states.length 1
  | k + 1 => nextN a (iterN a k)
def numberS (a : Adv) (k : Nat) : Int := (iterN a k).getD 0 0
def okN (c : List Int) : Prop := ∀ x ∈ c, 0 ≤ x ∧ x ≤ 4097
theorem okN_get {c : List Int} (h : okN c) (i : Nat) : 0 ≤ c.getD i 0 ∧ c.getD i 0 ≤ 4097 := by
  by_cases hi : i < c.length
  · rw [getD_of_lt 0 hi]; exact h _ (List.getElem_mem hi)
  · rw [List.getD_eq_getElem?_getD, List.getElem?_eq_none (by omega)]; simp
theorem stepN_ok {c : List Int} (h : okN c) {n : Int} (hn : 0 ≤ n ∧ n ≤ 4097) (m : Mv) : 0 ≤ stepN c n m ∧ stepN c n m ≤ 4097 := by
  have := okN_get h m.to.toNat
  unfold stepN
  omega
theorem fold_ok {c : List Int} (h : okN c) (l : List Mv) : ∀ n : Int, (0 ≤ n ∧ n ≤ 4097) → 0 ≤ l.foldl (stepN c) n ∧ l.foldl (stepN c) n ≤ 4097 := by
  induction l with
  | nil => intro n hn; exact hn
  | cons m r ih => intro n hn; exact ih _ (stepN_ok h hn m)
theorem rowN_ok {c : List Int} (h : okN c) (l : List Mv) : 0 ≤ rowN c l ∧ rowN c l ≤ 4097 := fold_ok h l 0 (by omega)
theorem nextN_ok {c : List Int} (h : okN c) (a : Adv) : okN (nextN a c) := fun x hx => by
  obtain ⟨l, _, rfl⟩ := List.mem_map.1 hx
  exact rowN_ok h l
theorem iterN_ok (a : Adv) (k : Nat) : okN (iterN a k) := by
  induction k with
  | zero => intro x hx; rw [(List.mem_replicate.1 hx).2]; omega
  | succ k ih => exact nextN_ok ih a
theorem iterN_len (a : Adv) (k : Nat) : (iterN a k).length = a.states.length := by
  cases k with
  | zero => simp [iterN]
  | succ k => simp [iterN, nextN]
theorem rowN_snoc (c : List Int) (l : List Mv) (i : Nat) (hi : i < l.length) : rowN c (l.take (i + 1)) = stepN c (rowN c (l.take i)) l[i] := by
  unfold rowN
  rw [List.take_succ_eq_append_getElem hi, List.foldl_append]
  rfl
theorem owned_one {w : World} {v : Value} {t : TypeId} (j : Nat) (u : Value) (hj : [v][j]? = some u) : (w.alloc (.cells #[v] t)).cell? (Addr.add ⟨w.heap.size, 0, none⟩ j) = some u := by
  cases j with
  | zero => simp at hj; subst hj; simp [Addr.add, cell_block (alloc_new w _)]
  | succ j => simp at hj

theorem run_min (P : Program) (ats : Array TypeId) (ty : TypeId) (x y : Int) (w : World) : (Builtin.min_ ats ty #[.int .i64 x, .int .i64 y]).run P w = .ok (.int .i64 (min x y)) w := by
  have h : (if y < x then y else x) = min x y := by omega
  simp [Builtin.min_, Builtin.min2, h]

set_option maxRecDepth 100000 in
set_option maxHeartbeats 8000000 in
theorem rnumber_any (a : Adv) (v : Value) (n : Nat) (hn : n ≤ 6) (w : World) (hv : IsStates w v a.states) (hok : ∀ s, s < a.states.length → stateE a (a.states.getD s []) = 0) (h1 : 1 ≤ a.states.length ∧ a.states.length ≤ 256) :
    Calls Tryz.prog 32 #[.agg #[.int .i64 a.n, v], .int .i64 n, .int .i64 4096] w fun e w' => e = .returned (.int .i64 (numberS a n)) ∧ Below w.heap.size w w' := by
  obtain ⟨pa, ca, rfl, la1, la2, ea⟩ := hv.at
  have EA := Lib.hid ea
  have HOK := Lib.hid hok
  clear hv ea hok
  obtain ⟨i0, hi, hz0, hz1, hz2⟩ := info_parts Tryz.infoInt
  go_enter Tryz.func32, Tryz.ntmps32
  go_wp2
  refine wp_gen (fun W => Below w.heap.size w W ∧ W.heap[w.heap.size]? = some (.cells #[.int .i64 a.n, .slice pa a.states.length ca] 27)) ⟨by go_grown, alloc_new _ _⟩ (fun W0 hW0 => ?_)
  obtain ⟨hb0, hA0⟩ := hW0
  have HA := Lib.hid hA0; clear hA0
  go_loopw [7, 8] (fun o i wr => Below W0.heap.size W0 wr ∧ ∃ k : Nat, k ≤ a.states.length ∧ i = .int .i64 k ∧ wr.ownsRow W0.heap.size 3 1 o k (List.replicate k (.int .i64 1))) (fun _ i _ => a.states.length - (intOf i).toNat)
  case atStart => exact ⟨Below.refl _ _, 0, by omega, rfl, World.ownsRow_nil _ _ _ _⟩
  case round =>
    obtain ⟨hbr0, k, hk, rfl, hown⟩ := hrel
    have HOWN := Lib.hid hown
    obtain ⟨ao, co, rfl, _⟩ := owns_cell hown
    clear hown
    have t1 := cell_block (block_up hbr0 HA.out)
    by_cases hlt : k < a.states.length
    · have hA : Below wr.heap.size wr (wr.alloc (.cells #[.int .i64 1] 3)) := by go_grown
      have HOWN1 := Lib.hid (owns_up HOWN.out hA)
      have HNEWS := Lib.hid (fun j u hj => owned_one (w := wr) (v := .int .i64 1) (t := 3) j u hj)
      clear hA
      have hbs := hbr0.size
      go_wp2_with (at_builtin; (refine wpList_append_own _ rfl (.tmp 21) (.tmp 22) 36 rfl W0.heap.size 3 i0 (.int .i64 0) 1 8 Tryz.underlying36 hi hz0 hz1 hz2 rfl (by decide) _ k (List.replicate k (.int .i64 1)) rfl HOWN1.out ⟨wr.heap.size, 0, none⟩ 1 1 [.int .i64 1] rfl rfl HNEWS.out (by simp [Value.oneCell']) (by unfold maxLen; omega) (by omega) (by simp; omega) ?_; intro v' w2 hown2 hgrow2 _))
      go_roundw
      case rel =>
        refine ⟨Below.grown (w := wr.alloc (.cells #[.int .i64 1] 3)) (hbr0.alloc hbs _) hgrow2 (by simp; omega) (fun g hg => (owns_lt HOWN.out g hg).1), k + 1, by omega, by go_num, ?_⟩
        rw [List.replicate_succ']; exact hown2
      case measure => simp [intOf]; omega
    · obtain rfl : k = a.states.length := by omega
      have hin : (List.replicate a.states.length (Value.int .i64 1)) = (iterN a 0).map (Value.int .i64) := by simp [iterN]
      rw [hin] at HOWN
      clear hin
      go_wp2
      clear t1
      go_loopw [7, 9] (fun o i ws => Below wr.heap.size wr ws ∧ ∃ k : Nat, k ≤ n ∧ i = .int .i64 k ∧ ws.ownsRow W0.heap.size 3 1 o a.states.length ((iterN a k).map (Value.int .i64))) (fun _ i _ => n - (intOf i).toNat)
      case atStart => exact ⟨Below.refl _ _, 0, by omega, rfl, HOWN.out⟩
      case round =>
        obtain ⟨hbs0, k, hk, rfl, hown⟩ := hrel
        rename World => ws
        have HOWN2 := Lib.hid hown
        have hbs := ext_trans hbr0 hbs0
        obtain ⟨ac, cc, rfl, _, _, _, _, hcell⟩ := owns_cell hown
        have HCELL := Lib.hid hcell
        clear hown hcell
        have HIL := Lib.hid (iterN_len a k)
        have HIO := Lib.hid (iterN_ok a k)
        by_cases hlt : k < n
        · have t1 := cell_block (block_up hbs HA.out)
          go_wp2
          clear t1
          go_loopw [10, 11] (fun o i wt => Below ws.heap.size ws wt ∧ ∃ s : Nat, s ≤ a.states.length ∧ i = .int .i64 s ∧ wt.ownsRow ws.heap.size 3 1 o s (((nextN a (iterN a k)).take s).map (Value.int .i64))) (fun _ i _ => a.states.length - (intOf i).toNat)
          case atStart => exact ⟨Below.refl _ _, 0, by omega, rfl, World.ownsRow_nil _ _ _ _⟩
          case round =>
            obtain ⟨hbt0, s, hs, rfl, hown⟩ := hrel
            rename World => wt
            have HOWN3 := Lib.hid hown
            have hbt := ext_trans hbs hbt0
            have hbtw := ext_trans hb0 hbt
            obtain ⟨an, cn, rfl, _⟩ := owns_cell hown
            clear hown
            have t1 := cell_block (block_up hbt HA.out)
            by_cases hls : s < a.states.length
            · obtain ⟨b1, o1, rfl, x, cx, hx⟩ := EA.out s hls
              rw [Nat.mul_one] at cx
              obtain ⟨px, qx, rfl, x1, x2, ex⟩ := hx.at
              have EX := Lib.hid ex
              have c1 := cell_up hbtw cx
              have HNX : Hid ((nextN a (iterN a k)).take (s + 1) = (nextN a (iterN a k)).take s ++ [rowN (iterN a k) a.states[s]]) := by
                have h : (nextN a (iterN a k)).take (s + 1) = (nextN a (iterN a k)).take s ++ [rowN (iterN a k) a.states[s]] := by
                  rw [List.take_succ_eq_append_getElem (by simp [nextN]; exact hls)]
                  simp [nextN]
                exact h
              have HSO := Lib.hid (fun j (hj : j < a.states[s].length) => (states_ok HOK.out hls hj).2)
              clear hx ex cx
              go_wp2
              go_loop [12, 13] (fun o i => ∃ m : Nat, m ≤ a.states[s].length ∧ i = .int .i64 m ∧ o = .int .i64 (rowN (iterN a k) (a.states[s].take m))) (fun _ i => a.states[s].length - (intOf i).toNat)
              case atStart => exact ⟨0, by omega, rfl, by simp [rowN]⟩
              case round =>
                obtain ⟨m, hm, rfl, rfl⟩ := hrel
                have hro := rowN_ok HIO.out (a.states[s].take m)
                by_cases hml : m < a.states[s].length
                · obtain ⟨b3, o3, rfl, _, ⟨d7, _⟩⟩ := EX.out m hml
                  have hto := HSO.out m hml
                  obtain ⟨u, hu⟩ : ∃ u : Nat, a.states[s][m].to = u := ⟨a.states[s][m].to.toNat, by omega⟩
                  have HSN : Hid (rowN (iterN a k) (a.states[s].take (m + 1)) = min (rowN (iterN a k) (a.states[s].take m) + (iterN a k).getD u 0) 4097) := by
                    have h : rowN (iterN a k) (a.states[s].take (m + 1)) = min (rowN (iterN a k) (a.states[s].take m) + (iterN a k).getD u 0) 4097 := by
                      rw [rowN_snoc _ _ m hml]; unfold stepN; rw [hu, Int.toNat_natCast]
                    exact h
                  rw [hu] at d7
                  have hul : u < a.states.length := by omega
                  have hgo := okN_get HIO.out u
                  have hgl : u < (iterN a k).length := by rw [HIL.out]; exact hul
                  obtain ⟨b, e4, hc⟩ := HCELL.out u (.int .i64 ((iterN a k).getD u 0)) (by rw [getD_of_lt 0 hgl]; simp)
                  have c2 := cell_up hbtw d7
                  subst e4
                  have c3 := cell_up hbt0 hc
                  have hmin := run_min Tryz.prog
                  generalize rowN (iterN a k) (a.states[s].take m) = r0 at hro HSN
                  generalize (iterN a k).getD u 0 = g0 at hgo HSN c3 hc
                  clear d7 hc hu hto hgl
                  go_wp2
                  go_round
                  case rel => exact ⟨m + 1, by omega, by go_num, by rw [HSN.out]⟩
                  case measure => simp [intOf]; omega
                · obtain rfl : m = a.states[s].length := by omega
                  rw [List.take_length]
                  rw [List.take_length] at hro
                  generalize rowN (iterN a k) a.states[s] = r0 at hro HNX
                  have hA : Below wt.heap.size wt (wt.alloc (.cells #[.int .i64 r0] 3)) := by go_grown
                  have HOWN4 := Lib.hid (owns_up HOWN3.out hA)
                  have HNEWS := Lib.hid (fun j u hj => owned_one (w := wt) (v := .int .i64 r0) (t := 3) j u hj)
                  have hbs3 := hbt0.size
                  clear hA
                  go_wp2_with (at_builtin; (refine wpList_append_own _ rfl (.tmp 63) (.tmp 65) 36 rfl ws.heap.size 3 i0 (.int .i64 0) 1 8 Tryz.underlying36 hi hz0 hz1 hz2 rfl (by decide) _ s (((nextN a (iterN a k)).take s).map (Value.int .i64)) rfl HOWN4.out ⟨wt.heap.size, 0, none⟩ 1 1 [.int .i64 r0] rfl rfl HNEWS.out (by simp [Value.oneCell']) (by unfold maxLen; omega) (by omega) (by simp; omega) ?_; intro v' w2 hown2 hgrow2 _))
                  go_roundw
                  case rel =>
                    refine ⟨Below.grown (w := wt.alloc (.cells #[.int .i64 r0] 3)) (hbt0.alloc hbs3 _) hgrow2 (by simp; omega) (fun g hg => (owns_lt HOWN3.out g hg).1), s + 1, by omega, by go_num, ?_⟩
                    rw [HNX.out, List.map_append]; exact hown2
                  case measure => simp [intOf]; omega
            · obtain rfl : s = a.states.length := by omega
              go_wp2
              go_roundw
              case rel =>
                refine ⟨ext_trans hbs0 hbt0, k + 1, by omega, by go_num, ?_⟩
                have h := owns_base (base' := W0.heap.size) HOWN3.out (by have := hbs.size; exact this)
                rw [List.take_of_length_le (by simp [nextN])] at h
                exact h
              case measure => simp [intOf]; omega
        · obtain rfl : k = n := by omega
          obtain ⟨b, rfl, hc⟩ := HCELL.out 0 (.int .i64 (numberS a k)) (by
            have h0 : 0 < (iterN a k).length := by rw [HIL.out]; omega
            unfold numberS
            rw [getD_of_lt 0 h0]
            simp)
          go_wp2
          go_ret
          exact ⟨rfl, ext_trans hb0 hbs⟩
end Go.Proofs.YtjmejfgkogjpaaaGreat

namespace Go.Proofs.YtjmejfgkogjpaaaGreat
open Go.RowKit Go Go.Shelf


set_option maxHeartbeats 1000000 in
theorem rprobCheck_any (p : Pb) (vc vs : Value) (w : World) (hc : IsCases w vc p.t.cases) (hs : IsStates w vs p.a.states) (hN : movesN p.a.states < 2305843009213693952) :
    Calls Tryz.prog 13 #[pbV p vc vs] w fun e w' => e = .returned (.int .i64 (probE p)) ∧ Below w.heap.size w w' := by
  have GC := Lib.hid hc
  have GS := Lib.hid hs
  obtain ⟨pc, cc, rfl, _⟩ := hc.at
  obtain ⟨ps, cs, rfl, _⟩ := hs.at
  clear hc hs
  have HV : Hid (probE p = if taskE p.t ≠ 0 then taskE p.t else if advE p.a ≠ 0 then advE p.a else if p.t.n ≠ p.a.n then 22 else if p.rounds < 0 ∨ 6 < p.rounds then 2 else 0) := by exact rfl
  go_enter Tryz.func13, Tryz.ntmps13
  go_wp2_with fail
  refine calls_gen (fun W => Below w.heap.size w W ∧ W.heap[w.heap.size]? = some (.cells (pbC p (.slice pc p.t.cases.length cc) (.slice ps p.a.states.length cs)) 29)) ⟨by go_grown, alloc_new _ _⟩ (fun W0 hW0 => ?_)
  obtain ⟨hb0, hA0⟩ := hW0
  refine (rtaskCheck_any p.t _ W0 (GC.out.up up_case hb0)).mono ?_
  rintro e w1 ⟨rfl, hb1⟩
  have hb1' := ext_trans hb0 hb1
  have hA1 := block_up hb1 hA0
  have t1 := cell_block hA1
  generalize taskE p.t = et at HV
  have HA1 := Lib.hid hA1; clear hA1 hA0
  by_cases het : et = 0
  case neg =>
    have het' : (et != 0) = true := by simpa using het
    go_wp2_with fail
    go_ret
    exact ⟨ret_int (by rw [HV.out, if_pos het]), hb1'⟩
  subst het
  go_wp2_with fail
  refine (radvCheck_any p.a _ w1 (GS.out.up up_moves hb1') hN).mono ?_
  rintro e w2 ⟨rfl, hb2⟩
  have hb2' := ext_trans hb1' hb2
  have t2 := cell_block (block_up hb2 HA1.out)
  clear t1
  generalize advE p.a = ea at HV
  by_cases hea : ea = 0
  case neg =>
    have hea' : (ea != 0) = true := by simpa using hea
    go_wp2_with fail
    go_ret
    exact ⟨ret_int (by rw [HV.out, if_neg (by simp), if_pos hea]), hb2'⟩
  subst hea
  go_wp2_with fail
  all_goals
    go_ret
    refine ⟨ret_int ?_, hb2'⟩
    rw [HV.out]
    go_light
    grind

theorem prob_rounds {p : Pb} (h : probE p = 0) : ∃ n : Nat, p.rounds = n ∧ n ≤ 6 := ⟨p.rounds.toNat, by have := prob_ok h; omega, by have := prob_ok h; omega⟩

def numberP (p : Pb) : Int := p.t.cases.length * numberS p.a p.rounds.toNat
theorem numberS_ok (a : Adv) (n : Nat) : 0 ≤ numberS a n ∧ numberS a n ≤ 4097 := okN_get (iterN_ok a n) 0

set_option maxRecDepth 100000 in
set_option maxHeartbeats 2000000 in
theorem rprobNumber_any (p : Pb) (vc vs : Value) (w : World) (hc : IsCases w vc p.t.cases) (hs : IsStates w vs p.a.states) (hp : probE p = 0) :
    Calls Tryz.prog 14 #[pbV p vc vs, .int .i64 4096] w fun e w' => e = .returned (.int .i64 (numberP p)) ∧ Below w.heap.size w w' := by
  obtain ⟨ht, ha, hna, _, _⟩ := prob_ok hp
  clear hna
  obtain ⟨h1, h2, _⟩ := adv_ok ha
  have hcl := (task_ok ht).2.2.2.1
  obtain ⟨n, hn, hn6⟩ := prob_rounds hp
  have HV : Hid (numberP p = p.t.cases.length * numberS p.a n) := by (have h : numberP p = p.t.cases.length * numberS p.a n := by (unfold numberP; rw [hn, Int.toNat_natCast])); exact h
  have HCALL := Lib.hid (fun W (hb : Below w.heap.size w W) => rnumber_any p.a vs n hn6 W (hs.up up_moves hb) h2 h1)
  have hno := numberS_ok p.a n
  generalize numberS p.a n = nn at HCALL HV hno
  obtain ⟨pc, cc, rfl, _⟩ := hc
  obtain ⟨ps, cs, rfl, _⟩ := hs
  have HM : Hid (IntKind.i64.wrap ((p.t.cases.length : Int) * nn) = p.t.cases.length * nn) := by
    have h : IntKind.i64.wrap ((p.t.cases.length : Int) * nn) = p.t.cases.length * nn := by
      have h1 : (0 : Int) ≤ (p.t.cases.length : Int) * nn := Int.mul_nonneg (by omega) (by omega)
      have h2 : (p.t.cases.length : Int) * nn ≤ 1024 * 4097 := Int.mul_le_mul (by omega) (by omega) (by omega) (by omega)
      exact IntWalk.i64_in _ (by omega)
    exact h
  rw [← hn] at HCALL
  clear ht ha h1 h2 hp hno hn
  go_enter Tryz.func14, Tryz.ntmps14
  go_wp2_with fail
  refine wp_gen (fun V => Below w.heap.size w V ∧ V.heap[w.heap.size]? = some (.cells (pbC p (.slice pc p.t.cases.length cc) (.slice ps p.a.states.length cs)) 29)) ⟨by go_grown, alloc_new _ _⟩ (fun V hV => ?_)
  obtain ⟨hb0, hA0⟩ := hV
  have HCA := Lib.hid (fun x : ExtW V => Calls.ext_of (HCALL.out x.val (ext_trans hb0 x.ext)))
  have r1 : ∀ x : ExtW V, ∀ o, x.val.cell? ⟨w.heap.size, o, none⟩ = _ := fun x => cell_block (block_up x.ext hA0)
  have hM := HM.out
  clear hA0
  refine wp_region_quiet_ext (by kernel_rfl) (by kernel_rfl) ?_
  repeat (go_big_quiet_step ((go_at_call 32; exact HCA.out _)))
  refine wpQuiet_nil ?_
  intro _ hw'
  obtain ⟨xq, hw''⟩ := hw'
  subst hw''
  clear r1 HCALL hM
  go_wp2_with fail
  go_ret
  exact ⟨ret_int (by rw [HV.out]), ext_trans hb0 xq.ext⟩

def fewPB (p : Pb) : Bool :=
  if fewTB p.t = false then false else if fewAB p.a = false then false else if 3 < p.t.n ∧ p.t.n ≤ 5 then false
  else if probE p ≠ 0 then true else decide (numberP p ≤ 60) || decide (4096 < numberP p)

set_option maxRecDepth 100000 in
set_option maxHeartbeats 2000000 in
theorem rfewProb_any (p : Pb) (vc vs : Value) (w : World) (hc : IsCases w vc p.t.cases) (hs : IsStates w vs p.a.states) :
    Calls Tryz.prog 4 #[pbV p vc vs] w fun e w' => e = .returned (.bool (fewPB p)) ∧ Below w.heap.size w w' := by
  have GC := Lib.hid hc
  have GS := Lib.hid hs
  obtain ⟨pc, cc, rfl, _⟩ := hc
  obtain ⟨ps, cs, rfl, _⟩ := hs
  have HV : Hid (fewPB p = if fewTB p.t = false then false else if fewAB p.a = false then false else if 3 < p.t.n ∧ p.t.n ≤ 5 then false else if probE p ≠ 0 then true else decide (numberP p ≤ 60) || decide (4096 < numberP p)) := by exact rfl
  have HF : Hid (fewAB p.a = (decide (p.a.states.length ≤ 8) && decide (movesN p.a.states ≤ 40))) := by exact rfl
  go_enter Tryz.func4, Tryz.ntmps4
  go_wp2_with fail
  refine calls_gen (fun W => Below w.heap.size w W ∧ W.heap[w.heap.size]? = some (.cells (pbC p (.slice pc p.t.cases.length cc) (.slice ps p.a.states.length cs)) 29)) ⟨by go_grown, alloc_new _ _⟩ (fun W0 hW0 => ?_)
  obtain ⟨hb0, hA0⟩ := hW0
  refine (rfewTask_any p.t _ W0 (GC.out.up up_case hb0)).mono ?_
  rintro e w1 ⟨rfl, hb1⟩
  have hb1' := ext_trans hb0 hb1
  have HA1 := Lib.hid (block_up hb1 hA0)
  have t1 := cell_block HA1.out
  clear hA0
  generalize fewTB p.t = ft at HV
  cases ft with
  | false =>
    go_wp2_with fail
    go_ret
    exact ⟨ret_bool (by rw [HV.out]; rfl), hb1'⟩
  | true =>
  go_wp2_with fail
  refine (rfewAdv_any p.a _ w1 (GS.out.up up_moves hb1')).mono ?_
  rintro e w2 ⟨rfl, hb2⟩
  have hb2' := ext_trans hb1' hb2
  have HA2 := Lib.hid (block_up hb2 HA1.out)
  have t2 := cell_block HA2.out
  clear t1
  cases hfa : fewAB p.a with
  | false =>
    have HFA := Lib.hid hfa; clear hfa
    go_wp2_with fail
    go_ret
    exact ⟨ret_bool (by rw [HV.out, HFA.out]; rfl), hb2'⟩
  | true =>
  have hmv : movesN p.a.states ≤ 40 := by
    have h := HF.out
    rw [hfa] at h
    simp at h
    exact h.2
  rw [hfa] at HV
  clear HF hfa
  by_cases h3 : 3 < p.t.n ∧ p.t.n ≤ 5
  · obtain ⟨h31, h32⟩ := h3
    have HR : Hid (fewPB p = false) := by (have h : fewPB p = false := by (rw [HV.out]; simp [h31, h32])); exact h
    go_wp2_with fail
    go_ret
    exact ⟨ret_bool HR.out.symm, hb2'⟩
  have HR : Hid (fewPB p = if probE p ≠ 0 then true else decide (numberP p ≤ 60) || decide (4096 < numberP p)) := by
    have h : fewPB p = if probE p ≠ 0 then true else decide (numberP p ≤ 60) || decide (4096 < numberP p) := by
      rw [HV.out, if_neg (by simp), if_neg (by simp), if_neg h3]
    exact h
  clear HV
  have h3' : ¬ 3 < p.t.n ∨ (3 < p.t.n ∧ 5 < p.t.n) := by omega
  clear h3
  have HC := Lib.hid (rprobCheck_any p _ _ w2 (GC.out.up up_case hb2') (GS.out.up up_moves hb2') (by omega))
  have HNU := Lib.hid (fun (hp : probE p = 0) W (hb : Below w.heap.size w W) => rprobNumber_any p _ _ W (GC.out.up up_case hb) (GS.out.up up_moves hb) hp)
  rcases h3' with h3 | ⟨h3, h3b⟩
  all_goals
    go_wp2_with fail
    refine HC.out.mono ?_
    rintro e w3 ⟨rfl, hb3⟩
    have hb3' := ext_trans hb2' hb3
    have t3 := cell_block (block_up hb3 HA2.out)
    clear t2
    by_cases hp : probE p = 0
    case neg =>
      generalize probE p = ep at hp HR
      have hp' : (ep != 0) = true := by simpa using hp
      go_wp2_with fail
      go_ret
      exact ⟨ret_bool (by rw [HR.out, if_pos hp]), hb3'⟩
    have HN2 := Lib.hid (HNU.out hp w3 hb3')
    rw [hp] at HR ⊢
    clear hp HNU
    go_wp2_with fail
    refine HN2.out.mono ?_
    rintro e w4 ⟨rfl, hb4⟩
    clear t3
    generalize numberP p = nn at HR
    by_cases h60 : nn ≤ 60
    · go_wp2_with fail
      go_ret
      exact ⟨ret_bool (by rw [HR.out, if_neg (by simp), decide_eq_true h60]; rfl), ext_trans hb3' hb4⟩
    · have hd : decide (nn ≤ 60) = false := decide_eq_false h60
      have HD := Lib.hid hd
      go_wp2_with fail
      go_ret
      exact ⟨ret_bool (by rw [HR.out, if_neg (by simp), HD.out]; rfl), ext_trans hb3' hb4⟩
theorem fewPB_moves {p : Pb} (h : fewPB p = true) : movesN p.a.states ≤ 40 := by
  unfold fewPB at h
  split at h
  · cases h
  split at h
  · cases h
  · rename_i h2
    have : fewAB p.a = true := by simpa using h2
    unfold fewAB at this
    simp at this
    exact this.2
end Go.Proofs.YtjmejfgkogjpaaaGreat

namespace Go.Proofs.YtjmejfgkogjpaaaGreat
open Go.RowKit Go Go.Shelf

def RetB (e : Ending) : Prop := ∃ b, e = .returned (.bool b)
theorem retB (b : Bool) : RetB (.returned (.bool b)) := ⟨b, rfl⟩

set_option maxRecDepth 100000 in
set_option maxHeartbeats 2000000 in
theorem rcount_any (m : Mac) (vf vy vt vo : Value) (w : World) (hf : IsVecs w vf m.first) (hy : IsV4 w vy m.syms) (ht : IsSteps w vt m.steps) (ho : IsV3 w vo m.out) :
    Calls Tryz.prog 15 #[.agg (macC m vf vy vt vo)] w fun e w' => (∃ x, e = .returned (.int .i64 x)) ∧ Below w.heap.size w w' := by
  obtain ⟨pf, cf, rfl, _⟩ := hf.at
  obtain ⟨py, cy, rfl, _⟩ := hy.at
  obtain ⟨pt, ct, rfl, _⟩ := ht.at
  obtain ⟨po, co, rfl, lo1, lo2, eo⟩ := ho.at
  have EO := Lib.hid eo
  clear hf hy ht ho eo
  go_enter Tryz.func15, Tryz.ntmps15
  go_wp2
  refine wp_gen (fun W => Below w.heap.size w W ∧ W.heap[w.heap.size]? = some (.cells (macC m (.slice pf m.first.length cf) (.slice py m.syms.length cy) (.slice pt m.steps.length ct) (.slice po m.out.length co)) 35)) ⟨by go_grown, alloc_new _ _⟩ (fun W0 hW0 => ?_)
  obtain ⟨hb0, hA0⟩ := hW0
  have t1 := cell_block hA0
  clear hA0
  go_loop [3, 4] (fun o i => ∃ k : Nat, k ≤ m.out.length ∧ i = .int .i64 k ∧ ∃ x, o = .int .i64 x) (fun _ i => m.out.length - (intOf i).toNat)
  case atStart => exact ⟨0, by omega, rfl, _, rfl⟩
  case round =>
    obtain ⟨k, hk, rfl, x, rfl⟩ := hrel
    by_cases hlt : k < m.out.length
    · obtain ⟨b1, o1, rfl, u, cx, hx⟩ := EO.out k hlt
      rw [Nat.mul_one] at cx
      have c1 := cell_up hb0 cx
      obtain ⟨px, qx, rfl, lx1, lx2, ex⟩ := hx.at
      have EX := Lib.hid ex
      clear cx hx ex
      generalize hnk : m.out[k] = row at EX c1 lx1 lx2
      clear hnk
      go_wp2
      go_loop [3, 5] (fun o i => ∃ j : Nat, j ≤ row.length ∧ i = .int .i64 j ∧ ∃ x, o = .int .i64 x) (fun _ i => row.length - (intOf i).toNat)
      case atStart => exact ⟨0, by omega, rfl, _, rfl⟩
      case round =>
        obtain ⟨j, hj, rfl, y, rfl⟩ := hrel
        by_cases hjt : j < row.length
        · obtain ⟨b2, o2, rfl, u2, cy2, hy2⟩ := EX.out j hjt
          rw [Nat.mul_one] at cy2
          have c2 := cell_up hb0 cy2
          obtain ⟨py2, qy2, rfl, ly1, ly2, _⟩ := hy2.at
          clear cy2 hy2
          generalize hnj : row[j].length = nj at c2 ly1 ly2
          clear hnj
          go_wp2
          go_round
          case rel => exact ⟨j + 1, by omega, by go_num, _, rfl⟩
          case measure => simp [intOf]; omega
        · go_wp2
          go_round
          case rel => exact ⟨k + 1, by omega, by go_num, _, rfl⟩
          case measure => simp [intOf]; omega
    · go_wp2
      go_ret
      exact ⟨⟨_, rfl⟩, hb0⟩

set_option maxRecDepth 100000 in
set_option maxHeartbeats 4000000 in
theorem rfewMac_any (m : Mac) (vf vy vt vo : Value) (w : World) (hf : IsVecs w vf m.first) (hy : IsV4 w vy m.syms) (ht : IsSteps w vt m.steps) (ho : IsV3 w vo m.out) :
    Calls Tryz.prog 5 #[.agg (macC m vf vy vt vo)] w fun e w' => RetB e ∧ Below w.heap.size w w' := by
  have HC := Lib.hid (fun W (hb : Below w.heap.size w W) => rcount_any m vf vy vt vo W (hf.up up_ints hb) (hy.up up_v3 hb) (ht.up up_step hb) (ho.up up_vecs hb))
  obtain ⟨pf, cf, rfl, _⟩ := hf.at
  obtain ⟨py, cy, rfl, ly1, ly2, ey⟩ := hy.at
  obtain ⟨pt, ct, rfl, _⟩ := ht.at
  obtain ⟨po, co, rfl, lo1, lo2, eo⟩ := ho.at
  have EY := Lib.hid ey
  clear hf hy ht ho ey eo
  by_cases h1 : 20 < m.first.length
  · go_enter Tryz.func5, Tryz.ntmps5
    go_wp2
    go_ret
    exact ⟨retB _, by go_grown⟩
  by_cases h2 : 20 < m.out.length
  · go_enter Tryz.func5, Tryz.ntmps5
    go_wp2
    go_ret
    exact ⟨retB _, by go_grown⟩
  by_cases h3 : 20 < m.syms.length
  · go_enter Tryz.func5, Tryz.ntmps5
    go_wp2
    go_ret
    exact ⟨retB _, by go_grown⟩
  by_cases h4 : 400 < m.steps.length
  · go_enter Tryz.func5, Tryz.ntmps5
    go_wp2
    go_ret
    exact ⟨retB _, by go_grown⟩
  go_enter Tryz.func5, Tryz.ntmps5
  go_wp2_with fail
  refine calls_gen (fun W => Below w.heap.size w W ∧ W.heap[w.heap.size]? = some (.cells (macC m (.slice pf m.first.length cf) (.slice py m.syms.length cy) (.slice pt m.steps.length ct) (.slice po m.out.length co)) 35)) ⟨by go_grown, alloc_new _ _⟩ (fun W0 hW0 => ?_)
  obtain ⟨hb0, hA0⟩ := hW0
  refine (HC.out W0 hb0).mono ?_
  rintro e w1 ⟨⟨x, rfl⟩, hb1'⟩
  have hb1 := ext_trans hb0 hb1'
  by_cases hx : 400 < x
  · go_wp2_with fail
    go_ret
    exact ⟨retB _, hb1⟩
  have t1 := cell_block (block_up hb1' hA0)
  clear hA0
  go_wp2_with fail
  go_loop [3] (fun i => ∃ k : Nat, k ≤ m.syms.length ∧ i = .int .i64 k) (fun i => m.syms.length - (intOf i).toNat)
  case atStart => exact ⟨0, by omega, rfl⟩
  case round =>
    obtain ⟨k, hk, rfl⟩ := hrel
    by_cases hlt : k < m.syms.length
    · obtain ⟨b1, o1, rfl, u, cx, hx⟩ := EY.out k hlt
      rw [Nat.mul_one] at cx
      have c1 := cell_up hb1 cx
      obtain ⟨px, qx, rfl, lx1, lx2, ex⟩ := hx.at
      have EX := Lib.hid ex
      clear cx hx ex
      generalize hnk : m.syms[k] = row at EX c1 lx1 lx2
      clear hnk
      by_cases hr : 20 < row.length
      · go_wp2
        go_ret
        exact ⟨retB _, hb1⟩
      go_wp2
      go_loop [4] (fun i => ∃ j : Nat, j ≤ row.length ∧ i = .int .i64 j) (fun i => row.length - (intOf i).toNat)
      case atStart => exact ⟨0, by omega, rfl⟩
      case round =>
        obtain ⟨j, hj, rfl⟩ := hrel
        by_cases hjt : j < row.length
        · obtain ⟨b2, o2, rfl, u2, cy2, hy2⟩ := EX.out j hjt
          rw [Nat.mul_one] at cy2
          have c2 := cell_up hb1 cy2
          obtain ⟨py2, qy2, rfl, ly1, ly2, _⟩ := hy2.at
          clear cy2 hy2
          generalize hnj : row[j].length = nj at c2 ly1 ly2
          clear hnj
          by_cases hn : 20 < nj
          · go_wp2
            go_ret
            exact ⟨retB _, hb1⟩
          · go_wp2
            go_round
            case rel => exact ⟨j + 1, by omega, by go_num⟩
            case measure => simp [intOf]; omega
        · go_wp2
          go_round
          case rel => exact ⟨k + 1, by omega, by go_num⟩
          case measure => simp [intOf]; omega
    · go_wp2
      go_ret
      exact ⟨retB _, hb1⟩

set_option maxRecDepth 100000 in
set_option maxHeartbeats 4000000 in
theorem rfewTr_any (t : Tr) (ui uw us um ud ut : Value) (w : World) (hT : IsTr w t ui uw us um ud ut) :
    Calls Tryz.prog 6 #[.agg (trC ui uw us um ud ut)] w fun e w' => RetB e ∧ Below w.heap.size w w' := by
  obtain ⟨k1, k2, k3, k4, k5, k6⟩ := hT
  obtain ⟨q1, d1, rfl, _⟩ := k1.at
  obtain ⟨q2, d2, rfl, _⟩ := k2.at
  obtain ⟨q3, d3, rfl, l31, l32, e3⟩ := k3.at
  obtain ⟨q4, d4, rfl, l41, l42, e4⟩ := k4.at
  obtain ⟨q5, d5, rfl, _⟩ := k5.at
  obtain ⟨q6, d6, rfl, _⟩ := k6.at
  have E3 := Lib.hid e3
  have E4 := Lib.hid e4
  clear k1 k2 k3 k4 k5 k6 e3 e4
  by_cases h1 : 20 < t.inp.length
  · go_enter Tryz.func6, Tryz.ntmps6
    go_wp2
    go_ret
    exact ⟨retB _, by go_grown⟩
  by_cases h2 : 12 < t.word.length
  · go_enter Tryz.func6, Tryz.ntmps6
    go_wp2
    go_ret
    exact ⟨retB _, by go_grown⟩
  by_cases h3 : 20 < t.states.length
  · go_enter Tryz.func6, Tryz.ntmps6
    go_wp2
    go_ret
    exact ⟨retB _, by go_grown⟩
  by_cases h4 : 200 < t.msgs.length
  · go_enter Tryz.func6, Tryz.ntmps6
    go_wp2
    go_ret
    exact ⟨retB _, by go_grown⟩
  by_cases h5 : 20 < t.dec.length
  · go_enter Tryz.func6, Tryz.ntmps6
    go_wp2
    go_ret
    exact ⟨retB _, by go_grown⟩
  by_cases h6 : 20 < t.times.length
  · go_enter Tryz.func6, Tryz.ntmps6
    go_wp2
    go_ret
    exact ⟨retB _, by go_grown⟩
  go_enter Tryz.func6, Tryz.ntmps6
  go_wp2
  refine wp_gen (fun W => Below w.heap.size w W ∧ W.heap[w.heap.size]? = some (.cells (trC (.slice q1 t.inp.length d1) (.slice q2 t.word.length d2) (.slice q3 t.states.length d3) (.slice q4 t.msgs.length d4) (.slice q5 t.dec.length d5) (.slice q6 t.times.length d6)) 40)) ⟨by go_grown, alloc_new _ _⟩ (fun W0 hW0 => ?_)
  obtain ⟨hb0, hA0⟩ := hW0
  have t1 := cell_block hA0
  clear hA0
  go_loop [3] (fun i => ∃ k : Nat, k ≤ t.states.length ∧ i = .int .i64 k) (fun i => t.states.length - (intOf i).toNat)
  case atStart => exact ⟨0, by omega, rfl⟩
  case round =>
    obtain ⟨k, hk, rfl⟩ := hrel
    by_cases hlt : k < t.states.length
    · obtain ⟨b1, o1, rfl, u, cx, hx⟩ := E3.out k hlt
      rw [Nat.mul_one] at cx
      have c1 := cell_up hb0 cx
      obtain ⟨px, qx, rfl, lx1, lx2, _⟩ := hx.at
      clear cx hx
      generalize hnk : t.states[k].length = nk at c1 lx1 lx2
      clear hnk
      by_cases hr : 20 < nk
      · go_wp2
        go_ret
        exact ⟨retB _, hb0⟩
      · go_wp2
        go_round
        case rel => exact ⟨k + 1, by omega, by go_num⟩
        case measure => simp [intOf]; omega
    · go_wp2
      go_loop [4, 5] (fun o i => ∃ k : Nat, k ≤ t.msgs.length ∧ i = .int .i64 k ∧ ∃ x, o = .int .i64 x) (fun _ i => t.msgs.length - (intOf i).toNat)
      case atStart => exact ⟨0, by omega, rfl, _, rfl⟩
      case round =>
        obtain ⟨k, hk, rfl, x, rfl⟩ := hrel
        by_cases hlt : k < t.msgs.length
        · obtain ⟨b1, o1, rfl, _, _, _, cx, cs⟩ := E4.out k hlt
          have c1 := cell_up hb0 cx
          clear cx
          generalize t.msgs[k].bs = bs at c1 cs
          go_wp2
          go_round
          case rel => exact ⟨k + 1, by omega, by go_num, _, rfl⟩
          case measure => simp [intOf]; omega
        · go_wp2
          go_ret
          exact ⟨retB _, hb0⟩
end Go.Proofs.YtjmejfgkogjpaaaGreat

namespace Go.Proofs.YtjmejfgkogjpaaaGreat
open Go.RowKit Go Go.Shelf

/-- How keys of type kt are compared. -/
structure KeyKit {K : Type} [DecidableEq K] (P : Program) (kt : TypeId) (enc : K → Value) : Prop where
  eq : ∀ a b w, (Op.equal kt (enc a) (enc b)).run P w = .ok (decide (a = b)) w
  check : ∀ em a w, (Instr.checkKey em 10000 kt (enc a)).run P w = .ok () w
  und : ∃ fs, P.underlying kt = some (.struct fs)

/-- Block b is a map with these entries, in the order in which they came. -/
def GMapIs {K : Type} (enc : K → Value) (w : World) (b : Nat) (f : List (K × Value)) : Prop :=
  ∃ es clock, w.heap[b]? = some (.map es clock) ∧ es.toList.map (fun e => (e.key, e.val)) = f.map (fun p => (enc p.1, p.2))
def gGet {K : Type} [DecidableEq K] (f : List (K × Value)) (r : K) : Option Value := (f.find? fun p => decide (r = p.1)).map (·.2)
theorem GMapIs.kept {K : Type} {enc : K → Value} {A A' : World} {b : Nat} {f : List (K × Value)} (h : GMapIs enc A b f) (he : A'.heap[b]? = A.heap[b]?) : GMapIs enc A' b f := by
  obtain ⟨es, clock, h1, hf⟩ := h
  exact ⟨es, clock, he.trans h1, hf⟩
theorem GMapIs.up {K : Type} {enc : K → Value} {A A' : World} {b : Nat} {f : List (K × Value)} (h : GMapIs enc A b f) (hb : Below A.heap.size A A') : GMapIs enc A' b f := by
  obtain ⟨es, clock, h1, hf⟩ := h
  exact ⟨es, clock, block_up hb h1, hf⟩
theorem GMapIs.lt {K : Type} {enc : K → Value} {w : World} {b : Nat} {f : List (K × Value)} (h : GMapIs enc w b f) : b < w.heap.size := by
  obtain ⟨_, _, he, _⟩ := h
  exact block_lt he

theorem gFindAsking {K : Type} [DecidableEq K] {P : Program} {kt : TypeId} {enc : K → Value} (kit : KeyKit P kt enc) (r : K) (w : World) : ∀ (f : List (K × Value)) (es : List MapEntry) (i : Nat), es.map (fun e => (e.key, e.val)) = f.map (fun p => (enc p.1, p.2)) →
    (gGet f r = none → (Instr.findAsking kt (enc r) es i).run P w = .ok none w) ∧ (∀ x, gGet f r = some x → ∃ j, (Instr.findAsking kt (enc r) es i).run P w = .ok (some (j, x)) w)
  | [], es, i, h => by
    obtain rfl : es = [] := by simpa using h
    exact ⟨fun _ => rfl, fun x hx => by simp [gGet] at hx⟩
  | p :: f, es, i, h => by
    cases es with
    | nil => simp at h
    | cons e es =>
      simp only [List.map_cons, List.cons.injEq, Prod.mk.injEq] at h
      obtain ⟨⟨hk, hv⟩, h⟩ := h
      have ih := gFindAsking kit r w f es (i + 1) h
      unfold Instr.findAsking
      by_cases hr : r = p.1
      · subst hr
        refine ⟨fun hn => by simp [gGet] at hn, fun x hx => ?_⟩
        have hx' : p.2 = x := by simpa [gGet] using hx
        refine ⟨i, ?_⟩
        simp [Sem.run_bind, hk, kit.eq, hv, hx']
      · have e1 : gGet (p :: f) r = gGet f r := by simp [gGet, hr]
        rw [e1]
        refine ⟨fun hn => ?_, fun x hx => ?_⟩
        · simp [Sem.run_bind, hk, kit.eq, hr, ih.1 hn]
        · obtain ⟨j, hj⟩ := ih.2 x hx
          exact ⟨j, by simp [Sem.run_bind, hk, kit.eq, hr, hj]⟩

theorem gFindKey {K : Type} [DecidableEq K] {P : Program} {kt : TypeId} {enc : K → Value} (kit : KeyKit P kt enc) (r : K) (w : World) (f : List (K × Value)) (es : List MapEntry) (h : es.map (fun e => (e.key, e.val)) = f.map (fun p => (enc p.1, p.2))) :
    (gGet f r = none → (Instr.findKey kt (enc r) es).run P w = .ok none w) ∧ (∀ x, gGet f r = some x → ∃ j, (Instr.findKey kt (enc r) es).run P w = .ok (some (j, x)) w) := by
  have hA := gFindAsking kit r w f es 0 h
  obtain ⟨fs, hu⟩ := kit.und
  unfold Instr.findKey
  cases es with
  | nil =>
    obtain rfl : f = [] := by simpa using h.symm
    refine ⟨fun _ => ?_, fun x hx => by simp [gGet] at hx⟩
    simp [run_underlying hu, Instr.findNow]
  | cons e es =>
    have hn : Instr.findNow (.struct fs) (enc r) (e :: es) 0 = none := by simp [Instr.findNow, Instr.sameNow]
    simp only [Sem.run_bind, run_underlying hu, Result.andThen_ok, hn]
    exact hA

theorem gLookup2 {K : Type} [DecidableEq K] {P : Program} {kt mt vt : TypeId} {z : Value} {enc : K → Value} (kit : KeyKit P kt enc) (hm : P.underlying mt = some (.map kt vt)) (hz : ∀ w, (zeroValue vt).run P w = .ok z w) {w : World} {b : Nat} {f : List (K × Value)} (h : GMapIs enc w b f) (r : K) :
    (Instr.lookup mt (.map (some b)) (enc r) true).run P w = .ok (.tuple #[(gGet f r).getD z, .bool (gGet f r).isSome]) w := by
  obtain ⟨es, clock, hb, hes⟩ := h
  have hF := gFindKey kit r w f es.toList hes
  have hg : (getObj b).run P w = .ok (.map es clock) w := by simp [getObj, Sem.run, hb]
  unfold Instr.lookup
  cases hn : gGet f r with
  | none => simp [Sem.run_bind, run_underlying hm, hg, kit.check, hF.1 hn, hz]
  | some x =>
    obtain ⟨j, hj⟩ := hF.2 x hn
    simp [run_underlying hm, hg, kit.check, hj]
theorem gLookup1 {K : Type} [DecidableEq K] {P : Program} {kt mt vt : TypeId} {z : Value} {enc : K → Value} (kit : KeyKit P kt enc) (hm : P.underlying mt = some (.map kt vt)) (hz : ∀ w, (zeroValue vt).run P w = .ok z w) {w : World} {b : Nat} {f : List (K × Value)} (h : GMapIs enc w b f) (r : K) :
    (Instr.lookup mt (.map (some b)) (enc r) false).run P w = .ok ((gGet f r).getD z) w := by
  obtain ⟨es, clock, hb, hes⟩ := h
  have hF := gFindKey kit r w f es.toList hes
  have hg : (getObj b).run P w = .ok (.map es clock) w := by simp [getObj, Sem.run, hb]
  unfold Instr.lookup
  cases hn : gGet f r with
  | none => simp [Sem.run_bind, run_underlying hm, hg, kit.check, hF.1 hn, hz]
  | some x =>
    obtain ⟨j, hj⟩ := hF.2 x hn
    simp [run_underlying hm, hg, kit.check, hj]

theorem gUpdate {K : Type} [DecidableEq K] {P : Program} {kt mt vt : TypeId} {enc : K → Value} (kit : KeyKit P kt enc) (hm : P.underlying mt = some (.map kt vt)) {w : World} {b : Nat} {f : List (K × Value)} (h : GMapIs enc w b f) (r : K) (x : Value) (hn : gGet f r = none) :
    ∃ o, (Instr.mapUpdate mt (.map (some b)) (enc r) x).run P w = .ok () (w.putObj b o) ∧ GMapIs enc (w.putObj b o) b (f ++ [(r, x)]) := by
  obtain ⟨es, clock, hb, hes⟩ := h
  have hF := gFindKey kit r w f es.toList hes
  have hg : (getObj b).run P w = .ok (.map es clock) w := by simp [getObj, Sem.run, hb]
  have hs : ∀ o, (setObj b o).run P w = .ok () (w.putObj b o) := fun o => by simp [setObj, Sem.run, hb, World.putObj]
  refine ⟨_, ?_, es.push { key := enc r, val := x, born := clock }, clock + 1, World.putObj_heap_same (block_lt hb), ?_⟩
  · unfold Instr.mapUpdate
    simp [run_underlying hm, hg, kit.check, hF.1 hn, hs]
  · simp [hes]

end Go.Proofs.YtjmejfgkogjpaaaGreat

namespace Go.Proofs.YtjmejfgkogjpaaaGreat
open Go.RowKit Go Go.Shelf

theorem setCells_other (g : Nat) : ∀ (vs : List Value) (o : Nat) (w : World), (∀ k, k ≠ g → (w.setCells g o vs).heap[k]? = w.heap[k]?) ∧ (w.setCells g o vs).os = w.os ∧ (w.setCells g o vs).tape = w.tape ∧ (w.setCells g o vs).output = w.output ∧ (w.setCells g o vs).heap.size = w.heap.size
  | [], o, w => ⟨fun _ _ => rfl, rfl, rfl, rfl, rfl⟩
  | v :: r, o, w => by
    obtain ⟨h1, h2, h3, h4, h5⟩ := setCells_other g r (o + 1) (w.setCell ⟨g, o, none⟩ v)
    exact ⟨fun k hk => (h1 k hk).trans (Below.heap_setCell w ⟨g, o, none⟩ v k hk), h2, h3, h4, h5.trans (by simp)⟩
theorem setCells_same (g : Nat) (e : TypeId) (fz : Nat × Nat) : ∀ (vs : List Value) (o : Nat) (w : World) (cur : Array Value), w.heap[g]? = some (.cells cur e fz) → o + vs.length ≤ cur.size →
    ∃ cur', (w.setCells g o vs).heap[g]? = some (.cells cur' e fz) ∧ cur'.size = cur.size ∧ cur'.toList.take (o + vs.length) = cur.toList.take o ++ vs
  | [], o, w, cur, hg, _ => ⟨cur, hg, rfl, by simp⟩
  | v :: r, o, w, cur, hg, hl => by
    simp only [List.length_cons] at hl
    obtain ⟨cur', h1, h2, h3⟩ := setCells_same g e fz r (o + 1) (w.setCell ⟨g, o, none⟩ v) (cur.setIfInBounds o v) (setCell_same hg o v) (by simp; omega)
    refine ⟨cur', h1, by simpa using h2, ?_⟩
    rw [show o + (v :: r).length = o + 1 + r.length by simp; omega, h3, Array.toList_setIfInBounds, List.take_succ_eq_append_getElem (by simp; omega), List.take_set_of_le (by omega), List.getElem_set_self]
    simp

/-- A row of one's own: a slice from its block's start; no cell of the block is frozen. -/
def OwnT (w : World) (base : Nat) (e : TypeId) (size : Nat) (v : Value) (n : Nat) (xs : List Value) : Prop :=
  xs.length = n * size ∧ ((v = .slice none 0 0 ∧ n = 0) ∨ ∃ g cap cur fz, v = .slice (some ⟨g, 0, none⟩) n cap ∧ base ≤ g ∧ w.heap[g]? = some (.cells cur e fz) ∧ (∀ i, i < cur.size → ¬ (fz.1 ≤ i ∧ i < fz.2)) ∧ n ≤ cap ∧ cap ≤ maxLen ∧ cur.size = cap * size ∧ cur.toList.take (n * size) = xs)
theorem OwnT.nil (w : World) (base : Nat) (e : TypeId) (size : Nat) : OwnT w base e size (.slice none 0 0) 0 [] := ⟨by simp, .inl ⟨rfl, rfl⟩⟩
theorem OwnT.of_owns {w : World} {base : Nat} {e : TypeId} {size : Nat} {v : Value} {n : Nat} {xs : List Value} (h : w.ownsRow base e size v n xs) : OwnT w base e size v n xs := by
  refine ⟨h.1, ?_⟩
  rcases h.2 with hn | ⟨g, cap, cur, hv, hb, hg, rest⟩
  · exact .inl hn
  · exact .inr ⟨g, cap, cur, (0, 0), hv, hb, hg, fun i _ h => by have := h.2; simp at this, rest⟩
theorem OwnT.slice {w : World} {base size : Nat} {e : TypeId} {v : Value} {n : Nat} {xs : List Value} (h : OwnT w base e size v n xs) : ∃ a c, v = .slice a n c := by
  rcases h.2 with ⟨rfl, rfl⟩ | ⟨g, cap, cur, fz, rfl, _⟩
  · exact ⟨_, _, rfl⟩
  · exact ⟨_, _, rfl⟩
theorem OwnT.ck {w w' : World} {base size : Nat} {e : TypeId} {v : Value} {n : Nat} {xs : List Value} (h : OwnT w base e size v n xs) (hb : CK w w') : OwnT w' base e size v n xs := by
  obtain ⟨hl, h⟩ := h
  refine ⟨hl, ?_⟩
  rcases h with h | ⟨g, cap, cur, fz, h1, h2, h3, h4⟩
  · exact .inl h
  · exact .inr ⟨g, cap, cur, fz, h1, h2, hb _ _ h3 rfl, h4⟩
theorem OwnT.up {w w' : World} {base size : Nat} {e : TypeId} {v : Value} {n : Nat} {xs : List Value} (h : OwnT w base e size v n xs) (hb : Below w.heap.size w w') : OwnT w' base e size v n xs := h.ck (.of_below hb)
theorem OwnT.lt {w : World} {base size : Nat} {e : TypeId} {v : Value} {n : Nat} {xs : List Value} (h : OwnT w base e size v n xs) : ∀ k, v.ownBlock = some k → base ≤ k ∧ k < w.heap.size := by
  intro k hk
  rcases h.2 with ⟨rfl, _⟩ | ⟨g, cap, cur, fz, rfl, hb, hg, _⟩
  · simp [Value.ownBlock] at hk
  · simp [Value.ownBlock] at hk
    subst hk
    exact ⟨hb, block_lt hg⟩
theorem OwnT.ne {w : World} {base sz : Nat} {e e' : TypeId} {v : Value} {n : Nat} {xs : List Value} {B : Nat} {cs : Array Value} {f : Nat × Nat} (h : OwnT w base e sz v n xs) (hB : w.heap[B]? = some (.cells cs e' f)) (hne : e ≠ e') : ∀ g, v.ownBlock = some g → g ≠ B := by
  intro g hg hgB
  rcases h.2 with ⟨rfl, _⟩ | ⟨g', cap, cur, fz, rfl, _, h3, _⟩
  · cases hg
  · have : g' = g := by simpa [Value.ownBlock] using hg
    rw [this, hgB, hB] at h3
    cases h3
    exact hne rfl
theorem OwnT.isCells {w : World} {base sz : Nat} {e : TypeId} {v : Value} {n : Nat} {xs : List Value} {B : Nat} {o : Obj} (h : OwnT w base e sz v n xs) (hB : w.heap[B]? = some o) (ho : o.isCells = false) : some B ≠ v.ownBlock := by
  intro hg
  rcases h.2 with ⟨rfl, _⟩ | ⟨g', cap, cur, fz, rfl, _, h3, _⟩
  · cases hg
  · have : B = g' := by simpa [Value.ownBlock] using hg
    rw [← this, hB] at h3
    cases h3; cases ho
theorem OwnT.put {w : World} {base sz : Nat} {e : TypeId} {v : Value} {n : Nat} {xs : List Value} {B : Nat} (h : OwnT w base e sz v n xs) (hne : ∀ g, v.ownBlock = some g → g ≠ B) (o : Nat) (x : Value) : OwnT (w.setCell ⟨B, o, none⟩ x) base e sz v n xs := by
  obtain ⟨hl, h⟩ := h
  refine ⟨hl, ?_⟩
  rcases h with h | ⟨g, cap, cur, fz, rfl, h2, h3, h4⟩
  · exact .inl h
  · exact .inr ⟨g, cap, cur, fz, rfl, h2, setCell_other h3 (hne g rfl) _ _, h4⟩
theorem OwnT.base {w : World} {base base' : Nat} {e : TypeId} {sz : Nat} {v : Value} {n : Nat} {xs : List Value} (h : OwnT w base e sz v n xs) (hb : base' ≤ base) : OwnT w base' e sz v n xs := by
  obtain ⟨hl, h⟩ := h
  refine ⟨hl, ?_⟩
  rcases h with h | ⟨g, cap, cur, fz, h1, h2, h3⟩
  · exact .inl h
  · exact .inr ⟨g, cap, cur, fz, h1, Nat.le_trans hb h2, h3⟩
theorem OwnT.cell {w : World} {base size : Nat} {e : TypeId} {v : Value} {n : Nat} {xs : List Value} (h : OwnT w base e size v n xs) (j : Nat) (u : Value) (hu : xs[j]? = some u) : ∃ g c, v = .slice (some ⟨g, 0, none⟩) n c ∧ w.cell? ⟨g, j, none⟩ = some u := by
  rcases h.2 with ⟨rfl, hn⟩ | ⟨g, cap, cur, fz, rfl, _, hg, _, _, _, _, ht⟩
  · subst hn
    have : xs = [] := List.eq_nil_of_length_eq_zero (by simpa using h.1)
    rw [this] at hu; simp at hu
  · refine ⟨g, cap, rfl, ?_⟩
    rw [cell_block hg]
    rw [← ht, List.getElem?_take] at hu
    split at hu
    · simpa using hu
    · cases hu

section
variable {P : Program} (w : World)
theorem run_append_T (base : Nat) (t ty e : TypeId) (i : TypeInfo) (z : Value) (size bytes : Nat) (ht : P.underlying t = some (.slice e)) (hi : P.info? e = some i) (hz : i.zero = some z)
    (hsize : i.size = size) (hby : i.bytes = bytes) (hzs : z.cells.size = size) (hsz : 0 < size)
    (v : Value) (n : Nat) (xs : List Value) (hown : OwnT w base e size v n xs)
    (a : Addr) (m c : Nat) (news : List Value) (hl : news.length = m * size) (hnews : ∀ j u, news[j]? = some u → w.cell? (a.add j) = some u) (h1 : ∀ u ∈ news, u.oneCell' = true)
    (h63 : n + m ≤ maxLen) (hbytes : (n + m) * bytes ≤ 140737488355328) (hbase : base ≤ w.heap.size) :
    ∃ v' w', (Builtin.append_ #[t, t] ty #[v, .slice (some a) m c]).run P w = .ok v' w' ∧ OwnT w' base e size v' (n + m) (xs ++ news) ∧ w.grownBy w' v.ownBlock ∧ (v'.ownBlock = v.ownBlock ∨ v'.ownBlock = some w.heap.size) := by
  rcases hown.2 with ⟨rfl, rfl⟩ | ⟨g, cap, cur, fz, rfl, hbg, hg, hfz, hnc, hcm, hcs, htake⟩
  · have hx : xs = [] := List.eq_nil_of_length_eq_zero (by simpa using hown.1)
    subst hx
    by_cases hm : m = 0
    · obtain ⟨v', w', q1, q2, q3, q4⟩ := run_append_own (P := P) w base t ty e i z size bytes ht hi hz hsize hby hzs hsz (.slice none 0 0) 0 [] (World.ownsRow_nil w base e size) a m c news hl hnews h1 h63 hbytes hbase
      have := q4.2 ⟨rfl, hm⟩
      exact ⟨v', w', q1, .of_owns q2, q3, .inl (by rw [this])⟩
    · obtain ⟨v', w', q1, q2, q3, q4⟩ := run_append_own (P := P) w w.heap.size t ty e i z size bytes ht hi hz hsize hby hzs hsz (.slice none 0 0) 0 [] (World.ownsRow_nil w _ e size) a m c news hl hnews h1 h63 hbytes (Nat.le_refl _)
      subst hsize hby
      have hr := run_append_nil (P := P) w t ty e i z ht hi hz a m c news hl hnews (by omega) (by simp only [maxLen] at h63; omega) (by have hb := hbytes; simp only [Nat.zero_add] at hb; omega)
      have e1 := hr.symm.trans q1
      injection e1 with e1 e2
      subst e1 e2
      exact ⟨_, _, hr, (OwnT.of_owns q2).base hbase, q3, .inr rfl⟩
  · subst hsize
    have hlen : (xs ++ news).length = (n + m) * i.size := by rw [List.length_append, hown.1, hl, Nat.add_mul]
    by_cases hroom : n + m ≤ cap
    · have hfit : n * i.size + news.length ≤ cur.size := by rw [hl, hcs, ← Nat.add_mul]; exact Nat.mul_le_mul_right _ hroom
      have hr := run_append_room_cells (P := P) w t ty e i ht hi g 0 n cap a m c news hl hnews h1 hroom (fun j hj => by rw [Nat.zero_add, cell_block hg]; simp; omega)
        (fun j hj => by
          simp only [World.frozen?, hg, Nat.zero_add]
          have := hfz (n * i.size + j) (by omega)
          simpa using this)
      rw [Nat.zero_add] at hr
      obtain ⟨cur', g1, g2, g3⟩ := setCells_same g e fz news (n * i.size) w cur hg hfit
      obtain ⟨o1, o2, o3, o4, o5⟩ := setCells_other g news (n * i.size) w
      refine ⟨_, _, hr, ⟨hlen, .inr ⟨g, cap, cur', fz, rfl, hbg, g1, fun k hk => hfz k (by omega), hroom, hcm, by omega, ?_⟩⟩, ⟨o2, o3, o4, by omega, fun k _ hk => o1 k (fun e => hk (by rw [e]; rfl))⟩, .inl rfl⟩
      rw [Nat.add_mul, ← hl, g3, htake]
    · subst hby
      have holds : ∀ j u, xs[j]? = some u → w.cell? ((⟨g, 0, none⟩ : Addr).add j) = some u := fun j u hu => by
        obtain ⟨g', c', e1, hc⟩ := hown.cell j u hu
        have : g' = g := by simp at e1; exact e1.1.symm
        subst this
        rw [← hc]
        congr 1
        unfold Addr.add; split <;> simp_all
      have hr := run_append_grow (P := P) w t ty e i z ht hi hz ⟨g, 0, none⟩ n cap xs hown.1 holds a m c news hl hnews (by omega) (by simp only [maxLen] at h63; omega) (growslice_fits (by omega) hbytes)
      obtain ⟨v', w', q1, q2, q3⟩ := run_append_arg_grows (P := P) w t ty e i z i.size i.bytes ht hi hz rfl rfl hzs hsz ⟨g, 0, none⟩ n cap xs hown.1 holds a m c news hl hnews (by omega) h63 hbytes
      have e1 := hr.symm.trans q1
      injection e1 with e1 e2
      subst e1 e2
      exact ⟨_, _, hr, (OwnT.of_owns q2).base hbase, ⟨q3.os, q3.tape, q3.output, q3.size, fun k hk _ => q3.block k hk (by simp)⟩, .inr rfl⟩

theorem wpList_append_T {ops : Array Oper} {rest : List Oper} {o : Oper} {a : Act} {Q : Exit → Act → World → Prop} (hgd : o.guard = none) (s x : Operand) (t : TypeId)
    (ho : o.op = .call { callee := .builtin .append, args := #[s, x], argTypes := #[t, t] })
    (base : Nat) (e : TypeId) (i : TypeInfo) (z : Value) (size bytes : Nat) (ht : P.underlying t = some (.slice e)) (hi : P.info? e = some i) (hz : i.zero = some z)
    (hsize : i.size = size) (hby : i.bytes = bytes) (hzs : z.cells.size = size) (hsz : 0 < size)
    (v : Value) (n : Nat) (xs : List Value) (hs : a.eval s = v) (hown : OwnT w base e size v n xs)
    (ad : Addr) (m c : Nat) (news : List Value) (hx : a.eval x = .slice (some ad) m c) (hl : news.length = m * size) (hnews : ∀ j u, news[j]? = some u → w.cell? (ad.add j) = some u) (h1 : ∀ u ∈ news, u.oneCell' = true)
    (h63 : n + m ≤ maxLen) (hbytes : (n + m) * bytes ≤ 140737488355328) (hbase : base ≤ w.heap.size)
    (h : ∀ v' w', OwnT w' base e size v' (n + m) (xs ++ news) → w.grownBy w' v.ownBlock → (v'.ownBlock = v.ownBlock ∨ v'.ownBlock = some w.heap.size) → wpList P ops Q rest (a.put o.dst v') w') : wpList P ops Q (o :: rest) a w := by
  refine wpList_plain hgd fun _ hK => ?_
  obtain ⟨v', w', hr, h2, h3, h4⟩ := run_append_T (P := P) w base t o.type e i z size bytes ht hi hz hsize hby hzs hsz v n xs hown ad m c news hl hnews h1 h63 hbytes hbase
  unfold Oper.wp execOp
  simp only [ho, resolve, invoke, builtin, Sem.run_bind, Sem.run_pure, Result.andThen_ok, List.map_toArray, List.map_cons, List.map_nil, hs, hx, hr]
  exact hK _ _ (h v' w' h2 h3 h4)

theorem wpListIn_append_T {F : Fence} {d : Nat} {ops : Array Oper} {rest : List Oper} {o : Oper} {a : Act} {Q : Exit → Act → World → Prop} (hgd : o.guard = none) (s x : Operand) (t : TypeId)
    (ho : o.op = .call { callee := .builtin .append, args := #[s, x], argTypes := #[t, t] })
    (base : Nat) (e : TypeId) (i : TypeInfo) (z : Value) (size bytes : Nat) (ht : P.underlying t = some (.slice e)) (hi : P.info? e = some i) (hz : i.zero = some z)
    (hsize : i.size = size) (hby : i.bytes = bytes) (hzs : z.cells.size = size) (hsz : 0 < size)
    (v : Value) (n : Nat) (xs : List Value) (hs : a.eval s = v) (hown : OwnT w base e size v n xs)
    (ad : Addr) (m c : Nat) (news : List Value) (hx : a.eval x = .slice (some ad) m c) (hl : news.length = m * size) (hnews : ∀ j u, news[j]? = some u → w.cell? (ad.add j) = some u) (h1 : ∀ u ∈ news, u.oneCell' = true)
    (h63 : n + m ≤ maxLen) (hbytes : (n + m) * bytes ≤ 140737488355328) (hbase : base ≤ w.heap.size)
    (h : ∀ v' w', OwnT w' base e size v' (n + m) (xs ++ news) → w.grownBy w' v.ownBlock → (v'.ownBlock = v.ownBlock ∨ v'.ownBlock = some w.heap.size) → wpListIn F d P ops Q rest (a.put o.dst v') w') : wpListIn F d P ops Q (o :: rest) a w := by
  refine wpListIn_plain hgd fun K hK' => ?_
  obtain ⟨v', w', hrun, r1, r2, r3⟩ := run_append_T (P := P) w base t o.type e i z size bytes ht hi hz hsize hby hzs hsz v n xs hown ad m c news hl hnews h1 h63 hbytes hbase
  unfold Oper.wpIn
  refine ⟨?_, ?_⟩
  · simp [Oper.about, ho, resolve, Target.leads, Sem.run_pure]
  · rw [Oper.semAt_plain F _ _ (by rw [ho]; intro c hc'; cases hc')]
    simp [execOp, ho, resolve, invoke, builtin, hs, hx, hrun, Result.andThen]
    exact hK' _ _ (h v' w' r1 r2 r3)
end
end Go.Proofs.YtjmejfgkogjpaaaGreat

namespace Go.Proofs.YtjmejfgkogjpaaaGreat
open Go.RowKit Go Go.Shelf

theorem mkMap (P : Program) (t : TypeId) (w : World) : (Instr.makeMap t none).run P w = .ok (.map (some w.heap.size)) (w.alloc (.map #[] 0)) := rfl
abbrev Pl.v (x : Pl) : Value := .agg #[.int .i64 x.rd, .int .i64 x.pr, .int .i64 x.h0, .int .i64 x.h1, .int .i64 x.h2, .int .i64 x.h3, .int .i64 x.h4]
theorem eqIn_pl (d : Nat) (a b : Pl) (w : World) : (Op.equalIn (d + 3) 183 a.v b.v).run Tryz.prog w = .ok (decide (a = b)) w := by
  have hS : Tryz.prog.underlying 183 = some (.struct (Tryz.prog.fieldsOf 183)) := by kernel_rfl
  have hp : Tryz.prog.stoodInHeld 183 = false := by kernel_rfl
  rw [run_equalIn_struct w (d + 2) 183 _ _ hS hp]
  have ag := Tryz.isAgg3
  have ah := Tryz.isAgg60
  have zh := Tryz.sizeOf60
  have u3 := Tryz.underlying3
  simp only [Program.fieldsOf, Tryz.underlying183]
  simp [Op.eqFields, part, ag, ah, zh, run_equalIn_int w (d + 1) 3 _ .i64 _ _ u3, eqIn_arr d]
  obtain ⟨n, k, h0, h1, h2, h3, h4⟩ := a
  obtain ⟨m, l, g0, g1, g2, g3, g4⟩ := b
  by_cases hn : n = m
  case neg => simp [hn]
  by_cases hk : k = l
  case neg => simp [hn, hk]
  by_cases hh : h0 = g0 ∧ h1 = g1 ∧ h2 = g2 ∧ h3 = g3 ∧ h4 = g4 <;> simp [hn, hk, hh]
theorem kit_pl : KeyKit Tryz.prog 183 Pl.v :=
  ⟨fun a b w => eqIn_pl 9997 a b w, fun em a w => by kernel_rfl, ⟨_, Tryz.underlying183⟩⟩
def stepsF (l : List St) : List (Pl × Value) := l.map fun s => (s.pl, .int .i64 s.to)
theorem gGet_none {K : Type} [DecidableEq K] {f : List (K × Value)} {r : K} (h : ∀ p ∈ f, p.1 ≠ r) : gGet f r = none := by
  simp only [gGet, Option.map_eq_none_iff, List.find?_eq_none]
  intro p hp
  simpa using fun e => h p hp e.symm
theorem stepsF_get (m : Mac) (x : Pl) : gGet (stepsF m.steps) x = (stepTo m x).map (Value.int .i64) := by
  unfold gGet stepsF stepTo
  rw [List.find?_map]
  cases h : m.steps.find? ((fun p : Pl × Value => decide (x = p.1)) ∘ fun s => (s.pl, Value.int .i64 s.to)) with
  | none =>
    have : (m.steps.find? fun s => decide (x = s.pl)) = none := h
    rw [this]; rfl
  | some s =>
    have : (m.steps.find? fun s => decide (x = s.pl)) = some s := h
    rw [this]; rfl
/-- Steps in order have different places. -/
def Diff (l : List St) : Prop := ∀ i j (hi : i < l.length) (hj : j < l.length), i < j → l[i].pl ≠ l[j].pl

set_option maxRecDepth 100000 in
set_option maxHeartbeats 4000000 in
theorem steps_any (m : Mac) (pf : Option Addr) (nf cf : Nat) (py : Option Addr) (ny cy : Nat) (vt : Value) (po : Option Addr) (no co : Nat) (w : World) (ht : IsSteps w vt m.steps) (hd : Diff m.steps) (hn : m.steps.length ≤ 65536) :
    Calls Tryz.prog 122 #[.agg (macC m (.slice pf nf cf) (.slice py ny cy) vt (.slice po no co))] w fun e w' => ∃ b, e = .returned (.map (some b)) ∧ GMapIs Pl.v w' b (stepsF m.steps) ∧ w.heap.size ≤ b ∧ Below w.heap.size w w' := by
  obtain ⟨pt, ct, rfl, lt1, lt2, et⟩ := ht.at
  have ET := Lib.hid et
  have HD := Lib.hid hd
  clear et ht hd
  have hmm := fun w => mkMap Tryz.prog 179 w
  go_enter Tryz.func122, Tryz.ntmps122
  go_wp2_with fail
  clear hmm
  refine wp_gen (fun W => Below w.heap.size w W ∧ W.heap[w.heap.size]? = some (.cells (macC m (.slice pf nf cf) (.slice py ny cy) (.slice pt m.steps.length ct) (.slice po no co)) 35) ∧ GMapIs Pl.v W (w.heap.size + 1) []) ⟨by go_grown, alloc_old _ (alloc_new _ _), ⟨#[], 0, alloc2_new _ _ _, rfl⟩⟩ (fun W0 hW0 => ?_)
  obtain ⟨hb0, _, hG0⟩ := hW0
  go_loopw [10] (fun i wr => ∃ k : Nat, k ≤ m.steps.length ∧ i = .int .i64 k ∧ Below w.heap.size w wr ∧ GMapIs Pl.v wr (w.heap.size + 1) (stepsF (m.steps.take k))) (fun i _ => m.steps.length - (intOf i).toNat)
  case atStart => exact ⟨0, by omega, rfl, hb0, by simpa [stepsF] using hG0⟩
  case round =>
    clear hb0 hG0
    obtain ⟨k, hk, rfl, hbr, hG⟩ := hrel
    by_cases hlt : k < m.steps.length
    · obtain ⟨b1, o1, rfl, hsk⟩ := ET.out k hlt
      obtain ⟨c0, c1, c2, c3, c4, c5, c6, c7⟩ := hsk
      have d0 := cell_up hbr c0.1
      have d1 := cell_up hbr c1.1
      have d2 := cell_up hbr c2.1
      have d3 := cell_up hbr c3.1
      have d4 := cell_up hbr c4.1
      have d5 := cell_up hbr c5.1
      have d6 := cell_up hbr c6.1
      have d7 := cell_up hbr c7.1
      clear c0 c1 c2 c3 c4 c5 c6 c7
      have hnone : gGet (stepsF (m.steps.take k)) m.steps[k].pl = none := by
        refine gGet_none fun p hp e => ?_
        obtain ⟨s, hs, rfl⟩ := List.mem_map.1 hp
        obtain ⟨q, hq, rfl⟩ := List.mem_take_iff_getElem.1 hs
        exact HD.out q k (by omega) hlt (by omega) e
      have HTK : Hid (stepsF (m.steps.take (k + 1)) = stepsF (m.steps.take k) ++ [(m.steps[k].pl, .int .i64 m.steps[k].to)]) := by
        (have h : stepsF (m.steps.take (k + 1)) = stepsF (m.steps.take k) ++ [(m.steps[k].pl, .int .i64 m.steps[k].to)] := by (unfold stepsF; rw [List.take_succ_eq_append_getElem hlt, List.map_append]; rfl)); exact h
      generalize m.steps[k] = s at d0 d1 d2 d3 d4 d5 d6 d7 hnone HTK
      have hsb := hG.lt
      have hA : Below wr.heap.size wr (wr.alloc (.cells s.c 95)) := by go_grown
      obtain ⟨o, hup, hG2⟩ := gUpdate kit_pl (mt := 179) (vt := 3) Tryz.underlying179 (hG.up hA) s.pl (.int .i64 s.to) hnone
      have HG2 := Lib.hid hG2
      have HA := Lib.hid hA
      clear hG hG2 hnone
      simp only [Pl.v, St.pl] at hup
      go_wp2_with fail
      go_roundw
      case rel => exact ⟨k + 1, by omega, by go_num, below_put (by omega) (hbr.alloc hbr.size _), by rw [HTK.out]; exact HG2.out⟩
      case measure => simp [intOf]; omega
    · obtain rfl : k = m.steps.length := by omega
      rw [List.take_of_length_le (Nat.le_refl _)] at hG
      have HG := Lib.hid hG
      clear hG
      go_wp2_with fail
      go_ret
      exact ⟨_, rfl, HG.out, by omega, hbr⟩
end Go.Proofs.YtjmejfgkogjpaaaGreat
