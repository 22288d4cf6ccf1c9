/-
  Parts of the proof, in order. Contracts of the reference's Count and Few of machines and Few of traces: they return some number, some truth value. Conditions: the arguments read as a machine, a trace. The walk of SimulateRuns: it returns true. Conditions: the arguments read as a machine, inputs and a word; the chapter's examples (awake) return true in every later world. Contract of the program's simulate.checkDecisions. Conditions: the argument reads as a trace. Contract of the program's task.Allowed. Conditions: the arguments read as a task. Maps from rounds to numbers, as the program's adversary makes them: what a look-up gives, and a store at a key that is not there yet. Conditions: the block is such a map. The contract of the program's adversary.index: a table of maps. Conditions: the argument reads as an adversary with 1 to 256 states, in each of which the rounds differ. Contracts of the program's adversary.State and adversary.Allows. Conditions: the arguments read as an adversary and a word; the adversary's moves together are fewer than 2^40. Contracts of the program's execution.Check and monitor.find, newScene. Conditions: the arguments read as a problem, inputs, a word and decisions. Contracts of the program's monitor: newScene, obliged (an iterator), undecided. Conditions: the arguments read as a problem, a word and decisions; the set of faulty processes is not negative. Contracts of the program's monitor.schedule and monitor.undecided. Conditions: the argument reads as a scene of a problem without errors. Plain facts on the vectors that agree with decisions. It proves nothing of the program. Contract of the library's slices.DeleteFunc at [][]int on a row that the caller owns. Conditions: the predicate answers at each element, whatever the row holds meanwhile. Contract of the library's slices.DeleteFunc at [][]int on a row that the caller owns. Conditions: the predicate answers at each element, whatever the row holds meanwhile. Contracts of the program's (monitor.scene).filtered and of the predicate in it. Conditions: the arguments read as a scene; the vectors are long enough. Contract of the program's (monitor.scene).filtered: the iterator. Conditions: the scene is one of a task whose allowed vectors have as many elements as there are processes. Contract of the program's monitor.output. Conditions: the argument reads as a scene of a problem without errors. Contracts of the program's monitor.schedule, monitor.judge, monitor.Blame. Conditions: the arguments read as a problem, inputs, a word and decisions. Contract of the program's simulate.Check. Conditions: the argument reads as a trace. Contracts of law56's heard and of the program's simulate.Bytes. Conditions: the argument reads as a trace whose messages are short.
-/
import Derived.Lib.SliceRun
import Derived.Test.YtjmejfgkogjpaaaGreatDoorJ11
namespace Go.Proofs.YtjmejfgkogjpaaaGreatDoor
open Go.RowKit Go Go.Shelf

def RetB (e : Ending) : Prop := ∃ b, e = .returned (.bool b)
theorem retB (b : Bool) : RetB (.returned (.bool b)) := ⟨b, rfl⟩

set_option maxRecDepth 100000 in
set_option maxHeartbeats 2000000 in
theorem rcount_any (m : Mac) (vf vy vt vo : Value) (w : World) (hf : IsVecs w vf m.first) (hy : IsV4 w vy m.syms) (ht : IsSteps w vt m.steps) (ho : IsV3 w vo m.out) :
    Calls Tryz.prog 10 #[.agg (macC m vf vy vt vo)] w fun e w' => (∃ x, e = .returned (.int .i64 x)) ∧ Below w.heap.size w w' := by
  obtain ⟨pf, cf, rfl, _⟩ := hf.at
  obtain ⟨py, cy, rfl, _⟩ := hy.at
  obtain ⟨pt, ct, rfl, _⟩ := ht.at
  obtain ⟨po, co, rfl, lo1, lo2, eo⟩ := ho.at
  have EO := Lib.hid eo
  clear hf hy ht ho eo
  go_enter Tryz.func10, Tryz.ntmps10
  go_wp2
  refine wp_gen (fun W => Below w.heap.size w W ∧ W.heap[w.heap.size]? = some (.cells (macC m (.slice pf m.first.length cf) (.slice py m.syms.length cy) (.slice pt m.steps.length ct) (.slice po m.out.length co)) 27)) ⟨by go_grown, alloc_new _ _⟩ (fun W0 hW0 => ?_)
  obtain ⟨hb0, hA0⟩ := hW0
  have t1 := cell_block hA0
  clear hA0
  go_loop [3, 4] (fun o i => ∃ k : Nat, k ≤ m.out.length ∧ i = .int .i64 k ∧ ∃ x, o = .int .i64 x) (fun _ i => m.out.length - (intOf i).toNat)
  case atStart => exact ⟨0, by omega, rfl, _, rfl⟩
  case round =>
    obtain ⟨k, hk, rfl, x, rfl⟩ := hrel
    by_cases hlt : k < m.out.length
    · obtain ⟨b1, o1, rfl, u, cx, hx⟩ := EO.out k hlt
      rw [Nat.mul_one] at cx
      have c1 := cell_up hb0 cx
      obtain ⟨px, qx, rfl, lx1, lx2, ex⟩ := hx.at
      have EX := Lib.hid ex
      clear cx hx ex
      generalize hnk : m.out[k] = row at EX c1 lx1 lx2
      clear hnk
      go_wp2
      go_loop [3, 5] (fun o i => ∃ j : Nat, j ≤ row.length ∧ i = .int .i64 j ∧ ∃ x, o = .int .i64 x) (fun _ i => row.length - (intOf i).toNat)
      case atStart => exact ⟨0, by omega, rfl, _, rfl⟩
      case round =>
        obtain ⟨j, hj, rfl, y, rfl⟩ := hrel
        by_cases hjt : j < row.length
        · obtain ⟨b2, o2, rfl, u2, cy2, hy2⟩ := EX.out j hjt
          rw [Nat.mul_one] at cy2
          have c2 := cell_up hb0 cy2
          obtain ⟨py2, qy2, rfl, ly1, ly2, _⟩ := hy2.at
          clear cy2 hy2
          generalize hnj : row[j].length = nj at c2 ly1 ly2
          clear hnj
          go_wp2
          go_round
          case rel => exact ⟨j + 1, by omega, by go_num, _, rfl⟩
          case measure => simp [intOf]; omega
        · go_wp2
          go_round
          case rel => exact ⟨k + 1, by omega, by go_num, _, rfl⟩
          case measure => simp [intOf]; omega
    · go_wp2
      go_ret
      exact ⟨⟨_, rfl⟩, hb0⟩

set_option maxRecDepth 100000 in
set_option maxHeartbeats 4000000 in
theorem rfewMac_any (m : Mac) (vf vy vt vo : Value) (w : World) (hf : IsVecs w vf m.first) (hy : IsV4 w vy m.syms) (ht : IsSteps w vt m.steps) (ho : IsV3 w vo m.out) :
    Calls Tryz.prog 4 #[.agg (macC m vf vy vt vo)] w fun e w' => RetB e ∧ Below w.heap.size w w' := by
  have HC := Lib.hid (fun W (hb : Below w.heap.size w W) => rcount_any m vf vy vt vo W (hf.up up_ints hb) (hy.up up_v3 hb) (ht.up up_step hb) (ho.up up_vecs hb))
  obtain ⟨pf, cf, rfl, _⟩ := hf.at
  obtain ⟨py, cy, rfl, ly1, ly2, ey⟩ := hy.at
  obtain ⟨pt, ct, rfl, _⟩ := ht.at
  obtain ⟨po, co, rfl, lo1, lo2, eo⟩ := ho.at
  have EY := Lib.hid ey
  clear hf hy ht ho ey eo
  by_cases h1 : 20 < m.first.length
  · go_enter Tryz.func4, Tryz.ntmps4
    go_wp2
    go_ret
    exact ⟨retB _, by go_grown⟩
  by_cases h2 : 20 < m.out.length
  · go_enter Tryz.func4, Tryz.ntmps4
    go_wp2
    go_ret
    exact ⟨retB _, by go_grown⟩
  by_cases h3 : 20 < m.syms.length
  · go_enter Tryz.func4, Tryz.ntmps4
    go_wp2
    go_ret
    exact ⟨retB _, by go_grown⟩
  by_cases h4 : 400 < m.steps.length
  · go_enter Tryz.func4, Tryz.ntmps4
    go_wp2
    go_ret
    exact ⟨retB _, by go_grown⟩
  go_enter Tryz.func4, Tryz.ntmps4
  go_wp2_with fail
  refine calls_gen (fun W => Below w.heap.size w W ∧ W.heap[w.heap.size]? = some (.cells (macC m (.slice pf m.first.length cf) (.slice py m.syms.length cy) (.slice pt m.steps.length ct) (.slice po m.out.length co)) 27)) ⟨by go_grown, alloc_new _ _⟩ (fun W0 hW0 => ?_)
  obtain ⟨hb0, hA0⟩ := hW0
  refine (HC.out W0 hb0).mono ?_
  rintro e w1 ⟨⟨x, rfl⟩, hb1'⟩
  have hb1 := ext_trans hb0 hb1'
  by_cases hx : 400 < x
  · go_wp2_with fail
    go_ret
    exact ⟨retB _, hb1⟩
  have t1 := cell_block (block_up hb1' hA0)
  clear hA0
  go_wp2_with fail
  go_loop [3] (fun i => ∃ k : Nat, k ≤ m.syms.length ∧ i = .int .i64 k) (fun i => m.syms.length - (intOf i).toNat)
  case atStart => exact ⟨0, by omega, rfl⟩
  case round =>
    obtain ⟨k, hk, rfl⟩ := hrel
    by_cases hlt : k < m.syms.length
    · obtain ⟨b1, o1, rfl, u, cx, hx⟩ := EY.out k hlt
      rw [Nat.mul_one] at cx
      have c1 := cell_up hb1 cx
      obtain ⟨px, qx, rfl, lx1, lx2, ex⟩ := hx.at
      have EX := Lib.hid ex
      clear cx hx ex
      generalize hnk : m.syms[k] = row at EX c1 lx1 lx2
      clear hnk
      by_cases hr : 20 < row.length
      · go_wp2
        go_ret
        exact ⟨retB _, hb1⟩
      go_wp2
      go_loop [4] (fun i => ∃ j : Nat, j ≤ row.length ∧ i = .int .i64 j) (fun i => row.length - (intOf i).toNat)
      case atStart => exact ⟨0, by omega, rfl⟩
      case round =>
        obtain ⟨j, hj, rfl⟩ := hrel
        by_cases hjt : j < row.length
        · obtain ⟨b2, o2, rfl, u2, cy2, hy2⟩ := EX.out j hjt
          rw [Nat.mul_one] at cy2
          have c2 := cell_up hb1 cy2
          obtain ⟨py2, qy2, rfl, ly1, ly2, _⟩ := hy2.at
          clear cy2 hy2
          generalize hnj : row[j].length = nj at c2 ly1 ly2
          clear hnj
          by_cases hn : 20 < nj
          · go_wp2
            go_ret
            exact ⟨retB _, hb1⟩
          · go_wp2
            go_round
            case rel => exact ⟨j + 1, by omega, by go_num⟩
            case measure => simp [intOf]; omega
        · go_wp2
          go_round
          case rel => exact ⟨k + 1, by omega, by go_num⟩
          case measure => simp [intOf]; omega
    · go_wp2
      go_ret
      exact ⟨retB _, hb1⟩

end Go.Proofs.YtjmejfgkogjpaaaGreatDoor

namespace Go.Proofs.YtjmejfgkogjpaaaGreatDoor
open Go.RowKit Go Go.Shelf
attribute [local go_sem] Oper.semAt_some

theorem nil_sl {α : Type} {k : Nat} {R : World → Nat → Nat → α → Prop} (w : World) : IsSl k R w (.slice none 0 0) [] := ⟨none, 0, rfl, ⟨by simp, by omega, fun _ => rfl⟩, by simp, fun i x hx => by simp at hx⟩
/-- the empty trace -/
theorem nil_tr (w : World) : IsTr w ⟨[], [], [], [], [], []⟩ (.slice none 0 0) (.slice none 0 0) (.slice none 0 0) (.slice none 0 0) (.slice none 0 0) (.slice none 0 0) := ⟨nil_sl w, nil_sl w, nil_sl w, nil_sl w, nil_sl w, nil_sl w⟩
theorem trC_zero {a b c d e f : Value} (h : trC a b c d e f = zeroTr) : a = .slice none 0 0 ∧ b = .slice none 0 0 ∧ c = .slice none 0 0 ∧ d = .slice none 0 0 ∧ e = .slice none 0 0 ∧ f = .slice none 0 0 := by
  injection h with h
  injection h with e1 h
  injection h with e2 h
  injection h with e3 h
  injection h with e4 h
  injection h with e5 h
  injection h with e6 h
  exact ⟨e1, e2, e3, e4, e5, e6⟩

set_option maxRecDepth 100000 in
set_option maxHeartbeats 4000000 in
theorem lruns_of (m : Mac) (vf vy vt vo vi vw : Value) (inputs : List Int) (word : List Rd) (w : World) (hf : IsVecs w vf m.first) (hy : IsV4 w vy m.syms) (ht : IsSteps w vt m.steps) (ho : IsV3 w vo m.out) (hi : IsInts w vi inputs) (hw : IsWord w vw word)
    (haw : ∀ W, Below w.heap.size w W → Calls Tryz.prog 6 #[] W fun e w' => e = .returned (.bool true) ∧ Below W.heap.size W w') :
    Calls Tryz.prog 3 #[.agg (macC m vf vy vt vo), vi, vw] w fun e w' => e = .returned (.bool true) ∧ Below w.heap.size w w' := by
  have HF := Lib.hid hf
  have HY := Lib.hid hy
  have HT := Lib.hid ht
  have HO := Lib.hid ho
  have HI := Lib.hid hi
  have HW := Lib.hid hw
  have HAW := Lib.hid haw
  obtain ⟨pf, cf, rfl, _⟩ := hf.at
  obtain ⟨py, cy, rfl, _⟩ := hy.at
  obtain ⟨pt, ct, rfl, _⟩ := ht.at
  obtain ⟨po, co, rfl, _⟩ := ho.at
  obtain ⟨pi, ci, rfl, li1, li2, _⟩ := hi.at
  obtain ⟨pw, cw, rfl, lw1, lw2, _⟩ := hw.at
  clear hf hy ht ho hi hw haw
  go_enter Tryz.func3, Tryz.ntmps3
  go_wp2_with fail
  refine calls_gen (fun W => Below w.heap.size w W ∧ W.heap[w.heap.size]? = some (.cells (macC m (.slice pf m.first.length cf) (.slice py m.syms.length cy) (.slice pt m.steps.length ct) (.slice po m.out.length co)) 27)) ⟨by go_grown, alloc_new _ _⟩ (fun W0 hW0 => ?_)
  obtain ⟨hb0, hM0⟩ := hW0
  have HM0 := Lib.hid hM0
  clear hM0
  refine (rfewMac_any m _ _ _ _ W0 (HF.out.up up_ints hb0) (HY.out.up up_v3 hb0) (HT.out.up up_step hb0) (HO.out.up up_vecs hb0)).mono ?_
  rintro e w1 ⟨⟨fm, rfl⟩, hb1'⟩
  have hb1 := ext_trans hb0 hb1'
  cases fm with
  | false =>
    go_wp2_with fail
    refine (HAW.out _ hb1).mono ?_
    rintro e w2 ⟨rfl, hb2⟩
    go_wp2_with fail
    go_ret
    exact ⟨rfl, ext_trans hb1 hb2⟩
  | true =>
  by_cases hl : 20 < inputs.length
  · have hl' : (20 : Int) < (inputs.length : Int) := by omega
    go_wp2_with fail
    refine (HAW.out _ hb1).mono ?_
    rintro e w2 ⟨rfl, hb2⟩
    go_wp2_with fail
    go_ret
    exact ⟨rfl, ext_trans hb1 hb2⟩
  have hl' : ¬ (20 : Int) < (inputs.length : Int) := by omega
  go_wp2_with fail
  refine (rfewWord_any _ word w1 (HW.out.up up_round hb1)).mono ?_
  rintro e w2 ⟨rfl, rfl⟩
  cases hfw : decide (word.length ≤ 12) with
  | false =>
    clear hfw
    go_wp2_with fail
    refine (HAW.out _ hb1).mono ?_
    rintro e w2 ⟨rfl, hb2⟩
    go_wp2_with fail
    go_ret
    exact ⟨rfl, ext_trans hb1 hb2⟩
  | true =>
  clear hfw
  have HM1 := Lib.hid (block_up hb1' HM0.out)
  have s1 := cell_block HM1.out
  go_wp2_with fail
  clear s1
  refine (simRun_any m _ _ _ _ _ _ inputs word w1 (HF.out.up up_ints hb1) (HY.out.up up_v3 hb1) (HT.out.up up_step hb1) (HO.out.up up_vecs hb1) (HI.out.up up_int hb1) (HW.out.up up_round hb1)).mono ?_
  rintro e w3 ⟨ai, aw, as', am, ad, at', rfl, ha1, ha2, hb3'⟩
  have hb3 := ext_trans hb1 hb3'
  -- both traces read as one and the same
  have hT : ∃ t : Tr, IsTr w3 t ai aw as' am ad at' ∧ (playE m inputs word = 0 → t = madeT m inputs word) ∧ (playE m inputs word ≠ 0 → t = ⟨[], [], [], [], [], []⟩) := by
    by_cases hc : playE m inputs word = 0
    · exact ⟨_, ha1 hc, fun _ => rfl, fun h => absurd hc h⟩
    · obtain ⟨rfl, rfl, rfl, rfl, rfl, rfl⟩ := trC_zero (ha2 hc)
      exact ⟨_, nil_tr w3, fun h => absurd h hc, fun _ => rfl⟩
  obtain ⟨t, hTa, ht1, ht2⟩ := hT
  have HTA := Lib.hid hTa
  have HT12 := Lib.hid (And.intro ht1 ht2)
  obtain ⟨x1, y1, rfl, _⟩ := hTa.inp.at
  obtain ⟨x2, y2, rfl, _⟩ := hTa.word.at
  obtain ⟨x3, y3, rfl, _⟩ := hTa.states.at
  obtain ⟨x4, y4, rfl, _⟩ := hTa.msgs.at
  obtain ⟨x5, y5, rfl, _⟩ := hTa.dec.at
  obtain ⟨x6, y6, rfl, _⟩ := hTa.times.at
  clear ha1 ha2 hTa ht1 ht2
  obtain ⟨pe, hpe⟩ : ∃ pe, playE m inputs word = pe := ⟨_, rfl⟩
  have HPE := Lib.hid hpe
  rw [hpe]
  clear hpe
  have s1 := cell_block (block_up hb3' HM1.out)
  have hlm := block_lt (block_up hb3' HM1.out)
  go_wp2_with fail
  clear s1
  refine calls_gen (fun W => Below w3.heap.size w3 W ∧ W.heap[w3.heap.size]? = some (.cells (trC (.slice x1 t.inp.length y1) (.slice x2 t.word.length y2) (.slice x3 t.states.length y3) (.slice x4 t.msgs.length y4) (.slice x5 t.dec.length y5) (.slice x6 t.times.length y6)) 35)) ⟨by go_grown, alloc_new _ _⟩ (fun W4 hW4 => ?_)
  obtain ⟨hb4', hA4⟩ := hW4
  have HA4 := Lib.hid hA4
  clear hA4
  have hb4 := ext_trans hb3 hb4'
  refine (rsimRun_any m _ _ _ _ _ _ inputs word W4 (HF.out.up up_ints hb4) (HY.out.up up_v3 hb4) (HT.out.up up_step hb4) (HO.out.up up_vecs hb4) (HI.out.up up_int hb4) (HW.out.up up_round hb4)).mono ?_
  rintro e w5 ⟨bi, bw, bs', bm, bd, bt, rfl, hc1, hc2, hb5'⟩
  have hb5 := ext_trans hb4 hb5'
  have hTb : IsTr w5 t bi bw bs' bm bd bt := by
    by_cases hc : playE m inputs word = 0
    · rw [HT12.out.1 hc]; exact hc1 hc
    · obtain ⟨rfl, rfl, rfl, rfl, rfl, rfl⟩ := trC_zero (hc2 hc)
      rw [HT12.out.2 hc]
      exact nil_tr w5
  have HTB := Lib.hid hTb
  rw [HPE.out]
  obtain ⟨u1, v1, rfl, _⟩ := hTb.inp.at
  obtain ⟨u2, v2, rfl, _⟩ := hTb.word.at
  obtain ⟨u3, v3, rfl, _⟩ := hTb.states.at
  obtain ⟨u4, v4, rfl, _⟩ := hTb.msgs.at
  obtain ⟨u5, v5, rfl, _⟩ := hTb.dec.at
  obtain ⟨u6, v6, rfl, _⟩ := hTb.times.at
  clear hTb hc1 hc2
  have s1 := cell_block (block_up hb5' HA4.out)
  have hl5 := block_lt (block_up hb5' HA4.out)
  go_wp2_with fail
  clear s1
  refine calls_gen (fun W => Below w5.heap.size w5 W) (by go_grown) (fun W6 hb6' => ?_)
  have hb6 := ext_trans hb5 hb6'
  refine (rsame_any t _ _ _ _ _ _ _ _ _ _ _ _ W6 (HTA.out.up (ext_trans hb4' (ext_trans hb5' hb6'))) (HTB.out.up hb6')).mono ?_
  rintro e w7 ⟨rfl, hb7'⟩
  have hb7 := ext_trans hb6 hb7'
  have hpp : (pe == pe) = true := by simp
  go_wp2_with fail
  refine (HAW.out _ hb7).mono ?_
  rintro e w8 ⟨rfl, hb8⟩
  go_wp2_with fail
  go_ret
  exact ⟨rfl, ext_trans hb7 hb8⟩
end Go.Proofs.YtjmejfgkogjpaaaGreatDoor

namespace Go.Proofs.YtjmejfgkogjpaaaGreatDoor
open Go.RowKit Go Go.Shelf

set_option maxRecDepth 100000 in
set_option maxHeartbeats 4000000 in
theorem checkDecisions_any (t : Tr) (vi vw vs vm vd vt : Value) (w : World) (ht : IsTr w t vi vw vs vm vd vt) :
    Calls Tryz.prog 39 #[.agg (trC vi vw vs vm vd vt)] w fun e w' => e = .returned (.int .i64 (decisionsE t)) ∧ Below w.heap.size w w' := by
  obtain ⟨hi, hw, hs, hm, hd, htt⟩ := ht
  obtain ⟨pi, ci, rfl, li1, li2, _⟩ := hi.at
  obtain ⟨pw, cw, rfl, lw1, lw2, _⟩ := hw.at
  obtain ⟨ps, cs, rfl, ls1, ls2, _⟩ := hs.at
  obtain ⟨pm, cm, rfl, _⟩ := hm.at
  obtain ⟨pd, cd, rfl, ld1, ld2, ed⟩ := hd.at
  obtain ⟨pt, ct, rfl, lt1, lt2, et⟩ := htt.at
  clear hi hw hs hm hd htt
  have ED := Lib.hid ed
  have ET := Lib.hid et
  clear ed et
  have HV : Hid (decisionsE t = if t.dec.length ≠ t.inp.length ∨ t.times.length ≠ t.inp.length then 15 else firstNZ t.dec.length (deciE t)) := by exact rfl
  by_cases h1 : t.dec.length = t.inp.length
  case neg =>
    have d1 : ((t.dec.length : Int) != (t.inp.length : Int)) = true := by simp; omega
    have HV1 : Hid (decisionsE t = 15) := by (have h : decisionsE t = 15 := by (rw [HV.out, if_pos (Or.inl h1)])); exact h
    clear h1
    go_enter Tryz.func39, Tryz.ntmps39
    go_wp2_with fail
    go_ret
    exact ⟨ret_int HV1.out.symm, by go_grown⟩
  have d1 : ((t.dec.length : Int) != (t.inp.length : Int)) = false := by simp; omega
  by_cases h2 : t.times.length = t.inp.length
  case neg =>
    have d2 : ((t.times.length : Int) != (t.inp.length : Int)) = true := by simp; omega
    have HV1 : Hid (decisionsE t = 15) := by (have h : decisionsE t = 15 := by (rw [HV.out, if_pos (Or.inr h2)])); exact h
    clear h1 h2
    go_enter Tryz.func39, Tryz.ntmps39
    go_wp2_with fail
    go_ret
    exact ⟨ret_int HV1.out.symm, by go_grown⟩
  have d2 : ((t.times.length : Int) != (t.inp.length : Int)) = false := by simp; omega
  have HV1 : Hid (decisionsE t = firstNZ t.dec.length (deciE t)) := by (have h : decisionsE t = firstNZ t.dec.length (deciE t) := by (rw [HV.out, if_neg (by omega)])); exact h
  have H12 : Hid (t.dec.length = t.times.length) := by (have h : t.dec.length = t.times.length := by omega); exact h
  clear h1 h2 HV
  go_enter Tryz.func39, Tryz.ntmps39
  go_wp2_with fail
  clear d1 d2
  refine wp_gen (fun W => Below w.heap.size w W ∧ W.heap[w.heap.size]? = some (.cells (trC (.slice pi t.inp.length ci) (.slice pw t.word.length cw) (.slice ps t.states.length cs) (.slice pm t.msgs.length cm) (.slice pd t.dec.length cd) (.slice pt t.times.length ct)) 35)) ⟨by go_grown, alloc_new _ _⟩ (fun W0 hW0 => ?_)
  obtain ⟨hb0, hT0⟩ := hW0
  have HT0 := Lib.hid hT0; clear hT0
  go_loopw [24] (fun i wr => Below W0.heap.size W0 wr ∧ ∃ k : Nat, k ≤ t.dec.length ∧ i = .int .i64 k ∧ ∀ j, j < k → deciE t j = 0) (fun i _ => t.dec.length - (intOf i).toNat)
  case atStart => exact ⟨Below.refl _ _, 0, by omega, rfl, by simp⟩
  case round =>
    obtain ⟨hbr, k, hk, rfl, hinv⟩ := hrel
    have H := Lib.hid hinv; clear hinv
    have hbW := ext_trans hb0 hbr
    by_cases hlt : k < t.dec.length
    · have hlt2 : k < t.times.length := by have := H12.out; omega
      obtain ⟨b1, o1, rfl, h3⟩ := ED.out k hlt
      obtain ⟨b2, o2, rfl, h4⟩ := ET.out k hlt2
      rw [Nat.mul_one] at h3 h4
      have c3 := cell_up hbW h3.1
      have c4 := cell_up hbW h4.1
      have HC4 := Lib.hid h4.1
      have HE : Hid (deciE t k = if !inB t.times[k] (-1) t.word.length || !inB t.dec[k] (-1) 7 then 2 else if decide (t.dec[k] = -1) != decide (t.times[k] = -1) then 3 else 0) := by
        (have h : deciE t k = if !inB t.times[k] (-1) t.word.length || !inB t.dec[k] (-1) 7 then 2 else if decide (t.dec[k] = -1) != decide (t.times[k] = -1) then 3 else 0 := by (unfold deciE; rw [getD_of_lt 0 hlt, getD_of_lt 0 hlt2])); exact h
      clear h3 h4
      generalize t.dec[k] = dk at c3 HE
      generalize t.times[k] = tk at c4 HC4 HE
      go_wp2_with fail
      clear c3 c4
      have hs0 := hbW.size
      cases hq : inB tk (-1) t.word.length
      · have HQ := Lib.hid hq; clear hq
        have HE2 : Hid (deciE t k = 2) := by (have h : deciE t k = 2 := by (rw [HE.out, HQ.out]; rfl)); exact h
        refine wp_region_all 16 [30, 31, 32, 33, 34, 35, 36, 37, 38, 39, 40, 41, 42, 43, 44, 29] [MP.eq (.pointer (some ⟨w.heap.size, 1, none⟩)),
          MP.eq (.slice pw t.word.length cw),
          MP.eq (.int .i64 t.word.length),
          MP.outF (-1) t.word.length,
          MP.eq (.pointer (some ⟨w.heap.size, 5, none⟩)),
          MP.eq (.slice (some ⟨b2, o2, none⟩) t.times.length ct),
          MP.eq (.int .i64 k),
          MP.eq (.pointer (some ⟨b2, o2 + k, none⟩)),
          MP.eq (.int .i64 tk),
          MP.eq (.bool true),
          MP.eq (.bool true),
          MP.any,
          MP.any,
          MP.any,
          MP.eq (.bool true),
          MP.eq (.bool true)] (by kernel_rfl) rfl (by decide) rfl (by kernel_rfl) ?step ?tail
        case step =>
          intro x W i o s F hi ho hs hB hdep hF
          have hcase : i = 0 ∨ i = 1 ∨ i = 2 ∨ i = 3 ∨ i = 4 ∨ i = 5 ∨ i = 6 ∨ i = 7 ∨ i = 8 ∨ i = 9 ∨ i = 10 ∨ i = 11 ∨ i = 12 ∨ i = 13 ∨ i = 14 ∨ i = 15 := by omega
          rcases hcase with rfl | rfl | rfl | rfl | rfl | rfl | rfl | rfl | rfl | rfl | rfl | rfl | rfl | rfl | rfl | rfl
          · obtain rfl := Option.some.inj ho.symm
            obtain rfl := Option.some.inj hs.symm
            clear hdep hi ho hs
            simp only [setAll, setFrom, List.setIfInBounds_toArray, List.set_cons_succ, List.set_cons_zero, Nat.reduceAdd] at hF
            subst hF
            go_wp2_with fail
            exact EachK.mk _ (Below.refl _ _) rfl (by simp only [List.setIfInBounds_toArray, List.set_cons_succ, List.set_cons_zero])
          · obtain rfl := Option.some.inj ho.symm
            obtain rfl := Option.some.inj hs.symm
            have d0 : x 0 = .pointer (some ⟨w.heap.size, 1, none⟩) := hdep ⟨0, .data⟩ (by simp) rfl
            clear hdep hi ho hs
            have t1 := cell_block (block_up (ext_trans hbr hB) HT0.out)
            simp only [setAll, setFrom, List.setIfInBounds_toArray, List.set_cons_succ, List.set_cons_zero, Nat.reduceAdd] at hF
            simp only [d0] at hF
            subst hF
            go_wp2_with fail
            exact EachK.mk _ (Below.refl _ _) rfl (by simp only [List.setIfInBounds_toArray, List.set_cons_succ, List.set_cons_zero])
          · obtain rfl := Option.some.inj ho.symm
            obtain rfl := Option.some.inj hs.symm
            have d1 : x 1 = (.slice pw t.word.length cw) := hdep ⟨1, .data⟩ (by simp) rfl
            clear hdep hi ho hs
            simp only [setAll, setFrom, List.setIfInBounds_toArray, List.set_cons_succ, List.set_cons_zero, Nat.reduceAdd] at hF
            simp only [d1] at hF
            subst hF
            go_wp2_with fail
            exact EachK.mk _ (Below.refl _ _) rfl (by simp only [List.setIfInBounds_toArray, List.set_cons_succ, List.set_cons_zero])
          · obtain rfl := Option.some.inj ho.symm
            obtain rfl := Option.some.inj hs.symm
            have d2 : x 2 = .int .i64 t.word.length := hdep ⟨2, .data⟩ (by simp) rfl
            clear hdep hi ho hs
            simp only [setAll, setFrom, List.setIfInBounds_toArray, List.set_cons_succ, List.set_cons_zero, Nat.reduceAdd] at hF
            simp only [d2] at hF
            subst hF
            go_wp2_with fail
            refine (outside_any _ _ _).mono ?_
            rintro e w9 ⟨v, rfl, hv9, hb9⟩
            have HV9 := Lib.hid hv9
            obtain ⟨_, _, rfl, _⟩ := hv9
            go_wp2_with fail
            exact EachK.mk _ hb9 HV9.out (by simp only [List.setIfInBounds_toArray, List.set_cons_succ, List.set_cons_zero])
          · obtain rfl := Option.some.inj ho.symm
            obtain rfl := Option.some.inj hs.symm
            clear hdep hi ho hs
            simp only [setAll, setFrom, List.setIfInBounds_toArray, List.set_cons_succ, List.set_cons_zero, Nat.reduceAdd] at hF
            subst hF
            go_wp2_with fail
            exact EachK.mk _ (Below.refl _ _) rfl (by simp only [List.setIfInBounds_toArray, List.set_cons_succ, List.set_cons_zero])
          · obtain rfl := Option.some.inj ho.symm
            obtain rfl := Option.some.inj hs.symm
            have d4 : x 4 = .pointer (some ⟨w.heap.size, 5, none⟩) := hdep ⟨4, .data⟩ (by simp) rfl
            clear hdep hi ho hs
            have t1 := cell_block (block_up (ext_trans hbr hB) HT0.out)
            simp only [setAll, setFrom, List.setIfInBounds_toArray, List.set_cons_succ, List.set_cons_zero, Nat.reduceAdd] at hF
            simp only [d4] at hF
            subst hF
            go_wp2_with fail
            exact EachK.mk _ (Below.refl _ _) rfl (by simp only [List.setIfInBounds_toArray, List.set_cons_succ, List.set_cons_zero])
          · obtain rfl := Option.some.inj ho.symm
            obtain rfl := Option.some.inj hs.symm
            clear hdep hi ho hs
            simp only [setAll, setFrom, List.setIfInBounds_toArray, List.set_cons_succ, List.set_cons_zero, Nat.reduceAdd] at hF
            subst hF
            go_wp2_with fail
            exact EachK.mk _ (Below.refl _ _) rfl (by simp only [List.setIfInBounds_toArray, List.set_cons_succ, List.set_cons_zero])
          · obtain rfl := Option.some.inj ho.symm
            obtain rfl := Option.some.inj hs.symm
            have d5 : x 5 = .slice (some ⟨b2, o2, none⟩) t.times.length ct := hdep ⟨5, .data⟩ (by simp) rfl
            have d6 : x 6 = .int .i64 k := hdep ⟨6, .data⟩ (by simp) rfl
            clear hdep hi ho hs
            simp only [setAll, setFrom, List.setIfInBounds_toArray, List.set_cons_succ, List.set_cons_zero, Nat.reduceAdd] at hF
            simp only [d5, d6] at hF
            subst hF
            go_wp2_with fail
            exact EachK.mk _ (Below.refl _ _) rfl (by simp only [List.setIfInBounds_toArray, List.set_cons_succ, List.set_cons_zero])
          · obtain rfl := Option.some.inj ho.symm
            obtain rfl := Option.some.inj hs.symm
            have d7 : x 7 = .pointer (some ⟨b2, o2 + k, none⟩) := hdep ⟨7, .data⟩ (by simp) rfl
            clear hdep hi ho hs
            have c4 := cell_up (ext_trans hbW hB) HC4.out
            simp only [setAll, setFrom, List.setIfInBounds_toArray, List.set_cons_succ, List.set_cons_zero, Nat.reduceAdd] at hF
            simp only [d7] at hF
            subst hF
            go_wp2_with fail
            exact EachK.mk _ (Below.refl _ _) rfl (by simp only [List.setIfInBounds_toArray, List.set_cons_succ, List.set_cons_zero])
          · obtain rfl := Option.some.inj ho.symm
            obtain rfl := Option.some.inj hs.symm
            have d3 := hdep ⟨3, .data⟩ (by simp) rfl
            have d8 : x 8 = .int .i64 tk := hdep ⟨8, .data⟩ (by simp) rfl
            clear hdep hi ho hs
            obtain ⟨b9, c9, e9, f9, g9⟩ := d3
            have HO9 := Lib.hid (outside1_any tk _ _ b9 c9 W f9 g9)
            rw [HQ.out] at HO9
            simp only [setAll, setFrom, List.setIfInBounds_toArray, List.set_cons_succ, List.set_cons_zero, Nat.reduceAdd] at hF
            simp only [d8, e9] at hF
            subst hF
            go_wp2_with fail
            refine HO9.out.mono ?_
            rintro e w9 ⟨rfl, rfl⟩
            go_wp2_with fail
            exact EachK.mk _ (Below.refl _ _) rfl (by simp only [List.setIfInBounds_toArray, List.set_cons_succ, List.set_cons_zero])
          · obtain rfl := Option.some.inj ho.symm
            obtain rfl := Option.some.inj hs.symm
            have d9 : x 9 = .bool true := hdep ⟨9, .data⟩ (by simp) rfl
            clear hdep hi ho hs
            simp only [setAll, setFrom, List.setIfInBounds_toArray, List.set_cons_succ, List.set_cons_zero, Nat.reduceAdd] at hF
            simp only [d9] at hF
            subst hF
            go_wp2_with fail
            exact EachK.mk _ (Below.refl _ _) rfl (by simp only [List.setIfInBounds_toArray, List.set_cons_succ, List.set_cons_zero])
          · obtain rfl := Option.some.inj ho.symm
            obtain rfl := Option.some.inj hs.symm
            have d10 : x 10 = .bool true := hdep ⟨10, .guard⟩ (by simp) rfl
            clear hdep hi ho hs
            simp only [setAll, setFrom, List.setIfInBounds_toArray, List.set_cons_succ, List.set_cons_zero, Nat.reduceAdd] at hF
            simp only [d10] at hF
            subst hF
            go_wp2_with fail
            exact EachK.mk undef (Below.refl _ _) trivial (by simp only [List.setIfInBounds_toArray, List.set_cons_succ, List.set_cons_zero])
          · obtain rfl := Option.some.inj ho.symm
            obtain rfl := Option.some.inj hs.symm
            have d10 : x 10 = .bool true := hdep ⟨10, .guard⟩ (by simp) rfl
            clear hdep hi ho hs
            simp only [setAll, setFrom, List.setIfInBounds_toArray, List.set_cons_succ, List.set_cons_zero, Nat.reduceAdd] at hF
            simp only [d10] at hF
            subst hF
            go_wp2_with fail
            exact EachK.mk undef (Below.refl _ _) trivial (by simp only [List.setIfInBounds_toArray, List.set_cons_succ, List.set_cons_zero])
          · obtain rfl := Option.some.inj ho.symm
            obtain rfl := Option.some.inj hs.symm
            have d10 : x 10 = .bool true := hdep ⟨10, .guard⟩ (by simp) rfl
            clear hdep hi ho hs
            simp only [setAll, setFrom, List.setIfInBounds_toArray, List.set_cons_succ, List.set_cons_zero, Nat.reduceAdd] at hF
            simp only [d10] at hF
            subst hF
            go_wp2_with fail
            exact EachK.mk undef (Below.refl _ _) trivial (by simp only [List.setIfInBounds_toArray, List.set_cons_succ, List.set_cons_zero])
          · obtain rfl := Option.some.inj ho.symm
            obtain rfl := Option.some.inj hs.symm
            have d10 : x 10 = .bool true := hdep ⟨10, .data⟩ (by simp) rfl
            clear hdep hi ho hs
            simp only [setAll, setFrom, List.setIfInBounds_toArray, List.set_cons_succ, List.set_cons_zero, Nat.reduceAdd] at hF
            simp only [d10] at hF
            subst hF
            go_wp2_with fail
            exact EachK.mk _ (Below.refl _ _) rfl (by simp only [List.setIfInBounds_toArray, List.set_cons_succ, List.set_cons_zero])
          · obtain rfl := Option.some.inj ho.symm
            obtain rfl := Option.some.inj hs.symm
            have d14 : x 14 = .bool true := hdep ⟨14, .data⟩ (by simp) rfl
            clear hdep hi ho hs
            simp only [setAll, setFrom, List.setIfInBounds_toArray, List.set_cons_succ, List.set_cons_zero, Nat.reduceAdd] at hF
            simp only [d14] at hF
            subst hF
            go_wp2_with fail
            exact EachK.mk _ (Below.refl _ _) rfl (by simp only [List.setIfInBounds_toArray, List.set_cons_succ, List.set_cons_zero])
        case tail =>
          intro x W F hB hall hF
          have e15 : x 15 = .bool true := hall 15 (by omega)
          clear hall
          simp only [setAll, setFrom, List.setIfInBounds_toArray, List.set_cons_succ, List.set_cons_zero, Nat.reduceAdd] at hF
          simp only [e15] at hF
          subst hF
          go_wp2_with fail
          go_ret
          exact ⟨ret_int (by rw [HV1.out, ← firstNZ_hit k 2 hlt H.out HE2.out (by decide)]), ext_trans hbW hB⟩
      · have HQ := Lib.hid hq; clear hq
        have HE2 : Hid (deciE t k = if !inB dk (-1) 7 then 2 else if decide (dk = -1) != decide (tk = -1) then 3 else 0) := by (have h : deciE t k = if !inB dk (-1) 7 then 2 else if decide (dk = -1) != decide (tk = -1) then 3 else 0 := by (rw [HE.out, HQ.out]; rfl)); exact h
        clear HE
        refine wp_region_all 16 [30, 31, 32, 33, 34, 35, 36, 37, 38, 39, 40, 41, 42, 43, 44, 29] [MP.eq (.pointer (some ⟨w.heap.size, 1, none⟩)),
          MP.eq (.slice pw t.word.length cw),
          MP.eq (.int .i64 t.word.length),
          MP.outF (-1) t.word.length,
          MP.eq (.pointer (some ⟨w.heap.size, 5, none⟩)),
          MP.eq (.slice (some ⟨b2, o2, none⟩) t.times.length ct),
          MP.eq (.int .i64 k),
          MP.eq (.pointer (some ⟨b2, o2 + k, none⟩)),
          MP.eq (.int .i64 tk),
          MP.eq (.bool false),
          MP.eq (.bool false),
          MP.outF (-1) 7,
          MP.eq (.int .i64 dk),
          MP.eq (.bool (!inB dk (-1) 7)),
          MP.eq (.bool (!inB dk (-1) 7)),
          MP.eq (.bool (!inB dk (-1) 7))] (by kernel_rfl) rfl (by decide) rfl (by kernel_rfl) ?step ?tail
        case step =>
          intro x W i o s F hi ho hs hB hdep hF
          have hcase : i = 0 ∨ i = 1 ∨ i = 2 ∨ i = 3 ∨ i = 4 ∨ i = 5 ∨ i = 6 ∨ i = 7 ∨ i = 8 ∨ i = 9 ∨ i = 10 ∨ i = 11 ∨ i = 12 ∨ i = 13 ∨ i = 14 ∨ i = 15 := by omega
          rcases hcase with rfl | rfl | rfl | rfl | rfl | rfl | rfl | rfl | rfl | rfl | rfl | rfl | rfl | rfl | rfl | rfl
          · obtain rfl := Option.some.inj ho.symm
            obtain rfl := Option.some.inj hs.symm
            clear hdep hi ho hs
            simp only [setAll, setFrom, List.setIfInBounds_toArray, List.set_cons_succ, List.set_cons_zero, Nat.reduceAdd] at hF
            subst hF
            go_wp2_with fail
            exact EachK.mk _ (Below.refl _ _) rfl (by simp only [List.setIfInBounds_toArray, List.set_cons_succ, List.set_cons_zero])
          · obtain rfl := Option.some.inj ho.symm
            obtain rfl := Option.some.inj hs.symm
            have d0 : x 0 = .pointer (some ⟨w.heap.size, 1, none⟩) := hdep ⟨0, .data⟩ (by simp) rfl
            clear hdep hi ho hs
            have t1 := cell_block (block_up (ext_trans hbr hB) HT0.out)
            simp only [setAll, setFrom, List.setIfInBounds_toArray, List.set_cons_succ, List.set_cons_zero, Nat.reduceAdd] at hF
            simp only [d0] at hF
            subst hF
            go_wp2_with fail
            exact EachK.mk _ (Below.refl _ _) rfl (by simp only [List.setIfInBounds_toArray, List.set_cons_succ, List.set_cons_zero])
          · obtain rfl := Option.some.inj ho.symm
            obtain rfl := Option.some.inj hs.symm
            have d1 : x 1 = (.slice pw t.word.length cw) := hdep ⟨1, .data⟩ (by simp) rfl
            clear hdep hi ho hs
            simp only [setAll, setFrom, List.setIfInBounds_toArray, List.set_cons_succ, List.set_cons_zero, Nat.reduceAdd] at hF
            simp only [d1] at hF
            subst hF
            go_wp2_with fail
            exact EachK.mk _ (Below.refl _ _) rfl (by simp only [List.setIfInBounds_toArray, List.set_cons_succ, List.set_cons_zero])
          · obtain rfl := Option.some.inj ho.symm
            obtain rfl := Option.some.inj hs.symm
            have d2 : x 2 = .int .i64 t.word.length := hdep ⟨2, .data⟩ (by simp) rfl
            clear hdep hi ho hs
            simp only [setAll, setFrom, List.setIfInBounds_toArray, List.set_cons_succ, List.set_cons_zero, Nat.reduceAdd] at hF
            simp only [d2] at hF
            subst hF
            go_wp2_with fail
            refine (outside_any _ _ _).mono ?_
            rintro e w9 ⟨v, rfl, hv9, hb9⟩
            have HV9 := Lib.hid hv9
            obtain ⟨_, _, rfl, _⟩ := hv9
            go_wp2_with fail
            exact EachK.mk _ hb9 HV9.out (by simp only [List.setIfInBounds_toArray, List.set_cons_succ, List.set_cons_zero])
          · obtain rfl := Option.some.inj ho.symm
            obtain rfl := Option.some.inj hs.symm
            clear hdep hi ho hs
            simp only [setAll, setFrom, List.setIfInBounds_toArray, List.set_cons_succ, List.set_cons_zero, Nat.reduceAdd] at hF
            subst hF
            go_wp2_with fail
            exact EachK.mk _ (Below.refl _ _) rfl (by simp only [List.setIfInBounds_toArray, List.set_cons_succ, List.set_cons_zero])
          · obtain rfl := Option.some.inj ho.symm
            obtain rfl := Option.some.inj hs.symm
            have d4 : x 4 = .pointer (some ⟨w.heap.size, 5, none⟩) := hdep ⟨4, .data⟩ (by simp) rfl
            clear hdep hi ho hs
            have t1 := cell_block (block_up (ext_trans hbr hB) HT0.out)
            simp only [setAll, setFrom, List.setIfInBounds_toArray, List.set_cons_succ, List.set_cons_zero, Nat.reduceAdd] at hF
            simp only [d4] at hF
            subst hF
            go_wp2_with fail
            exact EachK.mk _ (Below.refl _ _) rfl (by simp only [List.setIfInBounds_toArray, List.set_cons_succ, List.set_cons_zero])
          · obtain rfl := Option.some.inj ho.symm
            obtain rfl := Option.some.inj hs.symm
            clear hdep hi ho hs
            simp only [setAll, setFrom, List.setIfInBounds_toArray, List.set_cons_succ, List.set_cons_zero, Nat.reduceAdd] at hF
            subst hF
            go_wp2_with fail
            exact EachK.mk _ (Below.refl _ _) rfl (by simp only [List.setIfInBounds_toArray, List.set_cons_succ, List.set_cons_zero])
          · obtain rfl := Option.some.inj ho.symm
            obtain rfl := Option.some.inj hs.symm
            have d5 : x 5 = .slice (some ⟨b2, o2, none⟩) t.times.length ct := hdep ⟨5, .data⟩ (by simp) rfl
            have d6 : x 6 = .int .i64 k := hdep ⟨6, .data⟩ (by simp) rfl
            clear hdep hi ho hs
            simp only [setAll, setFrom, List.setIfInBounds_toArray, List.set_cons_succ, List.set_cons_zero, Nat.reduceAdd] at hF
            simp only [d5, d6] at hF
            subst hF
            go_wp2_with fail
            exact EachK.mk _ (Below.refl _ _) rfl (by simp only [List.setIfInBounds_toArray, List.set_cons_succ, List.set_cons_zero])
          · obtain rfl := Option.some.inj ho.symm
            obtain rfl := Option.some.inj hs.symm
            have d7 : x 7 = .pointer (some ⟨b2, o2 + k, none⟩) := hdep ⟨7, .data⟩ (by simp) rfl
            clear hdep hi ho hs
            have c4 := cell_up (ext_trans hbW hB) HC4.out
            simp only [setAll, setFrom, List.setIfInBounds_toArray, List.set_cons_succ, List.set_cons_zero, Nat.reduceAdd] at hF
            simp only [d7] at hF
            subst hF
            go_wp2_with fail
            exact EachK.mk _ (Below.refl _ _) rfl (by simp only [List.setIfInBounds_toArray, List.set_cons_succ, List.set_cons_zero])
          · obtain rfl := Option.some.inj ho.symm
            obtain rfl := Option.some.inj hs.symm
            have d3 := hdep ⟨3, .data⟩ (by simp) rfl
            have d8 : x 8 = .int .i64 tk := hdep ⟨8, .data⟩ (by simp) rfl
            clear hdep hi ho hs
            obtain ⟨b9, c9, e9, f9, g9⟩ := d3
            have HO9 := Lib.hid (outside1_any tk _ _ b9 c9 W f9 g9)
            rw [HQ.out] at HO9
            simp only [setAll, setFrom, List.setIfInBounds_toArray, List.set_cons_succ, List.set_cons_zero, Nat.reduceAdd] at hF
            simp only [d8, e9] at hF
            subst hF
            go_wp2_with fail
            refine HO9.out.mono ?_
            rintro e w9 ⟨rfl, rfl⟩
            go_wp2_with fail
            exact EachK.mk _ (Below.refl _ _) rfl (by simp only [List.setIfInBounds_toArray, List.set_cons_succ, List.set_cons_zero])
          · obtain rfl := Option.some.inj ho.symm
            obtain rfl := Option.some.inj hs.symm
            have d9 : x 9 = .bool false := hdep ⟨9, .data⟩ (by simp) rfl
            clear hdep hi ho hs
            simp only [setAll, setFrom, List.setIfInBounds_toArray, List.set_cons_succ, List.set_cons_zero, Nat.reduceAdd] at hF
            simp only [d9] at hF
            subst hF
            go_wp2_with fail
            exact EachK.mk _ (Below.refl _ _) rfl (by simp only [List.setIfInBounds_toArray, List.set_cons_succ, List.set_cons_zero])
          · obtain rfl := Option.some.inj ho.symm
            obtain rfl := Option.some.inj hs.symm
            have d10 : x 10 = .bool false := hdep ⟨10, .guard⟩ (by simp) rfl
            clear hdep hi ho hs
            simp only [setAll, setFrom, List.setIfInBounds_toArray, List.set_cons_succ, List.set_cons_zero, Nat.reduceAdd] at hF
            simp only [d10] at hF
            subst hF
            go_wp2_with fail
            refine (outside_any _ _ _).mono ?_
            rintro e w9 ⟨v, rfl, hv9, hb9⟩
            have HV9 := Lib.hid hv9
            obtain ⟨_, _, rfl, _⟩ := hv9
            go_wp2_with fail
            exact EachK.mk _ hb9 HV9.out (by simp only [List.setIfInBounds_toArray, List.set_cons_succ, List.set_cons_zero])
          · obtain rfl := Option.some.inj ho.symm
            obtain rfl := Option.some.inj hs.symm
            have d10 : x 10 = .bool false := hdep ⟨10, .guard⟩ (by simp) rfl
            clear hdep hi ho hs
            simp only [setAll, setFrom, List.setIfInBounds_toArray, List.set_cons_succ, List.set_cons_zero, Nat.reduceAdd] at hF
            simp only [d10] at hF
            subst hF
            go_wp2_with fail
            exact EachK.mk _ (Below.refl _ _) rfl (by simp only [List.setIfInBounds_toArray, List.set_cons_succ, List.set_cons_zero])
          · obtain rfl := Option.some.inj ho.symm
            obtain rfl := Option.some.inj hs.symm
            have d11 := hdep ⟨11, .data⟩ (by simp) rfl
            have d12 : x 12 = .int .i64 dk := hdep ⟨12, .data⟩ (by simp) rfl
            have d10 : x 10 = .bool false := hdep ⟨10, .guard⟩ (by simp) rfl
            clear hdep hi ho hs
            obtain ⟨b9, c9, e9, f9, g9⟩ := d11
            have HO9 := Lib.hid (outside1_any dk _ _ b9 c9 W f9 g9)
            simp only [setAll, setFrom, List.setIfInBounds_toArray, List.set_cons_succ, List.set_cons_zero, Nat.reduceAdd] at hF
            simp only [d12, d10, e9] at hF
            subst hF
            go_wp2_with fail
            refine HO9.out.mono ?_
            rintro e w9 ⟨rfl, rfl⟩
            go_wp2_with fail
            exact EachK.mk _ (Below.refl _ _) rfl (by simp only [List.setIfInBounds_toArray, List.set_cons_succ, List.set_cons_zero])
          · obtain rfl := Option.some.inj ho.symm
            obtain rfl := Option.some.inj hs.symm
            have d10 : x 10 = .bool false := hdep ⟨10, .data⟩ (by simp) rfl
            have d13 : x 13 = .bool (!inB dk (-1) 7) := hdep ⟨13, .data⟩ (by simp) rfl
            clear hdep hi ho hs
            simp only [setAll, setFrom, List.setIfInBounds_toArray, List.set_cons_succ, List.set_cons_zero, Nat.reduceAdd] at hF
            simp only [d10, d13] at hF
            subst hF
            go_wp2_with fail
            exact EachK.mk _ (Below.refl _ _) rfl (by simp only [List.setIfInBounds_toArray, List.set_cons_succ, List.set_cons_zero])
          · obtain rfl := Option.some.inj ho.symm
            obtain rfl := Option.some.inj hs.symm
            have d14 : x 14 = .bool (!inB dk (-1) 7) := hdep ⟨14, .data⟩ (by simp) rfl
            clear hdep hi ho hs
            simp only [setAll, setFrom, List.setIfInBounds_toArray, List.set_cons_succ, List.set_cons_zero, Nat.reduceAdd] at hF
            simp only [d14] at hF
            subst hF
            go_wp2_with fail
            exact EachK.mk _ (Below.refl _ _) rfl (by simp only [List.setIfInBounds_toArray, List.set_cons_succ, List.set_cons_zero])
        case tail =>
          intro x W F hB hall hF
          have e15 : x 15 = .bool (!inB dk (-1) 7) := hall 15 (by omega)
          clear hall
          simp only [setAll, setFrom, List.setIfInBounds_toArray, List.set_cons_succ, List.set_cons_zero, Nat.reduceAdd] at hF
          simp only [e15] at hF
          subst hF
          have hbX := ext_trans hbW hB
          cases hq : inB dk (-1) 7
          · have HE3 : Hid (deciE t k = 2) := by (have h : deciE t k = 2 := by (rw [HE2.out, hq]; rfl)); exact h
            clear hq
            go_wp2_with fail
            go_ret
            exact ⟨ret_int (by rw [HV1.out, ← firstNZ_hit k 2 hlt H.out HE3.out (by decide)]), hbX⟩
          · have HE3 : Hid (deciE t k = if decide (dk = -1) != decide (tk = -1) then 3 else 0) := by (have h : deciE t k = if decide (dk = -1) != decide (tk = -1) then 3 else 0 := by (rw [HE2.out, hq]; rfl)); exact h
            clear hq
            have t1 := cell_block (block_up (ext_trans hbr hB) HT0.out)
            have c4 := cell_up hbX HC4.out
            by_cases ha : dk = -1 <;> by_cases hb : tk = -1
            · have HE4 : Hid (deciE t k = 0) := by (have h : deciE t k = 0 := by (rw [HE3.out, ha, hb]; rfl)); exact h
              subst ha hb
              go_wp2_with fail
              go_roundw
              case rel => exact ⟨ext_trans hbr hB, k + 1, by omega, by go_num, below_succ H.out HE4.out⟩
              case measure => simp [intOf]; omega
            · have HE4 : Hid (deciE t k = 3) := by (have h : deciE t k = 3 := by (rw [HE3.out]; simp [ha, hb])); exact h
              have hb2 : (tk == -1) = false := by simpa using hb
              have hb3 : decide (tk = -1) = false := by simpa using hb
              subst ha
              go_wp2_with fail
              go_ret
              exact ⟨ret_int (by rw [HV1.out, ← firstNZ_hit k 3 hlt H.out HE4.out (by decide)]), hbX⟩
            · have HE4 : Hid (deciE t k = 3) := by (have h : deciE t k = 3 := by (rw [HE3.out]; simp [ha, hb])); exact h
              have ha2 : (dk == -1) = false := by simpa using ha
              have ha3 : decide (dk = -1) = false := by simpa using ha
              subst hb
              go_wp2_with fail
              go_ret
              exact ⟨ret_int (by rw [HV1.out, ← firstNZ_hit k 3 hlt H.out HE4.out (by decide)]), hbX⟩
            · have HE4 : Hid (deciE t k = 0) := by (have h : deciE t k = 0 := by (rw [HE3.out]; simp [ha, hb])); exact h
              have ha2 : (dk == -1) = false := by simpa using ha
              have ha3 : decide (dk = -1) = false := by simpa using ha
              have hb2 : (tk == -1) = false := by simpa using hb
              have hb3 : decide (tk = -1) = false := by simpa using hb
              go_wp2_with fail
              go_roundw
              case rel => exact ⟨ext_trans hbr hB, k + 1, by omega, by go_num, below_succ H.out HE4.out⟩
              case measure => simp [intOf]; omega
    · go_wp2_with fail
      go_ret
      exact ⟨ret_int (by rw [HV1.out, firstNZ_zero]; intro j hj; exact H.out j (by omega)), hbW⟩
end Go.Proofs.YtjmejfgkogjpaaaGreatDoor

namespace Go.Proofs.YtjmejfgkogjpaaaGreatDoor
open Go.RowKit Go Go.Shelf

end Go.Proofs.YtjmejfgkogjpaaaGreatDoor

namespace Go.Proofs.YtjmejfgkogjpaaaGreatDoor
open Go.RowKit Go Go.Shelf

/-- Block b is a map with these entries, in the order in which they came. -/
def MapIs (w : World) (b : Nat) (f : List (Rd × Int)) : Prop :=
  ∃ es clock, w.heap[b]? = some (.map es clock) ∧ es.toList.map (fun e => (e.key, e.val)) = f.map (fun p => (p.1.v, Value.int .i64 p.2))
def rdGet (f : List (Rd × Int)) (r : Rd) : Option Int := (f.find? fun p => decide (r = p.1)).map (·.2)

theorem checkKey_rd (em : Bool) (r : Rd) (w : World) : (Instr.checkKey em 10000 49 r.v).run Tryz.prog w = .ok () w := by kernel_rfl

theorem equal_rd (a b : Rd) (w : World) : (Op.equal 49 a.v b.v).run Tryz.prog w = .ok (decide (a = b)) w := eqIn_rd 9996 a b w

theorem findAsking_rd (r : Rd) (w : World) : ∀ (f : List (Rd × Int)) (es : List MapEntry) (i : Nat), es.map (fun e => (e.key, e.val)) = f.map (fun p => (p.1.v, Value.int .i64 p.2)) →
    (rdGet f r = none → (Instr.findAsking 49 r.v es i).run Tryz.prog w = .ok none w) ∧ (∀ x, rdGet f r = some x → ∃ j, (Instr.findAsking 49 r.v es i).run Tryz.prog w = .ok (some (j, .int .i64 x)) w)
  | [], es, i, h => by
    obtain rfl : es = [] := by simpa using h
    exact ⟨fun _ => rfl, fun x hx => by simp [rdGet] at hx⟩
  | p :: f, es, i, h => by
    cases es with
    | nil => simp at h
    | cons e es =>
      simp only [List.map_cons, List.cons.injEq, Prod.mk.injEq] at h
      obtain ⟨⟨hk, hv⟩, h⟩ := h
      have ih := findAsking_rd r w f es (i + 1) h
      unfold Instr.findAsking
      by_cases hr : r = p.1
      · subst hr
        refine ⟨fun hn => by simp [rdGet] at hn, fun x hx => ?_⟩
        have hx' : p.2 = x := by simpa [rdGet] using hx
        refine ⟨i, ?_⟩
        simp [Sem.run_bind, hk, equal_rd, hv, hx']
      · have e1 : rdGet (p :: f) r = rdGet f r := by simp [rdGet, hr]
        rw [e1]
        refine ⟨fun hn => ?_, fun x hx => ?_⟩
        · simp [Sem.run_bind, hk, equal_rd, hr, ih.1 hn]
        · obtain ⟨j, hj⟩ := ih.2 x hx
          exact ⟨j, by simp [Sem.run_bind, hk, equal_rd, hr, hj]⟩

theorem findKey_rd (r : Rd) (w : World) (f : List (Rd × Int)) (es : List MapEntry) (h : es.map (fun e => (e.key, e.val)) = f.map (fun p => (p.1.v, Value.int .i64 p.2))) :
    (rdGet f r = none → (Instr.findKey 49 r.v es).run Tryz.prog w = .ok none w) ∧ (∀ x, rdGet f r = some x → ∃ j, (Instr.findKey 49 r.v es).run Tryz.prog w = .ok (some (j, .int .i64 x)) w) := by
  have hA := findAsking_rd r w f es 0 h
  unfold Instr.findKey
  cases es with
  | nil =>
    obtain rfl : f = [] := by simpa using h.symm
    refine ⟨fun _ => ?_, fun x hx => by simp [rdGet] at hx⟩
    simp [run_underlying Tryz.underlying49, Instr.findNow]
  | cons e es =>
    cases f with
    | nil => simp at h
    | cons p f =>
      have hk : e.key = p.1.v := by simp only [List.map_cons, List.cons.injEq, Prod.mk.injEq] at h; exact h.1.1
      have hn : ∀ fs, Instr.findNow (.struct fs) r.v (e :: es) 0 = none := fun fs => by simp [Instr.findNow, Instr.sameNow]
      simp only [Sem.run_bind, run_underlying Tryz.underlying49, Result.andThen_ok, hn]
      exact hA

end Go.Proofs.YtjmejfgkogjpaaaGreatDoor

namespace Go.Proofs.YtjmejfgkogjpaaaGreatDoor
open Go.RowKit Go Go.Shelf
attribute [local go_sem] Oper.semAt_some

def tabCells (M n s : Nat) : Array Value := ((List.range n).map fun j => if j < s then Value.map (some (M + j)) else Value.map none).toArray
theorem tabCells_size (M n s : Nat) : (tabCells M n s).size = n := by simp [tabCells]
theorem tabCells_get (M n s j : Nat) (hj : j < n) : (tabCells M n s)[j]? = some (if j < s then Value.map (some (M + j)) else Value.map none) := by simp [tabCells, hj]
theorem tabCells_set (M n s : Nat) (hs : s < n) : (tabCells M n s).setIfInBounds s (.map (some (M + s))) = tabCells M n (s + 1) := by
  apply Array.ext_getElem?
  intro j
  rw [Array.getElem?_setIfInBounds]
  by_cases hj : j < n
  · rw [tabCells_get _ _ _ _ hj, tabCells_get _ _ _ _ hj]
    by_cases e : s = j
    · subst e; simp [tabCells_size, hj]
    · rw [if_neg e]
      by_cases h : j < s
      · rw [if_pos h, if_pos (by omega)]
      · rw [if_neg h, if_neg (by omega)]
  · have h1 : (tabCells M n s)[j]? = none := by rw [Array.getElem?_eq_none]; rw [tabCells_size]; omega
    have h2 : (tabCells M n (s + 1))[j]? = none := by rw [Array.getElem?_eq_none]; rw [tabCells_size]; omega
    rw [h1, h2, if_neg (by omega)]

theorem tabCells_zero (M N n : Nat) : tabCells M n 0 = tabCells N n 0 := by simp [tabCells]
theorem made_replicate (n : Nat) : madeCells (Value.map none).cells n = tabCells 0 n 0 := by
  apply Array.ext
  · simp [madeCells, tabCells]
  · intro i h1 h2
    simp [madeCells, tabCells, Value.cells, Nat.mod_one]
/-- what the map of state s holds behind i moves -/
def doneL (l : List (List Mv)) (i s : Nat) : List (Rd × Int) := ((l.getD s []).take (i - cnt l s)).map fun m => (m.r, m.to)
theorem cnt_mono (l : List (List Mv)) {s t : Nat} (h : s ≤ t) : cnt l s ≤ cnt l t := by
  induction t with
  | zero => obtain rfl : s = 0 := by omega
            exact Nat.le_refl _
  | succ t ih =>
    by_cases e : s = t + 1
    · subst e; exact Nat.le_refl _
    · have h1 := ih (by omega)
      by_cases ht : t < l.length
      · rw [cnt_succ l t ht]; omega
      · rw [cnt_all l t (by omega)] at h1; rw [cnt_all l (t + 1) (by omega)]; exact h1
theorem doneL_zero (l : List (List Mv)) (s : Nat) : doneL l 0 s = [] := by simp [doneL]
theorem doneL_at (l : List (List Mv)) (s j : Nat) (hs : s < l.length) : doneL l (cnt l s + j) s = (l[s].take j).map fun m => (m.r, m.to) := by
  simp [doneL, hs]
theorem doneL_same (l : List (List Mv)) (s j : Nat) (hs : s < l.length) (hj : j < l[s].length) : doneL l (cnt l s + j + 1) s = doneL l (cnt l s + j) s ++ [(l[s][j].r, l[s][j].to)] := by
  rw [Nat.add_assoc, doneL_at l s (j + 1) hs, doneL_at l s j hs, List.take_succ_eq_append_getElem hj]
  simp only [List.map_append, List.map_cons, List.map_nil]
theorem doneL_other (l : List (List Mv)) (s j t : Nat) (hs : s < l.length) (hj : j < l[s].length) (ht : t < l.length) (hne : t ≠ s) : doneL l (cnt l s + j + 1) t = doneL l (cnt l s + j) t := by
  unfold doneL
  rw [getD_of_lt [] ht]
  rcases Nat.lt_or_gt_of_ne hne with h | h
  · have h1 := cnt_mono l (show t + 1 ≤ s by omega)
    rw [cnt_succ l t ht] at h1
    rw [List.take_of_length_le (by omega), List.take_of_length_le (by omega)]
  · have h1 := cnt_mono l (show s + 1 ≤ t by omega)
    rw [cnt_succ l s hs] at h1
    have e1 : cnt l s + j + 1 - cnt l t = 0 := by omega
    have e2 : cnt l s + j - cnt l t = 0 := by omega
    rw [e1, e2]
theorem doneL_all (l : List (List Mv)) (s : Nat) (hs : s < l.length) : doneL l (movesN l) s = l[s].map fun m => (m.r, m.to) := by
  unfold doneL
  rw [getD_of_lt [] hs, List.take_of_length_le]
  have := cnt_le l s hs
  omega
theorem rdGet_none {f : List (Rd × Int)} {r : Rd} (h : ∀ p ∈ f, p.1 ≠ r) : rdGet f r = none := by
  simp only [rdGet, Option.map_eq_none_iff, List.find?_eq_none]
  intro p hp
  simpa using fun e => h p hp e.symm
theorem nodup_take {l : List Mv} {j : Nat} (hj : j < l.length) (h : ∀ i (hi : i < j), l[i].r ≠ l[j].r) : ∀ p ∈ (l.take j).map (fun m => (m.r, m.to)), p.1 ≠ l[j].r := by
  intro p hp e
  obtain ⟨m, hm, rfl⟩ := List.mem_map.1 hp
  obtain ⟨q, hq, hqm⟩ := List.mem_take_iff_getElem.1 hm
  dsimp only at e
  exact h q (by omega) (by rw [hqm]; exact e)
theorem MapIs.lt {w : World} {b : Nat} {f : List (Rd × Int)} (h : MapIs w b f) : b < w.heap.size := by
  obtain ⟨_, _, he, _⟩ := h
  exact block_lt he
theorem MapIs.chg {B : Nat} {A A' : World} {b : Nat} {f : List (Rd × Int)} (c : Chg B A A') (hb : b < B) (h : MapIs A b f) : MapIs A' b f := by
  obtain ⟨es, clock, he, hf⟩ := h
  exact ⟨es, clock, c.same _ _ he (.inl hb), hf⟩
theorem MapIs.kept {A A' : World} {b : Nat} {f : List (Rd × Int)} (h : MapIs A b f) (he : A'.heap[b]? = A.heap[b]?) : MapIs A' b f := by
  obtain ⟨es, clock, h1, hf⟩ := h
  exact ⟨es, clock, he.trans h1, hf⟩
def TableIs (w : World) (v : Value) (l : List (List Mv)) : Prop :=
  ∃ B, v = .slice (some ⟨B, 0, none⟩) l.length l.length ∧ ∀ s (hs : s < l.length), ∃ b, w.cell? ⟨B, s, none⟩ = some (.map (some b)) ∧ MapIs w b (l[s].map fun m => (m.r, m.to))

end Go.Proofs.YtjmejfgkogjpaaaGreatDoor

namespace Go.Proofs.YtjmejfgkogjpaaaGreatDoor
open Go.RowKit Go Go.Shelf

theorem MapIs.up {w w' : World} {b : Nat} {f : List (Rd × Int)} (h : MapIs w b f) (hb : Below w.heap.size w w') : MapIs w' b f := h.kept (hb.block _ h.lt)
theorem TableIs.up {w w' : World} {v : Value} {l : List (List Mv)} (h : TableIs w v l) (hb : Below w.heap.size w w') : TableIs w' v l := by
  obtain ⟨B, rfl, h⟩ := h
  refine ⟨B, rfl, fun s hs => ?_⟩
  obtain ⟨b, h1, h2⟩ := h s hs
  exact ⟨b, cell_up hb h1, h2.up hb⟩
theorem rdGet_map (l : List Mv) (r : Rd) : rdGet (l.map fun m => (m.r, m.to)) r = (l.find? fun m => decide (r = m.r)).map (·.to) := by
  unfold rdGet
  rw [List.find?_map]
  simp only [Option.map_map]
  rfl
theorem toS_get (a : Adv) (s : Nat) (hs : s < a.states.length) (r : Rd) : toS a s r = (rdGet (a.states[s].map fun m => (m.r, m.to)) r).getD (-1) := by
  unfold toS
  rw [rdGet_map, Int.toNat_natCast, getD_of_lt [] hs]

theorem get_ok {a : Adv} (h : ∀ s, s < a.states.length → stateE a (a.states.getD s []) = 0) {s : Nat} (hs : s < a.states.length) {r : Rd} {x : Int} (hg : rdGet (a.states[s].map fun m => (m.r, m.to)) r = some x) : 0 ≤ x ∧ x < a.states.length := by
  rw [rdGet_map] at hg
  cases hf : a.states[s].find? (fun m => decide (r = m.r)) with
  | none => rw [hf] at hg; simp at hg
  | some m =>
    rw [hf] at hg
    have hm := List.mem_of_find?_eq_some hf
    obtain ⟨j, hj, rfl⟩ := List.getElem_of_mem hm
    simp only [Option.map_some, Option.some.injEq] at hg
    rw [← hg]
    exact (states_ok h hs hj).2
theorem ret_pair {k l : IntKind} {a b c d : Int} (h1 : a = b) (h2 : c = d) : Ending.returned (.tuple #[.int k a, .int l c]) = .returned (.tuple #[.int k b, .int l d]) := by rw [h1, h2]

def stateR (a : Adv) (word : List Rd) : Int × Int := if advE a ≠ 0 then (0, advE a) else if afterS a 0 word < 0 then (0, 25) else (afterS a 0 word, 0)

theorem afterS_drop (a : Adv) (s : Int) (word : List Rd) (k : Nat) (hk : k < word.length) : afterS a s (word.drop k) = if toS a s word[k] < 0 then -1 else afterS a (toS a s word[k]) (word.drop (k + 1)) := by
  rw [drop_cons hk, afterS]

def allowsR (a : Adv) (word : List Rd) : Bool × Int := if advE a ≠ 0 then (false, advE a) else (decide (0 ≤ afterS a 0 word), 0)
theorem ret_bpair {l : IntKind} {a b : Bool} {c d : Int} (h1 : a = b) (h2 : c = d) : Ending.returned (.tuple #[.bool a, .int l c]) = .returned (.tuple #[.bool b, .int l d]) := by rw [h1, h2]

end Go.Proofs.YtjmejfgkogjpaaaGreatDoor

namespace Go.Proofs.YtjmejfgkogjpaaaGreatDoor
open Go.RowKit Go Go.Shelf

abbrev pbV (p : Pb) (vc vs : Value) : Value := .agg #[.int .i64 p.t.n, .int .i64 p.t.ins, .int .i64 p.t.outs, vc, .int .i64 p.a.n, vs, .int .i64 p.rounds]

def findE (t : Tk) (inp : List Int) : Int := firstIx t.cases.length fun i => eqV (t.cases.getD i default).inp inp

def findR (t : Tk) (inp : List Int) : Int × Int := if findE t inp < 0 then (0, 6) else (findE t inp, 0)

end Go.Proofs.YtjmejfgkogjpaaaGreatDoor

namespace Go.Proofs.YtjmejfgkogjpaaaGreatDoor
open Go.RowKit Go Go.Shelf
attribute [local go_sem] Oper.semAt_some

abbrev scC (p : Pb) (vc vs : Value) (i : Int) (u d : Value) (f : Int) : Array Value := #[.int .i64 p.t.n, .int .i64 p.t.ins, .int .i64 p.t.outs, vc, .int .i64 p.a.n, vs, .int .i64 p.rounds, .int .i64 i, u, d, .int .i64 f]

def encO (n : Nat) (f : Int) (i : Nat) : Array Value := #[.int .i64 ((oblL n f).getD i 0)]

end Go.Proofs.YtjmejfgkogjpaaaGreatDoor

namespace Go.Proofs.YtjmejfgkogjpaaaGreatDoor
open Go.RowKit Go Go.Shelf
attribute [local go_sem] Oper.semAt_some

theorem two_results (tmps : Array Value) (f : Func) (hf : f.results = #[.cell 2 3, .cell 3 4]) (B C : Nat) (W : World) (x : Int) (b : Bool) (ty ty' : TypeId) (h1 : tmps[2]?.getD undef = .pointer (some ⟨B, 0, none⟩)) (h2 : tmps[3]?.getD undef = .pointer (some ⟨C, 0, none⟩))
    (hb : W.heap[B]? = some (.cells #[.int .i64 x] ty)) (hc : W.heap[C]? = some (.cells #[.bool b] ty')) :
    (results f tmps).run Tryz.prog W = .ok (.tuple #[.int .i64 x, .bool b]) W := by
  have c := cell_block hb 0
  have d := cell_block hc 0
  simp at c d
  simp [results, hf, go_sem, h1, h2, c, d]
theorem ret_ib {k : IntKind} {a b : Int} {c d : Bool} (h1 : a = b) (h2 : c = d) : Ending.returned (.tuple #[.int k a, .bool c]) = .returned (.tuple #[.int k b, .bool d]) := by rw [h1, h2]

/-- the first obliged process without a decision, or -1 -/
def undecE (n : Nat) (f : Int) (d : List Int) : Int := firstObl n f fun p => decide (d.getD p 0 < 0)

def decidedTo (n : Nat) (f : Int) (dec : List Int) (q : Nat) : Prop := ∀ j, j < q → decide (dec.getD ((oblL n f).getD j 0) 0 < 0) = false

end Go.Proofs.YtjmejfgkogjpaaaGreatDoor

namespace Go.Proofs.YtjmejfgkogjpaaaGreatDoor

def agreesB (ps : List Nat) (dec v : List Int) : Bool := ps.all fun p => v.getD p 0 == dec.getD p 0
/-- the vectors that agree with the decisions of the first i obliged processes -/
def fS (n : Nat) (f : Int) (dec : List Int) (ls : List (List Int)) (i : Nat) : List (List Int) := ls.filter (agreesB ((oblL n f).take i) dec)
theorem fS_zero (n : Nat) (f : Int) (dec : List Int) (ls : List (List Int)) : fS n f dec ls 0 = ls := by
  unfold fS
  exact List.filter_eq_self.2 fun v _ => by simp [agreesB]
theorem fS_succ (n : Nat) (f : Int) (dec : List Int) (ls : List (List Int)) (i : Nat) (hi : i < (oblL n f).length) :
    fS n f dec ls (i + 1) = (fS n f dec ls i).filter fun v => !(v.getD (oblL n f)[i] 0 != dec.getD (oblL n f)[i] 0) := by
  unfold fS
  rw [List.filter_filter]
  refine List.filter_congr fun v _ => ?_
  unfold agreesB
  rw [List.take_succ_eq_append_getElem hi, List.all_append]
  simp [bne]
  rw [Bool.and_comm]
theorem fS_mem {n : Nat} {f : Int} {dec : List Int} {ls : List (List Int)} {i : Nat} {v : List Int} (h : v ∈ fS n f dec ls i) : v ∈ ls := (List.mem_filter.1 h).1
/-- no vector agrees with the decisions of the obliged processes up to q -/
def noneB (f : Int) (dec : List Int) (ls : List (List Int)) (q : Nat) : Bool := !(ls.any (agreesB (oblL (q + 1) f) dec))
theorem oblL_take (n : Nat) (f : Int) (i : Nat) (hi : i < (oblL n f).length) : oblL ((oblL n f)[i] + 1) f = (oblL n f).take (i + 1) := by
  have h1 := oblL_lt hi
  have h2 := oblL_prefix f (show (oblL n f)[i] + 1 ≤ n by omega)
  have h3 : (oblL ((oblL n f)[i] + 1) f).length = i + 1 := by
    have hs : oblL ((oblL n f)[i] + 1) f = oblL (oblL n f)[i] f ++ [(oblL n f)[i]] := by rw [oblL_succ, h1.2]; rfl
    have h4 := oblL_at f h1.1 h1.2
    rw [hs, List.length_append]
    have h5 : (oblL (oblL n f)[i] f).length = i := by
      obtain ⟨h6, h7⟩ := List.getElem?_eq_some_iff.1 h4
      rcases Nat.lt_trichotomy (oblL (oblL n f)[i] f).length i with h | h | h
      · have := oblL_mono n f hi h; omega
      · exact h
      · have := oblL_mono n f h6 h; omega
    simp [h5]
  have h4 := List.prefix_iff_eq_take.1 h2
  rw [h3] at h4
  exact h4
theorem noneB_obl (n : Nat) (f : Int) (dec : List Int) (ls : List (List Int)) (i : Nat) (hi : i < (oblL n f).length) : noneB f dec ls ((oblL n f).getD i 0) = decide ((fS n f dec ls (i + 1)).length = 0) := by
  rw [show (oblL n f).getD i 0 = (oblL n f)[i] by simp [hi]]
  unfold noneB fS
  rw [oblL_take n f i hi, Bool.eq_iff_iff]
  simp [List.length_eq_zero_iff, List.filter_eq_nil_iff]
/-- the first obliged process with which no allowed vector agrees, or -1 -/
def outpE (n : Nat) (f : Int) (dec : List Int) (ls : List (List Int)) : Int := firstObl n f (noneB f dec ls)

/-- the places below n that are kept -/
def keptIx (p : Nat → Bool) (n : Nat) : List Nat := (List.range n).filter fun i => !p i
theorem range_getD {α : Type} (xs : List α) (d : α) : (List.range xs.length).map (fun i => xs.getD i d) = xs := by
  apply List.ext_getElem
  · simp
  · intro i h1 h2
    simp at h1
    simp [h1]
def keptV {α : Type} (p : Nat → Bool) (xs : List α) (d : α) : List α := (keptIx p xs.length).map fun i => xs.getD i d
theorem keptV_filter {α : Type} (q : α → Bool) (xs : List α) (d : α) : keptV (fun i => q (xs.getD i d)) xs d = xs.filter fun x => !q x := by
  unfold keptV keptIx
  conv => rhs; rw [← range_getD xs d]
  rw [List.filter_map]
  rfl
end Go.Proofs.YtjmejfgkogjpaaaGreatDoor

namespace Go.Proofs.YtjmejfgkogjpaaaGreatDoor
open Go.RowKit Go Go.Shelf

theorem keptIx_succ (p : Nat → Bool) (n : Nat) : keptIx p (n + 1) = if p n then keptIx p n else keptIx p n ++ [n] := by
  unfold keptIx
  rw [List.range_succ, List.filter_append]
  cases h : p n <;> simp [h]
theorem keptIx_all (p : Nat → Bool) (n : Nat) (h : ∀ j, j < n → p j = false) : keptIx p n = List.range n := by
  unfold keptIx
  exact List.filter_eq_self.2 fun a ha => by simp [h a (List.mem_range.1 ha)]
theorem keptIx_lt {p : Nat → Bool} {n i : Nat} (h : i ∈ keptIx p n) : i < n ∧ p i = false := by
  simpa [keptIx] using h
theorem keptIx_le (p : Nat → Bool) (n : Nat) : (keptIx p n).length ≤ n := by
  have := List.length_filter_le (fun i => !p i) (List.range n)
  simpa [keptIx] using this
theorem setCells_row (g : Nat) (t : TypeId) : ∀ (vs : List Value) (o : Nat) (w : World) (d : Array Value), w.heap[g]? = some (.cells d t (0, 0)) →
    ∃ d' : Array Value, (w.setCells g o vs).heap[g]? = some (.cells d' t (0, 0)) ∧ d'.size = d.size ∧ (∀ j, j < o → d'[j]? = d[j]?) ∧ w.grownBy (w.setCells g o vs) (some g)
  | [], o, w, d, h => ⟨d, h, rfl, fun _ _ => rfl, ⟨rfl, rfl, rfl, Nat.le_refl _, fun _ _ _ => rfl⟩⟩
  | v :: r, o, w, d, h => by
    have h1 : (w.setCell ⟨g, o, none⟩ v).heap[g]? = some (.cells (d.setIfInBounds o v) t (0, 0)) := setCell_same h _ _
    obtain ⟨d', h2, h3, h4, h5⟩ := setCells_row g t r (o + 1) _ _ h1
    refine ⟨d', h2, by simpa using h3, fun j hj => ?_, ⟨h5.os, h5.tape, h5.output, by have h6 := h5.size; simp at h6; exact h6, fun k hk hne => ?_⟩⟩
    · rw [h4 j (by omega), Array.getElem?_setIfInBounds_ne (by omega)]
    · rw [show w.setCells g o (v :: r) = (w.setCell ⟨g, o, none⟩ v).setCells g (o + 1) r from rfl, h5.block k (by simpa using hk) hne]
      exact Below.heap_setCell _ _ _ _ (fun e => hne (by rw [e]))

set_option maxHeartbeats 1000000 in
theorem indexFuncRaw_any (g : Nat) (lb : Array Value) (eg : ∀ args w, (callFunc g args).run Tryz.prog w = .ok (.enter g args) w) (v : Value) (xs : List Value) (p : Nat → Bool) (w : World) (hv : RawSl w v xs) (hn : xs.length ≤ 17592186044416)
    (hp : ∀ i (hi : i < xs.length) W, Below w.heap.size w W → Calls Tryz.prog g (#[xs[i]] ++ lb) W fun e W' => e = .returned (.bool (p i)) ∧ Below W.heap.size W W') :
    Calls Tryz.prog 108 #[v, .func (.func g) #[] lb] w fun e w' => e = .returned (.int .i64 (firstIx xs.length p)) ∧ Below w.heap.size w w' := by
  obtain ⟨pa, ca, rfl, la1, ea, la3⟩ := hv
  have EA := Lib.hid ea; clear ea la1
  have HP := Lib.hid hp; clear hp
  have H3 := Lib.hid la3; clear la3
  go_enter Tryz.func108, Tryz.ntmps108
  go_wp2
  go_loopw [8] (fun i wr => Below w.heap.size w wr ∧ ∃ k : Nat, k ≤ xs.length ∧ i = .int .i64 k ∧ ∀ j, j < k → p j = false) (fun i _ => xs.length - (intOf i).toNat)
  case atStart => exact ⟨Below.refl _ _, 0, by omega, rfl, by simp⟩
  case round =>
    obtain ⟨hbr, k, hk, rfl, hinv⟩ := hrel
    have H := Lib.hid hinv; clear hinv
    by_cases hlt : k < xs.length
    · obtain ⟨b1, o1, rfl, h1⟩ := EA.out k _ (List.getElem?_eq_getElem hlt)
      have c1 := cell_up hbr h1
      have hcall := HP.out k hlt wr hbr
      clear h1
      generalize xs[k] = x at c1 hcall
      cases hpk : p k with
      | true =>
        rw [hpk] at hcall
        have HCALL := Lib.hid hcall; clear hcall
        have HPK := Lib.hid hpk; clear hpk
        go_wp2_with fail
        refine HCALL.out.mono ?_
        rintro e w1 ⟨rfl, hb1⟩
        go_wp2_with fail
        go_ret
        exact ⟨ret_int (firstIx_at _ _ _ hlt H.out HPK.out).symm, ext_trans hbr hb1⟩
      | false =>
        rw [hpk] at hcall
        have HCALL := Lib.hid hcall; clear hcall
        have HPK := Lib.hid hpk; clear hpk
        go_wp2_with fail
        refine HCALL.out.mono ?_
        rintro e w1 ⟨rfl, hb1⟩
        go_wp2_with fail
        go_roundw
        case rel => exact ⟨ext_trans hbr hb1, k + 1, by omega, by go_num, below_succ H.out HPK.out⟩
        case measure => simp [intOf]; omega
    · go_wp2
      go_ret
      exact ⟨ret_int (by rw [firstIx_none]; intro j hj; exact H.out j (by omega)), hbr⟩

end Go.Proofs.YtjmejfgkogjpaaaGreatDoor

namespace Go.Proofs.YtjmejfgkogjpaaaGreatDoor
open Go.RowKit Go Go.Shelf

theorem grown_below {w a b : World} {g : Nat} (h : w.grownBy a (some g)) (_hg : g < w.heap.size) (k : Below a.heap.size a b) : w.grownBy b (some g) :=
  ⟨k.os.trans h.os, k.tape.trans h.tape, k.output.trans h.output, Nat.le_trans h.size k.size, fun i hi hne => (k.block i (Nat.lt_of_lt_of_le hi h.size)).trans (h.block i hi hne)⟩
theorem grown_trans {w a b : World} {r : Option Nat} (h : w.grownBy a r) (k : a.grownBy b r) : w.grownBy b r :=
  ⟨k.os.trans h.os, k.tape.trans h.tape, k.output.trans h.output, Nat.le_trans h.size k.size, fun i hi hne => (k.block i (Nat.lt_of_lt_of_le hi h.size) hne).trans (h.block i hi hne)⟩
theorem grown_set (w : World) (g o : Nat) (v : Value) : w.grownBy (w.setCell ⟨g, o, none⟩ v) (some g) :=
  ⟨rfl, rfl, rfl, by simp, fun _ _ hne => Below.heap_setCell _ _ _ _ (fun e => hne (by rw [e]))⟩

/-- between two rounds of the second loop -/
structure KeptTo (p : Nat → Bool) (xs : List Value) (cur dk : Array Value) (i j : Nat) : Prop where
  lt : i < j
  len : (keptIx p j).length = i
  size : dk.size = cur.size
  low : ∀ t (_ : t < i), dk[t]? = some (xs.getD ((keptIx p j).getD t 0) undef)
  high : ∀ t, i ≤ t → dk[t]? = cur[t]?
theorem KeptTo.skip {p : Nat → Bool} {xs : List Value} {cur dk : Array Value} {i j : Nat} (h : KeptTo p xs cur dk i j) (hp : p j = true) : KeptTo p xs cur dk i (j + 1) := by
  have e : keptIx p (j + 1) = keptIx p j := by rw [keptIx_succ, hp]; rfl
  exact ⟨by have := h.lt; omega, by rw [e]; exact h.len, h.size, fun t ht => by rw [e]; exact h.low t ht, h.high⟩
theorem KeptTo.keep {p : Nat → Bool} {xs : List Value} {cur dk : Array Value} {i j : Nat} (h : KeptTo p xs cur dk i j) (hp : p j = false) (hj : j < xs.length) (hc : xs.length ≤ cur.size) : KeptTo p xs cur (dk.setIfInBounds i (xs[j])) (i + 1) (j + 1) := by
  have e : keptIx p (j + 1) = keptIx p j ++ [j] := by rw [keptIx_succ, hp]; rfl
  have hl := h.len
  have hlt := h.lt
  refine ⟨by omega, by rw [e]; simp [hl], by simp [h.size], fun t ht => ?_, fun t ht => ?_⟩
  · by_cases ht' : t = i
    · subst ht'
      rw [Array.getElem?_setIfInBounds_self_of_lt (by rw [h.size]; omega), e]
      have : (keptIx p j ++ [j]).getD t 0 = j := by simp [← hl]
      rw [this]
      simp [hj]
    · rw [Array.getElem?_setIfInBounds_ne (by omega), h.low t (by omega), e]
      have : (keptIx p j ++ [j]).getD t 0 = (keptIx p j).getD t 0 := by
        rw [List.getD_eq_getElem?_getD, List.getElem?_append_left (by omega), List.getD_eq_getElem?_getD]
      rw [this]
  · rw [Array.getElem?_setIfInBounds_ne (by omega), h.high t (by omega)]
theorem KeptTo.row {p : Nat → Bool} {xs : List Value} {cur dk d' : Array Value} {i : Nat} (h : KeptTo p xs cur dk i xs.length) (hc : xs.length ≤ cur.size) (hs : d'.size = dk.size) (hd : ∀ t, t < i → d'[t]? = dk[t]?) : d'.toList.take i = keptV p xs undef := by
  have hl := h.len
  have hlt := h.lt
  have hsz := h.size
  apply List.ext_getElem?
  intro t
  by_cases ht : t < i
  · rw [List.getElem?_take_of_lt ht, Array.getElem?_toList, hd t ht, h.low t ht]
    unfold keptV
    rw [List.getElem?_map, List.getD_eq_getElem?_getD (l := keptIx p xs.length)]
    rw [List.getElem?_eq_getElem (by omega)]
    rfl
  · rw [List.getElem?_eq_none (by simp; omega), List.getElem?_eq_none (by simp [keptV]; omega)]

end Go.Proofs.YtjmejfgkogjpaaaGreatDoor

namespace Go.Proofs.YtjmejfgkogjpaaaGreatDoor
open Go.RowKit Go Go.Shelf
attribute [local go_sem] Oper.semAt_some

/-- From w to w' all that lies below base, and all that is no row of slices of numbers, lies as it lay. -/
structure Rest (base : Nat) (w w' : World) : Prop where
  os : w'.os = w.os
  tape : w'.tape = w.tape
  output : w'.output = w.output
  size : w.heap.size ≤ w'.heap.size
  keep : ∀ (k : Nat) (o : Obj), w.heap[k]? = some o → (k < base ∨ ∀ c f, o ≠ .cells c 28 f) → w'.heap[k]? = some o
theorem Rest.below {base : Nat} {w w' : World} (h : Rest base w w') (hs : base ≤ w.heap.size) : Below base w w' :=
  ⟨h.os, h.tape, h.output, h.size, fun k hk => by
    have h1 : w.heap[k]? = some w.heap[k] := Array.getElem?_eq_getElem (by omega)
    rw [h.keep k _ h1 (.inl hk), h1]⟩
theorem Rest.cells {base : Nat} {w w' : World} (h : Rest base w w') {k : Nat} {c : Array Value} {t : TypeId} {f : Nat × Nat} (hk : w.heap[k]? = some (.cells c t f)) (ht : t ≠ 28) : w'.heap[k]? = some (.cells c t f) :=
  h.keep k _ hk (.inr fun c' f' e => ht (by cases e; rfl))
theorem Rest.row {base : Nat} {w w' : World} (h : Rest base w w') {v : Value} {n : Nat} {xs : List Value} (hv : w.ownsRow base 3 1 v n xs) : w'.ownsRow base 3 1 v n xs := by
  obtain ⟨hl, hv⟩ := hv
  refine ⟨hl, ?_⟩
  rcases hv with hv | ⟨g, cap, cur, h1, h2, h3, h4⟩
  · exact .inl hv
  · exact .inr ⟨g, cap, cur, h1, h2, h.cells h3 (by decide), h4⟩
theorem rest_of_grown {base : Nat} {w w' : World} {v : Value} {n : Nat} {xs : List Value} (hv : w.ownsRow base 28 1 v n xs) (hg : w.grownBy w' v.ownBlock) : Rest base w w' :=
  ⟨hg.os, hg.tape, hg.output, hg.size, fun k o hk ho => by
    refine (hg.block k (block_lt hk) (fun e => ?_)).trans hk
    rcases hv.2 with ⟨rfl, _⟩ | ⟨g, cap, cur, rfl, h2, h3, _⟩
    · cases e
    · cases e
      rw [hk] at h3
      cases h3
      rcases ho with ho | ho
      · dsimp only at ho; omega
      · exact ho _ _ rfl⟩
theorem raw_of_owns {w : World} {base : Nat} {e : TypeId} {v : Value} {n : Nat} {xs : List Value} (h : w.ownsRow base e 1 v n xs) (h1 : ∀ x ∈ xs, x.oneCell' = true) : RawSl w v xs := by
  obtain ⟨a, cap, rfl, h2, h3, h4, rfl, h5⟩ := owns_cell h
  exact ⟨a, cap, rfl, fun e => ⟨by have := h4 e; omega, h4 e⟩, fun i x hx => by obtain ⟨b, hb, hc⟩ := h5 i x hx; exact ⟨b, 0, hb, by simpa using hc⟩, h1⟩
theorem keptV_length {α β : Type} (p : Nat → Bool) (xs : List α) (ys : List β) (d : α) (e : β) (h : xs.length = ys.length) : (keptV p xs d).length = (keptV p ys e).length := by
  simp [keptV, h]

end Go.Proofs.YtjmejfgkogjpaaaGreatDoor

namespace Go.Proofs.YtjmejfgkogjpaaaGreatDoor
open Go.RowKit Go Go.Shelf
attribute [local go_sem] Oper.semAt_some

theorem owns_keep {w w' : World} {base : Nat} {e : TypeId} {v : Value} {n : Nat} {xs : List Value} (h : w.ownsRow base e 1 v n xs) (hc : ∀ k c f, base ≤ k → w.heap[k]? = some (.cells c e f) → w'.heap[k]? = some (.cells c e f)) : w'.ownsRow base e 1 v n xs := by
  obtain ⟨hl, h⟩ := h
  refine ⟨hl, ?_⟩
  rcases h with h | ⟨g, cap, cur, h1, h2, h3, h4⟩
  · exact .inl h
  · exact .inr ⟨g, cap, cur, h1, h2, hc _ _ _ h2 h3, h4⟩
theorem fresh_keep {w w' : World} {base : Nat} {v : Value} {l : List (List Int)} (h : FreshVecs w base v l) (hc : ∀ k c t f, base ≤ k → t = 28 ∨ t = 3 → w.heap[k]? = some (.cells c t f) → w'.heap[k]? = some (.cells c t f)) : FreshVecs w' base v l := by
  obtain ⟨xs, h1, h2⟩ := h
  exact ⟨xs, owns_keep h1 fun k c f hk => hc k c _ f hk (.inl rfl), fun i hi hx => owns_keep (h2 i hi hx) fun k c f hk => hc k c _ f hk (.inr rfl)⟩
theorem fresh_slice {w : World} {base : Nat} {v : Value} {l : List (List Int)} (h : FreshVecs w base v l) : ∃ a c, v = .slice a l.length c := by
  obtain ⟨xs, h1, _⟩ := h
  obtain ⟨a, c, e, _⟩ := owns_cell h1
  exact ⟨a, c, e⟩
theorem fresh_raw {w : World} {base : Nat} {v : Value} {l : List (List Int)} (h : FreshVecs w base v l) : ∃ xs, xs.length = l.length ∧ RawSl w v xs ∧ ∀ i (hi : i < l.length) (hx : i < xs.length), w.ownsRow base 3 1 xs[i] l[i].length (l[i].map (Value.int .i64)) := by
  obtain ⟨xs, h1, h2⟩ := h
  have hl : xs.length = l.length := by have := h1.1; omega
  refine ⟨xs, hl, raw_of_owns h1 (fun x hx => ?_), h2⟩
  obtain ⟨i, hi, rfl⟩ := List.getElem_of_mem hx
  obtain ⟨a, c, e, _⟩ := owns_cell (h2 i (by omega) hi)
  rw [e]; rfl

def encF (n : Nat) (f : Int) (dec : List Int) (L : List (List Int)) (i : Nat) (args : Array Value) : Prop := ∃ a c, args = #[.int .i64 ((oblL n f).getD i 0), .slice a (fS n f dec L (i + 1)).length c]

end Go.Proofs.YtjmejfgkogjpaaaGreatDoor

namespace Go.Proofs.YtjmejfgkogjpaaaGreatDoor
open Go.RowKit Go Go.Shelf
attribute [local go_sem] Oper.semAt_some

def agreedTo (n : Nat) (f : Int) (dec : List Int) (L : List (List Int)) (q : Nat) : Prop := ∀ j, j < q → noneB f dec L ((oblL n f).getD j 0) = false

end Go.Proofs.YtjmejfgkogjpaaaGreatDoor

namespace Go.Proofs.YtjmejfgkogjpaaaGreatDoor
open Go.RowKit Go Go.Shelf
attribute [local go_sem] Oper.semAt_some

def schedB (p : Pb) (word : List Rd) : Bool := decide (afterS p.a 0 word < 0) || decide ((word.length : Int) ≠ p.rounds)

def judgeR (p : Pb) (ix : Int) (word : List Rd) (dec : List Int) : Int × Int :=
  if schedB p word then (1, -1)
  else if 0 ≤ undecE p.t.n.toNat (faultyS word) dec then (2, undecE p.t.n.toNat (faultyS word) dec)
  else if 0 ≤ outpE p.t.n.toNat (faultyS word) dec (allowedS p.t ix (faultyS word)) then (3, outpE p.t.n.toNat (faultyS word) dec (allowedS p.t ix (faultyS word))) else (0, -1)

theorem run_store_func (P : Program) (w : World) (a : Addr) (m : Mode) (g : Fn) (b c : Array Value) : (store a (.func g b c) m).run P w = stored P w a (.func g b c) m := run_store P w a _ m rfl
attribute [local go_sem] run_store_func

def passedJ (sb : Bool) (ud od : Int) (k : Nat) : Prop := (1 ≤ k → sb = false) ∧ (2 ≤ k → ud < 0) ∧ (3 ≤ k → od < 0)

end Go.Proofs.YtjmejfgkogjpaaaGreatDoor

namespace Go.Proofs.YtjmejfgkogjpaaaGreatDoor
open Go.RowKit Go Go.Shelf
attribute [local go_sem] run_store_func

/-- what the three checks have passed -/
def passT (a b c : Int) (k : Nat) : Prop := (1 ≤ k → a = 0) ∧ (2 ≤ k → b = 0) ∧ (3 ≤ k → c = 0)

set_option maxRecDepth 100000 in
set_option maxHeartbeats 8000000 in
theorem trCheck_any (t : Tr) (vi vw vs vm vd vt : Value) (w : World) (ht : IsTr w t vi vw vs vm vd vt) :
    Calls Tryz.prog 15 #[.agg (trC vi vw vs vm vd vt)] w fun e w' => e = .returned (.int .i64 (traceE t)) ∧ Below w.heap.size w w' := by
  have HT := Lib.hid ht
  obtain ⟨hi, hw, hs, hm, hd, htt⟩ := ht
  obtain ⟨pi, ci, rfl, li1, li2, _⟩ := hi.at
  obtain ⟨pw, cw, rfl, lw1, lw2, _⟩ := hw.at
  obtain ⟨ps, cs, rfl, ls1, ls2, _⟩ := hs.at
  obtain ⟨pm, cm, rfl, _⟩ := hm.at
  obtain ⟨pd, cd, rfl, _⟩ := hd.at
  obtain ⟨pt, ct, rfl, _⟩ := htt.at
  clear hi hw hs hm hd htt
  have HV : Hid (traceE t = if t.inp.length < 1 ∨ 5 < t.inp.length then 2 else if anyLt t.inp.length (fun i => !inB (t.inp.getD i 0) 0 7) then 2 else if wordE t.inp.length t.word ≠ 0 then wordE t.inp.length t.word else if 6 < t.word.length then 5 else if statesE t ≠ 0 then statesE t else if messagesE t ≠ 0 then messagesE t else decisionsE t) := by exact rfl
  go_enter Tryz.func15, Tryz.ntmps15
  go_wp2_with fail
  refine wp_gen (fun W => Below w.heap.size w W ∧ W.heap[w.heap.size]? = some (.cells (trC (.slice pi t.inp.length ci) (.slice pw t.word.length cw) (.slice ps t.states.length cs) (.slice pm t.msgs.length cm) (.slice pd t.dec.length cd) (.slice pt t.times.length ct)) 35)) ⟨by go_grown, alloc_new _ _⟩ (fun W0 hW0 => ?_)
  obtain ⟨hb0, hT0⟩ := hW0
  have HT0 := Lib.hid hT0; clear hT0
  by_cases hlo : t.inp.length < 1
  · have HV1 : Hid (traceE t = 2) := by (have h : traceE t = 2 := by (rw [HV.out, if_pos (Or.inl hlo)])); exact h
    have hl2 : (t.inp.length : Int) < 1 := by omega
    refine wp_region_all 12 [11, 12, 13, 14, 15, 16, 17, 18, 19, 20, 21, 22] [MP.eq (.int .i64 (t.inp.length : Int)),
      MP.eq (.bool true),
      MP.eq (.bool true),
      MP.any,
      MP.any,
      MP.eq (.bool true),
      MP.eq (.bool true),
      MP.any,
      MP.any,
      MP.any,
      MP.any,
      MP.eq (.bool true)] (by kernel_rfl) rfl (by decide) rfl (by kernel_rfl) ?step ?tail
    case step =>
      intro x W i o s F hi ho hs hB hdep hF
      have hcase : i = 0 ∨ i = 1 ∨ i = 2 ∨ i = 3 ∨ i = 4 ∨ i = 5 ∨ i = 6 ∨ i = 7 ∨ i = 8 ∨ i = 9 ∨ i = 10 ∨ i = 11 := by omega
      rcases hcase with rfl | rfl | rfl | rfl | rfl | rfl | rfl | rfl | rfl | rfl | rfl | rfl
      · obtain rfl := Option.some.inj ho.symm
        obtain rfl := Option.some.inj hs.symm
        clear hdep hi ho hs
        simp only [setAll, setFrom, List.setIfInBounds_toArray, List.set_cons_succ, List.set_cons_zero, Nat.reduceAdd] at hF
        subst hF
        go_wp2_with fail
        exact EachK.mk _ (Below.refl _ _) rfl (by simp only [List.setIfInBounds_toArray, List.set_cons_succ, List.set_cons_zero])
      · obtain rfl := Option.some.inj ho.symm
        obtain rfl := Option.some.inj hs.symm
        have d0 : x 0 = .int .i64 (t.inp.length : Int) := hdep ⟨0, .data⟩ (by simp) rfl
        clear hdep hi ho hs
        simp only [setAll, setFrom, List.setIfInBounds_toArray, List.set_cons_succ, List.set_cons_zero, Nat.reduceAdd] at hF
        simp only [d0] at hF
        subst hF
        go_wp2_with fail
        exact EachK.mk _ (Below.refl _ _) rfl (by simp only [List.setIfInBounds_toArray, List.set_cons_succ, List.set_cons_zero])
      · obtain rfl := Option.some.inj ho.symm
        obtain rfl := Option.some.inj hs.symm
        have d1 : x 1 = .bool true := hdep ⟨1, .data⟩ (by simp) rfl
        clear hdep hi ho hs
        simp only [setAll, setFrom, List.setIfInBounds_toArray, List.set_cons_succ, List.set_cons_zero, Nat.reduceAdd] at hF
        simp only [d1] at hF
        subst hF
        go_wp2_with fail
        exact EachK.mk _ (Below.refl _ _) rfl (by simp only [List.setIfInBounds_toArray, List.set_cons_succ, List.set_cons_zero])
      · obtain rfl := Option.some.inj ho.symm
        obtain rfl := Option.some.inj hs.symm
        have d2 : x 2 = .bool true := hdep ⟨2, .guard⟩ (by simp) rfl
        clear hdep hi ho hs
        simp only [setAll, setFrom, List.setIfInBounds_toArray, List.set_cons_succ, List.set_cons_zero, Nat.reduceAdd] at hF
        simp only [d2] at hF
        subst hF
        go_wp2_with fail
        exact EachK.mk undef (Below.refl _ _) trivial (by simp only [List.setIfInBounds_toArray, List.set_cons_succ, List.set_cons_zero])
      · obtain rfl := Option.some.inj ho.symm
        obtain rfl := Option.some.inj hs.symm
        have d2 : x 2 = .bool true := hdep ⟨2, .guard⟩ (by simp) rfl
        clear hdep hi ho hs
        simp only [setAll, setFrom, List.setIfInBounds_toArray, List.set_cons_succ, List.set_cons_zero, Nat.reduceAdd] at hF
        simp only [d2] at hF
        subst hF
        go_wp2_with fail
        exact EachK.mk undef (Below.refl _ _) trivial (by simp only [List.setIfInBounds_toArray, List.set_cons_succ, List.set_cons_zero])
      · obtain rfl := Option.some.inj ho.symm
        obtain rfl := Option.some.inj hs.symm
        have d2 : x 2 = .bool true := hdep ⟨2, .data⟩ (by simp) rfl
        clear hdep hi ho hs
        simp only [setAll, setFrom, List.setIfInBounds_toArray, List.set_cons_succ, List.set_cons_zero, Nat.reduceAdd] at hF
        simp only [d2] at hF
        subst hF
        go_wp2_with fail
        exact EachK.mk _ (Below.refl _ _) rfl (by simp only [List.setIfInBounds_toArray, List.set_cons_succ, List.set_cons_zero])
      · obtain rfl := Option.some.inj ho.symm
        obtain rfl := Option.some.inj hs.symm
        have d5 : x 5 = .bool true := hdep ⟨5, .data⟩ (by simp) rfl
        clear hdep hi ho hs
        simp only [setAll, setFrom, List.setIfInBounds_toArray, List.set_cons_succ, List.set_cons_zero, Nat.reduceAdd] at hF
        simp only [d5] at hF
        subst hF
        go_wp2_with fail
        exact EachK.mk _ (Below.refl _ _) rfl (by simp only [List.setIfInBounds_toArray, List.set_cons_succ, List.set_cons_zero])
      · obtain rfl := Option.some.inj ho.symm
        obtain rfl := Option.some.inj hs.symm
        have d6 : x 6 = .bool true := hdep ⟨6, .guard⟩ (by simp) rfl
        clear hdep hi ho hs
        simp only [setAll, setFrom, List.setIfInBounds_toArray, List.set_cons_succ, List.set_cons_zero, Nat.reduceAdd] at hF
        simp only [d6] at hF
        subst hF
        go_wp2_with fail
        exact EachK.mk undef (Below.refl _ _) trivial (by simp only [List.setIfInBounds_toArray, List.set_cons_succ, List.set_cons_zero])
      · obtain rfl := Option.some.inj ho.symm
        obtain rfl := Option.some.inj hs.symm
        have d6 : x 6 = .bool true := hdep ⟨6, .guard⟩ (by simp) rfl
        clear hdep hi ho hs
        simp only [setAll, setFrom, List.setIfInBounds_toArray, List.set_cons_succ, List.set_cons_zero, Nat.reduceAdd] at hF
        simp only [d6] at hF
        subst hF
        go_wp2_with fail
        exact EachK.mk undef (Below.refl _ _) trivial (by simp only [List.setIfInBounds_toArray, List.set_cons_succ, List.set_cons_zero])
      · obtain rfl := Option.some.inj ho.symm
        obtain rfl := Option.some.inj hs.symm
        have d6 : x 6 = .bool true := hdep ⟨6, .guard⟩ (by simp) rfl
        clear hdep hi ho hs
        simp only [setAll, setFrom, List.setIfInBounds_toArray, List.set_cons_succ, List.set_cons_zero, Nat.reduceAdd] at hF
        simp only [d6] at hF
        subst hF
        go_wp2_with fail
        exact EachK.mk undef (Below.refl _ _) trivial (by simp only [List.setIfInBounds_toArray, List.set_cons_succ, List.set_cons_zero])
      · obtain rfl := Option.some.inj ho.symm
        obtain rfl := Option.some.inj hs.symm
        have d6 : x 6 = .bool true := hdep ⟨6, .guard⟩ (by simp) rfl
        clear hdep hi ho hs
        simp only [setAll, setFrom, List.setIfInBounds_toArray, List.set_cons_succ, List.set_cons_zero, Nat.reduceAdd] at hF
        simp only [d6] at hF
        subst hF
        go_wp2_with fail
        exact EachK.mk undef (Below.refl _ _) trivial (by simp only [List.setIfInBounds_toArray, List.set_cons_succ, List.set_cons_zero])
      · obtain rfl := Option.some.inj ho.symm
        obtain rfl := Option.some.inj hs.symm
        have d6 : x 6 = .bool true := hdep ⟨6, .data⟩ (by simp) rfl
        clear hdep hi ho hs
        simp only [setAll, setFrom, List.setIfInBounds_toArray, List.set_cons_succ, List.set_cons_zero, Nat.reduceAdd] at hF
        simp only [d6] at hF
        subst hF
        go_wp2_with fail
        exact EachK.mk _ (Below.refl _ _) rfl (by simp only [List.setIfInBounds_toArray, List.set_cons_succ, List.set_cons_zero])
    case tail =>
      intro x W F hB hall hF
      have e11 : x 11 = .bool true := hall 11 (by omega)
      clear hall
      simp only [setAll, setFrom, List.setIfInBounds_toArray, List.set_cons_succ, List.set_cons_zero, Nat.reduceAdd] at hF
      simp only [e11] at hF
      subst hF
      go_wp2_with fail
      go_ret
      exact ⟨ret_int HV1.out.symm, ext_trans hb0 hB⟩
  by_cases h5' : 5 < t.inp.length
  · have HV1 : Hid (traceE t = 2) := by (have h : traceE t = 2 := by (rw [HV.out, if_pos (Or.inr h5')])); exact h
    have hl2 : ¬ (t.inp.length : Int) < 1 := by omega
    have hl3 : 5 < (t.inp.length : Int) := by omega
    refine wp_region_all 12 [11, 12, 13, 14, 15, 16, 17, 18, 19, 20, 21, 22] [MP.eq (.int .i64 (t.inp.length : Int)),
      MP.eq (.bool false),
      MP.eq (.bool false),
      MP.eq (.int .i64 (t.inp.length : Int)),
      MP.eq (.bool true),
      MP.eq (.bool true),
      MP.eq (.bool true),
      MP.any,
      MP.any,
      MP.any,
      MP.any,
      MP.eq (.bool true)] (by kernel_rfl) rfl (by decide) rfl (by kernel_rfl) ?step ?tail
    case step =>
      intro x W i o s F hi ho hs hB hdep hF
      have hcase : i = 0 ∨ i = 1 ∨ i = 2 ∨ i = 3 ∨ i = 4 ∨ i = 5 ∨ i = 6 ∨ i = 7 ∨ i = 8 ∨ i = 9 ∨ i = 10 ∨ i = 11 := by omega
      rcases hcase with rfl | rfl | rfl | rfl | rfl | rfl | rfl | rfl | rfl | rfl | rfl | rfl
      · obtain rfl := Option.some.inj ho.symm
        obtain rfl := Option.some.inj hs.symm
        clear hdep hi ho hs
        simp only [setAll, setFrom, List.setIfInBounds_toArray, List.set_cons_succ, List.set_cons_zero, Nat.reduceAdd] at hF
        subst hF
        go_wp2_with fail
        exact EachK.mk _ (Below.refl _ _) rfl (by simp only [List.setIfInBounds_toArray, List.set_cons_succ, List.set_cons_zero])
      · obtain rfl := Option.some.inj ho.symm
        obtain rfl := Option.some.inj hs.symm
        have d0 : x 0 = .int .i64 (t.inp.length : Int) := hdep ⟨0, .data⟩ (by simp) rfl
        clear hdep hi ho hs
        simp only [setAll, setFrom, List.setIfInBounds_toArray, List.set_cons_succ, List.set_cons_zero, Nat.reduceAdd] at hF
        simp only [d0] at hF
        subst hF
        go_wp2_with fail
        exact EachK.mk _ (Below.refl _ _) rfl (by simp only [List.setIfInBounds_toArray, List.set_cons_succ, List.set_cons_zero])
      · obtain rfl := Option.some.inj ho.symm
        obtain rfl := Option.some.inj hs.symm
        have d1 : x 1 = .bool false := hdep ⟨1, .data⟩ (by simp) rfl
        clear hdep hi ho hs
        simp only [setAll, setFrom, List.setIfInBounds_toArray, List.set_cons_succ, List.set_cons_zero, Nat.reduceAdd] at hF
        simp only [d1] at hF
        subst hF
        go_wp2_with fail
        exact EachK.mk _ (Below.refl _ _) rfl (by simp only [List.setIfInBounds_toArray, List.set_cons_succ, List.set_cons_zero])
      · obtain rfl := Option.some.inj ho.symm
        obtain rfl := Option.some.inj hs.symm
        have d2 : x 2 = .bool false := hdep ⟨2, .guard⟩ (by simp) rfl
        clear hdep hi ho hs
        simp only [setAll, setFrom, List.setIfInBounds_toArray, List.set_cons_succ, List.set_cons_zero, Nat.reduceAdd] at hF
        simp only [d2] at hF
        subst hF
        go_wp2_with fail
        exact EachK.mk _ (Below.refl _ _) rfl (by simp only [List.setIfInBounds_toArray, List.set_cons_succ, List.set_cons_zero])
      · obtain rfl := Option.some.inj ho.symm
        obtain rfl := Option.some.inj hs.symm
        have d3 : x 3 = .int .i64 (t.inp.length : Int) := hdep ⟨3, .data⟩ (by simp) rfl
        have d2 : x 2 = .bool false := hdep ⟨2, .guard⟩ (by simp) rfl
        clear hdep hi ho hs
        simp only [setAll, setFrom, List.setIfInBounds_toArray, List.set_cons_succ, List.set_cons_zero, Nat.reduceAdd] at hF
        simp only [d3, d2] at hF
        subst hF
        go_wp2_with fail
        exact EachK.mk _ (Below.refl _ _) rfl (by simp only [List.setIfInBounds_toArray, List.set_cons_succ, List.set_cons_zero])
      · obtain rfl := Option.some.inj ho.symm
        obtain rfl := Option.some.inj hs.symm
        have d2 : x 2 = .bool false := hdep ⟨2, .data⟩ (by simp) rfl
        have d4 : x 4 = .bool true := hdep ⟨4, .data⟩ (by simp) rfl
        clear hdep hi ho hs
        simp only [setAll, setFrom, List.setIfInBounds_toArray, List.set_cons_succ, List.set_cons_zero, Nat.reduceAdd] at hF
        simp only [d2, d4] at hF
        subst hF
        go_wp2_with fail
        exact EachK.mk _ (Below.refl _ _) rfl (by simp only [List.setIfInBounds_toArray, List.set_cons_succ, List.set_cons_zero])
      · obtain rfl := Option.some.inj ho.symm
        obtain rfl := Option.some.inj hs.symm
        have d5 : x 5 = .bool true := hdep ⟨5, .data⟩ (by simp) rfl
        clear hdep hi ho hs
        simp only [setAll, setFrom, List.setIfInBounds_toArray, List.set_cons_succ, List.set_cons_zero, Nat.reduceAdd] at hF
        simp only [d5] at hF
        subst hF
        go_wp2_with fail
        exact EachK.mk _ (Below.refl _ _) rfl (by simp only [List.setIfInBounds_toArray, List.set_cons_succ, List.set_cons_zero])
      · obtain rfl := Option.some.inj ho.symm
        obtain rfl := Option.some.inj hs.symm
        have d6 : x 6 = .bool true := hdep ⟨6, .guard⟩ (by simp) rfl
        clear hdep hi ho hs
        simp only [setAll, setFrom, List.setIfInBounds_toArray, List.set_cons_succ, List.set_cons_zero, Nat.reduceAdd] at hF
        simp only [d6] at hF
        subst hF
        go_wp2_with fail
        exact EachK.mk undef (Below.refl _ _) trivial (by simp only [List.setIfInBounds_toArray, List.set_cons_succ, List.set_cons_zero])
      · obtain rfl := Option.some.inj ho.symm
        obtain rfl := Option.some.inj hs.symm
        have d6 : x 6 = .bool true := hdep ⟨6, .guard⟩ (by simp) rfl
        clear hdep hi ho hs
        simp only [setAll, setFrom, List.setIfInBounds_toArray, List.set_cons_succ, List.set_cons_zero, Nat.reduceAdd] at hF
        simp only [d6] at hF
        subst hF
        go_wp2_with fail
        exact EachK.mk undef (Below.refl _ _) trivial (by simp only [List.setIfInBounds_toArray, List.set_cons_succ, List.set_cons_zero])
      · obtain rfl := Option.some.inj ho.symm
        obtain rfl := Option.some.inj hs.symm
        have d6 : x 6 = .bool true := hdep ⟨6, .guard⟩ (by simp) rfl
        clear hdep hi ho hs
        simp only [setAll, setFrom, List.setIfInBounds_toArray, List.set_cons_succ, List.set_cons_zero, Nat.reduceAdd] at hF
        simp only [d6] at hF
        subst hF
        go_wp2_with fail
        exact EachK.mk undef (Below.refl _ _) trivial (by simp only [List.setIfInBounds_toArray, List.set_cons_succ, List.set_cons_zero])
      · obtain rfl := Option.some.inj ho.symm
        obtain rfl := Option.some.inj hs.symm
        have d6 : x 6 = .bool true := hdep ⟨6, .guard⟩ (by simp) rfl
        clear hdep hi ho hs
        simp only [setAll, setFrom, List.setIfInBounds_toArray, List.set_cons_succ, List.set_cons_zero, Nat.reduceAdd] at hF
        simp only [d6] at hF
        subst hF
        go_wp2_with fail
        exact EachK.mk undef (Below.refl _ _) trivial (by simp only [List.setIfInBounds_toArray, List.set_cons_succ, List.set_cons_zero])
      · obtain rfl := Option.some.inj ho.symm
        obtain rfl := Option.some.inj hs.symm
        have d6 : x 6 = .bool true := hdep ⟨6, .data⟩ (by simp) rfl
        clear hdep hi ho hs
        simp only [setAll, setFrom, List.setIfInBounds_toArray, List.set_cons_succ, List.set_cons_zero, Nat.reduceAdd] at hF
        simp only [d6] at hF
        subst hF
        go_wp2_with fail
        exact EachK.mk _ (Below.refl _ _) rfl (by simp only [List.setIfInBounds_toArray, List.set_cons_succ, List.set_cons_zero])
    case tail =>
      intro x W F hB hall hF
      have e11 : x 11 = .bool true := hall 11 (by omega)
      clear hall
      simp only [setAll, setFrom, List.setIfInBounds_toArray, List.set_cons_succ, List.set_cons_zero, Nat.reduceAdd] at hF
      simp only [e11] at hF
      subst hF
      go_wp2_with fail
      go_ret
      exact ⟨ret_int HV1.out.symm, ext_trans hb0 hB⟩
  have h5 : t.inp.length ≤ 5 := by omega
  have hl2 : ¬ (t.inp.length : Int) < 1 := by omega
  have hl3 : ¬ 5 < (t.inp.length : Int) := by omega
  have HV1 : Hid (traceE t = if anyLt t.inp.length (fun i => !inB (t.inp.getD i 0) 0 7) then 2 else if wordE t.inp.length t.word ≠ 0 then wordE t.inp.length t.word else if 6 < t.word.length then 5 else if statesE t ≠ 0 then statesE t else if messagesE t ≠ 0 then messagesE t else decisionsE t) := by
    (have h : traceE t = if anyLt t.inp.length (fun i => !inB (t.inp.getD i 0) 0 7) then 2 else if wordE t.inp.length t.word ≠ 0 then wordE t.inp.length t.word else if 6 < t.word.length then 5 else if statesE t ≠ 0 then statesE t else if messagesE t ≠ 0 then messagesE t else decisionsE t := by (rw [HV.out, if_neg (by omega)])); exact h
  clear HV
  obtain ⟨ab, HAB⟩ : ∃ ab, Hid ((anyLt t.inp.length fun i => !inB (t.inp.getD i 0) 0 7) = ab) := ⟨_, Lib.hid rfl⟩
  rw [HAB.out] at HV1
  refine wp_region_all 12 [11, 12, 13, 14, 15, 16, 17, 18, 19, 20, 21, 22] [MP.eq (.int .i64 (t.inp.length : Int)),
    MP.eq (.bool false),
    MP.eq (.bool false),
    MP.eq (.int .i64 (t.inp.length : Int)),
    MP.eq (.bool false),
    MP.eq (.bool false),
    MP.eq (.bool false),
    MP.eq (.pointer (some ⟨w.heap.size, 0, none⟩)),
    MP.eq (.slice pi t.inp.length ci),
    MP.outF 0 7,
    MP.eq (.bool ab),
    MP.eq (.bool ab)] (by kernel_rfl) rfl (by decide) rfl (by kernel_rfl) ?step ?tail
  case step =>
    intro x W i o s F hi ho hs hB hdep hF
    have hcase : i = 0 ∨ i = 1 ∨ i = 2 ∨ i = 3 ∨ i = 4 ∨ i = 5 ∨ i = 6 ∨ i = 7 ∨ i = 8 ∨ i = 9 ∨ i = 10 ∨ i = 11 := by omega
    rcases hcase with rfl | rfl | rfl | rfl | rfl | rfl | rfl | rfl | rfl | rfl | rfl | rfl
    · obtain rfl := Option.some.inj ho.symm
      obtain rfl := Option.some.inj hs.symm
      clear hdep hi ho hs
      simp only [setAll, setFrom, List.setIfInBounds_toArray, List.set_cons_succ, List.set_cons_zero, Nat.reduceAdd] at hF
      subst hF
      go_wp2_with fail
      exact EachK.mk _ (Below.refl _ _) rfl (by simp only [List.setIfInBounds_toArray, List.set_cons_succ, List.set_cons_zero])
    · obtain rfl := Option.some.inj ho.symm
      obtain rfl := Option.some.inj hs.symm
      have d0 : x 0 = .int .i64 (t.inp.length : Int) := hdep ⟨0, .data⟩ (by simp) rfl
      clear hdep hi ho hs
      simp only [setAll, setFrom, List.setIfInBounds_toArray, List.set_cons_succ, List.set_cons_zero, Nat.reduceAdd] at hF
      simp only [d0] at hF
      subst hF
      go_wp2_with fail
      exact EachK.mk _ (Below.refl _ _) rfl (by simp only [List.setIfInBounds_toArray, List.set_cons_succ, List.set_cons_zero])
    · obtain rfl := Option.some.inj ho.symm
      obtain rfl := Option.some.inj hs.symm
      have d1 : x 1 = .bool false := hdep ⟨1, .data⟩ (by simp) rfl
      clear hdep hi ho hs
      simp only [setAll, setFrom, List.setIfInBounds_toArray, List.set_cons_succ, List.set_cons_zero, Nat.reduceAdd] at hF
      simp only [d1] at hF
      subst hF
      go_wp2_with fail
      exact EachK.mk _ (Below.refl _ _) rfl (by simp only [List.setIfInBounds_toArray, List.set_cons_succ, List.set_cons_zero])
    · obtain rfl := Option.some.inj ho.symm
      obtain rfl := Option.some.inj hs.symm
      have d2 : x 2 = .bool false := hdep ⟨2, .guard⟩ (by simp) rfl
      clear hdep hi ho hs
      simp only [setAll, setFrom, List.setIfInBounds_toArray, List.set_cons_succ, List.set_cons_zero, Nat.reduceAdd] at hF
      simp only [d2] at hF
      subst hF
      go_wp2_with fail
      exact EachK.mk _ (Below.refl _ _) rfl (by simp only [List.setIfInBounds_toArray, List.set_cons_succ, List.set_cons_zero])
    · obtain rfl := Option.some.inj ho.symm
      obtain rfl := Option.some.inj hs.symm
      have d3 : x 3 = .int .i64 (t.inp.length : Int) := hdep ⟨3, .data⟩ (by simp) rfl
      have d2 : x 2 = .bool false := hdep ⟨2, .guard⟩ (by simp) rfl
      clear hdep hi ho hs
      simp only [setAll, setFrom, List.setIfInBounds_toArray, List.set_cons_succ, List.set_cons_zero, Nat.reduceAdd] at hF
      simp only [d3, d2] at hF
      subst hF
      go_wp2_with fail
      exact EachK.mk _ (Below.refl _ _) rfl (by simp only [List.setIfInBounds_toArray, List.set_cons_succ, List.set_cons_zero])
    · obtain rfl := Option.some.inj ho.symm
      obtain rfl := Option.some.inj hs.symm
      have d2 : x 2 = .bool false := hdep ⟨2, .data⟩ (by simp) rfl
      have d4 : x 4 = .bool false := hdep ⟨4, .data⟩ (by simp) rfl
      clear hdep hi ho hs
      simp only [setAll, setFrom, List.setIfInBounds_toArray, List.set_cons_succ, List.set_cons_zero, Nat.reduceAdd] at hF
      simp only [d2, d4] at hF
      subst hF
      go_wp2_with fail
      exact EachK.mk _ (Below.refl _ _) rfl (by simp only [List.setIfInBounds_toArray, List.set_cons_succ, List.set_cons_zero])
    · obtain rfl := Option.some.inj ho.symm
      obtain rfl := Option.some.inj hs.symm
      have d5 : x 5 = .bool false := hdep ⟨5, .data⟩ (by simp) rfl
      clear hdep hi ho hs
      simp only [setAll, setFrom, List.setIfInBounds_toArray, List.set_cons_succ, List.set_cons_zero, Nat.reduceAdd] at hF
      simp only [d5] at hF
      subst hF
      go_wp2_with fail
      exact EachK.mk _ (Below.refl _ _) rfl (by simp only [List.setIfInBounds_toArray, List.set_cons_succ, List.set_cons_zero])
    · obtain rfl := Option.some.inj ho.symm
      obtain rfl := Option.some.inj hs.symm
      have d6 : x 6 = .bool false := hdep ⟨6, .guard⟩ (by simp) rfl
      clear hdep hi ho hs
      simp only [setAll, setFrom, List.setIfInBounds_toArray, List.set_cons_succ, List.set_cons_zero, Nat.reduceAdd] at hF
      simp only [d6] at hF
      subst hF
      go_wp2_with fail
      exact EachK.mk _ (Below.refl _ _) rfl (by simp only [List.setIfInBounds_toArray, List.set_cons_succ, List.set_cons_zero])
    · obtain rfl := Option.some.inj ho.symm
      obtain rfl := Option.some.inj hs.symm
      have d7 : x 7 = .pointer (some ⟨w.heap.size, 0, none⟩) := hdep ⟨7, .data⟩ (by simp) rfl
      have d6 : x 6 = .bool false := hdep ⟨6, .guard⟩ (by simp) rfl
      clear hdep hi ho hs
      have t1 := cell_block (block_up hB HT0.out)
      simp only [setAll, setFrom, List.setIfInBounds_toArray, List.set_cons_succ, List.set_cons_zero, Nat.reduceAdd] at hF
      simp only [d7, d6] at hF
      subst hF
      go_wp2_with fail
      exact EachK.mk _ (Below.refl _ _) rfl (by simp only [List.setIfInBounds_toArray, List.set_cons_succ, List.set_cons_zero])
    · obtain rfl := Option.some.inj ho.symm
      obtain rfl := Option.some.inj hs.symm
      have d6 : x 6 = .bool false := hdep ⟨6, .guard⟩ (by simp) rfl
      clear hdep hi ho hs
      simp only [setAll, setFrom, List.setIfInBounds_toArray, List.set_cons_succ, List.set_cons_zero, Nat.reduceAdd] at hF
      simp only [d6] at hF
      subst hF
      go_wp2_with fail
      refine (outside_any _ _ _).mono ?_
      rintro e w9 ⟨v, rfl, hv9, hb9⟩
      have HV9 := Lib.hid hv9
      obtain ⟨_, _, rfl, _⟩ := hv9
      go_wp2_with fail
      exact EachK.mk _ hb9 HV9.out (by simp only [List.setIfInBounds_toArray, List.set_cons_succ, List.set_cons_zero])
    · obtain rfl := Option.some.inj ho.symm
      obtain rfl := Option.some.inj hs.symm
      have d8 : x 8 = .slice pi t.inp.length ci := hdep ⟨8, .data⟩ (by simp) rfl
      have d9 := hdep ⟨9, .data⟩ (by simp) rfl
      have d6 : x 6 = .bool false := hdep ⟨6, .guard⟩ (by simp) rfl
      clear hdep hi ho hs
      have HO9 := Lib.hid (containsOut_any 0 7 _ _ t.inp W d9 (HT.out.inp.up up_int (ext_trans hb0 hB)))
      obtain ⟨b9, c9, e9, f9, g9⟩ := d9
      rw [e9, HAB.out] at HO9
      simp only [setAll, setFrom, List.setIfInBounds_toArray, List.set_cons_succ, List.set_cons_zero, Nat.reduceAdd] at hF
      simp only [d8, d6, e9] at hF
      subst hF
      go_wp2_with fail
      refine HO9.out.mono ?_
      rintro e w9 ⟨rfl, hb9⟩
      go_wp2_with fail
      exact EachK.mk _ hb9 rfl (by simp only [List.setIfInBounds_toArray, List.set_cons_succ, List.set_cons_zero])
    · obtain rfl := Option.some.inj ho.symm
      obtain rfl := Option.some.inj hs.symm
      have d6 : x 6 = .bool false := hdep ⟨6, .data⟩ (by simp) rfl
      have d10 : x 10 = .bool ab := hdep ⟨10, .data⟩ (by simp) rfl
      clear hdep hi ho hs
      simp only [setAll, setFrom, List.setIfInBounds_toArray, List.set_cons_succ, List.set_cons_zero, Nat.reduceAdd] at hF
      simp only [d6, d10] at hF
      subst hF
      go_wp2_with fail
      exact EachK.mk _ (Below.refl _ _) rfl (by simp only [List.setIfInBounds_toArray, List.set_cons_succ, List.set_cons_zero])
  case tail =>
    intro x W F hB hall hF
    have e11 : x 11 = .bool ab := hall 11 (by omega)
    clear hall
    simp only [setAll, setFrom, List.setIfInBounds_toArray, List.set_cons_succ, List.set_cons_zero, Nat.reduceAdd] at hF
    simp only [e11] at hF
    subst hF
    have hbW := ext_trans hb0 hB
    cases ab with
    | true =>
      go_wp2_with fail
      go_ret
      exact ⟨ret_int (by rw [HV1.out]; rfl), hbW⟩
    | false =>
      have HV2 : Hid (traceE t = if wordE t.inp.length t.word ≠ 0 then wordE t.inp.length t.word else if 6 < t.word.length then 5 else if statesE t ≠ 0 then statesE t else if messagesE t ≠ 0 then messagesE t else decisionsE t) := HV1
      clear HV1
      have t1 := cell_block (block_up hB HT0.out)
      go_wp2_with fail
      refine (word_any _ _ t.word W (HT.out.word.up up_round hbW)).mono ?_
      rintro e w1 ⟨rfl, hb1⟩
      have hbW1 := ext_trans hbW hb1
      have HT1 := Lib.hid (block_up (ext_trans hB hb1) HT0.out)
      clear t1
      generalize wordE t.inp.length t.word = we at HV2
      by_cases hwe : we = 0
      case neg =>
        have hwe' : (we != 0) = true := by simpa using hwe
        go_wp2_with fail
        go_ret
        exact ⟨ret_int (by rw [HV2.out, if_pos hwe]), hbW1⟩
      subst hwe
      have t1 := cell_block HT1.out
      by_cases h6 : 6 < t.word.length
      · go_wp2_with fail
        go_ret
        exact ⟨ret_int (by rw [HV2.out, if_neg (by simp), if_pos h6]), hbW1⟩
      have HV3 : Hid (traceE t = if statesE t ≠ 0 then statesE t else if messagesE t ≠ 0 then messagesE t else decisionsE t) := by (have h : traceE t = if statesE t ≠ 0 then statesE t else if messagesE t ≠ 0 then messagesE t else decisionsE t := by (rw [HV2.out, if_neg (by simp), if_neg h6])); exact h
      clear HV2
      have H1 := Lib.hid (fun W (hb : Below w.heap.size w W) => checkStates_any t _ _ _ _ _ _ W (HT.out.up hb))
      have H2 := Lib.hid (fun W (hb : Below w.heap.size w W) => checkMessages_any t _ _ _ _ _ _ W (HT.out.up hb) h5 (by omega))
      have H3 := Lib.hid (fun W (hb : Below w.heap.size w W) => checkDecisions_any t _ _ _ _ _ _ W (HT.out.up hb))
      generalize statesE t = ea at HV3 H1
      generalize messagesE t = eb at HV3 H2
      generalize decisionsE t = ec at HV3 H3
      have g1 := enters_of Tryz.func37 (P := Tryz.prog) (by kernel_rfl) rfl
      have g2 := enters_of Tryz.func38 (P := Tryz.prog) (by kernel_rfl) rfl
      have g3 := enters_of Tryz.func39 (P := Tryz.prog) (by kernel_rfl) rfl
      go_wp2_with fail
      clear t1
      refine wp_gen (fun V => Below w1.heap.size w1 V ∧ V.heap[w1.heap.size]? = some (.cells #[.func (.func 37) #[] #[], .func (.func 38) #[] #[], .func (.func 39) #[] #[]] 55)) ⟨by go_grown, alloc_new _ _⟩ (fun V hV => ?_)
      obtain ⟨hbV, hF0⟩ := hV
      have HF0 := Lib.hid hF0; clear hF0
      go_loopw [36] (fun i wr => Below V.heap.size V wr ∧ ∃ k : Nat, k ≤ 3 ∧ i = .int .i64 k ∧ passT ea eb ec k) (fun i _ => 3 - (intOf i).toNat)
      case atStart => exact ⟨Below.refl _ _, 0, by omega, rfl, by unfold passT; omega⟩
      case round =>
        obtain ⟨hbr, k, hk, rfl, hinv⟩ := hrel
        have HI := Lib.hid hinv; clear hinv
        have t1 := cell_block (block_up (ext_trans hbV hbr) HT1.out)
        have t2 := cell_block (block_up hbr HF0.out)
        have hbw := ext_trans hbW1 (ext_trans hbV hbr)
        have hk' : k = 0 ∨ k = 1 ∨ k = 2 ∨ k = 3 := by omega
        rcases hk' with rfl | rfl | rfl | rfl
        · go_wp2_with fail
          refine (H1.out wr hbw).mono ?_
          rintro e w3 ⟨rfl, hb3⟩
          clear t1 t2
          by_cases hz : ea = 0
          · have HZ := Lib.hid hz
            have hz' : (ea != 0) = false := by simpa using hz
            clear hz
            go_wp2_with fail
            go_roundw
            case rel => exact ⟨ext_trans hbr hb3, 1, by omega, by go_num, by have hi := HI.out; have hz := HZ.out; unfold passT at hi ⊢; omega⟩
            case measure => simp [intOf]
          · have HZ := Lib.hid hz
            have hz' : (ea != 0) = true := by simpa using hz
            clear hz
            go_wp2_with fail
            go_ret
            refine ⟨ret_int ?_, ext_trans hbw hb3⟩
            have hi := HI.out
            have hz := HZ.out
            rw [HV3.out]
            unfold passT at hi
            go_light
            grind
        · go_wp2_with fail
          refine (H2.out wr hbw).mono ?_
          rintro e w3 ⟨rfl, hb3⟩
          clear t1 t2
          by_cases hz : eb = 0
          · have HZ := Lib.hid hz
            have hz' : (eb != 0) = false := by simpa using hz
            clear hz
            go_wp2_with fail
            go_roundw
            case rel => exact ⟨ext_trans hbr hb3, 2, by omega, by go_num, by have hi := HI.out; have hz := HZ.out; unfold passT at hi ⊢; omega⟩
            case measure => simp [intOf]
          · have HZ := Lib.hid hz
            have hz' : (eb != 0) = true := by simpa using hz
            clear hz
            go_wp2_with fail
            go_ret
            refine ⟨ret_int ?_, ext_trans hbw hb3⟩
            have hi := HI.out
            have hz := HZ.out
            rw [HV3.out]
            unfold passT at hi
            go_light
            grind
        · go_wp2_with fail
          refine (H3.out wr hbw).mono ?_
          rintro e w3 ⟨rfl, hb3⟩
          clear t1 t2
          by_cases hz : ec = 0
          · have HZ := Lib.hid hz
            have hz' : (ec != 0) = false := by simpa using hz
            clear hz
            go_wp2_with fail
            go_roundw
            case rel => exact ⟨ext_trans hbr hb3, 3, by omega, by go_num, by have hi := HI.out; have hz := HZ.out; unfold passT at hi ⊢; omega⟩
            case measure => simp [intOf]
          · have HZ := Lib.hid hz
            have hz' : (ec != 0) = true := by simpa using hz
            clear hz
            go_wp2_with fail
            go_ret
            refine ⟨ret_int ?_, ext_trans hbw hb3⟩
            have hi := HI.out
            have hz := HZ.out
            rw [HV3.out]
            unfold passT at hi
            go_light
            grind
        · go_wp2_with fail
          go_ret
          refine ⟨ret_int ?_, hbw⟩
          have hi := HI.out
          rw [HV3.out]
          unfold passT at hi
          go_light
          grind
end Go.Proofs.YtjmejfgkogjpaaaGreatDoor

namespace Go.Proofs.YtjmejfgkogjpaaaGreatDoor
open Go.RowKit Go Go.Shelf
attribute [local go_sem] Oper.semAt_some

set_option maxHeartbeats 1000000 in
theorem lheard_any (a b : Int) (w : World) :
    Calls Tryz.prog 26 #[.int .i64 a, .int .i64 b] w fun e w' => e = .returned (arrV a b (-1) (-1) (-1)) ∧ Below w.heap.size w w' := by
  go_enter Tryz.func26, Tryz.ntmps26
  go_wp2_with fail
  refine bodyPost_ret (v := arrV a b (-1) (-1) (-1)) (by simp [results, Tryz.results26, go_sem]) rfl ?_
  exact ⟨rfl, by go_grown⟩

def bytesN (l : List Msg) : Nat := (l.map fun x => x.bs.size).sum
theorem bytesN_snoc (l : List Msg) (i : Nat) (hi : i < l.length) : bytesN (l.take (i + 1)) = bytesN (l.take i) + l[i].bs.size := by
  unfold bytesN; rw [List.take_succ_eq_append_getElem hi, List.map_append, List.sum_append]; simp
theorem bytesN_le (l : List Msg) (B : Nat) (hb : ∀ x ∈ l, x.bs.size ≤ B) (k : Nat) : bytesN (l.take k) ≤ k * B := by
  induction k with
  | zero => simp [bytesN]
  | succ k ih =>
    by_cases hk : k < l.length
    · rw [bytesN_snoc l k hk, Nat.succ_mul]
      have := hb l[k] (List.getElem_mem hk)
      omega
    · rw [List.take_of_length_le (by omega)]
      rw [List.take_of_length_le (by omega)] at ih
      rw [Nat.succ_mul]
      omega

set_option maxRecDepth 100000 in
set_option maxHeartbeats 2000000 in
theorem bytes_any (t : Tr) (vi vw vs vm vd vt : Value) (w : World) (ht : IsTr w t vi vw vs vm vd vt) (hz : traceE t = 0) (hl : t.msgs.length ≤ 1000) (hb : ∀ x ∈ t.msgs, x.bs.size ≤ 1048576) :
    Calls Tryz.prog 12 #[.agg (trC vi vw vs vm vd vt)] w fun e w' => e = .returned (.tuple #[.int .i64 (bytesN t.msgs), .int .i64 0]) ∧ Below w.heap.size w w' := by
  have HT := Lib.hid ht
  obtain ⟨h1, h2, h3, h4, h5, h6⟩ := ht
  obtain ⟨_, _, rfl, _⟩ := h1.at
  obtain ⟨_, _, rfl, _⟩ := h2.at
  obtain ⟨_, _, rfl, _⟩ := h3.at
  obtain ⟨pm, cm, rfl, lm1, lm2, em⟩ := h4.at
  obtain ⟨_, _, rfl, _⟩ := h5.at
  obtain ⟨_, _, rfl, _⟩ := h6.at
  have EM := Lib.hid em
  have HB := Lib.hid hb
  have HBL := Lib.hid (bytesN_le t.msgs 1048576 hb)
  have HZ := Lib.hid hz
  clear h1 h2 h3 h4 h5 h6 em hb hz
  go_enter Tryz.func12, Tryz.ntmps12
  go_wp2_with fail
  refine calls_gen (fun W => Below w.heap.size w W ∧ ∃ c, W.heap[w.heap.size]? = some (.cells c 35) ∧ c[3]? = some (.slice pm t.msgs.length cm)) ⟨by go_grown, _, alloc_new _ _, rfl⟩ (fun W0 hW0 => ?_)
  obtain ⟨hb0, cc, hA0, hc3⟩ := hW0
  have HA0 := Lib.hid hA0
  clear hA0
  refine (trCheck_any t _ _ _ _ _ _ W0 (HT.out.up hb0)).mono ?_
  rintro e w1 ⟨rfl, hb1'⟩
  have hb1 := ext_trans hb0 hb1'
  rw [HZ.out]
  have s1 : w1.cell? ⟨w.heap.size, 3, none⟩ = some (.slice pm t.msgs.length cm) := by rw [cell_block (block_up hb1' HA0.out)]; exact hc3
  clear hc3
  go_wp2_with fail
  clear s1
  go_loopw [5, 16] (fun s i wr => Below w1.heap.size w1 wr ∧ ∃ k : Nat, k ≤ t.msgs.length ∧ i = .int .i64 k ∧ s = .int .i64 (bytesN (t.msgs.take k))) (fun _ i _ => t.msgs.length - (intOf i).toNat)
  case atStart => exact ⟨Below.refl _ _, 0, by omega, rfl, by simp [bytesN]⟩
  case round =>
    obtain ⟨hbr, k, hk, rfl, rfl⟩ := hrel
    have hbw := ext_trans hb1 hbr
    by_cases hlt : k < t.msgs.length
    · obtain ⟨b1, o1, rfl, ⟨c0, _⟩, ⟨c1, _⟩, ⟨c2, _⟩, c3, _⟩ := EM.out k hlt
      have d0 := cell_up hbw c0
      have d1 := cell_up hbw c1
      have d2 := cell_up hbw c2
      have d3 := cell_up hbw c3
      have hbs := HB.out t.msgs[k] (List.getElem_mem hlt)
      have hbl := HBL.out k
      have HSN := Lib.hid (bytesN_snoc t.msgs k hlt)
      clear c0 c1 c2 c3
      generalize t.msgs[k] = x at d0 d1 d2 d3 hbs HSN
      generalize bytesN (t.msgs.take k) = s at hbl HSN
      go_wp2_with fail
      go_roundw
      case rel => exact ⟨ext_trans hbr (by go_grown), k + 1, by omega, by go_num, by rw [HSN.out]; go_num⟩
      case measure => simp [intOf]; omega
    · have HK : Hid (t.msgs.take k = t.msgs) := by (have h : t.msgs.take k = t.msgs := List.take_of_length_le (by omega)); exact h
      rw [HK.out]
      go_wp2_with fail
      go_ret2
      exact ⟨rfl, hbw⟩
end Go.Proofs.YtjmejfgkogjpaaaGreatDoor
