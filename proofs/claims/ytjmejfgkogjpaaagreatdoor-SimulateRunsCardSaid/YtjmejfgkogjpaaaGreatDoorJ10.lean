/-
  Parts of the proof, in order. Contract of the reference's Run of traces. Conditions: the arguments read as a machine, inputs and a word. Contracts of the reference's sameInts and Same of traces, at equal ones: they return true. Conditions: the arguments read as the same numbers, the same trace.
-/
import Derived.Test.YtjmejfgkogjpaaaGreatDoorJ9
namespace Go.Proofs.YtjmejfgkogjpaaaGreatDoor
open Go.RowKit Go Go.Shelf
attribute [local go_sem] Oper.semAt_some

/-- what the reference's Run of traces hands back -/
def SimR (m : Mac) (inputs : List Int) (word : List Rd) (w : World) (e : Ending) (w' : World) : Prop :=
  ∃ ui uw us um ud ut, e = .returned (.tuple #[.agg (trC ui uw us um ud ut), .int .i64 (playE m inputs word)]) ∧ (playE m inputs word = 0 → IsTr w' (madeT m inputs word) ui uw us um ud ut) ∧ (playE m inputs word ≠ 0 → trC ui uw us um ud ut = zeroTr) ∧ Below w.heap.size w w'
theorem rsim_results (tmps : Array Value) (B : Nat) (W : World) (vi vw vs vm vd vt : Value) (x : Int) (ty : TypeId) (h1 : tmps[6]?.getD undef = .pointer (some ⟨B, 0, none⟩)) (h2 : tmps[7]?.getD undef = .int .i64 x) (hb : W.heap[B]? = some (.cells (trC vi vw vs vm vd vt) ty)) :
    (results Tryz.f8 tmps).run Tryz.prog W = .ok (.tuple #[.agg (trC vi vw vs vm vd vt), .int .i64 x]) W := by
  have c := cell_block hb
  simp [results, Tryz.results8, go_sem, h1, h2, c]

set_option maxRecDepth 100000 in
set_option maxHeartbeats 4000000 in
theorem rsimRun_any (m : Mac) (vf vy vt vo vi vw : Value) (inputs : List Int) (word : List Rd) (w : World) (hf : IsVecs w vf m.first) (hy : IsV4 w vy m.syms) (ht : IsSteps w vt m.steps) (ho : IsV3 w vo m.out) (hi : IsInts w vi inputs) (hw : IsWord w vw word) :
    Calls Tryz.prog 8 #[.agg (macC m vf vy vt vo), vi, vw] w fun e w' => SimR m inputs word w e w' := by
  have HF := Lib.hid hf
  have HY := Lib.hid hy
  have HT := Lib.hid ht
  have HO := Lib.hid ho
  have HI := Lib.hid hi
  have HW := Lib.hid hw
  obtain ⟨pf, cf, rfl, _⟩ := hf.at
  obtain ⟨py, cy, rfl, _⟩ := hy.at
  obtain ⟨pt, ct, rfl, _⟩ := ht.at
  obtain ⟨po, co, rfl, _⟩ := ho.at
  obtain ⟨pi, ci, rfl, li1, li2, _⟩ := hi.at
  obtain ⟨pw, cw, rfl, lw1, lw2, _⟩ := hw.at
  clear hf hy ht ho hi hw
  go_enter Tryz.func8, Tryz.ntmps8
  go_wp2_with fail
  refine calls_gen (fun W => Below w.heap.size w W ∧ W.heap[w.heap.size]? = some (.cells (macC m (.slice pf m.first.length cf) (.slice py m.syms.length cy) (.slice pt m.steps.length ct) (.slice po m.out.length co)) 27) ∧ W.heap[w.heap.size + 1]? = some (.cells zeroTr 35)) ⟨by go_grown, alloc_old _ (alloc_new _ _), alloc2_new _ _ _⟩ (fun W0 hW0 => ?_)
  obtain ⟨hb0, hM0, hR0⟩ := hW0
  have HM0 := Lib.hid hM0
  have HR0 := Lib.hid hR0
  have hlr := block_lt hR0
  clear hM0 hR0
  refine (rplay_any m _ _ _ _ _ _ inputs word W0 (HF.out.up up_ints hb0) (HY.out.up up_v3 hb0) (HT.out.up up_step hb0) (HO.out.up up_vecs hb0) (HI.out.up up_int hb0) (HW.out.up up_round hb0)).mono ?_
  rintro e w1 ⟨v, rfl, hv1, hv2, hb1'⟩
  have hb1 := ext_trans hb0 hb1'
  have HR1 := Lib.hid (block_up hb1' HR0.out)
  have t2 := cell_block HR1.out
  have f2 := frozen_block HR1.out
  by_cases hc : playE m inputs word = 0
  case neg =>
    obtain rfl := hv2 hc
    have HC := Lib.hid hc
    obtain ⟨pe, hpe⟩ : ∃ pe, playE m inputs word = pe := ⟨_, rfl⟩
    rw [hpe] at hc ⊢
    have HPE := Lib.hid hpe
    have hc' : (pe != 0) = true := by simpa using hc
    clear hv1 hv2 hpe
    go_wp2_with fail
    obtain ⟨p1, p2, p3, p4⟩ := put6 HR1.out rfl (.slice none 0 0) (.slice none 0 0) (.slice none 0 0) (.slice none 0 0) (.slice none 0 0) (.slice none 0 0) _ rfl
    refine bodyPost_ret (v := .tuple #[.agg zeroTr, .int .i64 pe]) (rsim_results _ (w.heap.size + 1) _ _ _ _ _ _ _ pe _ rfl rfl p1) rfl ?_
    exact ⟨_, _, _, _, _, _, by rw [HPE.out], fun h => absurd h HC.out, fun _ => rfl, p4 _ _ (by omega) hb1⟩
  have hv := hv1 hc
  obtain ⟨n, r, hok⟩ := playE_zero hc
  have HC := Lib.hid hc
  rw [hc]
  have HV := Lib.hid hv
  have HOK := Lib.hid hok
  obtain ⟨av, cv, rfl, _⟩ := hv.at
  clear hv1 hv2 hc hv hok
  have t1 := cell_block (block_up hb1' HM0.out)
  go_wp2_with fail
  clear t1 t2 f2
  refine (rmade_any m _ _ _ _ _ _ _ inputs word n r HOK.out w1 (HF.out.up up_ints hb1) (HY.out.up up_v3 hb1) (HT.out.up up_step hb1) (HO.out.up up_vecs hb1) (HI.out.up up_int hb1) (HW.out.up up_round hb1) HV.out).mono ?_
  rintro e w2 ⟨um, ud, ut, rfl, hT, hb2'⟩
  have hb2 := ext_trans hb1 hb2'
  have HTR := Lib.hid hT
  obtain ⟨am, cm, rfl, _⟩ := hT.msgs.at
  obtain ⟨ad, cd, rfl, _⟩ := hT.dec.at
  obtain ⟨at', ct', rfl, _⟩ := hT.times.at
  clear hT
  have HR2 := Lib.hid (block_up hb2' HR1.out)
  have t2 := cell_block HR2.out
  have f2 := frozen_block HR2.out
  go_wp2_with fail
  clear t2 f2
  obtain ⟨p1, p2, p3, p4⟩ := put6 HR2.out rfl (.slice pi inputs.length ci) (.slice pw word.length cw) (.slice av (runL m inputs word).length cv) (.slice am (madeT m inputs word).msgs.length cm) (.slice ad (madeT m inputs word).dec.length cd) (.slice at' (madeT m inputs word).times.length ct') _ rfl
  refine bodyPost_ret (v := .tuple #[.agg (trC (.slice pi inputs.length ci) (.slice pw word.length cw) (.slice av (runL m inputs word).length cv) (.slice am (madeT m inputs word).msgs.length cm) (.slice ad (madeT m inputs word).dec.length cd) (.slice at' (madeT m inputs word).times.length ct')), .int .i64 0]) (rsim_results _ (w.heap.size + 1) _ _ _ _ _ _ _ 0 _ rfl rfl p1) rfl ?_
  refine ⟨_, _, _, _, _, _, by rw [HC.out], fun _ => ?_, fun h => absurd HC.out h, p4 _ _ (by omega) hb2⟩
  refine tr_nk (W := w2) (put6_nk HR2.out p1 p2) (fun x hx => ?_) HTR.out
  have hx' : x ∈ runL m inputs word := hx
  obtain ⟨k, hk, rfl⟩ := List.getElem_of_mem hx'
  have h2 := (runL_fits HOK.out.good (word := word) HOK.out.il HOK.out.ir k _ (List.getElem?_eq_getElem hk)).1
  have h3 := HOK.out.good.n1
  intro e
  rw [e] at h2
  simp at h2
  omega
end Go.Proofs.YtjmejfgkogjpaaaGreatDoor

namespace Go.Proofs.YtjmejfgkogjpaaaGreatDoor
open Go.RowKit Go Go.Shelf
attribute [local go_sem] Oper.semAt_some

set_option maxRecDepth 100000 in
set_option maxHeartbeats 2000000 in
theorem rsameInts_any (va vb : Value) (l : List Int) (w : World) (ha : IsInts w va l) (hb : IsInts w vb l) :
    Calls Tryz.prog 24 #[va, vb] w fun e w' => e = .returned (.bool true) ∧ Below w.heap.size w w' := by
  obtain ⟨pa, ca, rfl, la1, la2, ea⟩ := ha.at
  obtain ⟨pb, cb, rfl, lb1, lb2, eb⟩ := hb.at
  have EA := Lib.hid ea
  have EB := Lib.hid eb
  clear ha hb ea eb
  go_enter Tryz.func24, Tryz.ntmps24
  go_wp2
  go_loopw [5] (fun i wr => Below w.heap.size w wr ∧ ∃ k : Nat, k ≤ l.length ∧ i = .int .i64 k) (fun i _ => l.length - (intOf i).toNat)
  case atStart => exact ⟨Below.refl _ _, 0, by omega, rfl⟩
  case round =>
    obtain ⟨hbr, k, hk, rfl⟩ := hrel
    by_cases hlt : k < l.length
    · have hlt' : (k : Int) < (l.length : Int) := by omega
      obtain ⟨b1, o1, rfl, c1, r1⟩ := EA.out k hlt
      obtain ⟨b2, o2, rfl, c2, r2⟩ := EB.out k hlt
      rw [Nat.mul_one] at c1 c2
      clear r1 r2
      generalize l[k] = x at c1 c2
      have t1 : ∀ n, (wr.drewN n).cell? _ = _ := fun n => cell_up hbr c1
      have t2 : ∀ n, (wr.drewN n).cell? _ = _ := fun n => cell_up hbr c2
      go_wp2_with fail
      go_quiet (fail)
      go_wp2_with fail
      go_roundw
      case rel => exact ⟨below_drewN hbr _, k + 1, by omega, by go_num⟩
      case measure => simp [intOf]; omega
    · go_wp2_with fail
      go_ret
      exact ⟨rfl, hbr⟩

set_option maxRecDepth 100000 in
set_option maxHeartbeats 4000000 in
theorem rsame_any (t : Tr) (vi vw vs vm vd vt ui uw us um ud ut : Value) (w : World) (ha : IsTr w t vi vw vs vm vd vt) (hb : IsTr w t ui uw us um ud ut) :
    Calls Tryz.prog 9 #[.agg (trC vi vw vs vm vd vt), .agg (trC ui uw us um ud ut)] w fun e w' => e = .returned (.bool true) ∧ Below w.heap.size w w' := by
  have HA := Lib.hid ha
  have HB := Lib.hid hb
  obtain ⟨h1, h2, h3, h4, h5, h6⟩ := ha
  obtain ⟨k1, k2, k3, k4, k5, k6⟩ := hb
  obtain ⟨_, _, rfl, _⟩ := h1.at
  obtain ⟨_, _, rfl, _⟩ := h2.at
  obtain ⟨ps, cs, rfl, ls1, ls2, es⟩ := h3.at
  obtain ⟨pm, cm, rfl, lm1, lm2, em⟩ := h4.at
  obtain ⟨_, _, rfl, _⟩ := h5.at
  obtain ⟨_, _, rfl, _⟩ := h6.at
  obtain ⟨_, _, rfl, _⟩ := k1.at
  obtain ⟨_, _, rfl, _⟩ := k2.at
  obtain ⟨qs, ds, rfl, ls3, ls4, fs⟩ := k3.at
  obtain ⟨qm, dm, rfl, lm3, lm4, fm⟩ := k4.at
  obtain ⟨_, _, rfl, _⟩ := k5.at
  obtain ⟨_, _, rfl, _⟩ := k6.at
  have ES := Lib.hid es
  have EM := Lib.hid em
  have FS := Lib.hid fs
  have FM := Lib.hid fm
  clear h1 h2 h3 h4 h5 h6 k1 k2 k3 k4 k5 k6 es em fs fm
  go_enter Tryz.func9, Tryz.ntmps9
  go_wp2_with fail
  refine calls_gen (fun W => Below w.heap.size w W ∧ (∃ c, W.heap[w.heap.size]? = some (.cells c 35) ∧ c = trC _ _ _ _ _ _) ∧ ∃ c, W.heap[w.heap.size + 1]? = some (.cells c 35) ∧ c = trC _ _ _ _ _ _) ⟨by go_grown, ⟨_, alloc_old _ (alloc_new _ _), rfl⟩, _, by simpa using alloc_new (w.alloc _) _, rfl⟩ (fun W0 hW0 => ?_)
  obtain ⟨hb0, ⟨_, hA0, rfl⟩, _, hB0, rfl⟩ := hW0
  have HA0 := Lib.hid hA0
  have HB0 := Lib.hid hB0
  clear hA0 hB0
  refine (rsameInts_any _ _ t.inp W0 (HA.out.inp.up up_int hb0) (HB.out.inp.up up_int hb0)).mono ?_
  rintro e w1 ⟨rfl, hb1'⟩
  have hb1 := ext_trans hb0 hb1'
  have s1 := cell_block (block_up hb1' HA0.out)
  have s2 := cell_block (block_up hb1' HB0.out)
  go_wp2_with fail
  clear s1 s2
  have HSW := rsameWord_any _ _ t.word t.word w1 (HA.out.word.up up_round hb1) (HB.out.word.up up_round hb1)
  rw [decide_eq_true rfl] at HSW
  refine HSW.mono ?_
  rintro e w2 ⟨rfl, hb2'⟩
  clear HSW
  have hb2 := ext_trans hb1 hb2'
  have hq2 := ext_trans hb1' hb2'
  have s1 := cell_block (block_up hq2 HA0.out)
  have s2 := cell_block (block_up hq2 HB0.out)
  go_wp2_with fail
  clear s1 s2
  refine (rsameInts_any _ _ t.dec w2 (HA.out.dec.up up_int hb2) (HB.out.dec.up up_int hb2)).mono ?_
  rintro e w3 ⟨rfl, hb3'⟩
  have hb3 := ext_trans hb2 hb3'
  have hq3 := ext_trans hq2 hb3'
  have s1 := cell_block (block_up hq3 HA0.out)
  have s2 := cell_block (block_up hq3 HB0.out)
  go_wp2_with fail
  clear s1 s2
  refine (rsameInts_any _ _ t.times w3 (HA.out.times.up up_int hb3) (HB.out.times.up up_int hb3)).mono ?_
  rintro e w4 ⟨rfl, hb4'⟩
  have hb4 := ext_trans hb3 hb4'
  have hq4 := ext_trans hq3 hb4'
  have HA4 := Lib.hid (block_up hq4 HA0.out)
  have HB4 := Lib.hid (block_up hq4 HB0.out)
  have s1 := cell_block HA4.out
  have s2 := cell_block HB4.out
  go_wp2_with fail
  clear s1 s2
  go_loopw [5] (fun i wr => Below w4.heap.size w4 wr ∧ ∃ k : Nat, k ≤ t.states.length ∧ i = .int .i64 k) (fun i _ => t.states.length - (intOf i).toNat)
  case atStart => exact ⟨Below.refl _ _, 0, by omega, rfl⟩
  case round =>
    obtain ⟨hbr, k, hk, rfl⟩ := hrel
    have hbw := ext_trans hb4 hbr
    have s1 := cell_block (block_up hbr HA4.out)
    by_cases hlt : k < t.states.length
    · have hlt' : (k : Int) < (t.states.length : Int) := by omega
      obtain ⟨b1, o1, rfl, x1, c1, hx1⟩ := ES.out k hlt
      obtain ⟨b2, o2, rfl, x2, c2, hx2⟩ := FS.out k hlt
      rw [Nat.mul_one] at c1 c2
      have HX1 := Lib.hid hx1
      have HX2 := Lib.hid hx2
      obtain ⟨p1, q1, rfl, l11, l12, _⟩ := hx1.at
      obtain ⟨p2, q2, rfl, l21, l22, _⟩ := hx2.at
      clear hx1 hx2
      have g1 : ∀ y : ExtW wr, ∀ o, y.val.cell? ⟨w.heap.size, o, none⟩ = _ := fun y => cell_block (block_up (ext_trans hbr y.ext) HA4.out)
      have g2 : ∀ y : ExtW wr, ∀ o, y.val.cell? ⟨w.heap.size + 1, o, none⟩ = _ := fun y => cell_block (block_up (ext_trans hbr y.ext) HB4.out)
      have g3 : ∀ y : ExtW wr, y.val.cell? ⟨b1, o1 + k, none⟩ = _ := fun y => y.cell (cell_up hbw c1)
      have g4 : ∀ y : ExtW wr, y.val.cell? ⟨b2, o2 + k, none⟩ = _ := fun y => y.cell (cell_up hbw c2)
      have HCALL := Lib.hid (show ∀ y : ExtW wr, Calls Tryz.prog 24 #[.slice p1 t.states[k].length q1, .slice p2 t.states[k].length q2] y.val fun e w'' => e = .returned (.bool true) ∧ ∃ z : ExtW wr, w'' = z.val from fun y => Calls.ext_of (rsameInts_any _ _ t.states[k] y.val (HX1.out.up up_int (ext_trans hbw y.ext)) (HX2.out.up up_int (ext_trans hbw y.ext))))
      clear c1 c2
      generalize t.states[k].length = nk at g3 g4 HCALL l11 l12 l21 l22
      go_wp2_with fail
      refine wp_region_quiet_ext (by kernel_rfl) (by kernel_rfl) ?_
      repeat (go_big_quiet_step ((go_at_call 24; with_reducible exact HCALL.out _)))
      refine wpQuiet_nil ?_
      intro _ hw'
      obtain ⟨xq, hw''⟩ := hw'
      subst hw''
      clear g1 g2 g3 g4 s1
      go_wp2_with fail
      go_roundw
      case rel => exact ⟨ext_trans hbr xq.ext, k + 1, by omega, by go_num⟩
      case measure => simp [intOf]; omega
    · go_wp2_with fail
      clear s1 hk hlt
      have hbk := hbr
      go_loopw [6] (fun i wr => Below w4.heap.size w4 wr ∧ ∃ k : Nat, k ≤ t.msgs.length ∧ i = .int .i64 k) (fun i _ => t.msgs.length - (intOf i).toNat)
      case atStart => exact ⟨hbk, 0, by omega, rfl⟩
      case round =>
        obtain ⟨hbr, k, hk, rfl⟩ := hrel
        have hbw := ext_trans hb4 hbr
        have s1 := cell_block (block_up hbr HA4.out)
        by_cases hlt : k < t.msgs.length
        · have hlt' : (k : Int) < (t.msgs.length : Int) := by omega
          obtain ⟨b1, o1, rfl, ⟨c0, _⟩, ⟨c1, _⟩, ⟨c2, _⟩, c3, _⟩ := EM.out k hlt
          obtain ⟨b2, o2, rfl, ⟨e0, _⟩, ⟨e1, _⟩, ⟨e2, _⟩, e3, _⟩ := FM.out k hlt
          generalize t.msgs[k] = x at c0 c1 c2 c3 e0 e1 e2 e3
          have hne := fun w => neq_msg x x w
          rw [decide_eq_true rfl] at hne
          have g1 : ∀ y : ExtW wr, ∀ o, y.val.cell? ⟨w.heap.size, o, none⟩ = _ := fun y => cell_block (block_up (ext_trans hbr y.ext) HA4.out)
          have g2 : ∀ y : ExtW wr, ∀ o, y.val.cell? ⟨w.heap.size + 1, o, none⟩ = _ := fun y => cell_block (block_up (ext_trans hbr y.ext) HB4.out)
          have a0 : ∀ y : ExtW wr, y.val.cell? ⟨b1, o1 + k * 4, none⟩ = _ := fun y => y.cell (cell_up hbw c0)
          have a1 : ∀ y : ExtW wr, y.val.cell? ⟨b1, o1 + k * 4 + 1, none⟩ = _ := fun y => y.cell (cell_up hbw c1)
          have a2 : ∀ y : ExtW wr, y.val.cell? ⟨b1, o1 + k * 4 + 2, none⟩ = _ := fun y => y.cell (cell_up hbw c2)
          have a3 : ∀ y : ExtW wr, y.val.cell? ⟨b1, o1 + k * 4 + 3, none⟩ = _ := fun y => y.cell (cell_up hbw c3)
          have d0 : ∀ y : ExtW wr, y.val.cell? ⟨b2, o2 + k * 4, none⟩ = _ := fun y => y.cell (cell_up hbw e0)
          have d1 : ∀ y : ExtW wr, y.val.cell? ⟨b2, o2 + k * 4 + 1, none⟩ = _ := fun y => y.cell (cell_up hbw e1)
          have d2 : ∀ y : ExtW wr, y.val.cell? ⟨b2, o2 + k * 4 + 2, none⟩ = _ := fun y => y.cell (cell_up hbw e2)
          have d3 : ∀ y : ExtW wr, y.val.cell? ⟨b2, o2 + k * 4 + 3, none⟩ = _ := fun y => y.cell (cell_up hbw e3)
          clear c0 c1 c2 c3 e0 e1 e2 e3
          go_wp2_with fail
          refine wp_region_quiet_ext (by kernel_rfl) (by kernel_rfl) ?_
          repeat (go_big_quiet_step (fail))
          refine wpQuiet_nil ?_
          intro _ hw'
          obtain ⟨xq, hw''⟩ := hw'
          subst hw''
          clear g1 g2 a0 a1 a2 a3 d0 d1 d2 d3 s1 hne
          go_wp2_with fail
          go_roundw
          case rel => exact ⟨ext_trans hbr xq.ext, k + 1, by omega, by go_num⟩
          case measure => simp [intOf]; omega
        · go_wp2_with fail
          go_ret
          exact ⟨rfl, hbw⟩
end Go.Proofs.YtjmejfgkogjpaaaGreatDoor
