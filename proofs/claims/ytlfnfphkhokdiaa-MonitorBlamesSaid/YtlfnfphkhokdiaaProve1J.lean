/-
  MonitorBlames holds as it is given: for every problem and play the call returns true and leaves what came in as it was. No conditions.
-/
import Derived.Test.YtlfnfphkhokdiaaJ9
namespace Go.Proofs.Ytlfnfphkhokdiaa
open Go.ChangeShapes Go.WideShapes Go.ChangeAt Go.RowKit Go
set_option linter.unusedVariables false

theorem Try.own : ownKnob Try.prog.godebug = none := by kernel_rfl
theorem Try.laidOut : laidOutB Try.prog = true := by kernel_rfl
section
variable {H : Type} {enc : TypeId × Value → H} {w : World}
theorem list3 {l : List Value} (h : l.length = 3) : ∃ c0 c1 c2, l = [c0, c1, c2] := by
  match l, h with
  | [c0, c1, c2], _ => exact ⟨c0, c1, c2, rfl⟩
theorem Try.cPlay : Try.prog.cellsOf 33 = 3 := by kernel_rfl
theorem Try.cWord : Try.prog.cellsOf 31 = 1 := by kernel_rfl
theorem open_play {fuel : Nat} {cs : List Value} {x : DataW H × List MemPlace} (h : Rdg enc w fuel 33 cs x) (hz : Szd 33 x.1) :
    ∃ (vi u vd : Value) (inp : List Int) (word : List Rd) (dec : List Int), cs = [vi, u, vd] ∧ IsInts w vi inp ∧ IsWord w u word ∧ IsInts w vd dec := by
  obtain ⟨hl, n, hf⟩ := rdg_struct Try.underlying33 h hz
  rw [Try.cPlay] at hl
  obtain ⟨c0, c1, c2, rfl⟩ := list3 hl
  obtain ⟨u0, s0, q0⟩ := hf 0 _ rfl
  obtain ⟨u1, s1, q1⟩ := hf 1 _ rfl
  obtain ⟨u2, s2, q2⟩ := hf 2 _ rfl
  change Rdg enc w n 30 (([c0, c1, c2].drop 0).take (Try.prog.cellsOf 30)) u0 at s0
  change Rdg enc w n 31 (([c0, c1, c2].drop 1).take (Try.prog.cellsOf 31)) u1 at s1
  change Rdg enc w n 30 (([c0, c1, c2].drop 2).take (Try.prog.cellsOf 30)) u2 at s2
  change Szd 30 u0.1 at q0
  change Szd 31 u1.1 at q1
  change Szd 30 u2.1 at q2
  rw [Try.cInts] at s0 s2
  rw [Try.cWord] at s1
  obtain ⟨v0, l0, e0, g0⟩ := opn_val Try.underlying30 Try.cInt (by omega) (of_decide_eq_true (by kernel_rfl)) opn_int s0 q0
  obtain ⟨v1, l1, e1, g1⟩ := opn_val Try.underlying31 Try.cRound (by omega) (of_decide_eq_true (by kernel_rfl)) opn_round s1 q1
  obtain ⟨v2, l2, e2, g2⟩ := opn_val Try.underlying30 Try.cInt (by omega) (of_decide_eq_true (by kernel_rfl)) opn_int s2 q2
  simp at e0 e1 e2
  subst e0 e1 e2
  exact ⟨_, _, _, _, _, _, rfl, g0, g1, g2⟩
end

set_option maxRecDepth 100000 in
theorem blames_lifted (os : Os) (started : os.Started) (H : Type) (enc : TypeId × Value → H) :
    ReturnsInHanded {} Try.checked os 3 .any (Rows.monitorBlamesSpec.pre6 enc Try.prog Try.f3 Rows.monitorBlamesRow.domain false) (Rows.monitorBlamesSpec.post enc Try.prog Try.f3 false true false false) := by
  refine returnsInHanded_of_change_sized (C := Try.checked) Try.own started (by kernel_rfl) Try.func3
    (ChangeSpec.witness6 (enc := enc) (C := Try.checked) false ⟨#[], #[.agg #[.int .i64 0, .int .i64 0, .int .i64 0, .slice none 0 0, .int .i64 0, .slice none 0 0, .int .i64 0], .agg #[.slice none 0 0, .slice none 0 0, .slice none 0 0]], []⟩ 8 (by kernel_rfl) (by kernel_rfl) (by kernel_rfl) (by kernel_rfl)) ?_
  intro W base args ds gs before hval0 hW hcnd hsz0 _
  have hval : ∀ (j : Nat) t v, Try.f3.params[j]? = some t → args[j]? = some v → Value.okWide Try.prog W .any base t v := hval0
  have hW' := hW
  obtain ⟨p, q, hA0, hV, rfl, hfz, hnd⟩ := hW
  have hA : DataW.TrodAll enc Try.prog W 0 (fun _ => true) true Try.f3.params.toList args.toList ds p := hA0
  have hsz : (DataW.weightsEach Try.prog (Try.f3.params.toList ++ Rows.monitorBlamesSpec.plain.varTypes Try.prog) (ds ++ gs)).all (· ≤ reachBytes) = true := hsz0
  rw [Try.params3] at hA hval hsz
  obtain ⟨v0, vs0, d0, ds0, p0, q0, hargs, rfl, rfl, h0, r0⟩ := trodAll_cons hA
  obtain ⟨v1, vs1, d1, ds1, p1, q1, rfl, rfl, rfl, h1, r1⟩ := trodAll_cons r0
  obtain ⟨rfl, rfl, rfl⟩ := trodAll_nil r1
  obtain rfl : args = #[v0, v1] := by cases args; simp_all
  obtain ⟨rfl, rfl⟩ := trodVars_none hV
  have k0 := h0
  have k1 := h1
  have lt0 : ∀ x ∈ p0, x.block < W.heap.size := by obtain ⟨m, hm⟩ := k0; exact DataW.trod_lt m _ _ _ hm
  have lt1 : ∀ x ∈ p1, x.block < W.heap.size := by obtain ⟨m, hm⟩ := k1; exact DataW.trod_lt m _ _ _ hm
  have z0 : Szd 29 d0 := fun n hn => by
    have := List.all_eq_true.1 hsz n (DataW.weights_mem_each (j := 0) (t := 29) (d := d0) rfl rfl n hn)
    simpa using this
  have z1 : Szd 33 d1 := fun n hn => by
    have := List.all_eq_true.1 hsz n (DataW.weights_mem_each (j := 1) (t := 33) (d := d1) rfl rfl n hn)
    simpa using this
  obtain ⟨c0, rfl, _⟩ := okWide_struct Try.underlying29 (hval 0 29 v0 rfl rfl)
  obtain ⟨c1, rfl, _⟩ := okWide_struct Try.underlying33 (hval 1 33 v1 rfl rfl)
  obtain ⟨m0, hf0⟩ := h0
  obtain ⟨m1, hf1⟩ := h1
  obtain ⟨pb, vc, vs, e0, hc, hs⟩ := open_prob hf0 z0
  obtain ⟨vi, u, vd, inp, word, dec, e1, hi, hu, hd⟩ := open_play hf1 z1
  obtain ⟨l0⟩ := c0
  obtain ⟨l1⟩ := c1
  simp only [Value.cells] at e0 e1
  subst e0 e1
  clear hA0 hval0
  refine (lblames_any pb vc vs vi u vd inp word dec W hc hs hi hu hd).mono fun e W' ⟨he, bel⟩ => ?_
  subst he
  exact ⟨_, rfl, _, _, _, [], _, [], hW', trodAll_mk1 (shut_bool Try.underlying4 _), (trodAll_cons_mk (Below.trod Try.laidOut (by kernel_rfl) (of_decide_eq_true (by kernel_rfl)) k0 bel lt0) (trodAll_cons_mk (Below.trod Try.laidOut (by kernel_rfl) (of_decide_eq_true (by kernel_rfl)) k1 bel lt1) trodAll_mk0)), rfl, bel.frame _, fun h => by cases h⟩

theorem blames_over : Rows.monitorBlamesRow.holds Try.pinned (OpenSpec.ofChange Rows.monitorBlamesSpec) :=
  OpenClaim.holds_of_wide 3 Try.f3 rfl rfl rfl rfl rfl rfl rfl ⟨rfl, rfl, rfl, rfl, rfl⟩ rfl rfl rfl rfl rfl (by kernel_rfl) Try.func3 (by kernel_rfl)
    (of_decide_eq_true (by kernel_rfl)) (by unfold Func.isWrapper; first | (rw [if_pos (by decide +kernel)]; kernel_rfl) | (rw [if_neg (by decide +kernel)]; exact ⟨rfl, rfl⟩))
    (fun os started H enc _ => blames_lifted os started H enc)

/-- The given statement. -/
theorem monitorBlames_holds : Rows.MonitorBlamesSaid := blames_over
end Go.Proofs.Ytlfnfphkhokdiaa
