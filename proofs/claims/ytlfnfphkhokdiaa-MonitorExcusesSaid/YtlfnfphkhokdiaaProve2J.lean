/-
  MonitorExcuses holds as it is given: for every problem, play and numbers the call returns true and leaves what came in as it was. No conditions.
-/
import Derived.Test.YtlfnfphkhokdiaaJ8
namespace Go.Proofs.Ytlfnfphkhokdiaa
open Go.ChangeShapes Go.WideShapes Go.ChangeAt Go.RowKit Go
set_option linter.unusedVariables false

theorem okWide_arr {P : Program} {w : World} {r : Reach} {base : Nat} {t e : TypeId} {n : Nat} {v : Value} (ht : P.underlying t = some (.array n e)) (h : Value.okWide P w r base t v) : ∃ cs, v = .agg cs ∧ cs.size = P.cellsOf t := by
  simp only [Value.okWide, ht] at h
  obtain ⟨cs, h1, h2, _⟩ := h
  exact ⟨cs, h1, h2⟩
section
variable {H : Type} {enc : TypeId × Value → H} {w : World}
theorem list5 {l : List Value} (h : l.length = 5) : ∃ c0 c1 c2 c3 c4, l = [c0, c1, c2, c3, c4] := by
  match l, h with
  | [c0, c1, c2, c3, c4], _ => exact ⟨c0, c1, c2, c3, c4, rfl⟩
theorem Try.cOth : Try.prog.cellsOf 43 = 5 := by kernel_rfl
theorem Try.cU8 : Try.prog.cellsOf 5 = 1 := by kernel_rfl
theorem u8_bd {n : Int} (h : (Lit.int .u8 n).wf = true) : 0 ≤ n ∧ n ≤ 255 := by
  simp [Lit.wf, IntKind.min, IntKind.max, IntKind.bits, IntKind.signed] at h
  omega
theorem open_oth {fuel : Nat} {cs : List Value} {x : DataW H × List MemPlace} (h : Rdg enc w fuel 43 cs x) :
    ∃ o0 o1 o2 o3 o4 : Int, cs = [.int .u8 o0, .int .u8 o1, .int .u8 o2, .int .u8 o3, .int .u8 o4] ∧ (0 ≤ o0 ∧ o0 ≤ 255) ∧ (0 ≤ o1 ∧ o1 ≤ 255) ∧ (0 ≤ o2 ∧ o2 ≤ 255) ∧ (0 ≤ o3 ∧ o3 ≤ 255) ∧ 0 ≤ o4 ∧ o4 ≤ 255 := by
  obtain ⟨xs, n, _, _, hl, hx, hf⟩ := DataW.trod_array Try.underlying43 h
  rw [Try.cOth] at hl
  obtain ⟨c0, c1, c2, c3, c4, rfl⟩ := list5 hl
  have key : ∀ i (hi : i < 5), ∃ v, [c0, c1, c2, c3, c4][i]? = some (.int .u8 v) ∧ 0 ≤ v ∧ v ≤ 255 := fun i hi => by
    have h2 := hf i hi
    rw [Try.cU8, Nat.mul_one, List.getElem?_eq_getElem (by omega)] at h2
    obtain ⟨v, e1, _, hw⟩ := DataW.trod_int Try.underlying5 h2
    refine ⟨v, ?_, u8_bd hw⟩
    have h3 : (([c0, c1, c2, c3, c4].drop i).take 1)[0]? = [c0, c1, c2, c3, c4][i]? := by simp
    rw [← h3, e1]
    rfl
  obtain ⟨v0, e0, b0⟩ := key 0 (by omega)
  obtain ⟨v1, e1, b1⟩ := key 1 (by omega)
  obtain ⟨v2, e2, b2⟩ := key 2 (by omega)
  obtain ⟨v3, e3, b3⟩ := key 3 (by omega)
  obtain ⟨v4, e4, b4⟩ := key 4 (by omega)
  simp at e0 e1 e2 e3 e4
  subst e0 e1 e2 e3 e4
  exact ⟨v0, v1, v2, v3, v4, rfl, b0, b1, b2, b3, b4⟩
end

set_option maxRecDepth 100000 in
theorem excuses_lifted (os : Os) (started : os.Started) (H : Type) (enc : TypeId × Value → H) :
    ReturnsInHanded {} Try.checked os 4 .any (Rows.monitorExcusesSpec.pre6 enc Try.prog Try.f4 Rows.monitorExcusesRow.domain false) (Rows.monitorExcusesSpec.post enc Try.prog Try.f4 false true false false) := by
  refine returnsInHanded_of_change_sized (C := Try.checked) Try.own started (by kernel_rfl) Try.func4
    (ChangeSpec.witness6 (enc := enc) (C := Try.checked) false ⟨#[], #[.agg #[.int .i64 0, .int .i64 0, .int .i64 0, .slice none 0 0, .int .i64 0, .slice none 0 0, .int .i64 0], .agg #[.slice none 0 0, .slice none 0 0, .slice none 0 0], .agg #[.int .u8 0, .int .u8 0, .int .u8 0, .int .u8 0, .int .u8 0]], []⟩ 8 (by kernel_rfl) (by kernel_rfl) (by kernel_rfl) (by kernel_rfl)) ?_
  intro W base args ds gs before hval0 hW hcnd hsz0 _
  have hval : ∀ (j : Nat) t v, Try.f4.params[j]? = some t → args[j]? = some v → Value.okWide Try.prog W .any base t v := hval0
  have hW' := hW
  obtain ⟨p, q, hA0, hV, rfl, hfz, hnd⟩ := hW
  have hA : DataW.TrodAll enc Try.prog W 0 (fun _ => true) true Try.f4.params.toList args.toList ds p := hA0
  have hsz : (DataW.weightsEach Try.prog (Try.f4.params.toList ++ Rows.monitorExcusesSpec.plain.varTypes Try.prog) (ds ++ gs)).all (· ≤ reachBytes) = true := hsz0
  rw [Try.params4] at hA hval hsz
  obtain ⟨v0, vs0, d0, ds0, p0, q0, hargs, rfl, rfl, h0, r0⟩ := trodAll_cons hA
  obtain ⟨v1, vs1, d1, ds1, p1, q1, rfl, rfl, rfl, h1, r1⟩ := trodAll_cons r0
  obtain ⟨v2, vs2, d2, ds2, p2, q2, rfl, rfl, rfl, h2, r2⟩ := trodAll_cons r1
  obtain ⟨rfl, rfl, rfl⟩ := trodAll_nil r2
  obtain rfl : args = #[v0, v1, v2] := by cases args; simp_all
  obtain ⟨rfl, rfl⟩ := trodVars_none hV
  have k0 := h0
  have k1 := h1
  have k2 := h2
  have lt0 : ∀ x ∈ p0, x.block < W.heap.size := by obtain ⟨m, hm⟩ := k0; exact DataW.trod_lt m _ _ _ hm
  have lt1 : ∀ x ∈ p1, x.block < W.heap.size := by obtain ⟨m, hm⟩ := k1; exact DataW.trod_lt m _ _ _ hm
  have lt2 : ∀ x ∈ p2, x.block < W.heap.size := by obtain ⟨m, hm⟩ := k2; exact DataW.trod_lt m _ _ _ hm
  have z0 : Szd 29 d0 := fun n hn => by
    have := List.all_eq_true.1 hsz n (DataW.weights_mem_each (j := 0) (t := 29) (d := d0) rfl rfl n hn)
    simpa using this
  have z1 : Szd 33 d1 := fun n hn => by
    have := List.all_eq_true.1 hsz n (DataW.weights_mem_each (j := 1) (t := 33) (d := d1) rfl rfl n hn)
    simpa using this
  obtain ⟨c0, rfl, _⟩ := okWide_struct Try.underlying29 (hval 0 29 v0 rfl rfl)
  obtain ⟨c1, rfl, _⟩ := okWide_struct Try.underlying33 (hval 1 33 v1 rfl rfl)
  obtain ⟨c2, rfl, _⟩ := okWide_arr Try.underlying43 (hval 2 43 v2 rfl rfl)
  obtain ⟨m0, hf0⟩ := h0
  obtain ⟨m2, hf2⟩ := h2
  obtain ⟨m1, hf1⟩ := h1
  obtain ⟨pb, vc, vs, e0, hc, hs⟩ := open_prob hf0 z0
  obtain ⟨vi, u, vd, inp, word, dec, e1, hi, hu, hd⟩ := open_play hf1 z1
  obtain ⟨l0⟩ := c0
  obtain ⟨l1⟩ := c1
  obtain ⟨o0, o1, o2, o3, o4, e2, ho⟩ := open_oth hf2
  obtain ⟨l2⟩ := c2
  simp only [Value.cells] at e0 e1 e2
  subst e0 e1 e2
  clear hA0 hval0
  refine (lexcuses_any pb vc vs vi u vd inp word dec o0 o1 o2 o3 o4 W hc hs hi hu hd ho).mono fun e W' ⟨he, bel⟩ => ?_
  subst he
  exact ⟨_, rfl, _, _, _, [], _, [], hW', trodAll_mk1 (shut_bool Try.underlying4 _), (trodAll_cons_mk (Below.trod Try.laidOut (by kernel_rfl) (of_decide_eq_true (by kernel_rfl)) k0 bel lt0) (trodAll_cons_mk (Below.trod Try.laidOut (by kernel_rfl) (of_decide_eq_true (by kernel_rfl)) k1 bel lt1) (trodAll_cons_mk (Below.trod Try.laidOut (by kernel_rfl) (of_decide_eq_true (by kernel_rfl)) k2 bel lt2) trodAll_mk0))), rfl, bel.frame _, fun h => by cases h⟩

theorem excuses_over : Rows.monitorExcusesRow.holds Try.pinned (OpenSpec.ofChange Rows.monitorExcusesSpec) :=
  OpenClaim.holds_of_wide 4 Try.f4 rfl rfl rfl rfl rfl rfl rfl ⟨rfl, rfl, rfl, rfl, rfl⟩ rfl rfl rfl rfl rfl (by kernel_rfl) Try.func4 (by kernel_rfl)
    (of_decide_eq_true (by kernel_rfl)) (by unfold Func.isWrapper; first | (rw [if_pos (by decide +kernel)]; kernel_rfl) | (rw [if_neg (by decide +kernel)]; exact ⟨rfl, rfl⟩))
    (fun os started H enc _ => excuses_lifted os started H enc)

/-- The given statement. -/
theorem monitorExcuses_holds : Rows.MonitorExcusesSaid := excuses_over
end Go.Proofs.Ytlfnfphkhokdiaa
