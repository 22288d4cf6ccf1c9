/-
  SimulateRuns holds as it is given, tied to the program's text: for all machines, inputs and words the call returns true. Conditions: the library's tables start as the text lays them (the card ties them).
-/
import Derived.Test.YtjmejfgkogjpaaaGreatDoorRows
import Derived.Test.YtjmejfgkogjpaaaGreatDoorTie
import Derived.Test.YtjmejfgkogjpaaaGreatDoorCards
import Derived.ProofKit
import Derived.LaidMore
import Derived.OpenShut
import Derived.Stop.Joined
import Derived.SevenTiedAt
import Derived.Test.YtjmejfgkogjpaaaGreatDoorJ14
namespace Go.Proofs.YtjmejfgkogjpaaaGreatDoor
open Go.ChangeShapes Go.WideShapes Go.ChangeAt Go.WideMaps Go.WideElems Go.RowKit Go
set_option linter.unusedVariables false

abbrev laid2 {H : Type} : List (String × DataW H) := [("math/bits.deBruijn32tab", Rows.laid_math_bits_deBruijn32tab), ("math/bits.deBruijn64tab", Rows.laid_math_bits_deBruijn64tab)]
theorem Tryz.g64 : Tryz.prog.globalNamed "math/bits.deBruijn64tab" = some 2 := by kernel_rfl
theorem Tryz.t64 : (Tryz.prog.globals[2]?).map (·.type) = some 187 := by kernel_rfl
theorem Tryz.cU8 : Tryz.prog.cellsOf 5 = 1 := by kernel_rfl

theorem door_met (os : Os) (args : Array Value) : laidMetH Tryz.prog laid2 ((World.doorLaid Tryz.prog 400 os).forCall (fun _ _ => 0) ⟨#[], args, []⟩).memory :=
  laidMetH_of_parts3 (fuel := 8) (laidMet_of_run' 8 (by kernel_rfl) (by kernel_rfl)) (by kernel_rfl) (by kernel_rfl)

theorem lit64 {H : Type} : (Rows.laid_math_bits_deBruijn64tab : DataW H) = .agg (Lib.deBruijn64tab.map fun n : Nat => .lit (.int .u8 ((n : Nat) : Int))) := rfl
theorem tab_pick {H : Type} (tab : List Nat) (i : Nat) (hi : i < tab.length) (m : Int) (h : (tab.map fun n : Nat => (DataW.lit (.int .u8 ((n : Nat) : Int)) : DataW H))[i]? = some (.lit (.int .u8 m))) : m = ((tab.getD i 0 : Nat) : Int) := by
  rw [List.getElem?_map, List.getElem?_eq_getElem hi] at h
  rw [getD_of_lt 0 hi]
  injection h with h
  injection h with h
  injection h with _ h
  exact h.symm
set_option maxRecDepth 100000 in
theorem of_laid {W : World} (h : laidMetH Tryz.prog laid2 W) : TzAt W := by
  rw [MakeChecks.laidMetH_plain _ _ _ (by kernel_rfl)] at h
  obtain ⟨ps, ⟨g1, t1, cs1, f1, p1, q1, _, _, _, _, ⟨g0, t0, cs0, f0, p0, q0, hg0, ht0, hv0, hd0, _⟩, _⟩, _⟩ := h
  obtain rfl := Option.some.inj (Tryz.g64.symm.trans hg0)
  obtain rfl := Option.some.inj (Tryz.t64.symm.trans ht0)
  rw [lit64] at hd0
  obtain ⟨xs, m1, rfl, hx1, hlen, hn5, hel⟩ := DataW.trod_array Tryz.underlying187 hd0
  simp only [Prod.mk.injEq, DataW.agg.injEq] at hx1
  intro i hi
  have hi64 : i < 64 := hi
  have h2 := hel i hi
  rw [Tryz.cU8, Nat.mul_one, List.getElem?_eq_getElem (by omega)] at h2
  obtain ⟨m, e1, e2, _⟩ := DataW.trod_int Tryz.underlying5 h2
  have hc := World.var?_cell hg0 hv0 i
  have h3 : ((cs0.toList.drop i).take 1)[0]? = cs0[i]? := by simp
  rw [e1] at h3
  have h4 : cs0[i]? = some (.int .u8 m) := h3.symm.trans rfl
  rw [h4] at hc
  rw [hc]
  have h5 : (xs.map (·.1))[i]? = some (.lit (.int .u8 m)) := by
    rw [List.getElem?_map, List.getElem?_eq_getElem (by omega), e2]; rfl
  rw [← hx1.1] at h5
  rw [tab_pick _ i hi m h5]

set_option maxRecDepth 100000 in
theorem runs_lifted (os : Os) (started : os.Started) (H : Type) (enc : TypeId × Value → H) :
    ReturnsInHanded {} Tryz.checked os 3 .any (fun w args => (Rows.simulateRunsSpec.pre enc Tryz.prog Tryz.f3 [] false w args ∧ laidMetH Tryz.prog laid2 w) ∧ sizedMet enc Tryz.prog Tryz.f3 (OpenSpec.ofChange Rows.simulateRunsSpec) false w args)
      (Rows.simulateRunsSpec.post enc Tryz.prog Tryz.f3 false true false false) := by
  refine returnsInHanded_of_change_and (C := Tryz.checked) (X := fun w _ => laidMetH Tryz.prog laid2 w) (fun _ _ _ hh h => h.of_heap hh) Tryz.own started (by kernel_rfl) Tryz.func3
    (ChangeSpec.witness_shaped (enc := enc) (C := Tryz.checked) (os := os) (X := fun w _ => laidMetH Tryz.prog laid2 w) false (World.doorLaid Tryz.prog 400 os) #[.agg #[.int .i64 0, .int .i64 0, .int .i64 0, .int .i64 0, .slice none 0 0, .slice none 0 0, .slice none 0 0, .slice none 0 0], .slice none 0 0, .slice none 0 0] 8 rfl (World.shaped_of_RefB (by kernel_rfl) (by kernel_rfl)) (by kernel_rfl) (by kernel_rfl) (by kernel_rfl) (door_met os _)) ?_
  intro W base args ds gs before hval0 hW hcnd hsz0 hL _
  have hval : ∀ (j : Nat) t v, Tryz.f3.params[j]? = some t → args[j]? = some v → Value.okWide Tryz.prog W .any base t v := hval0
  have hW' := hW
  obtain ⟨p, q, hA0, hV, rfl, hfz, hnd⟩ := hW
  have hA : DataW.TrodAll enc Tryz.prog W 0 (fun _ => true) true Tryz.f3.params.toList args.toList ds p := hA0
  have hsz : (DataW.weightsEach Tryz.prog (Tryz.f3.params.toList ++ Rows.simulateRunsSpec.plain.varTypes Tryz.prog) (ds ++ gs)).all (· ≤ reachBytes) = true := hsz0
  rw [Tryz.params3] at hA hval hsz
  obtain ⟨v0, vs0, d0, ds0, p0, q0, hargs, rfl, rfl, h0, r0⟩ := trodAll_cons hA
  obtain ⟨v1, vs1, d1, ds1, p1, q1, rfl, rfl, rfl, h1, r1⟩ := trodAll_cons r0
  obtain ⟨v2, vs2, d2, ds2, p2, q2, rfl, rfl, rfl, h2, r2⟩ := trodAll_cons r1
  obtain ⟨rfl, rfl, rfl⟩ := trodAll_nil r2
  obtain rfl : args = #[v0, v1, v2] := by cases args; simp_all
  obtain ⟨rfl, rfl⟩ := trodVars_none hV
  have k0 := h0
  have k1 := h1
  have k2 := h2
  have lt0 : ∀ x ∈ p0, x.block < W.heap.size := by obtain ⟨m, hm⟩ := k0; exact DataW.trod_lt m _ _ _ hm
  have lt1 : ∀ x ∈ p1, x.block < W.heap.size := by obtain ⟨m, hm⟩ := k1; exact DataW.trod_lt m _ _ _ hm
  have lt2 : ∀ x ∈ p2, x.block < W.heap.size := by obtain ⟨m, hm⟩ := k2; exact DataW.trod_lt m _ _ _ hm
  have z0 : Szd 27 d0 := fun n hn => by
    have := List.all_eq_true.1 hsz n (DataW.weights_mem_each (j := 0) (t := 27) (d := d0) rfl rfl n hn)
    simpa using this
  have z1 : Szd 28 d1 := fun n hn => by
    have := List.all_eq_true.1 hsz n (DataW.weights_mem_each (j := 1) (t := 28) (d := d1) rfl rfl n hn)
    simpa using this
  have z2 : Szd 29 d2 := fun n hn => by
    have := List.all_eq_true.1 hsz n (DataW.weights_mem_each (j := 2) (t := 29) (d := d2) rfl rfl n hn)
    simpa using this
  obtain ⟨c0, rfl, _⟩ := okWide_struct Tryz.underlying27 (hval 0 27 v0 rfl rfl)
  obtain ⟨a1, n1, c1, rfl⟩ := okWide_slice Tryz.underlying28 (hval 1 28 v1 rfl rfl)
  obtain ⟨a2, n2, c2, rfl⟩ := okWide_slice Tryz.underlying29 (hval 2 29 v2 rfl rfl)
  obtain ⟨m0, hf0⟩ := h0
  obtain ⟨m1, hf1⟩ := h1
  obtain ⟨m2, hf2⟩ := h2
  obtain ⟨mc, vf, vy, vt, vo, e0, gf, gy, gt, go⟩ := open_mach hf0 z0
  obtain ⟨u1, l1, e1, g1⟩ := opn_val Tryz.underlying28 Tryz.cInt (by omega) (of_decide_eq_true (by kernel_rfl)) opn_int hf1 z1
  obtain ⟨u2, l2, e2, g2⟩ := opn_val Tryz.underlying29 Tryz.cRound (by omega) (of_decide_eq_true (by kernel_rfl)) opn_round hf2 z2
  obtain ⟨l0⟩ := c0
  simp only [Value.cells] at e0 e1 e2
  subst e0
  simp at e1 e2
  subst e1 e2
  have hw := of_laid hL
  clear hA0 hval0
  refine (lruns_of mc vf vy vt vo _ _ l1 l2 W gf gy gt go g1 g2 (fun W' hb => lawake56_any W' (hw.up hb))).mono fun e W' ⟨he, bel⟩ => ?_
  subst he
  exact ⟨_, rfl, _, _, _, [], _, [], hW', trodAll_mk1 (shut_bool Tryz.underlying4 _), (trodAll_cons_mk (Below.trod Tryz.laidOut (by kernel_rfl) (of_decide_eq_true (by kernel_rfl)) k0 bel lt0) (trodAll_cons_mk (Below.trod Tryz.laidOut (by kernel_rfl) (of_decide_eq_true (by kernel_rfl)) k1 bel lt1) (trodAll_cons_mk (Below.trod Tryz.laidOut (by kernel_rfl) (of_decide_eq_true (by kernel_rfl)) k2 bel lt2) trodAll_mk0))), rfl, bel.frame _, fun h => by cases h⟩

theorem runs_row : Rows.SimulateRunsSaid :=
  OpenClaim.holds_of_wide 3 Tryz.f3 rfl rfl rfl rfl rfl rfl rfl ⟨rfl, rfl, rfl, rfl, rfl⟩ rfl rfl rfl rfl rfl (by kernel_rfl) Tryz.func3 (by kernel_rfl)
    (of_decide_eq_true (by kernel_rfl)) (by unfold Func.isWrapper; first | (rw [if_pos (by decide +kernel)]; kernel_rfl) | (rw [if_neg (by decide +kernel)]; exact ⟨rfl, rfl⟩))
    (fun os started H enc _ => runs_lifted os started H enc)

/-- The given statement: the tied card. -/
theorem simulateRuns_holds : Rows.SimulateRunsCardSaid :=
  Claim7.holds_tied_plain_at .later [] [.data, .data] true Rows.simulateRunsCard.stood.harness false
    runs_row (fun _ h => by cases h) (by kernel_rfl) (fun _ h => by cases h) simulateRuns_row_tie rfl ⟨rfl, rfl⟩ (by kernel_rfl) rfl
    (fun f fn hf hfn => by
      obtain rfl : f = 3 := Option.some.inj ((show Tryz.prog.funcNamed "roundtable/roundtablelaw56.SimulateRuns" = some 3 by kernel_rfl).symm.trans hf) |>.symm
      obtain rfl : fn = Tryz.f3 := (Option.some.inj (Tryz.func3.symm.trans hfn)).symm
      exact ⟨by kernel_rfl, fun j t ht => by
        rw [Tryz.params3] at ht
        rcases j with _ | _ | _ | j
        · obtain rfl : 27 = t := by simpa using ht
          exact (show Tryz.prog.wantsStandIn 27 = false by kernel_rfl)
        · obtain rfl : 28 = t := by simpa using ht
          exact (show Tryz.prog.wantsStandIn 28 = false by kernel_rfl)
        · obtain rfl : 29 = t := by simpa using ht
          exact (show Tryz.prog.wantsStandIn 29 = false by kernel_rfl)
        · simp at ht⟩)
    (by kernel_rfl)
end Go.Proofs.YtjmejfgkogjpaaaGreatDoor
