/-
  MonitorNames holds as it is given, tied to the program's text: for all numbers the call returns true. Conditions: the variable words starts as the program's text lays it (the card ties it).
-/
import Derived.Test.YtlfnfphkhokdiaaDoorRows
import Derived.Test.YtlfnfphkhokdiaaDoorTie
import Derived.Test.YtlfnfphkhokdiaaDoorCards
import Derived.ProofKit
import Derived.LaidMore
import Derived.OpenShut
import Derived.Stop.Joined
import Derived.SevenTiedAt
import Derived.Test.YtlfnfphkhokdiaaDoorJ6
namespace Go.Proofs.YtlfnfphkhokdiaaDoor
open Go.ChangeShapes Go.WideShapes Go.ChangeAt Go.WideMaps Go.WideElems Go.RowKit Go

abbrev laid1 {H : Type} : List (String × DataW H) := [("roundtable/monitor.words", Rows.laid_roundtable_monitor_words)]
theorem Tryd.own : ownKnob Tryd.prog.godebug = none := by kernel_rfl
theorem Tryd.gWords : Tryd.prog.globalNamed "roundtable/monitor.words" = some 0 := by kernel_rfl
theorem Tryd.tWords : (Tryd.prog.globals[0]?).map (·.type) = some 29 := by kernel_rfl
theorem Tryd.cString : Tryd.prog.cellsOf 9 = 1 := by kernel_rfl
theorem Tryd.cWords : Tryd.prog.cellsOf 29 = 5 := by kernel_rfl

theorem door_met (os : Os) (args : Array Value) : laidMetH Tryd.prog laid1 ((World.doorLaid Tryd.prog 400 os).forCall (fun _ _ => 0) ⟨#[], args, []⟩).memory :=
  laidMetH_of_parts3 (fuel := 8) (laidMet_of_run' 8 (by kernel_rfl) (by kernel_rfl)) (by kernel_rfl) (by kernel_rfl)

theorem of_laid {W : World} (h : laidMetH Tryd.prog laid1 W) : WordsAt W := by
  rw [MakeChecks.laidMetH_plain _ _ _ (by kernel_rfl)] at h
  obtain ⟨ps, ⟨g0, t0, cs0, f0, p0, q0, hg0, ht0, hv0, hd0, _, _⟩, _, _⟩ := h
  obtain rfl := Option.some.inj (Tryd.gWords.symm.trans hg0)
  obtain rfl := Option.some.inj (Tryd.tWords.symm.trans ht0)
  obtain ⟨xs, m1, rfl, hx1, hlen, hn5, hel⟩ := DataW.trod_array Tryd.underlying29 hd0
  simp only [Prod.mk.injEq] at hx1
  intro i hi
  have h2 := hel i hi
  rw [Tryd.cString, Nat.mul_one, List.getElem?_eq_getElem (by omega)] at h2
  obtain ⟨s, e1, e2, _⟩ := DataW.trod_string Tryd.underlying9 h2
  have hc := World.var?_cell hg0 hv0 i
  have h3 : ((cs0.toList.drop i).take 1)[0]? = cs0[i]? := by simp
  rw [e1] at h3
  have h4 : cs0[i]? = some (.string s) := h3.symm.trans rfl
  rw [h4] at hc
  rw [hc]
  have h5 : (xs.map (·.1))[i]? = some (.lit (.string s.data.toList)) := by
    rw [List.getElem?_map, List.getElem?_eq_getElem (by omega), e2]; rfl
  have h6 := hx1.1
  unfold Rows.laid_roundtable_monitor_words at h6
  simp only [DataW.agg.injEq] at h6
  rw [← h6] at h5
  have hs : s.data.toList = (nm i).data.toList := by
    have : i = 0 ∨ i = 1 ∨ i = 2 ∨ i = 3 ∨ i = 4 := by omega
    rcases this with rfl | rfl | rfl | rfl | rfl <;> (simp at h5; rw [← h5]; rfl)
  have : s = nm i := by
    obtain ⟨d⟩ := s
    have h7 : d = (nm i).data := Array.toList_inj.1 hs
    rw [h7]
  rw [this]

set_option maxRecDepth 100000 in
theorem names_lifted (os : Os) (started : os.Started) (H : Type) (enc : TypeId × Value → H) :
    ReturnsInHanded {} Tryd.checked os 3 .any (fun w args => (Rows.monitorNamesSpec.pre enc Tryd.prog Tryd.f3 [] false w args ∧ laidMetH Tryd.prog laid1 w) ∧ sizedMet enc Tryd.prog Tryd.f3 (OpenSpec.ofChange Rows.monitorNamesSpec) false w args)
      (Rows.monitorNamesSpec.post enc Tryd.prog Tryd.f3 false true false false) := by
  refine returnsInHanded_of_change_and (C := Tryd.checked) (X := fun w _ => laidMetH Tryd.prog laid1 w) (fun _ _ _ hh h => h.of_heap hh) Tryd.own started (by kernel_rfl) Tryd.func3
    (ChangeSpec.witness_shaped (enc := enc) (C := Tryd.checked) (os := os) (X := fun w _ => laidMetH Tryd.prog laid1 w) false (World.doorLaid Tryd.prog 400 os) #[.int .i64 0, .int .i64 0] 8 rfl (World.shaped_of_RefB (by kernel_rfl) (by kernel_rfl)) (by kernel_rfl) (by kernel_rfl) (by kernel_rfl) (door_met os _)) ?_
  intro W base args ds gs before hval0 hW _ _ hL _
  have hval : ∀ (j : Nat) t v, Tryd.f3.params[j]? = some t → args[j]? = some v → Value.okWide Tryd.prog W .any base t v := hval0
  have hW' := hW
  obtain ⟨p, q, hA0, hV, rfl, hfz, hnd⟩ := hW
  have hA : DataW.TrodAll enc Tryd.prog W 0 (fun _ => true) true Tryd.f3.params.toList args.toList ds p := hA0
  rw [Tryd.params3] at hA hval
  obtain ⟨v0, vs0, d0, ds0, p0, q0, hargs, rfl, rfl, h0, r0⟩ := trodAll_cons hA
  obtain ⟨v1, vs1, d1, ds1, p1, q1, rfl, rfl, rfl, h1, r1⟩ := trodAll_cons r0
  obtain ⟨rfl, rfl, rfl⟩ := trodAll_nil r1
  obtain rfl : args = #[v0, v1] := by cases args; simp_all
  obtain ⟨rfl, rfl⟩ := trodVars_none hV
  obtain ⟨k, rfl, rfl, rfl, w0⟩ := open_int Tryd.underlying3 (hval 0 3 v0 rfl rfl) h0
  obtain ⟨j, rfl, rfl, rfl, w1⟩ := open_int Tryd.underlying3 (hval 1 3 v1 rfl rfl) h1
  have hw := of_laid hL
  clear hA0 hval0
  refine (lnames_any k j W hw).mono fun e W' ⟨he, bel⟩ => ?_
  subst he
  exact ⟨_, rfl, _, _, _, [], _, [], hW', trodAll_mk1 (shut_bool Tryd.underlying4 _), (trodAll_cons_mk (shut_int Tryd.underlying3 w0) (trodAll_cons_mk (shut_int Tryd.underlying3 w1) trodAll_mk0)), rfl, bel.frame _, fun h => by cases h⟩

theorem names_row : Rows.MonitorNamesSaid :=
  OpenClaim.holds_of_wide 3 Tryd.f3 rfl rfl rfl rfl rfl rfl rfl ⟨rfl, rfl, rfl, rfl, rfl⟩ rfl rfl rfl rfl rfl (by kernel_rfl) Tryd.func3 (by kernel_rfl)
    (of_decide_eq_true (by kernel_rfl)) (by unfold Func.isWrapper; first | (rw [if_pos (by decide +kernel)]; kernel_rfl) | (rw [if_neg (by decide +kernel)]; exact ⟨rfl, rfl⟩))
    (fun os started H enc _ => names_lifted os started H enc)

/-- The given statement: the tied card. -/
theorem monitorNames_holds : Rows.MonitorNamesCardSaid :=
  Claim7.holds_tied_plain_at .later [] [.data] true Rows.monitorNamesCard.stood.harness false
    names_row (fun _ h => by cases h) (by kernel_rfl) (fun _ h => by cases h) monitorNames_row_tie rfl ⟨rfl, rfl⟩ (by kernel_rfl) rfl
    (fun f fn hf hfn => by
      obtain rfl : f = 3 := Option.some.inj ((show Tryd.prog.funcNamed "roundtable/roundtablelaw57.MonitorNames" = some 3 by kernel_rfl).symm.trans hf) |>.symm
      obtain rfl : fn = Tryd.f3 := (Option.some.inj (Tryd.func3.symm.trans hfn)).symm
      exact ⟨by kernel_rfl, fun j t ht => by
        rw [Tryd.params3] at ht
        have h3 : t = 3 := by
          rcases j with _ | _ | j
          · simpa using ht.symm
          · simpa using ht.symm
          · simp at ht
        subst h3
        exact (show Tryd.prog.wantsStandIn 3 = false by kernel_rfl)⟩)
    (by kernel_rfl)
end Go.Proofs.YtlfnfphkhokdiaaDoor
