/-
  Parts of the proof, in order. Contract of the program's simulate.Run. Conditions: the arguments read as a machine, inputs and a word.
-/
import Derived.Test.YtjmejfgkogjpaaaGreatDoorJ10
namespace Go.Proofs.YtjmejfgkogjpaaaGreatDoor
open Go.RowKit Go Go.Shelf
attribute [local go_sem] Oper.semAt_some

/-- what stands while region 4 is drawn -/
structure C4 (W2 : World) (v : Value) (inputs : List Int) (word : List Rd) (D : Nat → Bool) (x : Nat → Value) (W : World) : Prop where
  b : Below W2.heap.size W2 W
  i : D 1 = true → IsInts W (x 1) inputs
  j : D 3 = true → IsWord W (x 3) word
  k : D 5 = true → ∃ a b, x 5 = .agg (trC a b v (.slice none 0 0) (.slice none 0 0) (.slice none 0 0)) ∧ IsInts W a inputs ∧ IsWord W b word
  t : D 6 = true → ∃ g cs, x 6 = .pointer (some ⟨g, 0, none⟩) ∧ W2.heap.size ≤ g ∧ W.heap[g]? = some (.cells cs 35) ∧ (D 7 = false → cs = zeroTr) ∧ (D 7 = true → ∃ a b, cs = trC a b v (.slice none 0 0) (.slice none 0 0) (.slice none 0 0) ∧ IsInts W a inputs ∧ IsWord W b word)
  o : D 7 = true → D 6 = true
theorem C4.grow {W2 : World} {v : Value} {inputs : List Int} {word : List Rd} {D : Nat → Bool} {x : Nat → Value} {W W' : World} (h : C4 W2 v inputs word D x W) (hb : Below W.heap.size W W') : C4 W2 v inputs word D x W' := by
  refine ⟨ext_trans h.b hb, fun q => (h.i q).up up_int hb, fun q => (h.j q).up up_round hb, fun q => ?_, fun q => ?_, h.o⟩
  · obtain ⟨a, b, e, h1, h2⟩ := h.k q
    exact ⟨a, b, e, h1.up up_int hb, h2.up up_round hb⟩
  · obtain ⟨g, cs, e, h1, h2, h3, h4⟩ := h.t q
    refine ⟨g, cs, e, h1, block_up hb h2, h3, fun q7 => ?_⟩
    obtain ⟨a, b, e', h5, h6⟩ := h4 q7
    exact ⟨a, b, e', h5.up up_int hb, h6.up up_round hb⟩

theorem ck_set0 {W : World} {B : Nat} {x : Value} {t : TypeId} (h : W.heap[B]? = some (.cells #[x] t)) : CK W (W.setCell ⟨B, 0, none⟩ x) := by
  intro k o hk ho
  by_cases e : k = B
  · subst e
    rw [h] at hk
    cases hk
    rw [setCell_same h]
    rfl
  · exact setCell_other hk e _ _
theorem ck_putD {W : World} {D : Nat} {a : Option (List Deferred)} (o' : Obj) (h : W.heap[D]? = some (.deferred a)) : CK W (W.putObj D o') := fun k o hk ho =>
  (World.putObj_heap_other (fun e => by (subst e; rw [h] at hk; cases hk; cases ho))).trans hk

theorem sim_results (tmps : Array Value) (B C : Nat) (W : World) (vi vw vs vm vd vt : Value) (x : Int) (ty ty' : TypeId) (h1 : tmps[6]?.getD undef = .pointer (some ⟨B, 0, none⟩)) (h2 : tmps[7]?.getD undef = .pointer (some ⟨C, 0, none⟩))
    (hb : W.heap[B]? = some (.cells (trC vi vw vs vm vd vt) ty)) (hc : W.heap[C]? = some (.cells #[.int .i64 x] ty')) :
    (results Tryz.f7 tmps).run Tryz.prog W = .ok (.tuple #[.agg (trC vi vw vs vm vd vt), .int .i64 x]) W := by
  have c := cell_block hb
  have d := cell_block hc 0
  simp at d
  simp [results, Tryz.results7, go_sem, h1, h2, c, d]

set_option maxRecDepth 100000 in
set_option maxHeartbeats 8000000 in
theorem simRun_any (m : Mac) (vf vy vt vo vi vw : Value) (inputs : List Int) (word : List Rd) (w : World) (hf : IsVecs w vf m.first) (hy : IsV4 w vy m.syms) (ht : IsSteps w vt m.steps) (ho : IsV3 w vo m.out) (hi : IsInts w vi inputs) (hw : IsWord w vw word) :
    Calls Tryz.prog 7 #[.agg (macC m vf vy vt vo), vi, vw] w fun e w' => ∃ ui uw us um ud ut, e = .returned (.tuple #[.agg (trC ui uw us um ud ut), .int .i64 (playE m inputs word)]) ∧ (playE m inputs word = 0 → IsTr w' (madeT m inputs word) ui uw us um ud ut) ∧ (playE m inputs word ≠ 0 → trC ui uw us um ud ut = zeroTr) ∧ Below w.heap.size w w' := by
  have HF := Lib.hid hf
  have HY := Lib.hid hy
  have HT := Lib.hid ht
  have HO := Lib.hid ho
  have HI := Lib.hid hi
  have HW := Lib.hid hw
  have HPLAY := Lib.hid (fun W (hb : Below w.heap.size w W) => play_any m vf vy vt vo vi vw inputs word W (hf.up up_ints hb) (hy.up up_v3 hb) (ht.up up_step hb) (ho.up up_vecs hb) (hi.up up_int hb) (hw.up up_round hb))
  obtain ⟨pf, cf, rfl, _⟩ := hf.at
  obtain ⟨py, cy, rfl, _⟩ := hy.at
  obtain ⟨pt, ct, rfl, _⟩ := ht.at
  obtain ⟨po, co, rfl, _⟩ := ho.at
  obtain ⟨pi, ci, rfl, li1, li2, _⟩ := hi.at
  obtain ⟨pw, cw, rfl, lw1, lw2, _⟩ := hw.at
  clear hf hy ht ho hi hw
  obtain ⟨pe, hpe⟩ : ∃ pe, playE m inputs word = pe := ⟨_, rfl⟩
  rw [hpe]
  have HPE := Lib.hid hpe
  clear hpe
  refine calls_marks Tryz.func7 rfl ?_
  simp only [Tryz.ntmps7, List.size_toArray, List.length_cons, List.length_nil, Nat.reduceAdd, Nat.reduceSub, Array.replicate_succ, Array.replicate_zero, List.push_toArray, List.append_toArray, List.nil_append, List.cons_append]
  go_wp2_with fail
  refine calls_gen (fun W => Below w.heap.size w W ∧ W.heap[w.heap.size]? = some (.cells (macC m (.slice pf m.first.length cf) (.slice py m.syms.length cy) (.slice pt m.steps.length ct) (.slice po m.out.length co)) 27) ∧ W.heap[w.heap.size + 1]? = some (.cells zeroTr 35) ∧ W.heap[w.heap.size + 1 + 1]? = some (.cells #[.int .i64 0] 36)) ⟨by go_grown, alloc_old _ (alloc_old _ (alloc_new _ _)), alloc_old _ (alloc2_new _ _ _), alloc3_new _ _ _ _⟩ (fun W0 hW0 => ?_)
  obtain ⟨hb0, hM0, hR0, hE0⟩ := hW0
  have H0 := Lib.hid (And.intro hM0 (And.intro hR0 hE0))
  clear hM0 hR0 hE0
  refine (HPLAY.out W0 hb0).mono ?_
  rintro e w1 ⟨v, rfl, hv1, hv2, hb1⟩
  rw [HPE.out]
  have hbw1 := ext_trans hb0 hb1
  have HM1 := Lib.hid (block_up hb1 H0.out.1)
  have HR1 := Lib.hid (block_up hb1 H0.out.2.1)
  have HE1 := Lib.hid (block_up hb1 H0.out.2.2)
  have HV1 := Lib.hid hv1
  have hsv : ∃ a l c, v = .slice a l c := by
    by_cases h : playE m inputs word = 0
    · obtain ⟨a, c, e, _⟩ := (hv1 h).at
      exact ⟨_, _, _, e⟩
    · exact ⟨_, _, _, hv2 h⟩
  obtain ⟨av, lv, cv, rfl⟩ := hsv
  clear hv1 hv2 HPLAY
  by_cases hpz : pe = 0
  case neg =>
    have hpz' : (pe != 0) = true := by simpa using hpz
    go_wp2_with fail
    refine wp_gen (fun W => Below w.heap.size w W ∧ W.heap[w.heap.size + 1]? = some (.cells zeroTr 35) ∧ W.heap[w.heap.size + 1 + 1]? = some (.cells #[.int .i64 0] 36) ∧ W.heap[w1.heap.size + 1]? = some (.cells #[.int .i64 pe] 36)) ⟨(hbw1.alloc hbw1.size _).alloc (by simp; have := hbw1.size; omega) _, alloc_old _ (alloc_old _ HR1.out), alloc_old _ (alloc_old _ HE1.out), alloc2_new _ _ _⟩ (fun W2 hW2 => ?_)
    have hs1 := hbw1.size
    have hsE := block_lt HE1.out
    clear hpz'
    refine wp_region_core 4 [27, 28, 4, 5] [some (.agg zeroTr),
      some (.int .i64 pe),
      some (undef),
      some (undef)] (fun D _ W => Below w.heap.size w W ∧ W.heap[w.heap.size + 1]? = some (.cells zeroTr 35) ∧ (∃ y, W.heap[w.heap.size + 1 + 1]? = some (.cells #[.int .i64 y] 36) ∧ (D 3 = true → y = pe)) ∧ W.heap[w1.heap.size + 1]? = some (.cells #[.int .i64 pe] 36)) (by kernel_rfl) rfl (by decide) rfl (by kernel_rfl) (fun _ => ⟨hW2.1.drew, hW2.2.1, ⟨0, hW2.2.2.1, fun h => by cases h⟩, hW2.2.2.2⟩) ?step ?tail
    case step =>
      intro x W D i o s F hi ho hs hD hun hdep hv hcore hF
      have hcase : i = 0 ∨ i = 1 ∨ i = 2 ∨ i = 3 := by omega
      rcases hcase with rfl | rfl | rfl | rfl
      · obtain rfl := Option.some.inj ho.symm
        obtain rfl := Option.some.inj hs.symm
        clear hdep hi ho hs hv
        clear hF hun
        have HD := Lib.hid hD
        have HCORE := Lib.hid hcore
        clear hD hcore
        go_wp2_with fail
        refine CoreK.mk _ (fun c hc => Option.some.inj hc) ?_ rfl
        exact HCORE.out
      · obtain rfl := Option.some.inj ho.symm
        obtain rfl := Option.some.inj hs.symm
        clear hdep hi ho hs hv
        have e9 : F.getD 9 undef = .pointer (some ⟨w1.heap.size + 1, 0, none⟩) := by (rw [hF, setAll_getD_ne (by decide)]; rfl)
        clear hF hun
        have t := cell_block hcore.2.2.2 0
        simp at t
        have e9' := (show F[9]?.getD undef = F.getD 9 undef by simp only [Array.getD_eq_getD_getElem?]).trans e9
        have HD := Lib.hid hD
        have HCORE := Lib.hid hcore
        clear hD hcore
        go_wp2_with fail
        refine CoreK.mk _ (fun c hc => Option.some.inj hc) ?_ rfl
        exact HCORE.out
      · obtain rfl := Option.some.inj ho.symm
        obtain rfl := Option.some.inj hs.symm
        have g0 := hdep ⟨0, .data⟩ (by simp) rfl
        have d0 : x 0 = .agg zeroTr := hv 0 _ (by omega) g0 rfl
        clear hdep hi ho hs hv
        have e6 : F.getD 6 undef = .pointer (some ⟨w.heap.size + 1, 0, none⟩) := by (rw [hF, setAll_getD_ne (by decide)]; rfl)
        have e27 : F.getD 27 undef = .agg zeroTr := by (rw [← d0, hF]; exact setAll_getD (by decide) (i := 0) rfl (Nat.le_of_ble_eq_true (by kernel_rfl)))
        have hself0 : F = F.setIfInBounds 4 undef := by (have hun' : x 2 = undef := hun; rw [← hun', hF]; exact setAll_self1 (by decide) rfl)
        have hself := Lib.hid hself0
        clear hself0
        clear hF hun d0
        have t := cell_block hcore.2.1
        have f := frozen_block hcore.2.1
        have e6' := (show F[6]?.getD undef = F.getD 6 undef by simp only [Array.getD_eq_getD_getElem?]).trans e6
        have e27' := (show F[27]?.getD undef = F.getD 27 undef by simp only [Array.getD_eq_getD_getElem?]).trans e27
        have HD := Lib.hid hD
        have HCORE := Lib.hid hcore
        clear hD hcore
        clear g0
        go_wp2_with fail
        refine CoreK.mk undef (fun c hc => Option.some.inj hc) ?_ (congrArg (fun t => Act.mk t _) hself.out)
        obtain ⟨h1, h2, ⟨y, h3, h4⟩, h5⟩ := HCORE.out
        obtain ⟨p1, p2, p3, p4⟩ := put6 h2 rfl (.slice none 0 0) (.slice none 0 0) (.slice none 0 0) (.slice none 0 0) (.slice none 0 0) (.slice none 0 0) _ rfl
        exact ⟨p4 _ _ (by omega) h1, p1, ⟨y, (p2 _ (by omega)).trans h3, h4⟩, (p2 _ (by omega)).trans h5⟩
      · obtain rfl := Option.some.inj ho.symm
        obtain rfl := Option.some.inj hs.symm
        have g1 := hdep ⟨1, .data⟩ (by simp) rfl
        have d1 : x 1 = .int .i64 pe := hv 1 _ (by omega) g1 rfl
        clear hdep hi ho hs hv
        have e7 : F.getD 7 undef = .pointer (some ⟨w.heap.size + 1 + 1, 0, none⟩) := by (rw [hF, setAll_getD_ne (by decide)]; rfl)
        have e28 : F.getD 28 undef = .int .i64 pe := by (rw [← d1, hF]; exact setAll_getD (by decide) (i := 1) rfl (Nat.le_of_ble_eq_true (by kernel_rfl)))
        have hself0 : F = F.setIfInBounds 5 undef := by (have hun' : x 3 = undef := hun; rw [← hun', hF]; exact setAll_self1 (by decide) rfl)
        have hself := Lib.hid hself0
        clear hself0
        clear hF hun d1
        obtain ⟨h1, h2, ⟨y, h3, h4⟩, h5⟩ := hcore
        have t := cell_block h3 0
        have f := frozen_block h3 0
        simp at t
        have H := Lib.hid (And.intro h1 (And.intro h2 (And.intro h3 h5)))
        clear h1 h2 h3 h4 h5
        have hcore := trivial
        have e7' := (show F[7]?.getD undef = F.getD 7 undef by simp only [Array.getD_eq_getD_getElem?]).trans e7
        have e28' := (show F[28]?.getD undef = F.getD 28 undef by simp only [Array.getD_eq_getD_getElem?]).trans e28
        have HD := Lib.hid hD
        have HCORE := Lib.hid hcore
        clear hD hcore
        clear g1
        go_wp2_with fail
        refine CoreK.mk undef (fun c hc => Option.some.inj hc) ?_ (congrArg (fun t => Act.mk t _) hself.out)
        exact ⟨H.out.1.setCell (p := ⟨w.heap.size + 1 + 1, 0, none⟩) (by dsimp only; omega) _, setCell_other H.out.2.1 (by omega) _ _, ⟨pe, by rw [setCell_same H.out.2.2.1]; rfl, fun _ => rfl⟩, setCell_other H.out.2.2.2 (by omega) _ _⟩
    case tail =>
      intro x W D F hall hv hcore hF
      have e6 : F[6]?.getD undef = .pointer (some ⟨w.heap.size + 1, 0, none⟩) := by rw [hF]; rfl
      have e7 : F[7]?.getD undef = .pointer (some ⟨w.heap.size + 1 + 1, 0, none⟩) := by rw [hF]; rfl
      obtain ⟨h1, h2, ⟨y, h3, h4⟩, h5⟩ := hcore
      obtain rfl := h4 (hall 3 (by omega))
      have H := Lib.hid (And.intro h1 (And.intro h2 h3))
      clear h1 h2 h3 h4 h5 hF hv hall
      go_wp2_with fail
      refine marks_ret0 (sim_results _ _ _ _ _ _ _ _ _ _ _ _ _ e6 e7 H.out.2.1 H.out.2.2) ?_
      exact ⟨_, _, _, _, _, _, rfl, fun h => absurd h hpz, fun _ => rfl, H.out.1⟩
  subst hpz
  obtain ⟨n, r, hok⟩ := playE_zero HPE.out
  have HOK := Lib.hid hok
  clear hok
  have hV := HV1.out HPE.out
  obtain ⟨L, hL⟩ : ∃ L, runL m inputs word = L := ⟨_, rfl⟩
  rw [hL] at hV
  have HL := Lib.hid hL
  have HVV := Lib.hid hV
  obtain ⟨av', cv', ev, lv1, lv2, _⟩ := hV.at
  injection ev with e1 e2 e3
  subst e1 e2 e3
  clear hV hL HV1
  have HNE : Hid (∀ x ∈ L, x ≠ []) := by
    have h : ∀ x ∈ L, x ≠ [] := fun x hx => by
      obtain ⟨k, hk, rfl⟩ := List.getElem_of_mem hx
      have h1 := HL.out
      subst h1
      have h2 := (runL_fits HOK.out.good (word := word) HOK.out.il HOK.out.ir k _ (List.getElem?_eq_getElem hk)).1
      have h3 := HOK.out.good.n1
      intro e
      rw [e] at h2
      simp at h2
      omega
    exact h
  go_wp2_with fail
  refine wp_gen (fun W => Below w1.heap.size w1 W ∧ W.heap[w1.heap.size]? = some (.cells #[.slice av L.length cv] 22) ∧ W.heap[w1.heap.size + 1]? = some (.cells #[.int .i64 0] 36)) ⟨by go_grown, alloc_old _ (alloc_new _ _), alloc2_new _ _ _⟩ (fun W2 hW2 => ?_)
  have HW2 := Lib.hid hW2
  have hs1 := hbw1.size
  have hsE := block_lt HE1.out
  have hbw2 := ext_trans hbw1 hW2.1
  clear hW2
  refine wp_region_core 8 [29, 30, 31, 32, 33, 34, 10, 4] [some (.slice pi inputs.length ci),
    none,
    some (.slice pw word.length cw),
    none,
    some (.slice av L.length cv),
    none,
    none,
    some (undef)] (C4 W2 (.slice av L.length cv) inputs word) (by kernel_rfl) rfl (by decide) rfl (by kernel_rfl) (fun _ => ⟨(Below.refl _ _).drew, nofun, nofun, nofun, nofun, nofun⟩) ?step ?tail
  case step =>
    intro x W D i o s F hi ho hs hD hun hdep hv hcore hF
    have hcase : i = 0 ∨ i = 1 ∨ i = 2 ∨ i = 3 ∨ i = 4 ∨ i = 5 ∨ i = 6 ∨ i = 7 := by omega
    rcases hcase with rfl | rfl | rfl | rfl | rfl | rfl | rfl | rfl
    · obtain rfl := Option.some.inj ho.symm
      obtain rfl := Option.some.inj hs.symm
      clear hdep hi ho hs hv
      have e1 : F.getD 1 undef = .slice pi inputs.length ci := by (rw [hF, setAll_getD_ne (by decide)]; rfl)
      clear hF hun
      have e1' := (show F[1]?.getD undef = F.getD 1 undef by simp only [Array.getD_eq_getD_getElem?]).trans e1
      have HD := Lib.hid hD
      have HCORE := Lib.hid hcore
      clear hD hcore
      refine core_move (.tmp 1) rfl rfl ?_
      refine CoreK.mk (F.getD 1 undef) (fun c hc => e1.trans (Option.some.inj hc)) ?_ rfl
      exact ⟨HCORE.out.b, HCORE.out.i, HCORE.out.j, HCORE.out.k, HCORE.out.t, HCORE.out.o⟩
    · obtain rfl := Option.some.inj ho.symm
      obtain rfl := Option.some.inj hs.symm
      have g0 := hdep ⟨0, .data⟩ (by simp) rfl
      have d0 : x 0 = .slice pi inputs.length ci := hv 0 _ (by omega) g0 rfl
      clear hdep hi ho hs hv
      have e29 : F.getD 29 undef = .slice pi inputs.length ci := by (rw [← d0, hF]; exact setAll_getD (by decide) (i := 0) rfl (Nat.le_of_ble_eq_true (by kernel_rfl)))
      clear hF hun d0
      have e29' := (show F[29]?.getD undef = F.getD 29 undef by simp only [Array.getD_eq_getD_getElem?]).trans e29
      have HD := Lib.hid hD
      have HCORE := Lib.hid hcore
      clear hD hcore
      clear g0
      go_wp2_with fail
      refine (cloneInts_any _ inputs W (HI.out.up up_int (ext_trans hbw2 HCORE.out.b)) (by have := HOK.out.il; have := HOK.out.good.n5; omega)).mono ?_
      rintro e W' ⟨u, rfl, hu, hb⟩
      have HU := Lib.hid hu
      have HB := Lib.hid hb
      obtain ⟨au, cu, rfl, _⟩ := hu.at
      clear hu hb
      go_wp2_with fail
      refine CoreK.mk _ (fun c hc => by cases hc) ?_ rfl
      exact (fun h : C4 _ _ _ _ _ _ _ => ⟨h.b, fun _ => HU.out, h.j, h.k, h.t, h.o⟩) (HCORE.out.grow HB.out)
    · obtain rfl := Option.some.inj ho.symm
      obtain rfl := Option.some.inj hs.symm
      clear hdep hi ho hs hv
      have e2 : F.getD 2 undef = .slice pw word.length cw := by (rw [hF, setAll_getD_ne (by decide)]; rfl)
      clear hF hun
      have e2' := (show F[2]?.getD undef = F.getD 2 undef by simp only [Array.getD_eq_getD_getElem?]).trans e2
      have HD := Lib.hid hD
      have HCORE := Lib.hid hcore
      clear hD hcore
      refine core_move (.tmp 2) rfl rfl ?_
      refine CoreK.mk (F.getD 2 undef) (fun c hc => e2.trans (Option.some.inj hc)) ?_ rfl
      exact ⟨HCORE.out.b, HCORE.out.i, HCORE.out.j, HCORE.out.k, HCORE.out.t, HCORE.out.o⟩
    · obtain rfl := Option.some.inj ho.symm
      obtain rfl := Option.some.inj hs.symm
      have g2 := hdep ⟨2, .data⟩ (by simp) rfl
      have d2 : x 2 = .slice pw word.length cw := hv 2 _ (by omega) g2 rfl
      have g1 := hdep ⟨1, .chain⟩ (by simp) rfl
      clear hdep hi ho hs hv
      have e31 : F.getD 31 undef = .slice pw word.length cw := by (rw [← d2, hF]; exact setAll_getD (by decide) (i := 2) rfl (Nat.le_of_ble_eq_true (by kernel_rfl)))
      clear hF hun d2
      have e31' := (show F[31]?.getD undef = F.getD 31 undef by simp only [Array.getD_eq_getD_getElem?]).trans e31
      have HD := Lib.hid hD
      have HCORE := Lib.hid hcore
      clear hD hcore
      clear g2
      clear g1
      go_wp2_with fail
      refine (cloneWord_any _ word W (HW.out.up up_round (ext_trans hbw2 HCORE.out.b)) (by have := HOK.out.wl; have := HOK.out.good.r6; omega)).mono ?_
      rintro e W' ⟨u, rfl, hu, hb⟩
      have HU := Lib.hid hu
      have HB := Lib.hid hb
      obtain ⟨au, cu, rfl, _⟩ := hu.at
      clear hu hb
      go_wp2_with fail
      refine CoreK.mk _ (fun c hc => by cases hc) ?_ rfl
      exact (fun h : C4 _ _ _ _ _ _ _ => ⟨h.b, h.i, fun _ => HU.out, h.k, h.t, h.o⟩) (HCORE.out.grow HB.out)
    · obtain rfl := Option.some.inj ho.symm
      obtain rfl := Option.some.inj hs.symm
      clear hdep hi ho hs hv
      have e8 : F.getD 8 undef = .pointer (some ⟨w1.heap.size, 0, none⟩) := by (rw [hF, setAll_getD_ne (by decide)]; rfl)
      clear hF hun
      have t := cell_block (block_up hcore.b HW2.out.2.1) 0
      simp at t
      have e8' := (show F[8]?.getD undef = F.getD 8 undef by simp only [Array.getD_eq_getD_getElem?]).trans e8
      have HD := Lib.hid hD
      have HCORE := Lib.hid hcore
      clear hD hcore
      go_wp2_with fail
      refine CoreK.mk _ (fun c hc => Option.some.inj hc) ?_ rfl
      exact ⟨HCORE.out.b, HCORE.out.i, HCORE.out.j, HCORE.out.k, HCORE.out.t, HCORE.out.o⟩
    · obtain rfl := Option.some.inj ho.symm
      obtain rfl := Option.some.inj hs.symm
      have g1 := hdep ⟨1, .data⟩ (by simp) rfl
      have g3 := hdep ⟨3, .data⟩ (by simp) rfl
      have g4 := hdep ⟨4, .data⟩ (by simp) rfl
      have d4 : x 4 = .slice av L.length cv := hv 4 _ (by omega) g4 rfl
      clear hdep hi ho hs hv
      have e30 : F.getD 30 undef = x 1 := by (rw [hF]; exact setAll_getD (by decide) (i := 1) rfl (Nat.le_of_ble_eq_true (by kernel_rfl)))
      have e32 : F.getD 32 undef = x 3 := by (rw [hF]; exact setAll_getD (by decide) (i := 3) rfl (Nat.le_of_ble_eq_true (by kernel_rfl)))
      have e33 : F.getD 33 undef = .slice av L.length cv := by (rw [← d4, hF]; exact setAll_getD (by decide) (i := 4) rfl (Nat.le_of_ble_eq_true (by kernel_rfl)))
      clear hF hun d4
      obtain ⟨a1, c1, q1, _⟩ := (hcore.i g1).at
      obtain ⟨a3, c3, q3, _⟩ := (hcore.j g3).at
      have HG := Lib.hid (And.intro (hcore.i g1) (hcore.j g3))
      rw [q1] at e30 HG
      rw [q3] at e32 HG
      clear q1 q3
      have e30' := (show F[30]?.getD undef = F.getD 30 undef by simp only [Array.getD_eq_getD_getElem?]).trans e30
      have e32' := (show F[32]?.getD undef = F.getD 32 undef by simp only [Array.getD_eq_getD_getElem?]).trans e32
      have e33' := (show F[33]?.getD undef = F.getD 33 undef by simp only [Array.getD_eq_getD_getElem?]).trans e33
      have HD := Lib.hid hD
      have HCORE := Lib.hid hcore
      clear hD hcore
      clear g1
      clear g3
      clear g4
      go_wp2_with fail
      refine CoreK.mk _ (fun c hc => by cases hc) ?_ rfl
      exact ⟨HCORE.out.b, HCORE.out.i, HCORE.out.j, fun _ => ⟨_, _, rfl, HG.out.1, HG.out.2⟩, HCORE.out.t, HCORE.out.o⟩
    · obtain rfl := Option.some.inj ho.symm
      obtain rfl := Option.some.inj hs.symm
      clear hdep hi ho hs hv
      clear hF hun
      have HD := Lib.hid hD
      have HCORE := Lib.hid hcore
      clear hD hcore
      go_wp2_with fail
      refine CoreK.mk _ (fun c hc => by cases hc) ?_ rfl
      have h := HCORE.out.grow (W' := W.alloc (.cells zeroTr 35)) (by go_grown)
      have h7 : D 7 = false := by
        cases h : D 7 with
        | false => rfl
        | true => exact absurd (HCORE.out.o h) (by rw [HD.out]; decide)
      exact ⟨h.b, h.i, h.j, h.k, fun _ => ⟨W.heap.size, zeroTr, rfl, HCORE.out.b.size, alloc_new _ _, fun _ => rfl, fun q => absurd (h7.symm.trans q) (by decide)⟩, fun q => absurd (h7.symm.trans q) (by decide)⟩
    · obtain rfl := Option.some.inj ho.symm
      obtain rfl := Option.some.inj hs.symm
      have g6 := hdep ⟨6, .data⟩ (by simp) rfl
      have g5 := hdep ⟨5, .data⟩ (by simp) rfl
      clear hdep hi ho hs hv
      have e10 : F.getD 10 undef = x 6 := by (rw [hF]; exact setAll_getD (by decide) (i := 6) rfl (Nat.le_of_ble_eq_true (by kernel_rfl)))
      have e34 : F.getD 34 undef = x 5 := by (rw [hF]; exact setAll_getD (by decide) (i := 5) rfl (Nat.le_of_ble_eq_true (by kernel_rfl)))
      have hself0 : F = F.setIfInBounds 4 undef := by (have hun' : x 7 = undef := hun; rw [← hun', hF]; exact setAll_self1 (by decide) rfl)
      have hself := Lib.hid hself0
      clear hself0
      clear hF hun
      obtain ⟨g, cs, q6, hg, hc, hz, _⟩ := hcore.t g6
      obtain rfl := hz hD
      obtain ⟨a, b, q5, ha, hb⟩ := hcore.k g5
      have ha' := ha
      have hb' := hb
      obtain ⟨pa, ca, rfl, _⟩ := ha'.at
      obtain ⟨pb, cb, rfl, _⟩ := hb'.at
      clear ha' hb'
      rw [q6] at e10
      rw [q5] at e34
      have t := cell_block hc
      have f := frozen_block hc
      have HG := Lib.hid (And.intro q6 (And.intro hg (And.intro hc (And.intro ha (And.intro hb (And.intro g6 q5))))))
      clear q6 q5 hg hc ha hb hz
      have e10' := (show F[10]?.getD undef = F.getD 10 undef by simp only [Array.getD_eq_getD_getElem?]).trans e10
      have e34' := (show F[34]?.getD undef = F.getD 34 undef by simp only [Array.getD_eq_getD_getElem?]).trans e34
      have HD := Lib.hid hD
      have HCORE := Lib.hid hcore
      clear hD hcore
      clear g6
      clear g5
      go_wp2_with fail
      refine CoreK.mk undef (fun c hc => Option.some.inj hc) ?_ (congrArg (fun t => Act.mk t _) hself.out)
      obtain ⟨q6, hg, hc, ha, hb, g6, q5⟩ := HG.out
      obtain ⟨p1, p2, p3, p4⟩ := put6 hc rfl (.slice pa inputs.length ca) (.slice pb word.length cb) (.slice av L.length cv) (.slice none 0 0) (.slice none 0 0) (.slice none 0 0) _ rfl
      have hnk := put6_nk hc p1 p2
      have h := HCORE.out
      exact ⟨p4 _ _ hg h.b, fun q => ints_nk hnk (h.i q), fun q => word_nk hnk (h.j q), fun q => ⟨_, _, q5, ints_nk hnk ha, word_nk hnk hb⟩, fun _ => ⟨g, _, q6, hg, p1, fun q => by simp [upd] at q, fun _ => ⟨_, _, rfl, ints_nk hnk ha, word_nk hnk hb⟩⟩, fun _ => g6⟩
  case tail =>
    intro x W3 D F hall hv hcore hF
    obtain ⟨Bt, cs, q6, hBt, hT3, _, h7⟩ := hcore.t (hall 6 (by omega))
    obtain ⟨a, b, rfl, ha, hb⟩ := h7 (hall 7 (by omega))
    have x0 : x 0 = .slice pi inputs.length ci := hv 0 _ (by omega) rfl
    have x2 : x 2 = .slice pw word.length cw := hv 2 _ (by omega) rfl
    have x4 : x 4 = .slice av L.length cv := hv 4 _ (by omega) rfl
    have x7 : x 7 = undef := hv 7 _ (by omega) rfl
    simp only [setAll, setFrom, List.setIfInBounds_toArray, List.set_cons_succ, List.set_cons_zero, Nat.reduceAdd] at hF
    rw [x0, x2, x4, x7, q6] at hF
    generalize x 1 = y1 at hF
    generalize x 3 = y3 at hF
    generalize x 5 = y5 at hF
    subst hF
    have ha' := ha
    have hb' := hb
    obtain ⟨pa, ca, rfl, _⟩ := ha'.at
    obtain ⟨pb, cb, rfl, _⟩ := hb'.at
    have H3 := Lib.hid (And.intro hcore.b (And.intro hBt (And.intro hT3 (And.intro ha hb))))
    clear ha hb ha' hb' hv hall q6 x0 x2 x4 x7 hcore h7 hT3
    have hbw3 := ext_trans hbw2 H3.out.1
    have t1 := cell_block (block_up H3.out.1 (block_up HW2.out.1 HM1.out))
    go_wp2_with fail
    refine (places_any _ _ _ _ _).mono ?_
    rintro e w4 ⟨rfl, rfl⟩
    clear t1
    go_wp2_with fail
    have hnn : m.n = (n : Int) := HOK.out.good.hn
    refine wp_gen (fun W => Below W3.heap.size W3 W ∧ W.heap[W3.heap.size]? = some (.cells #[.int .i64 (n : Int)] 3) ∧ W.heap[W3.heap.size + 1]? = some (.cells #[.slice pw word.length cw] 29)) ⟨by go_grown, by rw [← hnn]; exact alloc_old _ (alloc_new _ _), alloc2_new _ _ _⟩ (fun W5 hW5 => ?_)
    clear hnn
    have H5 := Lib.hid hW5
    have hbw5 := ext_trans hbw3 hW5.1
    have hseq := places1_seq w _ word HW.out n HOK.out.good.n5 W5 hbw5 (W3.heap.size + 1) W3.heap.size (by simp [cell_block hW5.2.2]) hW5.2.1
    clear hW5
    obtain ⟨PL, hPL⟩ : ∃ PL, placesL n word = PL := ⟨_, rfl⟩
    have HPL : Hid (∀ x ∈ PL, x.1 < r ∧ x.2.1 < n ∧ x.2.2 < n ∧ x.2.1 ≠ x.2.2) := by
      have h : ∀ x ∈ PL, x.1 < r ∧ x.2.1 < n ∧ x.2.2 < n ∧ x.2.1 ≠ x.2.2 := fun x hx => by
        rw [← hPL] at hx
        have h1 := placesL_mem hx
        have h2 := placesL_ne hx
        have h3 := HOK.out.wl
        exact ⟨by omega, h1.2.1, h1.2.2, h2⟩
      exact h
    have HPLL : Hid (PL.length ≤ 150) := by
      have h : PL.length ≤ 150 := by
        have h1 := placesL_len n word
        have h2 := HOK.out.wl
        have h3 := HOK.out.good.r6
        rw [hPL] at h1
        omega
      exact h
    have HP := Lib.hid hPL
    rw [hPL] at hseq
    clear hPL
    obtain ⟨xs, hxs⟩ : ∃ xs, PL.map (msgS m L) = xs := ⟨_, rfl⟩
    have HXL : Hid (xs.length = PL.length) := by
      have h : xs.length = PL.length := by rw [← hxs, List.length_map]
      exact h
    have HXS := Lib.hid hxs
    clear hxs
    have hE3 : w1.heap.size + 1 < W3.heap.size := Nat.lt_of_lt_of_le (block_lt HW2.out.2.2) H3.out.1.size
    have hBt3 : Bt < W3.heap.size := block_lt H3.out.2.2.1
    have hBe2 : w1.heap.size + 1 < W2.heap.size := block_lt HW2.out.2.2
    have hBt2 := H3.out.2.1
    have hs5 := H5.out.1.size
    have hw3s := hbw3.size
    obtain ⟨i0, hi0, hz0, hz1, hz2⟩ := info_parts Tryz.infoMsg
    refine wp_rangeMk (gf := 45) (lb := #[.pointer (some ⟨W3.heap.size + 1, 0, none⟩), .pointer (some ⟨W3.heap.size, 0, none⟩)]) rfl (enters_of Tryz.func45 (by kernel_rfl) rfl) hseq (Below.refl _ _) (fun k hk => by rcases hk with hk | hk; omega; have := block_lt H5.out.2.1; omega) (fun i args _ _ h => by rw [h]; rfl)
      (SI w W3 Bt (w1.heap.size + 1) (.slice pa inputs.length ca) (.slice pb word.length cb) (.slice av L.length cv) xs) (fun _ _ _ _ => False)
      (fun i T T' A A' h hc hw => h.next hE3 (by omega) hc hw) (fun _ _ _ _ _ _ h _ _ => h)
      ⟨hbw5, fun k o hk _ _ => block_up H5.out.1 hk, hs5, fun k hk => by (rcases hk with hk | hk; omega; have := block_lt H5.out.2.1; omega), fun h => by (rcases h with h | h <;> omega), fun h => by (rcases h with h | h <;> omega), _, block_up H5.out.1 H3.out.2.2.1, OwnT.nil _ _ _ _, fun g hg => by cases hg⟩ ?round ?done ?stop
    case round =>
      rintro l i T W args hi hl hlW hTl rfl hI
      have hiX : i < xs.length := by rw [HXL.out]; exact hi
      have hx := HPL.out PL[i] (List.getElem_mem hi)
      have HFL := Lib.hid (flatM_snoc xs i hiX)
      have hgx : xs.getD i default = msgS m L PL[i] := by
        have h1 := HXS.out
        subst h1
        rw [getD_of_lt default hiX, List.getElem_map]
      rw [hgx] at HFL
      rw [getD_of_lt (0, 0, 0) hi]
      clear hgx hiX
      generalize PL[i] = x at hx HFL
      obtain ⟨k, p, q⟩ := x
      dsimp only at hx
      rw [show encP (k, p, q) = #[.agg #[.int .i64 (k : Int), .int .i64 (p : Int), .int .i64 (q : Int), .string ⟨#[]⟩]] from rfl]
      obtain ⟨hkr, hpn, hqn, hpq⟩ := hx
      have hkL : k < L.length := by
        have h1 := HOK.out.rl
        rw [HL.out] at h1
        omega
      have hfit := runL_fits HOK.out.good (word := word) HOK.out.il HOK.out.ir k L[k] (by rw [HL.out]; exact List.getElem?_eq_getElem hkL)
      obtain ⟨hfl, hfb⟩ := hfit
      have hs := hfb p hpn
      obtain ⟨sN, hsN⟩ : ∃ sN : Nat, L[k].getD p 0 = sN := ⟨(L[k].getD p 0).toNat, by omega⟩
      rw [hsN] at hs
      have hsl : sN < (((m.syms.getD k []).getD p []).getD q []).length := by
        rw [HOK.out.good.yq k p q hkr hpn hqn, if_neg hpq]
        omega
      obtain ⟨bs, hbs⟩ : ∃ bs, bytesOf (msgL k p q (symS m k p q sN).toNat) = bs := ⟨_, rfl⟩
      have hms : (msgS m L (k, p, q)).c = #[.int .i64 (k : Int), .int .i64 (p : Int), .int .i64 (q : Int), .string bs] := by
        unfold msgS
        dsimp only
        rw [getD_of_lt [] hkL, hsN, hbs]
      rw [hms] at HFL
      have HENC := Lib.hid (fun W' (hb : Below w.heap.size w W') => encode_any m n r HOK.out.good HOK.out.chk _ _ _ _ k p q sN hkr hpn hqn hpq hsl W' (HF.out.up up_ints hb) (HY.out.up up_v3 hb) (HT.out.up up_step hb) (HO.out.up up_vecs hb))
      rw [hbs] at HENC
      obtain ⟨_, _, evv, _, _, elv⟩ := HVV.out.at
      injection evv with ev1 ev2 ev3
      subst ev1 ev3
      obtain ⟨b1, o1, rfl, u, hcu, hu⟩ := elv k hkL
      obtain ⟨au, cu, rfl, lu1, lu2, eu⟩ := hu.at
      obtain ⟨b2, o2, rfl, hci, hir⟩ := eu p (by omega)
      clear hir
      rw [Nat.mul_one] at hcu hci
      rw [show L[k][p] = (sN : Int) by rw [← hsN, getD_of_lt 0 (by omega)]] at hci
      have HCU := Lib.hid hcu
      have HCI := Lib.hid hci
      have hpk : p < L[k].length := by omega
      generalize hnk : L[k].length = nk at HCU hpk lu1 lu2
      have HI := Lib.hid hI
      have hsW := hI.size
      have HTLT := Lib.hid hI.lt
      clear hI hseq hms hsN hs hsl hfl hfb hbs elv hu eu hcu hci hnk ev2
      gi_wp2
      refine ⟨Bod.of_below (fun k hk => HI.out.lt k hk) (by go_grown), fun W' => SI w W3 Bt (w1.heap.size + 1) (.slice pa inputs.length ca) (.slice pb word.length cb) (.slice (some ⟨b1, o1, none⟩) L.length cv) xs i T W' ∧ W'.heap[W.heap.size]? = some (.cells #[.int .i64 (k : Int), .int .i64 (p : Int), .int .i64 (q : Int), .string ⟨#[]⟩] 65) ∧ ∃ v, W'.heap[Bt]? = some (.cells (trC (.slice pa inputs.length ca) (.slice pb word.length cb) (.slice (some ⟨b1, o1, none⟩) L.length cv) v (.slice none 0 0) (.slice none 0 0)) 35) ∧ OwnT W' W3.heap.size 65 4 v i (flatM (xs.take i)) ∧ ∀ g, v.ownBlock = some g → ¬ T g ∧ g ≠ W.heap.size, fun A A' hc h => ⟨h.1.next hE3 (by omega) hc (Wid.refl _ _ _), hc.ck _ _ h.2.1 rfl, (by obtain ⟨v, r1, r2, r3⟩ := h.2.2; exact ⟨v, hc.ck _ _ r1 rfl, r2.ck hc.ck, r3⟩)⟩, ⟨HI.out.next hE3 (by omega) (Chg.of_below (B := W5.heap.size) (by go_grown)) (Wid.refl _ _ _), alloc_new _ _, (by obtain ⟨v, r1, r2, r3⟩ := HI.out.row; exact ⟨v, alloc_old _ r1, r2.up (by go_grown), fun g hg => ⟨r3 g hg, by have := (r2.lt g hg).2; omega⟩⟩)⟩, fun W2b h2 => ?_⟩
      intros
      obtain ⟨hc2, hm2, hrow2⟩ := h2
      have HROW2 := Lib.hid hrow2
      clear hrow2
      have HC2 := Lib.hid hc2
      have HBM2 := Lib.hid hm2
      have HM2 := Lib.hid (hc2.kept _ _ (block_up H3.out.1 (block_up HW2.out.1 HM1.out)) rfl (by omega))
      have HS2 := Lib.hid (hc2.kept _ _ (block_up H3.out.1 HW2.out.2.1) rfl (by omega))
      have HE2 := Lib.hid (hc2.kept _ _ (block_up H3.out.1 HW2.out.2.2) rfl (by omega))
      have hck2 : ∀ W', (∀ (j : Nat) (o : Obj), W2b.heap[j]? = some o → j ≠ W.heap.size → j ≠ w1.heap.size + 1 → W'.heap[j]? = some o) → CK w1 W' := fun W' hW' j o hj ho => by
        have := block_lt hj
        exact hW' j o (hc2.kept j o (block_up H3.out.1 (block_up HW2.out.1 hj)) ho (by omega)) (by omega) (by omega)
      have HCK := Lib.hid hck2
      clear hc2 hm2 hck2 HI
      gi_wp2
      refine round_region_core 23 [41, 42, 43, 44, 45, 46, 47, 48, 49, 50, 51, 52, 53, 54, 55, 56, 57, 40, 58, 59, 60, 4, 5] [some (.agg (macC m (.slice pf m.first.length cf) (.slice py m.syms.length cy) (.slice pt m.steps.length ct) (.slice po m.out.length co))),
        some (.pointer (some ⟨W.heap.size, 0, none⟩)),
        some (.int .i64 (k : Int)),
        some (.pointer (some ⟨W.heap.size, 1, none⟩)),
        some (.int .i64 (p : Int)),
        some (.pointer (some ⟨W.heap.size, 2, none⟩)),
        some (.int .i64 (q : Int)),
        some (.slice (some ⟨b1, o1, none⟩) L.length cv),
        some (.pointer (some ⟨W.heap.size, 0, none⟩)),
        some (.int .i64 (k : Int)),
        some (.pointer (some ⟨b1, o1 + k, none⟩)),
        some (.slice (some ⟨b2, o2, none⟩) nk cu),
        some (.pointer (some ⟨W.heap.size, 1, none⟩)),
        some (.int .i64 (p : Int)),
        some (.pointer (some ⟨b2, o2 + p, none⟩)),
        some (.int .i64 (sN : Int)),
        some (.tuple #[.string bs, .int .i64 0]),
        some (.tuple #[.string bs, .int .i64 0]),
        some (.string bs),
        some (.int .i64 0),
        some (.pointer (some ⟨W.heap.size, 3, none⟩)),
        some (undef),
        some (undef)] (C7 w W2b W.heap.size (w1.heap.size + 1) k p q bs) (by kernel_rfl) rfl (by decide) rfl (by kernel_rfl) (fun ⟨_, _, h⟩ => h) (by kernel_rfl) (fun _ => ⟨HC2.out.old.drew, Nat.le_refl _, fun _ _ h _ _ => h, HE2.out, _, HBM2.out, nofun⟩) ?step ?tail
      case step =>
        intro x W' D i o s F hi ho hs hD hun hdep hv hcore hF
        have hcase : i = 0 ∨ i = 1 ∨ i = 2 ∨ i = 3 ∨ i = 4 ∨ i = 5 ∨ i = 6 ∨ i = 7 ∨ i = 8 ∨ i = 9 ∨ i = 10 ∨ i = 11 ∨ i = 12 ∨ i = 13 ∨ i = 14 ∨ i = 15 ∨ i = 16 ∨ i = 17 ∨ i = 18 ∨ i = 19 ∨ i = 20 ∨ i = 21 ∨ i = 22 := by omega
        rcases hcase with rfl | rfl | rfl | rfl | rfl | rfl | rfl | rfl | rfl | rfl | rfl | rfl | rfl | rfl | rfl | rfl | rfl | rfl | rfl | rfl | rfl | rfl | rfl
        · obtain rfl := Option.some.inj ho.symm
          obtain rfl := Option.some.inj hs.symm
          clear hdep hi ho hs hv
          have e3 : F.getD 3 undef = .pointer (some ⟨w.heap.size, 0, none⟩) := by (rw [hF, setAll_getD_ne (by decide)]; rfl)
          clear hF hun
          have t := cell_block (hcore.kept _ _ HM2.out (by omega) (by omega))
          have e3' := (show F[3]?.getD undef = F.getD 3 undef by simp only [Array.getD_eq_getD_getElem?]).trans e3
          have HD := Lib.hid hD
          have HCORE := Lib.hid hcore
          clear hD hcore
          go_wp2_with fail
          refine CoreK.mk _ (fun c hc => Option.some.inj hc) ?_ rfl
          exact ⟨HCORE.out.old, HCORE.out.size, HCORE.out.kept, HCORE.out.be, HCORE.out.bm⟩
        · obtain rfl := Option.some.inj ho.symm
          obtain rfl := Option.some.inj hs.symm
          clear hdep hi ho hs hv
          have e11 : F.getD 11 undef = .pointer (some ⟨W.heap.size, 0, none⟩) := by (rw [hF, setAll_getD_ne (by decide)]; rfl)
          clear hF hun
          have e11' := (show F[11]?.getD undef = F.getD 11 undef by simp only [Array.getD_eq_getD_getElem?]).trans e11
          have HD := Lib.hid hD
          have HCORE := Lib.hid hcore
          clear hD hcore
          go_wp2_with fail
          refine CoreK.mk _ (fun c hc => Option.some.inj hc) ?_ rfl
          exact ⟨HCORE.out.old, HCORE.out.size, HCORE.out.kept, HCORE.out.be, HCORE.out.bm⟩
        · obtain rfl := Option.some.inj ho.symm
          obtain rfl := Option.some.inj hs.symm
          have g1 := hdep ⟨1, .data⟩ (by simp) rfl
          have d1 : x 1 = .pointer (some ⟨W.heap.size, 0, none⟩) := hv 1 _ (by omega) g1 rfl
          clear hdep hi ho hs hv
          have e42 : F.getD 42 undef = .pointer (some ⟨W.heap.size, 0, none⟩) := by (rw [← d1, hF]; exact setAll_getD (by decide) (i := 1) rfl (Nat.le_of_ble_eq_true (by kernel_rfl)))
          clear hF hun d1
          obtain ⟨sb, hbm, _⟩ := hcore.bm
          have t := cell_block hbm
          clear hbm
          have e42' := (show F[42]?.getD undef = F.getD 42 undef by simp only [Array.getD_eq_getD_getElem?]).trans e42
          have HD := Lib.hid hD
          have HCORE := Lib.hid hcore
          clear hD hcore
          clear g1
          go_wp2_with fail
          refine CoreK.mk _ (fun c hc => Option.some.inj hc) ?_ rfl
          exact ⟨HCORE.out.old, HCORE.out.size, HCORE.out.kept, HCORE.out.be, HCORE.out.bm⟩
        · obtain rfl := Option.some.inj ho.symm
          obtain rfl := Option.some.inj hs.symm
          clear hdep hi ho hs hv
          have e11 : F.getD 11 undef = .pointer (some ⟨W.heap.size, 0, none⟩) := by (rw [hF, setAll_getD_ne (by decide)]; rfl)
          clear hF hun
          have e11' := (show F[11]?.getD undef = F.getD 11 undef by simp only [Array.getD_eq_getD_getElem?]).trans e11
          have HD := Lib.hid hD
          have HCORE := Lib.hid hcore
          clear hD hcore
          go_wp2_with fail
          refine CoreK.mk _ (fun c hc => Option.some.inj hc) ?_ rfl
          exact ⟨HCORE.out.old, HCORE.out.size, HCORE.out.kept, HCORE.out.be, HCORE.out.bm⟩
        · obtain rfl := Option.some.inj ho.symm
          obtain rfl := Option.some.inj hs.symm
          have g3 := hdep ⟨3, .data⟩ (by simp) rfl
          have d3 : x 3 = .pointer (some ⟨W.heap.size, 1, none⟩) := hv 3 _ (by omega) g3 rfl
          clear hdep hi ho hs hv
          have e44 : F.getD 44 undef = .pointer (some ⟨W.heap.size, 1, none⟩) := by (rw [← d3, hF]; exact setAll_getD (by decide) (i := 3) rfl (Nat.le_of_ble_eq_true (by kernel_rfl)))
          clear hF hun d3
          obtain ⟨sb, hbm, _⟩ := hcore.bm
          have t := cell_block hbm
          clear hbm
          have e44' := (show F[44]?.getD undef = F.getD 44 undef by simp only [Array.getD_eq_getD_getElem?]).trans e44
          have HD := Lib.hid hD
          have HCORE := Lib.hid hcore
          clear hD hcore
          clear g3
          go_wp2_with fail
          refine CoreK.mk _ (fun c hc => Option.some.inj hc) ?_ rfl
          exact ⟨HCORE.out.old, HCORE.out.size, HCORE.out.kept, HCORE.out.be, HCORE.out.bm⟩
        · obtain rfl := Option.some.inj ho.symm
          obtain rfl := Option.some.inj hs.symm
          clear hdep hi ho hs hv
          have e11 : F.getD 11 undef = .pointer (some ⟨W.heap.size, 0, none⟩) := by (rw [hF, setAll_getD_ne (by decide)]; rfl)
          clear hF hun
          have e11' := (show F[11]?.getD undef = F.getD 11 undef by simp only [Array.getD_eq_getD_getElem?]).trans e11
          have HD := Lib.hid hD
          have HCORE := Lib.hid hcore
          clear hD hcore
          go_wp2_with fail
          refine CoreK.mk _ (fun c hc => Option.some.inj hc) ?_ rfl
          exact ⟨HCORE.out.old, HCORE.out.size, HCORE.out.kept, HCORE.out.be, HCORE.out.bm⟩
        · obtain rfl := Option.some.inj ho.symm
          obtain rfl := Option.some.inj hs.symm
          have g5 := hdep ⟨5, .data⟩ (by simp) rfl
          have d5 : x 5 = .pointer (some ⟨W.heap.size, 2, none⟩) := hv 5 _ (by omega) g5 rfl
          clear hdep hi ho hs hv
          have e46 : F.getD 46 undef = .pointer (some ⟨W.heap.size, 2, none⟩) := by (rw [← d5, hF]; exact setAll_getD (by decide) (i := 5) rfl (Nat.le_of_ble_eq_true (by kernel_rfl)))
          clear hF hun d5
          obtain ⟨sb, hbm, _⟩ := hcore.bm
          have t := cell_block hbm
          clear hbm
          have e46' := (show F[46]?.getD undef = F.getD 46 undef by simp only [Array.getD_eq_getD_getElem?]).trans e46
          have HD := Lib.hid hD
          have HCORE := Lib.hid hcore
          clear hD hcore
          clear g5
          go_wp2_with fail
          refine CoreK.mk _ (fun c hc => Option.some.inj hc) ?_ rfl
          exact ⟨HCORE.out.old, HCORE.out.size, HCORE.out.kept, HCORE.out.be, HCORE.out.bm⟩
        · obtain rfl := Option.some.inj ho.symm
          obtain rfl := Option.some.inj hs.symm
          clear hdep hi ho hs hv
          have e8 : F.getD 8 undef = .pointer (some ⟨w1.heap.size, 0, none⟩) := by (rw [hF, setAll_getD_ne (by decide)]; rfl)
          clear hF hun
          have t := cell_block (hcore.kept _ _ HS2.out (by omega) (by omega)) 0
          simp at t
          have e8' := (show F[8]?.getD undef = F.getD 8 undef by simp only [Array.getD_eq_getD_getElem?]).trans e8
          have HD := Lib.hid hD
          have HCORE := Lib.hid hcore
          clear hD hcore
          go_wp2_with fail
          refine CoreK.mk _ (fun c hc => Option.some.inj hc) ?_ rfl
          exact ⟨HCORE.out.old, HCORE.out.size, HCORE.out.kept, HCORE.out.be, HCORE.out.bm⟩
        · obtain rfl := Option.some.inj ho.symm
          obtain rfl := Option.some.inj hs.symm
          clear hdep hi ho hs hv
          have e11 : F.getD 11 undef = .pointer (some ⟨W.heap.size, 0, none⟩) := by (rw [hF, setAll_getD_ne (by decide)]; rfl)
          clear hF hun
          have e11' := (show F[11]?.getD undef = F.getD 11 undef by simp only [Array.getD_eq_getD_getElem?]).trans e11
          have HD := Lib.hid hD
          have HCORE := Lib.hid hcore
          clear hD hcore
          go_wp2_with fail
          refine CoreK.mk _ (fun c hc => Option.some.inj hc) ?_ rfl
          exact ⟨HCORE.out.old, HCORE.out.size, HCORE.out.kept, HCORE.out.be, HCORE.out.bm⟩
        · obtain rfl := Option.some.inj ho.symm
          obtain rfl := Option.some.inj hs.symm
          have g8 := hdep ⟨8, .data⟩ (by simp) rfl
          have d8 : x 8 = .pointer (some ⟨W.heap.size, 0, none⟩) := hv 8 _ (by omega) g8 rfl
          clear hdep hi ho hs hv
          have e49 : F.getD 49 undef = .pointer (some ⟨W.heap.size, 0, none⟩) := by (rw [← d8, hF]; exact setAll_getD (by decide) (i := 8) rfl (Nat.le_of_ble_eq_true (by kernel_rfl)))
          clear hF hun d8
          obtain ⟨sb, hbm, _⟩ := hcore.bm
          have t := cell_block hbm
          clear hbm
          have e49' := (show F[49]?.getD undef = F.getD 49 undef by simp only [Array.getD_eq_getD_getElem?]).trans e49
          have HD := Lib.hid hD
          have HCORE := Lib.hid hcore
          clear hD hcore
          clear g8
          go_wp2_with fail
          refine CoreK.mk _ (fun c hc => Option.some.inj hc) ?_ rfl
          exact ⟨HCORE.out.old, HCORE.out.size, HCORE.out.kept, HCORE.out.be, HCORE.out.bm⟩
        · obtain rfl := Option.some.inj ho.symm
          obtain rfl := Option.some.inj hs.symm
          have g7 := hdep ⟨7, .data⟩ (by simp) rfl
          have d7 : x 7 = .slice (some ⟨b1, o1, none⟩) L.length cv := hv 7 _ (by omega) g7 rfl
          have g9 := hdep ⟨9, .data⟩ (by simp) rfl
          have d9 : x 9 = .int .i64 (k : Int) := hv 9 _ (by omega) g9 rfl
          clear hdep hi ho hs hv
          have e48 : F.getD 48 undef = .slice (some ⟨b1, o1, none⟩) L.length cv := by (rw [← d7, hF]; exact setAll_getD (by decide) (i := 7) rfl (Nat.le_of_ble_eq_true (by kernel_rfl)))
          have e50 : F.getD 50 undef = .int .i64 (k : Int) := by (rw [← d9, hF]; exact setAll_getD (by decide) (i := 9) rfl (Nat.le_of_ble_eq_true (by kernel_rfl)))
          clear hF hun d7 d9
          have e48' := (show F[48]?.getD undef = F.getD 48 undef by simp only [Array.getD_eq_getD_getElem?]).trans e48
          have e50' := (show F[50]?.getD undef = F.getD 50 undef by simp only [Array.getD_eq_getD_getElem?]).trans e50
          have HD := Lib.hid hD
          have HCORE := Lib.hid hcore
          clear hD hcore
          clear g7
          clear g9
          go_wp2_with fail
          refine CoreK.mk _ (fun c hc => Option.some.inj hc) ?_ rfl
          exact ⟨HCORE.out.old, HCORE.out.size, HCORE.out.kept, HCORE.out.be, HCORE.out.bm⟩
        · obtain rfl := Option.some.inj ho.symm
          obtain rfl := Option.some.inj hs.symm
          have g10 := hdep ⟨10, .data⟩ (by simp) rfl
          have d10 : x 10 = .pointer (some ⟨b1, o1 + k, none⟩) := hv 10 _ (by omega) g10 rfl
          clear hdep hi ho hs hv
          have e51 : F.getD 51 undef = .pointer (some ⟨b1, o1 + k, none⟩) := by (rw [← d10, hF]; exact setAll_getD (by decide) (i := 10) rfl (Nat.le_of_ble_eq_true (by kernel_rfl)))
          clear hF hun d10
          have t := (HCK.out W' hcore.kept).cell HCU.out
          have e51' := (show F[51]?.getD undef = F.getD 51 undef by simp only [Array.getD_eq_getD_getElem?]).trans e51
          have HD := Lib.hid hD
          have HCORE := Lib.hid hcore
          clear hD hcore
          clear g10
          go_wp2_with fail
          refine CoreK.mk _ (fun c hc => Option.some.inj hc) ?_ rfl
          exact ⟨HCORE.out.old, HCORE.out.size, HCORE.out.kept, HCORE.out.be, HCORE.out.bm⟩
        · obtain rfl := Option.some.inj ho.symm
          obtain rfl := Option.some.inj hs.symm
          clear hdep hi ho hs hv
          have e11 : F.getD 11 undef = .pointer (some ⟨W.heap.size, 0, none⟩) := by (rw [hF, setAll_getD_ne (by decide)]; rfl)
          clear hF hun
          have e11' := (show F[11]?.getD undef = F.getD 11 undef by simp only [Array.getD_eq_getD_getElem?]).trans e11
          have HD := Lib.hid hD
          have HCORE := Lib.hid hcore
          clear hD hcore
          go_wp2_with fail
          refine CoreK.mk _ (fun c hc => Option.some.inj hc) ?_ rfl
          exact ⟨HCORE.out.old, HCORE.out.size, HCORE.out.kept, HCORE.out.be, HCORE.out.bm⟩
        · obtain rfl := Option.some.inj ho.symm
          obtain rfl := Option.some.inj hs.symm
          have g12 := hdep ⟨12, .data⟩ (by simp) rfl
          have d12 : x 12 = .pointer (some ⟨W.heap.size, 1, none⟩) := hv 12 _ (by omega) g12 rfl
          clear hdep hi ho hs hv
          have e53 : F.getD 53 undef = .pointer (some ⟨W.heap.size, 1, none⟩) := by (rw [← d12, hF]; exact setAll_getD (by decide) (i := 12) rfl (Nat.le_of_ble_eq_true (by kernel_rfl)))
          clear hF hun d12
          obtain ⟨sb, hbm, _⟩ := hcore.bm
          have t := cell_block hbm
          clear hbm
          have e53' := (show F[53]?.getD undef = F.getD 53 undef by simp only [Array.getD_eq_getD_getElem?]).trans e53
          have HD := Lib.hid hD
          have HCORE := Lib.hid hcore
          clear hD hcore
          clear g12
          go_wp2_with fail
          refine CoreK.mk _ (fun c hc => Option.some.inj hc) ?_ rfl
          exact ⟨HCORE.out.old, HCORE.out.size, HCORE.out.kept, HCORE.out.be, HCORE.out.bm⟩
        · obtain rfl := Option.some.inj ho.symm
          obtain rfl := Option.some.inj hs.symm
          have g11 := hdep ⟨11, .data⟩ (by simp) rfl
          have d11 : x 11 = .slice (some ⟨b2, o2, none⟩) nk cu := hv 11 _ (by omega) g11 rfl
          have g13 := hdep ⟨13, .data⟩ (by simp) rfl
          have d13 : x 13 = .int .i64 (p : Int) := hv 13 _ (by omega) g13 rfl
          clear hdep hi ho hs hv
          have e52 : F.getD 52 undef = .slice (some ⟨b2, o2, none⟩) nk cu := by (rw [← d11, hF]; exact setAll_getD (by decide) (i := 11) rfl (Nat.le_of_ble_eq_true (by kernel_rfl)))
          have e54 : F.getD 54 undef = .int .i64 (p : Int) := by (rw [← d13, hF]; exact setAll_getD (by decide) (i := 13) rfl (Nat.le_of_ble_eq_true (by kernel_rfl)))
          clear hF hun d11 d13
          have e52' := (show F[52]?.getD undef = F.getD 52 undef by simp only [Array.getD_eq_getD_getElem?]).trans e52
          have e54' := (show F[54]?.getD undef = F.getD 54 undef by simp only [Array.getD_eq_getD_getElem?]).trans e54
          have HD := Lib.hid hD
          have HCORE := Lib.hid hcore
          clear hD hcore
          clear g11
          clear g13
          go_wp2_with fail
          refine CoreK.mk _ (fun c hc => Option.some.inj hc) ?_ rfl
          exact ⟨HCORE.out.old, HCORE.out.size, HCORE.out.kept, HCORE.out.be, HCORE.out.bm⟩
        · obtain rfl := Option.some.inj ho.symm
          obtain rfl := Option.some.inj hs.symm
          have g14 := hdep ⟨14, .data⟩ (by simp) rfl
          have d14 : x 14 = .pointer (some ⟨b2, o2 + p, none⟩) := hv 14 _ (by omega) g14 rfl
          clear hdep hi ho hs hv
          have e55 : F.getD 55 undef = .pointer (some ⟨b2, o2 + p, none⟩) := by (rw [← d14, hF]; exact setAll_getD (by decide) (i := 14) rfl (Nat.le_of_ble_eq_true (by kernel_rfl)))
          clear hF hun d14
          have t := (HCK.out W' hcore.kept).cell HCI.out
          have e55' := (show F[55]?.getD undef = F.getD 55 undef by simp only [Array.getD_eq_getD_getElem?]).trans e55
          have HD := Lib.hid hD
          have HCORE := Lib.hid hcore
          clear hD hcore
          clear g14
          go_wp2_with fail
          refine CoreK.mk _ (fun c hc => Option.some.inj hc) ?_ rfl
          exact ⟨HCORE.out.old, HCORE.out.size, HCORE.out.kept, HCORE.out.be, HCORE.out.bm⟩
        · obtain rfl := Option.some.inj ho.symm
          obtain rfl := Option.some.inj hs.symm
          have g0 := hdep ⟨0, .data⟩ (by simp) rfl
          have d0 : x 0 = .agg (macC m (.slice pf m.first.length cf) (.slice py m.syms.length cy) (.slice pt m.steps.length ct) (.slice po m.out.length co)) := hv 0 _ (by omega) g0 rfl
          have g2 := hdep ⟨2, .data⟩ (by simp) rfl
          have d2 : x 2 = .int .i64 (k : Int) := hv 2 _ (by omega) g2 rfl
          have g4 := hdep ⟨4, .data⟩ (by simp) rfl
          have d4 : x 4 = .int .i64 (p : Int) := hv 4 _ (by omega) g4 rfl
          have g6 := hdep ⟨6, .data⟩ (by simp) rfl
          have d6 : x 6 = .int .i64 (q : Int) := hv 6 _ (by omega) g6 rfl
          have g15 := hdep ⟨15, .data⟩ (by simp) rfl
          have d15 : x 15 = .int .i64 (sN : Int) := hv 15 _ (by omega) g15 rfl
          clear hdep hi ho hs hv
          have e41 : F.getD 41 undef = .agg (macC m (.slice pf m.first.length cf) (.slice py m.syms.length cy) (.slice pt m.steps.length ct) (.slice po m.out.length co)) := by (rw [← d0, hF]; exact setAll_getD (by decide) (i := 0) rfl (Nat.le_of_ble_eq_true (by kernel_rfl)))
          have e43 : F.getD 43 undef = .int .i64 (k : Int) := by (rw [← d2, hF]; exact setAll_getD (by decide) (i := 2) rfl (Nat.le_of_ble_eq_true (by kernel_rfl)))
          have e45 : F.getD 45 undef = .int .i64 (p : Int) := by (rw [← d4, hF]; exact setAll_getD (by decide) (i := 4) rfl (Nat.le_of_ble_eq_true (by kernel_rfl)))
          have e47 : F.getD 47 undef = .int .i64 (q : Int) := by (rw [← d6, hF]; exact setAll_getD (by decide) (i := 6) rfl (Nat.le_of_ble_eq_true (by kernel_rfl)))
          have e56 : F.getD 56 undef = .int .i64 (sN : Int) := by (rw [← d15, hF]; exact setAll_getD (by decide) (i := 15) rfl (Nat.le_of_ble_eq_true (by kernel_rfl)))
          clear hF hun d0 d2 d4 d6 d15
          have e41' := (show F[41]?.getD undef = F.getD 41 undef by simp only [Array.getD_eq_getD_getElem?]).trans e41
          have e43' := (show F[43]?.getD undef = F.getD 43 undef by simp only [Array.getD_eq_getD_getElem?]).trans e43
          have e45' := (show F[45]?.getD undef = F.getD 45 undef by simp only [Array.getD_eq_getD_getElem?]).trans e45
          have e47' := (show F[47]?.getD undef = F.getD 47 undef by simp only [Array.getD_eq_getD_getElem?]).trans e47
          have e56' := (show F[56]?.getD undef = F.getD 56 undef by simp only [Array.getD_eq_getD_getElem?]).trans e56
          have HD := Lib.hid hD
          have HCORE := Lib.hid hcore
          clear hD hcore
          clear g0
          clear g2
          clear g4
          clear g6
          clear g15
          go_wp2_with fail
          refine (HENC.out W' HCORE.out.old).mono ?_
          rintro e W'' ⟨rfl, hb⟩
          go_wp2_with fail
          refine CoreK.mk _ (fun c hc => Option.some.inj hc) ?_ rfl
          exact (fun h : C7 _ _ _ _ _ _ _ _ _ _ _ => ⟨h.old, h.size, h.kept, h.be, h.bm⟩) (HCORE.out.grow hb)
        · obtain rfl := Option.some.inj ho.symm
          obtain rfl := Option.some.inj hs.symm
          have g16 := hdep ⟨16, .data⟩ (by simp) rfl
          have d16 : x 16 = .tuple #[.string bs, .int .i64 0] := hv 16 _ (by omega) g16 rfl
          clear hdep hi ho hs hv
          have e57 : F.getD 57 undef = .tuple #[.string bs, .int .i64 0] := by (rw [← d16, hF]; exact setAll_getD (by decide) (i := 16) rfl (Nat.le_of_ble_eq_true (by kernel_rfl)))
          clear hF hun d16
          have e57' := (show F[57]?.getD undef = F.getD 57 undef by simp only [Array.getD_eq_getD_getElem?]).trans e57
          have HD := Lib.hid hD
          have HCORE := Lib.hid hcore
          clear hD hcore
          clear g16
          refine core_move (.tmp 57) rfl rfl ?_
          refine CoreK.mk (F.getD 57 undef) (fun c hc => e57.trans (Option.some.inj hc)) ?_ rfl
          exact ⟨HCORE.out.old, HCORE.out.size, HCORE.out.kept, HCORE.out.be, HCORE.out.bm⟩
        · obtain rfl := Option.some.inj ho.symm
          obtain rfl := Option.some.inj hs.symm
          have g17 := hdep ⟨17, .data⟩ (by simp) rfl
          have d17 : x 17 = .tuple #[.string bs, .int .i64 0] := hv 17 _ (by omega) g17 rfl
          clear hdep hi ho hs hv
          have e40 : F.getD 40 undef = .tuple #[.string bs, .int .i64 0] := by (rw [← d17, hF]; exact setAll_getD (by decide) (i := 17) rfl (Nat.le_of_ble_eq_true (by kernel_rfl)))
          clear hF hun d17
          have e40' := (show F[40]?.getD undef = F.getD 40 undef by simp only [Array.getD_eq_getD_getElem?]).trans e40
          have HD := Lib.hid hD
          have HCORE := Lib.hid hcore
          clear hD hcore
          clear g17
          go_wp2_with fail
          refine CoreK.mk _ (fun c hc => Option.some.inj hc) ?_ rfl
          exact ⟨HCORE.out.old, HCORE.out.size, HCORE.out.kept, HCORE.out.be, HCORE.out.bm⟩
        · obtain rfl := Option.some.inj ho.symm
          obtain rfl := Option.some.inj hs.symm
          have g17 := hdep ⟨17, .data⟩ (by simp) rfl
          have d17 : x 17 = .tuple #[.string bs, .int .i64 0] := hv 17 _ (by omega) g17 rfl
          clear hdep hi ho hs hv
          have e40 : F.getD 40 undef = .tuple #[.string bs, .int .i64 0] := by (rw [← d17, hF]; exact setAll_getD (by decide) (i := 17) rfl (Nat.le_of_ble_eq_true (by kernel_rfl)))
          clear hF hun d17
          have e40' := (show F[40]?.getD undef = F.getD 40 undef by simp only [Array.getD_eq_getD_getElem?]).trans e40
          have HD := Lib.hid hD
          have HCORE := Lib.hid hcore
          clear hD hcore
          clear g17
          go_wp2_with fail
          refine CoreK.mk _ (fun c hc => Option.some.inj hc) ?_ rfl
          exact ⟨HCORE.out.old, HCORE.out.size, HCORE.out.kept, HCORE.out.be, HCORE.out.bm⟩
        · obtain rfl := Option.some.inj ho.symm
          obtain rfl := Option.some.inj hs.symm
          clear hdep hi ho hs hv
          have e11 : F.getD 11 undef = .pointer (some ⟨W.heap.size, 0, none⟩) := by (rw [hF, setAll_getD_ne (by decide)]; rfl)
          clear hF hun
          have e11' := (show F[11]?.getD undef = F.getD 11 undef by simp only [Array.getD_eq_getD_getElem?]).trans e11
          have HD := Lib.hid hD
          have HCORE := Lib.hid hcore
          clear hD hcore
          go_wp2_with fail
          refine CoreK.mk _ (fun c hc => Option.some.inj hc) ?_ rfl
          exact ⟨HCORE.out.old, HCORE.out.size, HCORE.out.kept, HCORE.out.be, HCORE.out.bm⟩
        · obtain rfl := Option.some.inj ho.symm
          obtain rfl := Option.some.inj hs.symm
          have g20 := hdep ⟨20, .data⟩ (by simp) rfl
          have d20 : x 20 = .pointer (some ⟨W.heap.size, 3, none⟩) := hv 20 _ (by omega) g20 rfl
          have g18 := hdep ⟨18, .data⟩ (by simp) rfl
          have d18 : x 18 = .string bs := hv 18 _ (by omega) g18 rfl
          clear hdep hi ho hs hv
          have e60 : F.getD 60 undef = .pointer (some ⟨W.heap.size, 3, none⟩) := by (rw [← d20, hF]; exact setAll_getD (by decide) (i := 20) rfl (Nat.le_of_ble_eq_true (by kernel_rfl)))
          have e58 : F.getD 58 undef = .string bs := by (rw [← d18, hF]; exact setAll_getD (by decide) (i := 18) rfl (Nat.le_of_ble_eq_true (by kernel_rfl)))
          have hself0 : F = F.setIfInBounds 4 undef := by (have hun' : x 21 = undef := hun; rw [← hun', hF]; exact setAll_self1 (by decide) rfl)
          have hself := Lib.hid hself0
          clear hself0
          clear hF hun d20 d18
          obtain ⟨sb, hbm, _⟩ := hcore.bm
          have t := cell_block hbm
          have f := frozen_block hbm
          have HBM := Lib.hid hbm
          clear hbm
          have e60' := (show F[60]?.getD undef = F.getD 60 undef by simp only [Array.getD_eq_getD_getElem?]).trans e60
          have e58' := (show F[58]?.getD undef = F.getD 58 undef by simp only [Array.getD_eq_getD_getElem?]).trans e58
          have HD := Lib.hid hD
          have HCORE := Lib.hid hcore
          clear hD hcore
          clear g20
          clear g18
          go_wp2_with fail
          refine CoreK.mk undef (fun c hc => Option.some.inj hc) ?_ (congrArg (fun t => Act.mk t _) hself.out)
          have h := HCORE.out
          exact ⟨h.old.setCell (p := ⟨W.heap.size, 3, none⟩) (by dsimp only; omega) _, by simp; exact h.size, fun j o hj h1 h2 => (Below.heap_setCell _ _ _ _ h1).trans (h.kept j o hj h1 h2), setCell_other h.be (by omega) _ _, bs, by rw [setCell_same HBM.out]; rfl, fun _ => rfl⟩
        · obtain rfl := Option.some.inj ho.symm
          obtain rfl := Option.some.inj hs.symm
          have g19 := hdep ⟨19, .data⟩ (by simp) rfl
          have d19 : x 19 = .int .i64 0 := hv 19 _ (by omega) g19 rfl
          clear hdep hi ho hs hv
          have e9 : F.getD 9 undef = .pointer (some ⟨w1.heap.size + 1, 0, none⟩) := by (rw [hF, setAll_getD_ne (by decide)]; rfl)
          have e59 : F.getD 59 undef = .int .i64 0 := by (rw [← d19, hF]; exact setAll_getD (by decide) (i := 19) rfl (Nat.le_of_ble_eq_true (by kernel_rfl)))
          have hself0 : F = F.setIfInBounds 5 undef := by (have hun' : x 22 = undef := hun; rw [← hun', hF]; exact setAll_self1 (by decide) rfl)
          have hself := Lib.hid hself0
          clear hself0
          clear hF hun d19
          have t := cell_block hcore.be 0
          have f := frozen_block hcore.be 0
          simp at t
          have e9' := (show F[9]?.getD undef = F.getD 9 undef by simp only [Array.getD_eq_getD_getElem?]).trans e9
          have e59' := (show F[59]?.getD undef = F.getD 59 undef by simp only [Array.getD_eq_getD_getElem?]).trans e59
          have HD := Lib.hid hD
          have HCORE := Lib.hid hcore
          clear hD hcore
          clear g19
          go_wp2_with fail
          refine CoreK.mk undef (fun c hc => Option.some.inj hc) ?_ (congrArg (fun t => Act.mk t _) hself.out)
          have h := HCORE.out
          obtain ⟨sb, h1, h2⟩ := h.bm
          exact ⟨h.old.setCell (p := ⟨w1.heap.size + 1, 0, none⟩) (by dsimp only; omega) _, by simp; exact h.size, fun j o hj h1 h2 => (Below.heap_setCell _ _ _ _ h2).trans (h.kept j o hj h1 h2), by rw [setCell_same h.be]; rfl, sb, setCell_other h1 (by omega) _ _, h2⟩
      case tail =>
        intro x W' D F hall hv hcore hF
        have x0 := hv 0 _ (by omega) rfl
        have x1 := hv 1 _ (by omega) rfl
        have x2 := hv 2 _ (by omega) rfl
        have x3 := hv 3 _ (by omega) rfl
        have x4 := hv 4 _ (by omega) rfl
        have x5 := hv 5 _ (by omega) rfl
        have x6 := hv 6 _ (by omega) rfl
        have x7 := hv 7 _ (by omega) rfl
        have x8 := hv 8 _ (by omega) rfl
        have x9 := hv 9 _ (by omega) rfl
        have x10 := hv 10 _ (by omega) rfl
        have x11 := hv 11 _ (by omega) rfl
        have x12 := hv 12 _ (by omega) rfl
        have x13 := hv 13 _ (by omega) rfl
        have x14 := hv 14 _ (by omega) rfl
        have x15 := hv 15 _ (by omega) rfl
        have x16 := hv 16 _ (by omega) rfl
        have x17 := hv 17 _ (by omega) rfl
        have x18 := hv 18 _ (by omega) rfl
        have x19 := hv 19 _ (by omega) rfl
        have x20 := hv 20 _ (by omega) rfl
        have x21 := hv 21 _ (by omega) rfl
        have x22 := hv 22 _ (by omega) rfl
        simp only [setAll, setFrom, List.setIfInBounds_toArray, List.set_cons_succ, List.set_cons_zero, Nat.reduceAdd, x0, x1, x2, x3, x4, x5, x6, x7, x8, x9, x10, x11, x12, x13, x14, x15, x16, x17, x18, x19, x20, x21, x22] at hF
        subst hF
        clear hv x0 x1 x2 x3 x4 x5 x6 x7 x8 x9 x10 x11 x12 x13 x14 x15 x16 x17 x18 x19 x20 x21 x22
        obtain ⟨sb, hbm, hsb⟩ := hcore.bm
        obtain rfl := hsb (hall 21 (by omega))
        obtain ⟨v, hv, hown, hTv⟩ := HROW2.out
        have hv' := hcore.kept _ _ hv (by omega) (by omega)
        have hown' : OwnT W' W3.heap.size 65 4 v i (flatM (xs.take i)) := hown.keep fun g o hg ho => hcore.kept g o ho (hTv g hg).2 (by have := (hown.lt g hg).1; omega)
        have HCORE := Lib.hid hcore
        have HBM := Lib.hid hbm
        clear hall hcore hsb hv hown hbm
        have te := cell_block HCORE.out.be 0
        simp at te
        have c1 := cell_block hv'
        have f1 := frozen_block hv'
        have t1 := cell_block HBM.out
        have hA : Below W'.heap.size W' (W'.alloc (.cells #[.int .i64 (k : Int), .int .i64 (p : Int), .int .i64 (q : Int), .string sb] 65)) := by go_grown
        have HOWN := Lib.hid (hown'.up hA)
        have hnews : ∀ j u', [Value.int .i64 (k : Int), .int .i64 (p : Int), .int .i64 (q : Int), .string sb][j]? = some u' → (W'.alloc (.cells #[.int .i64 (k : Int), .int .i64 (p : Int), .int .i64 (q : Int), .string sb] 65)).cell? (Addr.add ⟨W'.heap.size, 0, none⟩ j) = some u' := fun j u' hj => by
          have e1 : (Addr.add ⟨W'.heap.size, 0, none⟩ j) = ⟨W'.heap.size, j, none⟩ := by unfold Addr.add; split <;> simp_all
          rw [e1, cell_block (alloc_new W' _)]
          simpa using hj
        have HNEWS := Lib.hid hnews
        have HV := Lib.hid hv'
        have HTV := Lib.hid hTv
        obtain ⟨avm, cvm, rfl⟩ := hown'.slice
        have hne : ∀ g, (Value.slice avm i cvm).ownBlock = some g → g ≠ Bt := hown'.ne hv' (by decide)
        have HNE2 := Lib.hid hne
        have hs' := HCORE.out.size
        have hs2 := HC2.out.size
        have hiP := hi
        have hP150 := HPLL.out
        clear hv' hown' hnews hTv hne
        gi_wp2_with (gi_at_builtin; (refine wpListIn_append_T _ rfl (.tmp 66) (.tmp 68) 33 rfl W3.heap.size 65 i0 _ 4 40 Tryz.underlying33 hi0 hz0 hz1 hz2 rfl (by decide) _ i _ rfl HOWN.out ⟨W'.heap.size, 0, none⟩ 1 1 [.int .i64 (k : Int), .int .i64 (p : Int), .int .i64 (q : Int), .string sb] rfl rfl HNEWS.out (by simp [Value.oneCell']) (by unfold maxLen; omega) (by omega) (by simp; omega) ?_; intro v' w3 hown3 hgrow3 hwh3; obtain ⟨av', cv', rfl⟩ := hown3.slice; have hB3 := (hgrow3.block _ (block_lt (alloc_old _ HV.out)) (fun e => HNE2.out _ e.symm rfl)).trans (alloc_old _ HV.out); have c3 := cell_block hB3; have f3 := frozen_block hB3))
        clear c3 f3 c1 f1 t1 te
        have hg3s := hgrow3.size
        simp only [World.size_alloc] at hg3s
        have hown0 : ∀ g, (Value.slice avm i cvm).ownBlock = some g → W3.heap.size ≤ g := fun g hg => (HOWN.out.lt g hg).1
        have hE0 : W'.heap[w1.heap.size + 1]? = W3.heap[w1.heap.size + 1]? := HCORE.out.be.trans (block_up H3.out.1 HW2.out.2.2).symm
        have hstay : ∀ (j : Nat) (o : Obj), W'.heap[j]? = some o → j ≠ Bt → (Value.slice avm i cvm).ownBlock ≠ some j → (w3.setCell ⟨Bt, 3, none⟩ (.slice av' (i + 1) cv')).heap[j]? = some o := fun j o hj h1 h2 => by
          rw [Below.heap_setCell _ ⟨Bt, 3, none⟩ _ _ h1]
          exact (hgrow3.block j (by have := block_lt hj; simp; omega) (fun e => h2 e.symm)).trans (alloc_old _ hj)
        refine ⟨⟨by simp; omega, fun j hj => ?_, fun j o hB hj ho => ?_⟩, ⟨?_, fun j o hj ho hjb => ?_, by simp; omega, fun j hj => ?_, HC2.out.notB, HC2.out.notE, ?_⟩⟩
        · have hjl := HTLT.out j hj
          obtain ⟨o, ho⟩ : ∃ o, W2b.heap[j]? = some o := ⟨_, Array.getElem?_eq_getElem (HC2.out.lt j hj)⟩
          rw [ho]
          exact hstay j o (HCORE.out.kept j o ho (by omega) (fun e => HC2.out.notE (e ▸ hj))) (fun e => HC2.out.notB (e ▸ hj)) (fun e => (HTV.out j e).1 hj)
        · refine hstay j o (HCORE.out.kept j o hj (fun e => ?_) (by omega)) (by omega) (fun e => ?_)
          · subst e
            have := HBM2.out
            rw [hj] at this
            cases this
            cases ho
          · obtain ⟨v0, r1, r2, r3⟩ := HROW2.out
            have h1 := HCORE.out.kept _ _ r1 (by omega) (by omega)
            have h2 := HV.out
            rw [h1] at h2
            cases h2
            exact r2.isCells hj ho e.symm
        · exact (Below.grown (HCORE.out.old.alloc HCORE.out.old.size _) hgrow3 (by simp; have := HCORE.out.old.size; omega) (fun g hg => by have := hown0 g hg; omega)).setCell (p := ⟨Bt, 3, none⟩) (by dsimp only; omega) _
        · have hj3 := block_lt hj
          refine hstay j o ?_ hjb (fun e => by have := hown0 j e; omega)
          by_cases he : j = w1.heap.size + 1
          · subst he
            rw [hE0]; exact hj
          · exact HCORE.out.kept j o (HC2.out.kept j o hj ho hjb) (by omega) he
        · have := HC2.out.lt j hj
          simp; omega
        · refine ⟨_, by rw [setCell_same hB3]; rfl, ?_, ?_⟩
          · rw [HFL.out]
            exact hown3.put (hown3.ne hB3 (by decide)) _ _
          · intro g hg hTg
            rcases hwh3 with h1 | h1
            · exact (HTV.out g (h1 ▸ hg)).1 hTg
            · have := HC2.out.lt g hTg
              rw [h1] at hg
              simp at hg; omega
    case done =>
      intro D T Wd hD hI hK
      obtain ⟨vm, hvm, hownm, _⟩ := hI.row
      have HSI := Lib.hid (And.intro hI.old (And.intro hI.kept hI.size))
      have HVM := Lib.hid (And.intro hvm hownm)
      have HK := Lib.hid hK
      obtain ⟨am, cm, rfl⟩ := hownm.slice
      have HMd := Lib.hid (hI.kept _ _ (block_up H3.out.1 (block_up HW2.out.1 HM1.out)) rfl (by omega))
      have HSd := Lib.hid (hI.kept _ _ (block_up H3.out.1 HW2.out.2.1) rfl (by omega))
      have HEd := Lib.hid (hI.kept _ _ (block_up H3.out.1 HW2.out.2.2) rfl (by omega))
      have hszd := hI.size
      clear hI hseq hvm hownm hK
      obtain ⟨ds, hds⟩ : ∃ ds, (List.range n).map (decS m L) = ds := ⟨_, rfl⟩
      obtain ⟨ts, hts⟩ : ∃ ts, (List.range n).map (whenS m L) = ts := ⟨_, rfl⟩
      have HDS := Lib.hid (And.intro hds hts)
      clear hds hts
      have t1 := cell_block HMd.out
      go_wp2_with fail
      clear t1
      go_loopw [73] (fun i wr => ∃ p : Nat, p ≤ n ∧ i = .int .i64 p ∧ DI w Wd Bt (.slice pa inputs.length ca) (.slice pb word.length cb) (.slice av L.length cv) (.slice am PL.length cm) ds ts p wr) (fun i _ => n - (intOf i).toNat)
      case atStart => exact ⟨0, by omega, rfl, HSI.out.1, Nat.le_refl _, fun _ _ h _ => h, _, _, HVM.out.1, OwnT.nil _ _ _ _, OwnT.nil _ _ _ _, fun g hg => by cases hg⟩
      case round =>
        obtain ⟨p, hp, rfl, hdi⟩ := hrel
        have HDI := Lib.hid hdi
        clear hdi
        by_cases hpn : p < n
        · have hpn' : (p : Int) < m.n := by rw [HOK.out.good.hn]; omega
          have t8 := cell_block (HDI.out.kept _ _ HSd.out (by omega)) 0
          simp at t8
          go_wp2_with fail
          clear t8
          go_loopw [13, 14, 78] (fun d t i wr' => Below wr.heap.size wr wr' ∧ d = .int .i64 (-1) ∧ t = .int .i64 (-1) ∧ ∃ q : Nat, q ≤ L.length ∧ i = .int .i64 q ∧ ∀ j, j < q → outS m j p ((L.getD j []).getD p 0) = -1) (fun _ _ i _ => L.length - (intOf i).toNat)
          case atStart => exact ⟨Below.refl _ _, rfl, rfl, 0, by omega, rfl, by simp⟩
          case round =>
            obtain ⟨hbr, rfl, rfl, q, hq, rfl, hinv⟩ := hrel
            have HINV := Lib.hid hinv
            have HD2 := Lib.hid (HDI.out.drew hbr)
            clear hinv
            by_cases hqL : q < L.length
            · have hqr : q < r + 1 := by
                have h1 := HOK.out.rl
                rw [HL.out] at h1
                omega
              have hfit := HOK.out.fits hqr hpn
              have hlq := (runL_fits HOK.out.good (word := word) HOK.out.il HOK.out.ir q L[q] (by rw [HL.out]; exact List.getElem?_eq_getElem hqL)).1
              rw [HL.out, getD_of_lt [] hqL, getD_of_lt 0 (show p < L[q].length by omega)] at hfit
              have hol := HOK.out.good.ol
              have hok := HOK.out.good.ok q hqr
              have hqo : q < m.out.length := by omega
              rw [getD_of_lt [] hqo] at hok hfit
              have hpo : p < m.out[q].length := by omega
              rw [getD_of_lt [] hpo] at hfit
              have hpq : p < L[q].length := by omega
              obtain ⟨sN, hsN⟩ : ∃ sN : Nat, L[q][p] = sN := ⟨(L[q][p]).toNat, by omega⟩
              rw [hsN] at hfit
              have hso : sN < m.out[q][p].length := by omega
              have HOS : Hid (outS m q p ((L.getD q []).getD p 0) = m.out[q][p][sN]) := by
                have h : outS m q p ((L.getD q []).getD p 0) = m.out[q][p][sN] := by
                  unfold outS
                  rw [getD_of_lt [] hqL, getD_of_lt 0 hpq, hsN, getD_of_lt [] hqo, getD_of_lt [] hpo, Int.toNat_natCast, getD_of_lt 0 hso]
                exact h
              obtain ⟨_, _, eo, _, _, elo⟩ := HO.out.at
              injection eo with eo1 eo2 eo3
              subst eo1 eo3
              obtain ⟨b3, o3, rfl, uo, hco, huo⟩ := elo q hqo
              obtain ⟨a4, c4, rfl, l41, l42, e4⟩ := huo.at
              obtain ⟨b4, o4, rfl, up, hcp, hup⟩ := e4 p hpo
              obtain ⟨a5, c5, rfl, l51, l52, e5⟩ := hup.at
              obtain ⟨b5, o5, rfl, hcs, hir5⟩ := e5 sN hso
              obtain ⟨_, _, evv, _, _, elv⟩ := HVV.out.at
              injection evv with ev1 ev2 ev3
              subst ev1 ev3
              obtain ⟨b1, o1, rfl, u, hcu, hu⟩ := elv q hqL
              obtain ⟨au, cu, rfl, lu1, lu2, eu⟩ := hu.at
              obtain ⟨b2, o2, rfl, hci, hir⟩ := eu p hpq
              rw [hsN] at hci
              rw [Nat.mul_one] at hco hcp hcs hcu hci
              have hck : CK w1 wr := fun j o hj ho => by
                have := block_lt hj
                exact HD2.out.kept j o (HSI.out.2.1 j o (block_up H3.out.1 (block_up HW2.out.1 hj)) ho (by omega)) (by omega)
              have k3 := Lib.hid (hck.cell (cell_up hbw1 hco))
              have k4 := Lib.hid (hck.cell (cell_up hbw1 hcp))
              have k5 := Lib.hid (hck.cell (cell_up hbw1 hcs))
              have k1 := hck.cell hcu
              have K1 := Lib.hid k1
              have k2 := Lib.hid (hck.cell hci)
              have hoy := HOK.out.out hqr hpn
              rw [HL.out, HOS.out] at hoy
              clear hir hir5 hci hcu hcs hcp hco e5 e4 eu hu hup huo elv elo hfit hsN hlq hok hol hck ev2 eo2
              generalize m.out[q][p][sN] = yv at HOS k5 hoy
              generalize m.out[q][p].length = n5 at k4 hso l51 l52
              generalize m.out[q].length = n4 at k3 hpo l41 l42
              generalize L[q].length = n2 at k1 K1 hpq lu1 lu2
              have HMr := Lib.hid (HD2.out.kept _ _ HMd.out (by omega))
              go_wp2_with fail
              clear k1
              have q0 : ∀ y : ExtW wr, ∀ o, y.val.cell? ⟨w.heap.size, o, none⟩ = _ := fun y => cell_block (block_up y.ext HMr.out)
              have q3 : ∀ y : ExtW wr, y.val.cell? ⟨b3, o3 + q, none⟩ = _ := fun y => y.cell k3.out
              have q4 : ∀ y : ExtW wr, y.val.cell? ⟨b4, o4 + p, none⟩ = _ := fun y => y.cell k4.out
              have q5 : ∀ y : ExtW wr, y.val.cell? ⟨b5, o5 + sN, none⟩ = _ := fun y => y.cell k5.out
              have q2 : ∀ y : ExtW wr, y.val.cell? ⟨b2, o2 + p, none⟩ = _ := fun y => y.cell k2.out
              refine wp_region_quiet_ext (by kernel_rfl) (by kernel_rfl) ?_
              repeat (go_big_quiet_step (fail))
              refine wpQuiet_nil ?_
              intro _ hw'
              obtain ⟨xq, hw''⟩ := hw'
              subst hw''
              clear q0 q2 q3 q4 q5
              by_cases hy : yv = -1
              · subst hy
                go_wp2_with fail
                go_roundw
                case rel => exact ⟨ext_trans hbr xq.ext, rfl, rfl, q + 1, by omega, by go_num, below_succ HINV.out HOS.out⟩
                case measure => simp [intOf]; omega
              · have hy' : (yv != -1) = true := by simpa using hy
                go_wp2_with fail
                have HD3 := Lib.hid (HDI.out.drew ((ext_trans hbr xq.ext).drew))
                obtain ⟨vd, vtt, hrow, hd, ht, hnedt⟩ := HD3.out.row
                have HROW := Lib.hid hrow
                have HDT := Lib.hid (And.intro hd (And.intro ht hnedt))
                obtain ⟨ad, cd, rfl⟩ := hd.slice
                obtain ⟨at', ct', rfl⟩ := ht.slice
                clear hrow hd ht hnedt
                have hsd0 : Wd.heap.size ≤ xq.val.heap.size := HD3.out.size
                have hwd : w.heap.size ≤ Wd.heap.size := HSI.out.1.size
                have hwb : w.heap.size ≤ Bt := by omega
                have hn5 := HOK.out.good.n5
                have HTK := Lib.hid (when_at hqL HINV.out HOS.out hy)
                obtain ⟨i1, hj0, hj1, hj2, hj3⟩ := info_parts Tryz.infoInt
                obtain ⟨dl, hdl⟩ : ∃ dl, (ds.take p).map (Value.int .i64) = dl := ⟨_, rfl⟩
                obtain ⟨tl, htl⟩ : ∃ tl, (ts.take p).map (Value.int .i64) = tl := ⟨_, rfl⟩
                rw [hdl, htl] at HDT
                have HDL := Lib.hid (And.intro hdl htl)
                clear hdl htl
                refine wp_region_core 14 [102, 103, 104, 105, 106, 107, 108, 109, 110, 111, 112, 4, 113, 5] [some (.pointer (some ⟨Bt, 4, none⟩)),
                  some (.slice ad p cd),
                  some (.int .i64 yv),
                  none,
                  none,
                  some (.pointer (some ⟨Bt, 5, none⟩)),
                  some (.slice at' p ct'),
                  some (.int .i64 q),
                  none,
                  none,
                  some (.pointer (some ⟨Bt, 4, none⟩)),
                  some (undef),
                  some (.pointer (some ⟨Bt, 5, none⟩)),
                  some (undef)] (C22 w Wd xq.val Bt (.slice pa inputs.length ca) (.slice pb word.length cb) (.slice (some ⟨b1, o1, none⟩) L.length cv) (.slice am PL.length cm) (.slice ad p cd) (.slice at' p ct') p dl tl (.int .i64 yv) (.int .i64 q)) (by kernel_rfl) rfl (by decide) rfl (by kernel_rfl) (fun _ => ⟨HD3.out.old, Nat.le_refl _, fun _ _ h _ _ _ => h, HDT.out.1, HDT.out.2.1, HDT.out.2.2, HROW.out, nofun, nofun, nofun, nofun⟩) ?step ?tail
                case step =>
                  intro x W D i o s F hi ho hs hD hun hdep hv hcore hF
                  have hcase : i = 0 ∨ i = 1 ∨ i = 2 ∨ i = 3 ∨ i = 4 ∨ i = 5 ∨ i = 6 ∨ i = 7 ∨ i = 8 ∨ i = 9 ∨ i = 10 ∨ i = 11 ∨ i = 12 ∨ i = 13 := by omega
                  rcases hcase with rfl | rfl | rfl | rfl | rfl | rfl | rfl | rfl | rfl | rfl | rfl | rfl | rfl | rfl
                  · obtain rfl := Option.some.inj ho.symm
                    obtain rfl := Option.some.inj hs.symm
                    clear hdep hi ho hs hv
                    have e10 : F.getD 10 undef = .pointer (some ⟨Bt, 0, none⟩) := by (rw [hF, setAll_getD_ne (by decide)]; rfl)
                    clear hF hun
                    have e10' := (show F[10]?.getD undef = F.getD 10 undef by simp only [Array.getD_eq_getD_getElem?]).trans e10
                    have HD := Lib.hid hD
                    have HCORE := Lib.hid hcore
                    clear hD hcore
                    go_wp2_with fail
                    refine CoreK.mk _ (fun c hc => Option.some.inj hc) ?_ rfl
                    exact ⟨HCORE.out.old, HCORE.out.size, HCORE.out.kept, HCORE.out.rd, HCORE.out.rt, HCORE.out.ne, HCORE.out.box, HCORE.out.s3, HCORE.out.s8, HCORE.out.o11, HCORE.out.o13⟩
                  · obtain rfl := Option.some.inj ho.symm
                    obtain rfl := Option.some.inj hs.symm
                    have g0 := hdep ⟨0, .data⟩ (by simp) rfl
                    have d0 : x 0 = .pointer (some ⟨Bt, 4, none⟩) := hv 0 _ (by omega) g0 rfl
                    clear hdep hi ho hs hv
                    have e102 : F.getD 102 undef = .pointer (some ⟨Bt, 4, none⟩) := by (rw [← d0, hF]; exact setAll_getD (by decide) (i := 0) rfl (Nat.le_of_ble_eq_true (by kernel_rfl)))
                    clear hF hun d0
                    have h11 : D 11 = false := by
                      cases h : D 11 with
                      | false => rfl
                      | true => exact absurd (hcore.o11 h).1 (by rw [hD]; decide)
                    have h13 : D 13 = false := by
                      cases h : D 13 with
                      | false => rfl
                      | true => exact absurd (hcore.o13 h) (by rw [h11]; decide)
                    have hbx : W.heap[Bt]? = some (.cells (trC (.slice pa inputs.length ca) (.slice pb word.length cb) (.slice (some ⟨b1, o1, none⟩) L.length cv) (.slice am PL.length cm) (.slice ad p cd) (.slice at' p ct')) 35) := by
                      have h := hcore.box
                      rw [h11, h13] at h
                      exact h
                    have t := cell_block hbx
                    have f := frozen_block hbx
                    clear hbx
                    clear h11 h13 f
                    have e102' := (show F[102]?.getD undef = F.getD 102 undef by simp only [Array.getD_eq_getD_getElem?]).trans e102
                    have HD := Lib.hid hD
                    have HCORE := Lib.hid hcore
                    clear hD hcore
                    clear g0
                    go_wp2_with fail
                    refine CoreK.mk _ (fun c hc => Option.some.inj hc) ?_ rfl
                    exact ⟨HCORE.out.old, HCORE.out.size, HCORE.out.kept, HCORE.out.rd, HCORE.out.rt, HCORE.out.ne, HCORE.out.box, HCORE.out.s3, HCORE.out.s8, fun e => ⟨rfl, (HCORE.out.o11 e).2⟩, HCORE.out.o13⟩
                  · obtain rfl := Option.some.inj ho.symm
                    obtain rfl := Option.some.inj hs.symm
                    clear hdep hi ho hs hv
                    have e13 : F.getD 13 undef = .int .i64 yv := by (rw [hF, setAll_getD_ne (by decide)]; rfl)
                    clear hF hun
                    have e13' := (show F[13]?.getD undef = F.getD 13 undef by simp only [Array.getD_eq_getD_getElem?]).trans e13
                    have HD := Lib.hid hD
                    have HCORE := Lib.hid hcore
                    clear hD hcore
                    refine core_move (.tmp 13) rfl rfl ?_
                    refine CoreK.mk (F.getD 13 undef) (fun c hc => e13.trans (Option.some.inj hc)) ?_ rfl
                    exact ⟨HCORE.out.old, HCORE.out.size, HCORE.out.kept, HCORE.out.rd, HCORE.out.rt, HCORE.out.ne, HCORE.out.box, HCORE.out.s3, HCORE.out.s8, HCORE.out.o11, HCORE.out.o13⟩
                  · obtain rfl := Option.some.inj ho.symm
                    obtain rfl := Option.some.inj hs.symm
                    have g2 := hdep ⟨2, .data⟩ (by simp) rfl
                    have d2 : x 2 = .int .i64 yv := hv 2 _ (by omega) g2 rfl
                    clear hdep hi ho hs hv
                    have e104 : F.getD 104 undef = .int .i64 yv := by (rw [← d2, hF]; exact setAll_getD (by decide) (i := 2) rfl (Nat.le_of_ble_eq_true (by kernel_rfl)))
                    clear hF hun d2
                    have e104' := (show F[104]?.getD undef = F.getD 104 undef by simp only [Array.getD_eq_getD_getElem?]).trans e104
                    have HD := Lib.hid hD
                    have HCORE := Lib.hid hcore
                    clear hD hcore
                    clear g2
                    go_wp2_with fail
                    refine CoreK.mk _ (fun c hc => by cases hc) ?_ rfl
                    exact HCORE.out.build3
                  · obtain rfl := Option.some.inj ho.symm
                    obtain rfl := Option.some.inj hs.symm
                    have g1 := hdep ⟨1, .data⟩ (by simp) rfl
                    have d1 : x 1 = .slice ad p cd := hv 1 _ (by omega) g1 rfl
                    have g3 := hdep ⟨3, .data⟩ (by simp) rfl
                    clear hdep hi ho hs hv
                    have e103 : F.getD 103 undef = .slice ad p cd := by (rw [← d1, hF]; exact setAll_getD (by decide) (i := 1) rfl (Nat.le_of_ble_eq_true (by kernel_rfl)))
                    have e105 : F.getD 105 undef = x 3 := by (rw [hF]; exact setAll_getD (by decide) (i := 3) rfl (Nat.le_of_ble_eq_true (by kernel_rfl)))
                    clear hF hun d1
                    obtain ⟨gb, qx, hgb, _⟩ := hcore.s3 g3 hD
                    rw [qx] at e105
                    have hrow := hcore.rd
                    rw [hD] at hrow
                    have HROW4 : Hid (OwnT W Wd.heap.size 3 1 (.slice ad p cd) p _) := Lib.hid hrow
                    have hnews : ∀ j u', [Value.int .i64 yv][j]? = some u' → W.cell? (Addr.add ⟨gb, 0, none⟩ j) = some u' := fun j u' hj => by
                      have e1 : (Addr.add ⟨gb, 0, none⟩ j) = ⟨gb, j, none⟩ := by unfold Addr.add; split <;> simp_all
                      rw [e1, cell_block hgb]
                      simpa using hj
                    have HNEWS := Lib.hid hnews
                    have hbs := hcore.size
                    clear hnews hrow hgb qx
                    have e103' := (show F[103]?.getD undef = F.getD 103 undef by simp only [Array.getD_eq_getD_getElem?]).trans e103
                    have e105' := (show F[105]?.getD undef = F.getD 105 undef by simp only [Array.getD_eq_getD_getElem?]).trans e105
                    have HD := Lib.hid hD
                    have HCORE := Lib.hid hcore
                    clear hD hcore
                    clear g1
                    clear g3
                    refine wpList_append_T W rfl (.tmp 103) (.tmp 105) 28 rfl Wd.heap.size 3 i1 _ 1 8 Tryz.underlying28 hj0 hj1 hj2 hj3 rfl (by decide) _ p _ e103 HROW4.out ⟨gb, 0, none⟩ 1 1 [.int .i64 yv] e105 rfl HNEWS.out (by simp [Value.oneCell']) (by unfold maxLen; omega) (by omega) (by omega) ?_
                    intro v' w3 hown3 hgrow3 hwh3
                    refine CoreK.mk v' (fun c hc => by cases hc) ?_ rfl
                    exact HCORE.out.app4 HD.out hown3 hgrow3 hwh3 hwd
                  · obtain rfl := Option.some.inj ho.symm
                    obtain rfl := Option.some.inj hs.symm
                    clear hdep hi ho hs hv
                    have e10 : F.getD 10 undef = .pointer (some ⟨Bt, 0, none⟩) := by (rw [hF, setAll_getD_ne (by decide)]; rfl)
                    clear hF hun
                    have e10' := (show F[10]?.getD undef = F.getD 10 undef by simp only [Array.getD_eq_getD_getElem?]).trans e10
                    have HD := Lib.hid hD
                    have HCORE := Lib.hid hcore
                    clear hD hcore
                    go_wp2_with fail
                    refine CoreK.mk _ (fun c hc => Option.some.inj hc) ?_ rfl
                    exact ⟨HCORE.out.old, HCORE.out.size, HCORE.out.kept, HCORE.out.rd, HCORE.out.rt, HCORE.out.ne, HCORE.out.box, HCORE.out.s3, HCORE.out.s8, HCORE.out.o11, HCORE.out.o13⟩
                  · obtain rfl := Option.some.inj ho.symm
                    obtain rfl := Option.some.inj hs.symm
                    have g5 := hdep ⟨5, .data⟩ (by simp) rfl
                    have d5 : x 5 = .pointer (some ⟨Bt, 5, none⟩) := hv 5 _ (by omega) g5 rfl
                    clear hdep hi ho hs hv
                    have e107 : F.getD 107 undef = .pointer (some ⟨Bt, 5, none⟩) := by (rw [← d5, hF]; exact setAll_getD (by decide) (i := 5) rfl (Nat.le_of_ble_eq_true (by kernel_rfl)))
                    clear hF hun d5
                    have h11 : D 11 = false := by
                      cases h : D 11 with
                      | false => rfl
                      | true => exact absurd (hcore.o11 h).2.2.1 (by rw [hD]; decide)
                    have h13 : D 13 = false := by
                      cases h : D 13 with
                      | false => rfl
                      | true => exact absurd (hcore.o13 h) (by rw [h11]; decide)
                    have hbx : W.heap[Bt]? = some (.cells (trC (.slice pa inputs.length ca) (.slice pb word.length cb) (.slice (some ⟨b1, o1, none⟩) L.length cv) (.slice am PL.length cm) (.slice ad p cd) (.slice at' p ct')) 35) := by
                      have h := hcore.box
                      rw [h11, h13] at h
                      exact h
                    have t := cell_block hbx
                    have f := frozen_block hbx
                    clear hbx
                    clear h11 h13 f
                    have e107' := (show F[107]?.getD undef = F.getD 107 undef by simp only [Array.getD_eq_getD_getElem?]).trans e107
                    have HD := Lib.hid hD
                    have HCORE := Lib.hid hcore
                    clear hD hcore
                    clear g5
                    go_wp2_with fail
                    refine CoreK.mk _ (fun c hc => Option.some.inj hc) ?_ rfl
                    exact ⟨HCORE.out.old, HCORE.out.size, HCORE.out.kept, HCORE.out.rd, HCORE.out.rt, HCORE.out.ne, HCORE.out.box, HCORE.out.s3, HCORE.out.s8, fun e => ⟨(HCORE.out.o11 e).1, (HCORE.out.o11 e).2.1, rfl, (HCORE.out.o11 e).2.2.2⟩, HCORE.out.o13⟩
                  · obtain rfl := Option.some.inj ho.symm
                    obtain rfl := Option.some.inj hs.symm
                    clear hdep hi ho hs hv
                    have e14 : F.getD 14 undef = .int .i64 q := by (rw [hF, setAll_getD_ne (by decide)]; rfl)
                    clear hF hun
                    have e14' := (show F[14]?.getD undef = F.getD 14 undef by simp only [Array.getD_eq_getD_getElem?]).trans e14
                    have HD := Lib.hid hD
                    have HCORE := Lib.hid hcore
                    clear hD hcore
                    refine core_move (.tmp 14) rfl rfl ?_
                    refine CoreK.mk (F.getD 14 undef) (fun c hc => e14.trans (Option.some.inj hc)) ?_ rfl
                    exact ⟨HCORE.out.old, HCORE.out.size, HCORE.out.kept, HCORE.out.rd, HCORE.out.rt, HCORE.out.ne, HCORE.out.box, HCORE.out.s3, HCORE.out.s8, HCORE.out.o11, HCORE.out.o13⟩
                  · obtain rfl := Option.some.inj ho.symm
                    obtain rfl := Option.some.inj hs.symm
                    have g7 := hdep ⟨7, .data⟩ (by simp) rfl
                    have d7 : x 7 = .int .i64 q := hv 7 _ (by omega) g7 rfl
                    clear hdep hi ho hs hv
                    have e109 : F.getD 109 undef = .int .i64 q := by (rw [← d7, hF]; exact setAll_getD (by decide) (i := 7) rfl (Nat.le_of_ble_eq_true (by kernel_rfl)))
                    clear hF hun d7
                    have e109' := (show F[109]?.getD undef = F.getD 109 undef by simp only [Array.getD_eq_getD_getElem?]).trans e109
                    have HD := Lib.hid hD
                    have HCORE := Lib.hid hcore
                    clear hD hcore
                    clear g7
                    go_wp2_with fail
                    refine CoreK.mk _ (fun c hc => by cases hc) ?_ rfl
                    exact HCORE.out.build8
                  · obtain rfl := Option.some.inj ho.symm
                    obtain rfl := Option.some.inj hs.symm
                    have g6 := hdep ⟨6, .data⟩ (by simp) rfl
                    have d6 : x 6 = .slice at' p ct' := hv 6 _ (by omega) g6 rfl
                    have g8 := hdep ⟨8, .data⟩ (by simp) rfl
                    have g4 := hdep ⟨4, .chain⟩ (by simp) rfl
                    clear hdep hi ho hs hv
                    have e108 : F.getD 108 undef = .slice at' p ct' := by (rw [← d6, hF]; exact setAll_getD (by decide) (i := 6) rfl (Nat.le_of_ble_eq_true (by kernel_rfl)))
                    have e110 : F.getD 110 undef = x 8 := by (rw [hF]; exact setAll_getD (by decide) (i := 8) rfl (Nat.le_of_ble_eq_true (by kernel_rfl)))
                    clear hF hun d6
                    obtain ⟨gb, qx, hgb, _⟩ := hcore.s8 g8 hD
                    rw [qx] at e110
                    have hrow := hcore.rt
                    rw [hD] at hrow
                    have HROW4 : Hid (OwnT W Wd.heap.size 3 1 (.slice at' p ct') p _) := Lib.hid hrow
                    have hnews : ∀ j u', [Value.int .i64 q][j]? = some u' → W.cell? (Addr.add ⟨gb, 0, none⟩ j) = some u' := fun j u' hj => by
                      have e1 : (Addr.add ⟨gb, 0, none⟩ j) = ⟨gb, j, none⟩ := by unfold Addr.add; split <;> simp_all
                      rw [e1, cell_block hgb]
                      simpa using hj
                    have HNEWS := Lib.hid hnews
                    have hbs := hcore.size
                    clear hnews hrow hgb qx
                    have HG4 := Lib.hid g4
                    have e108' := (show F[108]?.getD undef = F.getD 108 undef by simp only [Array.getD_eq_getD_getElem?]).trans e108
                    have e110' := (show F[110]?.getD undef = F.getD 110 undef by simp only [Array.getD_eq_getD_getElem?]).trans e110
                    have HD := Lib.hid hD
                    have HCORE := Lib.hid hcore
                    clear hD hcore
                    clear g6
                    clear g8
                    clear g4
                    refine wpList_append_T W rfl (.tmp 108) (.tmp 110) 28 rfl Wd.heap.size 3 i1 _ 1 8 Tryz.underlying28 hj0 hj1 hj2 hj3 rfl (by decide) _ p _ e108 HROW4.out ⟨gb, 0, none⟩ 1 1 [.int .i64 q] e110 rfl HNEWS.out (by simp [Value.oneCell']) (by unfold maxLen; omega) (by omega) (by omega) ?_
                    intro v' w3 hown3 hgrow3 hwh3
                    refine CoreK.mk v' (fun c hc => by cases hc) ?_ rfl
                    exact HCORE.out.app9 HG4.out HD.out hown3 hgrow3 hwh3 hwd
                  · obtain rfl := Option.some.inj ho.symm
                    obtain rfl := Option.some.inj hs.symm
                    clear hdep hi ho hs hv
                    have e10 : F.getD 10 undef = .pointer (some ⟨Bt, 0, none⟩) := by (rw [hF, setAll_getD_ne (by decide)]; rfl)
                    clear hF hun
                    have e10' := (show F[10]?.getD undef = F.getD 10 undef by simp only [Array.getD_eq_getD_getElem?]).trans e10
                    have HD := Lib.hid hD
                    have HCORE := Lib.hid hcore
                    clear hD hcore
                    go_wp2_with fail
                    refine CoreK.mk _ (fun c hc => Option.some.inj hc) ?_ rfl
                    exact ⟨HCORE.out.old, HCORE.out.size, HCORE.out.kept, HCORE.out.rd, HCORE.out.rt, HCORE.out.ne, HCORE.out.box, HCORE.out.s3, HCORE.out.s8, HCORE.out.o11, HCORE.out.o13⟩
                  · obtain rfl := Option.some.inj ho.symm
                    obtain rfl := Option.some.inj hs.symm
                    have g10 := hdep ⟨10, .data⟩ (by simp) rfl
                    have d10 : x 10 = .pointer (some ⟨Bt, 4, none⟩) := hv 10 _ (by omega) g10 rfl
                    have g4 := hdep ⟨4, .data⟩ (by simp) rfl
                    have g9 := hdep ⟨9, .chain⟩ (by simp) rfl
                    have g1 := hdep ⟨1, .phase⟩ (by simp) rfl
                    have g6 := hdep ⟨6, .phase⟩ (by simp) rfl
                    clear hdep hi ho hs hv
                    have e112 : F.getD 112 undef = .pointer (some ⟨Bt, 4, none⟩) := by (rw [← d10, hF]; exact setAll_getD (by decide) (i := 10) rfl (Nat.le_of_ble_eq_true (by kernel_rfl)))
                    have e106 : F.getD 106 undef = x 4 := by (rw [hF]; exact setAll_getD (by decide) (i := 4) rfl (Nat.le_of_ble_eq_true (by kernel_rfl)))
                    have hself0 : F = F.setIfInBounds 4 undef := by (have hun' : x 11 = undef := hun; rw [← hun', hF]; exact setAll_self1 (by decide) rfl)
                    have hself := Lib.hid hself0
                    clear hself0
                    clear hF hun d10
                    have hrd := hcore.rd
                    rw [g4] at hrd
                    obtain ⟨ax, cx, qx⟩ := hrd.slice
                    have qx' : x 4 = .slice ax (p + 1) cx := qx
                    rw [qx'] at e106
                    have h13 : D 13 = false := by
                      cases h : D 13 with
                      | false => rfl
                      | true => exact absurd (hcore.o13 h) (by rw [hD]; decide)
                    have hbx : W.heap[Bt]? = some (.cells (trC (.slice pa inputs.length ca) (.slice pb word.length cb) (.slice (some ⟨b1, o1, none⟩) L.length cv) (.slice am PL.length cm) (.slice ad p cd) (.slice at' p ct')) 35) := by
                      have h := hcore.box
                      rw [hD, h13] at h
                      exact h
                    have t := cell_block hbx
                    have f := frozen_block hbx
                    clear hbx
                    have HG := Lib.hid (And.intro qx' (And.intro g4 (And.intro g9 (And.intro g1 (And.intro g6 h13)))))
                    clear hrd qx qx' h13
                    have e112' := (show F[112]?.getD undef = F.getD 112 undef by simp only [Array.getD_eq_getD_getElem?]).trans e112
                    have e106' := (show F[106]?.getD undef = F.getD 106 undef by simp only [Array.getD_eq_getD_getElem?]).trans e106
                    have HD := Lib.hid hD
                    have HCORE := Lib.hid hcore
                    clear hD hcore
                    clear g10
                    clear g4
                    clear g9
                    clear g1
                    clear g6
                    go_wp2_with fail
                    refine CoreK.mk undef (fun c hc => Option.some.inj hc) ?_ (congrArg (fun t => Act.mk t _) hself.out)
                    obtain ⟨qx, k4, k9, k1, k6, h13⟩ := HG.out
                    exact HCORE.out.put (D' := upd D 11) (x' := updV x 11 undef) k4 k9 hwb (fun j h1 _ => if_neg h1) rfl rfl 4 (.slice ax (p + 1) cx) (by rw [← qx, HD.out, h13, show upd D 11 13 = false from h13]; rfl) k1 k6 (fun _ => rfl)
                  · obtain rfl := Option.some.inj ho.symm
                    obtain rfl := Option.some.inj hs.symm
                    clear hdep hi ho hs hv
                    have e10 : F.getD 10 undef = .pointer (some ⟨Bt, 0, none⟩) := by (rw [hF, setAll_getD_ne (by decide)]; rfl)
                    clear hF hun
                    have e10' := (show F[10]?.getD undef = F.getD 10 undef by simp only [Array.getD_eq_getD_getElem?]).trans e10
                    have HD := Lib.hid hD
                    have HCORE := Lib.hid hcore
                    clear hD hcore
                    go_wp2_with fail
                    refine CoreK.mk _ (fun c hc => Option.some.inj hc) ?_ rfl
                    exact ⟨HCORE.out.old, HCORE.out.size, HCORE.out.kept, HCORE.out.rd, HCORE.out.rt, HCORE.out.ne, HCORE.out.box, HCORE.out.s3, HCORE.out.s8, HCORE.out.o11, HCORE.out.o13⟩
                  · obtain rfl := Option.some.inj ho.symm
                    obtain rfl := Option.some.inj hs.symm
                    have g12 := hdep ⟨12, .data⟩ (by simp) rfl
                    have d12 : x 12 = .pointer (some ⟨Bt, 5, none⟩) := hv 12 _ (by omega) g12 rfl
                    have g9 := hdep ⟨9, .data⟩ (by simp) rfl
                    have g11 := hdep ⟨11, .chain⟩ (by simp) rfl
                    have g1 := hdep ⟨1, .phase⟩ (by simp) rfl
                    have g6 := hdep ⟨6, .phase⟩ (by simp) rfl
                    have g4 := hdep ⟨4, .phase⟩ (by simp) rfl
                    clear hdep hi ho hs hv
                    have e113 : F.getD 113 undef = .pointer (some ⟨Bt, 5, none⟩) := by (rw [← d12, hF]; exact setAll_getD (by decide) (i := 12) rfl (Nat.le_of_ble_eq_true (by kernel_rfl)))
                    have e111 : F.getD 111 undef = x 9 := by (rw [hF]; exact setAll_getD (by decide) (i := 9) rfl (Nat.le_of_ble_eq_true (by kernel_rfl)))
                    have hself0 : F = F.setIfInBounds 5 undef := by (have hun' : x 13 = undef := hun; rw [← hun', hF]; exact setAll_self1 (by decide) rfl)
                    have hself := Lib.hid hself0
                    clear hself0
                    clear hF hun d12
                    have hrt := hcore.rt
                    rw [g9] at hrt
                    obtain ⟨ax, cx, qx⟩ := hrt.slice
                    have qx' : x 9 = .slice ax (p + 1) cx := qx
                    rw [qx'] at e111
                    have hbx : W.heap[Bt]? = some (.cells (trC (.slice pa inputs.length ca) (.slice pb word.length cb) (.slice (some ⟨b1, o1, none⟩) L.length cv) (.slice am PL.length cm) (x 4) (.slice at' p ct')) 35) := by
                      have h := hcore.box
                      rw [g11, hD] at h
                      exact h
                    have t := cell_block hbx
                    have f := frozen_block hbx
                    clear hbx
                    have HG := Lib.hid (And.intro qx' (And.intro g4 (And.intro g9 (And.intro g1 (And.intro g6 g11)))))
                    clear hrt qx qx'
                    have e113' := (show F[113]?.getD undef = F.getD 113 undef by simp only [Array.getD_eq_getD_getElem?]).trans e113
                    have e111' := (show F[111]?.getD undef = F.getD 111 undef by simp only [Array.getD_eq_getD_getElem?]).trans e111
                    have HD := Lib.hid hD
                    have HCORE := Lib.hid hcore
                    clear hD hcore
                    clear g12
                    clear g9
                    clear g11
                    clear g1
                    clear g6
                    clear g4
                    go_wp2_with fail
                    refine CoreK.mk undef (fun c hc => Option.some.inj hc) ?_ (congrArg (fun t => Act.mk t _) hself.out)
                    obtain ⟨qx, k4, k9, k1, k6, k11⟩ := HG.out
                    exact HCORE.out.put (D' := upd D 13) (x' := updV x 13 undef) k4 k9 hwb (fun j _ h2 => if_neg h2) rfl rfl 5 (.slice ax (p + 1) cx) (by rw [← qx, HD.out, k11, show upd D 13 11 = true from k11]; rfl) k1 k6 (fun _ => k11)
                case tail =>
                  intro x W' D F hall hv hcore hF
                  have x0 := hv 0 _ (by omega) rfl
                  have x1 := hv 1 _ (by omega) rfl
                  have x2 := hv 2 _ (by omega) rfl
                  have x5 := hv 5 _ (by omega) rfl
                  have x6 := hv 6 _ (by omega) rfl
                  have x7 := hv 7 _ (by omega) rfl
                  have x10 := hv 10 _ (by omega) rfl
                  have x11 := hv 11 _ (by omega) rfl
                  have x12 := hv 12 _ (by omega) rfl
                  have x13 := hv 13 _ (by omega) rfl
                  have hrd := hcore.rd
                  have hrt := hcore.rt
                  have hne := hcore.ne
                  have hbox := hcore.box
                  rw [hall 4 (by omega)] at hrd hne
                  rw [hall 9 (by omega)] at hrt hne
                  rw [hall 11 (by omega), hall 13 (by omega)] at hbox
                  have hdi : DI w Wd Bt (.slice pa inputs.length ca) (.slice pb word.length cb) (.slice (some ⟨b1, o1, none⟩) L.length cv) (.slice am PL.length cm) ds ts (p + 1) W' := ⟨hcore.old, Nat.le_trans hsd0 hcore.size, fun k o hk hb => hcore.kept k o (HD3.out.kept k o hk hb) hb (fun e => by have h1 := (HDT.out.1.lt k e).1; have h2 := block_lt hk; omega) (fun e => by have h1 := (HDT.out.2.1.lt k e).1; have h2 := block_lt hk; omega), x 4, x 9, hbox, by rw [tk_snoc HDS.out.1 hpn HTK.out.2, HDL.out.1]; exact hrd, by rw [tk_snoc HDS.out.2 hpn HTK.out.1, HDL.out.2]; exact hrt, hne⟩
                  have HDI2 := Lib.hid hdi
                  simp only [setAll, setFrom, List.setIfInBounds_toArray, List.set_cons_succ, List.set_cons_zero, Nat.reduceAdd, x0, x1, x2, x5, x6, x7, x10, x11, x12, x13] at hF
                  generalize x 3 = y3 at hF
                  generalize x 4 = y4 at hF
                  generalize x 8 = y8 at hF
                  generalize x 9 = y9 at hF
                  subst hF
                  clear hv hall hcore hrd hrt hne hbox hdi x0 x1 x2 x5 x6 x7 x10 x11 x12 x13
                  go_wp2_with fail
                  go_roundw
                  case rel => exact ⟨p + 1, by omega, by go_num, HDI2.out⟩
                  case measure => simp [intOf]; omega
            · go_wp2_with fail
              have HD3 := Lib.hid (HDI.out.drew (hbr.drew))
              obtain ⟨vd, vtt, hrow, hd, ht, hnedt⟩ := HD3.out.row
              have HROW := Lib.hid hrow
              have HDT := Lib.hid (And.intro hd (And.intro ht hnedt))
              obtain ⟨ad, cd, rfl⟩ := hd.slice
              obtain ⟨at', ct', rfl⟩ := ht.slice
              clear hrow hd ht hnedt
              have hsd0 : Wd.heap.size ≤ wr.heap.size := HD3.out.size
              have hwd : w.heap.size ≤ Wd.heap.size := HSI.out.1.size
              have hwb : w.heap.size ≤ Bt := by omega
              have hn5 := HOK.out.good.n5
              have HTK := Lib.hid (when_none (m := m) (L := L) (p := p) (fun j hj => HINV.out j (by omega)))
              obtain ⟨i1, hj0, hj1, hj2, hj3⟩ := info_parts Tryz.infoInt
              obtain ⟨dl, hdl⟩ : ∃ dl, (ds.take p).map (Value.int .i64) = dl := ⟨_, rfl⟩
              obtain ⟨tl, htl⟩ : ∃ tl, (ts.take p).map (Value.int .i64) = tl := ⟨_, rfl⟩
              rw [hdl, htl] at HDT
              have HDL := Lib.hid (And.intro hdl htl)
              clear hdl htl
              refine wp_region_core 14 [102, 103, 104, 105, 106, 107, 108, 109, 110, 111, 112, 4, 113, 5] [some (.pointer (some ⟨Bt, 4, none⟩)),
                some (.slice ad p cd),
                some (.int .i64 (-1)),
                none,
                none,
                some (.pointer (some ⟨Bt, 5, none⟩)),
                some (.slice at' p ct'),
                some (.int .i64 (-1)),
                none,
                none,
                some (.pointer (some ⟨Bt, 4, none⟩)),
                some (undef),
                some (.pointer (some ⟨Bt, 5, none⟩)),
                some (undef)] (C22 w Wd wr Bt (.slice pa inputs.length ca) (.slice pb word.length cb) (.slice av L.length cv) (.slice am PL.length cm) (.slice ad p cd) (.slice at' p ct') p dl tl (.int .i64 (-1)) (.int .i64 (-1))) (by kernel_rfl) rfl (by decide) rfl (by kernel_rfl) (fun _ => ⟨HD3.out.old, Nat.le_refl _, fun _ _ h _ _ _ => h, HDT.out.1, HDT.out.2.1, HDT.out.2.2, HROW.out, nofun, nofun, nofun, nofun⟩) ?step ?tail
              case step =>
                intro x W D i o s F hi ho hs hD hun hdep hv hcore hF
                have hcase : i = 0 ∨ i = 1 ∨ i = 2 ∨ i = 3 ∨ i = 4 ∨ i = 5 ∨ i = 6 ∨ i = 7 ∨ i = 8 ∨ i = 9 ∨ i = 10 ∨ i = 11 ∨ i = 12 ∨ i = 13 := by omega
                rcases hcase with rfl | rfl | rfl | rfl | rfl | rfl | rfl | rfl | rfl | rfl | rfl | rfl | rfl | rfl
                · obtain rfl := Option.some.inj ho.symm
                  obtain rfl := Option.some.inj hs.symm
                  clear hdep hi ho hs hv
                  have e10 : F.getD 10 undef = .pointer (some ⟨Bt, 0, none⟩) := by (rw [hF, setAll_getD_ne (by decide)]; rfl)
                  clear hF hun
                  have e10' := (show F[10]?.getD undef = F.getD 10 undef by simp only [Array.getD_eq_getD_getElem?]).trans e10
                  have HD := Lib.hid hD
                  have HCORE := Lib.hid hcore
                  clear hD hcore
                  go_wp2_with fail
                  refine CoreK.mk _ (fun c hc => Option.some.inj hc) ?_ rfl
                  exact ⟨HCORE.out.old, HCORE.out.size, HCORE.out.kept, HCORE.out.rd, HCORE.out.rt, HCORE.out.ne, HCORE.out.box, HCORE.out.s3, HCORE.out.s8, HCORE.out.o11, HCORE.out.o13⟩
                · obtain rfl := Option.some.inj ho.symm
                  obtain rfl := Option.some.inj hs.symm
                  have g0 := hdep ⟨0, .data⟩ (by simp) rfl
                  have d0 : x 0 = .pointer (some ⟨Bt, 4, none⟩) := hv 0 _ (by omega) g0 rfl
                  clear hdep hi ho hs hv
                  have e102 : F.getD 102 undef = .pointer (some ⟨Bt, 4, none⟩) := by (rw [← d0, hF]; exact setAll_getD (by decide) (i := 0) rfl (Nat.le_of_ble_eq_true (by kernel_rfl)))
                  clear hF hun d0
                  have h11 : D 11 = false := by
                    cases h : D 11 with
                    | false => rfl
                    | true => exact absurd (hcore.o11 h).1 (by rw [hD]; decide)
                  have h13 : D 13 = false := by
                    cases h : D 13 with
                    | false => rfl
                    | true => exact absurd (hcore.o13 h) (by rw [h11]; decide)
                  have hbx : W.heap[Bt]? = some (.cells (trC (.slice pa inputs.length ca) (.slice pb word.length cb) (.slice av L.length cv) (.slice am PL.length cm) (.slice ad p cd) (.slice at' p ct')) 35) := by
                    have h := hcore.box
                    rw [h11, h13] at h
                    exact h
                  have t := cell_block hbx
                  have f := frozen_block hbx
                  clear hbx
                  clear h11 h13 f
                  have e102' := (show F[102]?.getD undef = F.getD 102 undef by simp only [Array.getD_eq_getD_getElem?]).trans e102
                  have HD := Lib.hid hD
                  have HCORE := Lib.hid hcore
                  clear hD hcore
                  clear g0
                  go_wp2_with fail
                  refine CoreK.mk _ (fun c hc => Option.some.inj hc) ?_ rfl
                  exact ⟨HCORE.out.old, HCORE.out.size, HCORE.out.kept, HCORE.out.rd, HCORE.out.rt, HCORE.out.ne, HCORE.out.box, HCORE.out.s3, HCORE.out.s8, fun e => ⟨rfl, (HCORE.out.o11 e).2⟩, HCORE.out.o13⟩
                · obtain rfl := Option.some.inj ho.symm
                  obtain rfl := Option.some.inj hs.symm
                  clear hdep hi ho hs hv
                  have e13 : F.getD 13 undef = .int .i64 (-1) := by (rw [hF, setAll_getD_ne (by decide)]; rfl)
                  clear hF hun
                  have e13' := (show F[13]?.getD undef = F.getD 13 undef by simp only [Array.getD_eq_getD_getElem?]).trans e13
                  have HD := Lib.hid hD
                  have HCORE := Lib.hid hcore
                  clear hD hcore
                  refine core_move (.tmp 13) rfl rfl ?_
                  refine CoreK.mk (F.getD 13 undef) (fun c hc => e13.trans (Option.some.inj hc)) ?_ rfl
                  exact ⟨HCORE.out.old, HCORE.out.size, HCORE.out.kept, HCORE.out.rd, HCORE.out.rt, HCORE.out.ne, HCORE.out.box, HCORE.out.s3, HCORE.out.s8, HCORE.out.o11, HCORE.out.o13⟩
                · obtain rfl := Option.some.inj ho.symm
                  obtain rfl := Option.some.inj hs.symm
                  have g2 := hdep ⟨2, .data⟩ (by simp) rfl
                  have d2 : x 2 = .int .i64 (-1) := hv 2 _ (by omega) g2 rfl
                  clear hdep hi ho hs hv
                  have e104 : F.getD 104 undef = .int .i64 (-1) := by (rw [← d2, hF]; exact setAll_getD (by decide) (i := 2) rfl (Nat.le_of_ble_eq_true (by kernel_rfl)))
                  clear hF hun d2
                  have e104' := (show F[104]?.getD undef = F.getD 104 undef by simp only [Array.getD_eq_getD_getElem?]).trans e104
                  have HD := Lib.hid hD
                  have HCORE := Lib.hid hcore
                  clear hD hcore
                  clear g2
                  go_wp2_with fail
                  refine CoreK.mk _ (fun c hc => by cases hc) ?_ rfl
                  exact HCORE.out.build3
                · obtain rfl := Option.some.inj ho.symm
                  obtain rfl := Option.some.inj hs.symm
                  have g1 := hdep ⟨1, .data⟩ (by simp) rfl
                  have d1 : x 1 = .slice ad p cd := hv 1 _ (by omega) g1 rfl
                  have g3 := hdep ⟨3, .data⟩ (by simp) rfl
                  clear hdep hi ho hs hv
                  have e103 : F.getD 103 undef = .slice ad p cd := by (rw [← d1, hF]; exact setAll_getD (by decide) (i := 1) rfl (Nat.le_of_ble_eq_true (by kernel_rfl)))
                  have e105 : F.getD 105 undef = x 3 := by (rw [hF]; exact setAll_getD (by decide) (i := 3) rfl (Nat.le_of_ble_eq_true (by kernel_rfl)))
                  clear hF hun d1
                  obtain ⟨gb, qx, hgb, _⟩ := hcore.s3 g3 hD
                  rw [qx] at e105
                  have hrow := hcore.rd
                  rw [hD] at hrow
                  have HROW4 : Hid (OwnT W Wd.heap.size 3 1 (.slice ad p cd) p _) := Lib.hid hrow
                  have hnews : ∀ j u', [Value.int .i64 (-1)][j]? = some u' → W.cell? (Addr.add ⟨gb, 0, none⟩ j) = some u' := fun j u' hj => by
                    have e1 : (Addr.add ⟨gb, 0, none⟩ j) = ⟨gb, j, none⟩ := by unfold Addr.add; split <;> simp_all
                    rw [e1, cell_block hgb]
                    simpa using hj
                  have HNEWS := Lib.hid hnews
                  have hbs := hcore.size
                  clear hnews hrow hgb qx
                  have e103' := (show F[103]?.getD undef = F.getD 103 undef by simp only [Array.getD_eq_getD_getElem?]).trans e103
                  have e105' := (show F[105]?.getD undef = F.getD 105 undef by simp only [Array.getD_eq_getD_getElem?]).trans e105
                  have HD := Lib.hid hD
                  have HCORE := Lib.hid hcore
                  clear hD hcore
                  clear g1
                  clear g3
                  refine wpList_append_T W rfl (.tmp 103) (.tmp 105) 28 rfl Wd.heap.size 3 i1 _ 1 8 Tryz.underlying28 hj0 hj1 hj2 hj3 rfl (by decide) _ p _ e103 HROW4.out ⟨gb, 0, none⟩ 1 1 [.int .i64 (-1)] e105 rfl HNEWS.out (by simp [Value.oneCell']) (by unfold maxLen; omega) (by omega) (by omega) ?_
                  intro v' w3 hown3 hgrow3 hwh3
                  refine CoreK.mk v' (fun c hc => by cases hc) ?_ rfl
                  exact HCORE.out.app4 HD.out hown3 hgrow3 hwh3 hwd
                · obtain rfl := Option.some.inj ho.symm
                  obtain rfl := Option.some.inj hs.symm
                  clear hdep hi ho hs hv
                  have e10 : F.getD 10 undef = .pointer (some ⟨Bt, 0, none⟩) := by (rw [hF, setAll_getD_ne (by decide)]; rfl)
                  clear hF hun
                  have e10' := (show F[10]?.getD undef = F.getD 10 undef by simp only [Array.getD_eq_getD_getElem?]).trans e10
                  have HD := Lib.hid hD
                  have HCORE := Lib.hid hcore
                  clear hD hcore
                  go_wp2_with fail
                  refine CoreK.mk _ (fun c hc => Option.some.inj hc) ?_ rfl
                  exact ⟨HCORE.out.old, HCORE.out.size, HCORE.out.kept, HCORE.out.rd, HCORE.out.rt, HCORE.out.ne, HCORE.out.box, HCORE.out.s3, HCORE.out.s8, HCORE.out.o11, HCORE.out.o13⟩
                · obtain rfl := Option.some.inj ho.symm
                  obtain rfl := Option.some.inj hs.symm
                  have g5 := hdep ⟨5, .data⟩ (by simp) rfl
                  have d5 : x 5 = .pointer (some ⟨Bt, 5, none⟩) := hv 5 _ (by omega) g5 rfl
                  clear hdep hi ho hs hv
                  have e107 : F.getD 107 undef = .pointer (some ⟨Bt, 5, none⟩) := by (rw [← d5, hF]; exact setAll_getD (by decide) (i := 5) rfl (Nat.le_of_ble_eq_true (by kernel_rfl)))
                  clear hF hun d5
                  have h11 : D 11 = false := by
                    cases h : D 11 with
                    | false => rfl
                    | true => exact absurd (hcore.o11 h).2.2.1 (by rw [hD]; decide)
                  have h13 : D 13 = false := by
                    cases h : D 13 with
                    | false => rfl
                    | true => exact absurd (hcore.o13 h) (by rw [h11]; decide)
                  have hbx : W.heap[Bt]? = some (.cells (trC (.slice pa inputs.length ca) (.slice pb word.length cb) (.slice av L.length cv) (.slice am PL.length cm) (.slice ad p cd) (.slice at' p ct')) 35) := by
                    have h := hcore.box
                    rw [h11, h13] at h
                    exact h
                  have t := cell_block hbx
                  have f := frozen_block hbx
                  clear hbx
                  clear h11 h13 f
                  have e107' := (show F[107]?.getD undef = F.getD 107 undef by simp only [Array.getD_eq_getD_getElem?]).trans e107
                  have HD := Lib.hid hD
                  have HCORE := Lib.hid hcore
                  clear hD hcore
                  clear g5
                  go_wp2_with fail
                  refine CoreK.mk _ (fun c hc => Option.some.inj hc) ?_ rfl
                  exact ⟨HCORE.out.old, HCORE.out.size, HCORE.out.kept, HCORE.out.rd, HCORE.out.rt, HCORE.out.ne, HCORE.out.box, HCORE.out.s3, HCORE.out.s8, fun e => ⟨(HCORE.out.o11 e).1, (HCORE.out.o11 e).2.1, rfl, (HCORE.out.o11 e).2.2.2⟩, HCORE.out.o13⟩
                · obtain rfl := Option.some.inj ho.symm
                  obtain rfl := Option.some.inj hs.symm
                  clear hdep hi ho hs hv
                  have e14 : F.getD 14 undef = .int .i64 (-1) := by (rw [hF, setAll_getD_ne (by decide)]; rfl)
                  clear hF hun
                  have e14' := (show F[14]?.getD undef = F.getD 14 undef by simp only [Array.getD_eq_getD_getElem?]).trans e14
                  have HD := Lib.hid hD
                  have HCORE := Lib.hid hcore
                  clear hD hcore
                  refine core_move (.tmp 14) rfl rfl ?_
                  refine CoreK.mk (F.getD 14 undef) (fun c hc => e14.trans (Option.some.inj hc)) ?_ rfl
                  exact ⟨HCORE.out.old, HCORE.out.size, HCORE.out.kept, HCORE.out.rd, HCORE.out.rt, HCORE.out.ne, HCORE.out.box, HCORE.out.s3, HCORE.out.s8, HCORE.out.o11, HCORE.out.o13⟩
                · obtain rfl := Option.some.inj ho.symm
                  obtain rfl := Option.some.inj hs.symm
                  have g7 := hdep ⟨7, .data⟩ (by simp) rfl
                  have d7 : x 7 = .int .i64 (-1) := hv 7 _ (by omega) g7 rfl
                  clear hdep hi ho hs hv
                  have e109 : F.getD 109 undef = .int .i64 (-1) := by (rw [← d7, hF]; exact setAll_getD (by decide) (i := 7) rfl (Nat.le_of_ble_eq_true (by kernel_rfl)))
                  clear hF hun d7
                  have e109' := (show F[109]?.getD undef = F.getD 109 undef by simp only [Array.getD_eq_getD_getElem?]).trans e109
                  have HD := Lib.hid hD
                  have HCORE := Lib.hid hcore
                  clear hD hcore
                  clear g7
                  go_wp2_with fail
                  refine CoreK.mk _ (fun c hc => by cases hc) ?_ rfl
                  exact HCORE.out.build8
                · obtain rfl := Option.some.inj ho.symm
                  obtain rfl := Option.some.inj hs.symm
                  have g6 := hdep ⟨6, .data⟩ (by simp) rfl
                  have d6 : x 6 = .slice at' p ct' := hv 6 _ (by omega) g6 rfl
                  have g8 := hdep ⟨8, .data⟩ (by simp) rfl
                  have g4 := hdep ⟨4, .chain⟩ (by simp) rfl
                  clear hdep hi ho hs hv
                  have e108 : F.getD 108 undef = .slice at' p ct' := by (rw [← d6, hF]; exact setAll_getD (by decide) (i := 6) rfl (Nat.le_of_ble_eq_true (by kernel_rfl)))
                  have e110 : F.getD 110 undef = x 8 := by (rw [hF]; exact setAll_getD (by decide) (i := 8) rfl (Nat.le_of_ble_eq_true (by kernel_rfl)))
                  clear hF hun d6
                  obtain ⟨gb, qx, hgb, _⟩ := hcore.s8 g8 hD
                  rw [qx] at e110
                  have hrow := hcore.rt
                  rw [hD] at hrow
                  have HROW4 : Hid (OwnT W Wd.heap.size 3 1 (.slice at' p ct') p _) := Lib.hid hrow
                  have hnews : ∀ j u', [Value.int .i64 (-1)][j]? = some u' → W.cell? (Addr.add ⟨gb, 0, none⟩ j) = some u' := fun j u' hj => by
                    have e1 : (Addr.add ⟨gb, 0, none⟩ j) = ⟨gb, j, none⟩ := by unfold Addr.add; split <;> simp_all
                    rw [e1, cell_block hgb]
                    simpa using hj
                  have HNEWS := Lib.hid hnews
                  have hbs := hcore.size
                  clear hnews hrow hgb qx
                  have HG4 := Lib.hid g4
                  have e108' := (show F[108]?.getD undef = F.getD 108 undef by simp only [Array.getD_eq_getD_getElem?]).trans e108
                  have e110' := (show F[110]?.getD undef = F.getD 110 undef by simp only [Array.getD_eq_getD_getElem?]).trans e110
                  have HD := Lib.hid hD
                  have HCORE := Lib.hid hcore
                  clear hD hcore
                  clear g6
                  clear g8
                  clear g4
                  refine wpList_append_T W rfl (.tmp 108) (.tmp 110) 28 rfl Wd.heap.size 3 i1 _ 1 8 Tryz.underlying28 hj0 hj1 hj2 hj3 rfl (by decide) _ p _ e108 HROW4.out ⟨gb, 0, none⟩ 1 1 [.int .i64 (-1)] e110 rfl HNEWS.out (by simp [Value.oneCell']) (by unfold maxLen; omega) (by omega) (by omega) ?_
                  intro v' w3 hown3 hgrow3 hwh3
                  refine CoreK.mk v' (fun c hc => by cases hc) ?_ rfl
                  exact HCORE.out.app9 HG4.out HD.out hown3 hgrow3 hwh3 hwd
                · obtain rfl := Option.some.inj ho.symm
                  obtain rfl := Option.some.inj hs.symm
                  clear hdep hi ho hs hv
                  have e10 : F.getD 10 undef = .pointer (some ⟨Bt, 0, none⟩) := by (rw [hF, setAll_getD_ne (by decide)]; rfl)
                  clear hF hun
                  have e10' := (show F[10]?.getD undef = F.getD 10 undef by simp only [Array.getD_eq_getD_getElem?]).trans e10
                  have HD := Lib.hid hD
                  have HCORE := Lib.hid hcore
                  clear hD hcore
                  go_wp2_with fail
                  refine CoreK.mk _ (fun c hc => Option.some.inj hc) ?_ rfl
                  exact ⟨HCORE.out.old, HCORE.out.size, HCORE.out.kept, HCORE.out.rd, HCORE.out.rt, HCORE.out.ne, HCORE.out.box, HCORE.out.s3, HCORE.out.s8, HCORE.out.o11, HCORE.out.o13⟩
                · obtain rfl := Option.some.inj ho.symm
                  obtain rfl := Option.some.inj hs.symm
                  have g10 := hdep ⟨10, .data⟩ (by simp) rfl
                  have d10 : x 10 = .pointer (some ⟨Bt, 4, none⟩) := hv 10 _ (by omega) g10 rfl
                  have g4 := hdep ⟨4, .data⟩ (by simp) rfl
                  have g9 := hdep ⟨9, .chain⟩ (by simp) rfl
                  have g1 := hdep ⟨1, .phase⟩ (by simp) rfl
                  have g6 := hdep ⟨6, .phase⟩ (by simp) rfl
                  clear hdep hi ho hs hv
                  have e112 : F.getD 112 undef = .pointer (some ⟨Bt, 4, none⟩) := by (rw [← d10, hF]; exact setAll_getD (by decide) (i := 10) rfl (Nat.le_of_ble_eq_true (by kernel_rfl)))
                  have e106 : F.getD 106 undef = x 4 := by (rw [hF]; exact setAll_getD (by decide) (i := 4) rfl (Nat.le_of_ble_eq_true (by kernel_rfl)))
                  have hself0 : F = F.setIfInBounds 4 undef := by (have hun' : x 11 = undef := hun; rw [← hun', hF]; exact setAll_self1 (by decide) rfl)
                  have hself := Lib.hid hself0
                  clear hself0
                  clear hF hun d10
                  have hrd := hcore.rd
                  rw [g4] at hrd
                  obtain ⟨ax, cx, qx⟩ := hrd.slice
                  have qx' : x 4 = .slice ax (p + 1) cx := qx
                  rw [qx'] at e106
                  have h13 : D 13 = false := by
                    cases h : D 13 with
                    | false => rfl
                    | true => exact absurd (hcore.o13 h) (by rw [hD]; decide)
                  have hbx : W.heap[Bt]? = some (.cells (trC (.slice pa inputs.length ca) (.slice pb word.length cb) (.slice av L.length cv) (.slice am PL.length cm) (.slice ad p cd) (.slice at' p ct')) 35) := by
                    have h := hcore.box
                    rw [hD, h13] at h
                    exact h
                  have t := cell_block hbx
                  have f := frozen_block hbx
                  clear hbx
                  have HG := Lib.hid (And.intro qx' (And.intro g4 (And.intro g9 (And.intro g1 (And.intro g6 h13)))))
                  clear hrd qx qx' h13
                  have e112' := (show F[112]?.getD undef = F.getD 112 undef by simp only [Array.getD_eq_getD_getElem?]).trans e112
                  have e106' := (show F[106]?.getD undef = F.getD 106 undef by simp only [Array.getD_eq_getD_getElem?]).trans e106
                  have HD := Lib.hid hD
                  have HCORE := Lib.hid hcore
                  clear hD hcore
                  clear g10
                  clear g4
                  clear g9
                  clear g1
                  clear g6
                  go_wp2_with fail
                  refine CoreK.mk undef (fun c hc => Option.some.inj hc) ?_ (congrArg (fun t => Act.mk t _) hself.out)
                  obtain ⟨qx, k4, k9, k1, k6, h13⟩ := HG.out
                  exact HCORE.out.put (D' := upd D 11) (x' := updV x 11 undef) k4 k9 hwb (fun j h1 _ => if_neg h1) rfl rfl 4 (.slice ax (p + 1) cx) (by rw [← qx, HD.out, h13, show upd D 11 13 = false from h13]; rfl) k1 k6 (fun _ => rfl)
                · obtain rfl := Option.some.inj ho.symm
                  obtain rfl := Option.some.inj hs.symm
                  clear hdep hi ho hs hv
                  have e10 : F.getD 10 undef = .pointer (some ⟨Bt, 0, none⟩) := by (rw [hF, setAll_getD_ne (by decide)]; rfl)
                  clear hF hun
                  have e10' := (show F[10]?.getD undef = F.getD 10 undef by simp only [Array.getD_eq_getD_getElem?]).trans e10
                  have HD := Lib.hid hD
                  have HCORE := Lib.hid hcore
                  clear hD hcore
                  go_wp2_with fail
                  refine CoreK.mk _ (fun c hc => Option.some.inj hc) ?_ rfl
                  exact ⟨HCORE.out.old, HCORE.out.size, HCORE.out.kept, HCORE.out.rd, HCORE.out.rt, HCORE.out.ne, HCORE.out.box, HCORE.out.s3, HCORE.out.s8, HCORE.out.o11, HCORE.out.o13⟩
                · obtain rfl := Option.some.inj ho.symm
                  obtain rfl := Option.some.inj hs.symm
                  have g12 := hdep ⟨12, .data⟩ (by simp) rfl
                  have d12 : x 12 = .pointer (some ⟨Bt, 5, none⟩) := hv 12 _ (by omega) g12 rfl
                  have g9 := hdep ⟨9, .data⟩ (by simp) rfl
                  have g11 := hdep ⟨11, .chain⟩ (by simp) rfl
                  have g1 := hdep ⟨1, .phase⟩ (by simp) rfl
                  have g6 := hdep ⟨6, .phase⟩ (by simp) rfl
                  have g4 := hdep ⟨4, .phase⟩ (by simp) rfl
                  clear hdep hi ho hs hv
                  have e113 : F.getD 113 undef = .pointer (some ⟨Bt, 5, none⟩) := by (rw [← d12, hF]; exact setAll_getD (by decide) (i := 12) rfl (Nat.le_of_ble_eq_true (by kernel_rfl)))
                  have e111 : F.getD 111 undef = x 9 := by (rw [hF]; exact setAll_getD (by decide) (i := 9) rfl (Nat.le_of_ble_eq_true (by kernel_rfl)))
                  have hself0 : F = F.setIfInBounds 5 undef := by (have hun' : x 13 = undef := hun; rw [← hun', hF]; exact setAll_self1 (by decide) rfl)
                  have hself := Lib.hid hself0
                  clear hself0
                  clear hF hun d12
                  have hrt := hcore.rt
                  rw [g9] at hrt
                  obtain ⟨ax, cx, qx⟩ := hrt.slice
                  have qx' : x 9 = .slice ax (p + 1) cx := qx
                  rw [qx'] at e111
                  have hbx : W.heap[Bt]? = some (.cells (trC (.slice pa inputs.length ca) (.slice pb word.length cb) (.slice av L.length cv) (.slice am PL.length cm) (x 4) (.slice at' p ct')) 35) := by
                    have h := hcore.box
                    rw [g11, hD] at h
                    exact h
                  have t := cell_block hbx
                  have f := frozen_block hbx
                  clear hbx
                  have HG := Lib.hid (And.intro qx' (And.intro g4 (And.intro g9 (And.intro g1 (And.intro g6 g11)))))
                  clear hrt qx qx'
                  have e113' := (show F[113]?.getD undef = F.getD 113 undef by simp only [Array.getD_eq_getD_getElem?]).trans e113
                  have e111' := (show F[111]?.getD undef = F.getD 111 undef by simp only [Array.getD_eq_getD_getElem?]).trans e111
                  have HD := Lib.hid hD
                  have HCORE := Lib.hid hcore
                  clear hD hcore
                  clear g12
                  clear g9
                  clear g11
                  clear g1
                  clear g6
                  clear g4
                  go_wp2_with fail
                  refine CoreK.mk undef (fun c hc => Option.some.inj hc) ?_ (congrArg (fun t => Act.mk t _) hself.out)
                  obtain ⟨qx, k4, k9, k1, k6, k11⟩ := HG.out
                  exact HCORE.out.put (D' := upd D 13) (x' := updV x 13 undef) k4 k9 hwb (fun j _ h2 => if_neg h2) rfl rfl 5 (.slice ax (p + 1) cx) (by rw [← qx, HD.out, k11, show upd D 13 11 = true from k11]; rfl) k1 k6 (fun _ => k11)
              case tail =>
                intro x W' D F hall hv hcore hF
                have x0 := hv 0 _ (by omega) rfl
                have x1 := hv 1 _ (by omega) rfl
                have x2 := hv 2 _ (by omega) rfl
                have x5 := hv 5 _ (by omega) rfl
                have x6 := hv 6 _ (by omega) rfl
                have x7 := hv 7 _ (by omega) rfl
                have x10 := hv 10 _ (by omega) rfl
                have x11 := hv 11 _ (by omega) rfl
                have x12 := hv 12 _ (by omega) rfl
                have x13 := hv 13 _ (by omega) rfl
                have hrd := hcore.rd
                have hrt := hcore.rt
                have hne := hcore.ne
                have hbox := hcore.box
                rw [hall 4 (by omega)] at hrd hne
                rw [hall 9 (by omega)] at hrt hne
                rw [hall 11 (by omega), hall 13 (by omega)] at hbox
                have hdi : DI w Wd Bt (.slice pa inputs.length ca) (.slice pb word.length cb) (.slice av L.length cv) (.slice am PL.length cm) ds ts (p + 1) W' := ⟨hcore.old, Nat.le_trans hsd0 hcore.size, fun k o hk hb => hcore.kept k o (HD3.out.kept k o hk hb) hb (fun e => by have h1 := (HDT.out.1.lt k e).1; have h2 := block_lt hk; omega) (fun e => by have h1 := (HDT.out.2.1.lt k e).1; have h2 := block_lt hk; omega), x 4, x 9, hbox, by rw [tk_snoc HDS.out.1 hpn HTK.out.2, HDL.out.1]; exact hrd, by rw [tk_snoc HDS.out.2 hpn HTK.out.1, HDL.out.2]; exact hrt, hne⟩
                have HDI2 := Lib.hid hdi
                simp only [setAll, setFrom, List.setIfInBounds_toArray, List.set_cons_succ, List.set_cons_zero, Nat.reduceAdd, x0, x1, x2, x5, x6, x7, x10, x11, x12, x13] at hF
                generalize x 3 = y3 at hF
                generalize x 4 = y4 at hF
                generalize x 8 = y8 at hF
                generalize x 9 = y9 at hF
                subst hF
                clear hv hall hcore hrd hrt hne hbox hdi x0 x1 x2 x5 x6 x7 x10 x11 x12 x13
                go_wp2_with fail
                go_roundw
                case rel => exact ⟨p + 1, by omega, by go_num, HDI2.out⟩
                case measure => simp [intOf]; omega
        · have hpn' : ¬ (p : Int) < m.n := by rw [HOK.out.good.hn]; omega
          obtain rfl : p = n := by omega
          obtain ⟨vd, vtt, hrow, hd, ht, _⟩ := HDI.out.row
          have HROW := Lib.hid hrow
          have HDT := Lib.hid (And.intro hd ht)
          obtain ⟨ad, cd, rfl⟩ := hd.slice
          obtain ⟨at', ct', rfl⟩ := ht.slice
          have t1 := cell_block hrow
          have hR := HDI.out.kept _ _ (HSI.out.2.1 _ _ (block_up H3.out.1 (block_up HW2.out.1 HR1.out)) rfl (by omega)) (by omega)
          have hE := HDI.out.kept _ _ (HSI.out.2.1 _ _ (block_up H3.out.1 (block_up HW2.out.1 HE1.out)) rfl (by omega)) (by omega)
          have t2 := cell_block hR
          have f2 := frozen_block hR
          have t3 := cell_block hE
          have f3 := frozen_block hE
          have HRE := Lib.hid (And.intro hR hE)
          have hdB : D ≠ Bt := by omega
          have hK0 := HDI.out.kept _ _ HK.out hdB
          have HK0 := Lib.hid hK0
          clear hR hE hrow hd ht hK0
          go_wp2_with fail
          clear t1 t2 t3 f2 f3
          obtain ⟨p1, p2, p3, p4⟩ := put6 HRE.out.1 rfl (.slice pa inputs.length ca) (.slice pb word.length cb) (.slice av L.length cv) (.slice am PL.length cm) (.slice ad p cd) (.slice at' p ct') _ rfl
          have hE6 := (p2 _ (show w.heap.size + 1 + 1 ≠ w.heap.size + 1 by omega)).trans HRE.out.2
          have hD1 : D ≠ w.heap.size + 1 := by omega
          have hD2 : D ≠ w.heap.size + 1 + 1 := by omega
          have hK6 := (p2 _ hD1).trans HK0.out
          refine marks_ret (setCell_other (B := w.heap.size + 1 + 1) hK6 hD2 _ _) (sim_results _ (w.heap.size + 1) (w.heap.size + 1 + 1) _ _ _ _ _ _ _ 0 _ _ rfl rfl ((World.putObj_heap_other (by omega)).trans (setCell_other (B := w.heap.size + 1 + 1) p1 (by omega) _ _)) ((World.putObj_heap_other (by omega)).trans (by rw [setCell_same hE6]; rfl))) ?_
          refine ⟨_, _, _, _, _, _, rfl, ?_, below_put (by omega) ((p4 _ _ (by omega) HDI.out.old).setCell (p := ⟨w.heap.size + 1 + 1, 0, none⟩) (by dsimp only; omega) _)⟩
          refine tr_nk (W := wr) ((put6_nk HRE.out.1 p1 p2).trans ((NK.of_ck (ck_set0 hE6)).trans (NK.of_ck (ck_putD _ (setCell_other (B := w.heap.size + 1 + 1) hK6 hD2 _ _))))) ?ne ?tr
          case ne =>
            intro x hx
            exact HNE.out x (by rw [← HL.out]; exact hx)
          case tr =>
            have hnk3 : NK W3 wr := NK.of_blocks fun k cs t f hk => by
              by_cases e : k = Bt
              · subst e
                have h3 := H3.out.2.2.1
                rw [h3] at hk
                cases hk
                refine ⟨_, _, _, HROW.out, fun o c ho hn => ?_⟩
                have : o < 6 := (Array.getElem?_eq_some_iff.1 ho).1
                rcases (show o = 0 ∨ o = 1 ∨ o = 2 ∨ o = 3 ∨ o = 4 ∨ o = 5 by omega) with rfl | rfl | rfl | rfl | rfl | rfl <;> simp at ho ⊢ <;> first | exact ho | exact absurd ho.symm hn
              · exact ⟨_, _, _, HDI.out.kept _ _ (HSI.out.2.1 _ _ hk rfl e) e, fun _ _ h _ => h⟩
            have hmt : madeT m inputs word = ⟨inputs, word, L, xs, ds, ts⟩ := by
              unfold madeT
              dsimp only
              rw [HL.out, show m.n.toNat = p by (rw [HOK.out.good.hn]; simp), HP.out, HXS.out, HDS.out.1, HDS.out.2]
            rw [hmt]
            have ed : ds.length = p := by rw [← HDS.out.1]; simp
            have et : ts.length = p := by rw [← HDS.out.2]; simp
            have hn5 := HOK.out.good.n5
            refine ⟨ints_nk hnk3 H3.out.2.2.2.1, word_nk hnk3 H3.out.2.2.2.2, vecs_nk hnk3 HNE.out ((HVV.out.up up_ints HW2.out.1).up up_ints H3.out.1), ?_, ?_, ?_⟩
            · have h1 : OwnT wr W3.heap.size 65 4 (.slice am PL.length cm) PL.length (flatM (xs.take PL.length)) := HVM.out.2.keep fun g o hg ho => HDI.out.kept g o ho (HVM.out.2.ne HVM.out.1 (by decide) g hg)
              rw [List.take_of_length_le (by rw [HXL.out]; omega)] at h1
              have h3 : OwnT wr W3.heap.size 65 4 (.slice am PL.length cm) xs.length (flatM xs) := by rw [HXL.out]; exact h1
              exact own_msgs h3 (fun x hx => by
                rw [← HXS.out] at hx
                obtain ⟨y, hy, rfl⟩ := List.mem_map.1 hx
                have h5 := HPL.out y hy
                rw [← HL.out]
                exact HOK.out.msg h5.1 h5.2.1 h5.2.2.1 h5.2.2.2) (by rw [HXL.out]; have := HPLL.out; omega)
            · have h1 := HDT.out.1
              rw [List.take_of_length_le (by omega)] at h1
              have h2 : OwnT wr Wd.heap.size 3 1 (.slice ad p cd) ds.length (ds.map (Value.int .i64)) := by rw [ed]; exact h1
              exact own_ints h2 (fun x hx => by
                rw [← HDS.out.1] at hx
                obtain ⟨j, hj, rfl⟩ := List.mem_map.1 hx
                rw [List.mem_range] at hj
                have h5 := HOK.out.dec hj
                rw [HL.out] at h5
                unfold InR
                omega) (show ds.length ≤ _ by omega)
            · have h1 := HDT.out.2
              rw [List.take_of_length_le (by omega)] at h1
              have h2 : OwnT wr Wd.heap.size 3 1 (.slice at' p ct') ts.length (ts.map (Value.int .i64)) := by rw [et]; exact h1
              exact own_ints h2 (fun x hx => by
                rw [← HDS.out.2] at hx
                obtain ⟨j, hj, rfl⟩ := List.mem_map.1 hx
                have h5 := HOK.out.when j
                have h6 := HOK.out.good.r6
                rw [HL.out] at h5
                unfold InR
                omega) (show ts.length ≤ _ by omega)
    case stop =>
      intro D c i T W _ _ h
      exact h.elim
end Go.Proofs.YtjmejfgkogjpaaaGreatDoor
