/-
  Parts of the proof, in order. Contract of the program's simulate.Format. Conditions: the argument reads as a trace of the form that FmtOk names; the library's table reads as its initialiser lays it. Contract of the program's simulate.Replay. Conditions: the arguments read as a machine and a trace. The walk of law56's awake: it returns true. Conditions: the library's table reads as its initialiser lays it.
-/
import Derived.Test.YtjmejfgkogjpaaaGreatDoorJ13
namespace Go.Proofs.YtjmejfgkogjpaaaGreatDoor
open Go.RowKit Go Go.Shelf
attribute [local go_sem] Oper.semAt_some

theorem part_c (w : World) (l : List UInt8) (hl : l.length ≤ 90000) : PartV w (.iface 88 (.string (⟨#[58, 32]⟩ ++ ⟨l.toArray⟩))) (wP (58 :: 32 :: l)) := by
  have h : ((⟨#[58, 32]⟩ : ByteArray) ++ ⟨l.toArray⟩) = ⟨(58 :: 32 :: l).toArray⟩ := by
    have h1 : (((⟨#[58, 32]⟩ : ByteArray) ++ ⟨l.toArray⟩).data : Array UInt8) = (58 :: 32 :: l).toArray := by simp [ByteArray.data_append]
    cases h2 : ((⟨#[58, 32]⟩ : ByteArray) ++ ⟨l.toArray⟩) with
    | mk d =>
      rw [h2] at h1
      have h3 : d = (58 :: 32 :: l).toArray := h1
      rw [h3]
  rw [h]
  exact ⟨rfl, by simp; omega⟩
theorem part_s (w : World) (k : Nat) (hk : k + 1 < 100) : PartV w (.iface 91 (.int .i64 ((k : Int) + 1))) (.num (k + 1)) := ⟨by simp, hk⟩
theorem msR_mem (k : Nat) (l : List Msg) : ∀ y ∈ msR k l, y ∈ l := by
  induction l with
  | nil => intro y hy; exact hy
  | cons a r ih =>
    intro y hy
    rw [msR] at hy
    split at hy
    · exact List.mem_cons_of_mem _ (ih y hy)
    · exact hy
theorem remM_mem (t : Tr) (k : Nat) : ∀ y ∈ remM t k, y ∈ t.msgs := by
  induction k with
  | zero => intro y hy; exact hy
  | succ k ih => intro y hy; exact ih y (msR_mem _ _ y hy)
def slLen : Value → Nat
  | .slice _ n _ => n
  | _ => 0

theorem IsSl.capLe {α : Type} {k : Nat} {R : World → Nat → Nat → α → Prop} {w : World} {a : Option Addr} {n cap : Nat} {l : List α} (h : IsSl k R w (.slice a n cap) l) : cap ≤ 9223372036854775807 := by
  obtain ⟨a', c', e, h1, _⟩ := h
  injection e with _ _ e3
  rw [e3]; exact h1.2.1

set_option maxRecDepth 100000 in
set_option maxHeartbeats 16000000 in
theorem format_any (t : Tr) (vi vw vs vm vd vt : Value) (w : World) (ht : IsTr w t vi vw vs vm vd vt) (ok : FmtOk t) (hT : TzAt w) :
    Calls Tryz.prog 13 #[.agg (trC vi vw vs vm vd vt)] w fun e w' => e = .returned (.tuple #[.string ⟨(formatT t).toArray⟩, .int .i64 0]) ∧ Below w.heap.size w w' := by
  have HTR := Lib.hid ht
  have HT := Lib.hid hT
  have OK := Lib.hid ok
  have HZ := Lib.hid ok.e
  have SH := Lib.hid (trace_shape ok.e)
  have hwl := ok.wl
  have HMS := Lib.hid ok.ms
  have hdl := ok.dl
  obtain ⟨h1, h2, h3, h4, h5, h6⟩ := ht
  obtain ⟨pi, ci, rfl, li1, li2, _⟩ := h1.at
  obtain ⟨pw, cw, rfl, lw1, lw2, ew⟩ := h2.at
  obtain ⟨ps, cs, rfl, ls1, ls2, es⟩ := h3.at
  obtain ⟨pm, cm, rfl, lm1, lm2, em⟩ := h4.at
  obtain ⟨pd, cd, rfl, ld1, ld2, ed⟩ := h5.at
  obtain ⟨pt, ct, rfl, lt1, lt2, et⟩ := h6.at
  have EW := Lib.hid ew
  have ES := Lib.hid es
  have ED := Lib.hid ed
  have ET := Lib.hid et
  have HI := Lib.hid h1
  have HM := Lib.hid h4
  have hcw := h2.capLe
  have HGL : Hid (∀ k (hk : k < t.word.length), (gT t.word[k].g).length ≤ 30) := by
    have h : ∀ k (hk : k < t.word.length), (gT t.word[k].g).length ≤ 30 := fun k hk => by
      have h9 := (wordE_hear SH.out.2.2.1 hk).1
      rw [getD_of_lt default hk] at h9
      exact gT_len _ (round_ok h9).2.2.1
    exact h
  clear h1 h2 h3 h4 h5 h6 ew es em ed et ok hT
  go_enter Tryz.func13, Tryz.ntmps13
  go_wp2_with fail
  refine calls_gen (fun W => Below w.heap.size w W ∧ W.heap[w.heap.size]? = some (.cells (trC (.slice pi t.inp.length ci) (.slice pw t.word.length cw) (.slice ps t.states.length cs) (.slice pm t.msgs.length cm) (.slice pd t.dec.length cd) (.slice pt t.times.length ct)) 35)) ⟨by go_grown, alloc_new _ _⟩ (fun W0 hW0 => ?_)
  obtain ⟨hb0, hA0⟩ := hW0
  have HA0 := Lib.hid hA0
  clear hA0
  refine (trCheck_any t _ _ _ _ _ _ W0 (HTR.out.up hb0)).mono ?_
  rintro e w1 ⟨rfl, hb1'⟩
  have hb1 := ext_trans hb0 hb1'
  rw [HZ.out]
  have HB1 := Lib.hid hb1
  have t1 := cell_block (block_up hb1' HA0.out)
  have HA1 := Lib.hid (block_up hb1' HA0.out)
  have hs1 := block_lt HA1.out
  clear hb1 hb1'
  generalize hCS : trC (.slice pi t.inp.length ci) (.slice pw t.word.length cw) (.slice ps t.states.length cs) (.slice pm t.msgs.length cm) (.slice pd t.dec.length cd) (.slice pt t.times.length ct) = CS at HA1
  have HCS := Lib.hid hCS
  clear hCS
  have hFun := enters_of Tryz.func27 (by kernel_rfl) rfl
  go_wp2_with fail
  -- the line of the inputs
  refine calls_gen (fun W => FS w w.heap.size w1.heap.size CS [] W ∧ W.heap[w1.heap.size + 1]? = some (.cells [.iface 88 (.string ⟨#[105, 110, 112, 117, 116, 115]⟩), .iface 89 (.slice pi t.inp.length ci)].toArray 80)) ⟨⟨ext_trans HB1.out (by go_grown), alloc_old _ (alloc_old _ HA1.out), (fresh_bld w1).up (by go_grown), by omega⟩, alloc2_new _ _ _⟩ (fun W2 hW2 => ?_)
  obtain ⟨hF2, hg2⟩ := hW2
  refine (hF2.line (w1.heap.size + 1) 2 _ (inPs t) rfl (by simp) (by simp [inPs]) hg2 (list_parts2 (part_w _ _ (by simp)) (part_r _ _ _ HI.out OK.out.inp)) rfl).mono ?_
  rintro e w3 ⟨rfl, hF3, hs3⟩
  rw [List.nil_append] at hF3
  have HF3 := Lib.hid hF3
  have t1 := cell_block hF3.bt
  rw [← HCS.out] at t1
  have hsl := hF3.old.size
  have hst0 : 0 < t.states.length := by have := SH.out.2.2.2.1; omega
  obtain ⟨b0, o0, rfl, u0, cu0, hu0⟩ := ES.out 0 hst0
  rw [Nat.zero_mul, Nat.add_zero] at cu0
  have du0 := cell_up hF3.old cu0
  have HU0 := Lib.hid hu0
  obtain ⟨pu0, qu0, rfl, _⟩ := hu0.at
  have hls := block_lt hF3.bt
  have hlb := hF3.bl.lt
  clear hF2 hg2 hF3 cu0 hu0
  go_wp2_with fail
  refine calls_gen (fun W => FS w w.heap.size w1.heap.size CS (lnT (inPs t)) W ∧ W.heap[w3.heap.size]? = some (.cells [.iface 88 (.string ⟨#[115, 116, 97, 116, 101, 115]⟩), .iface 89 (.slice pu0 t.states[0].length qu0)].toArray 80)) ⟨HF3.out.up (by go_grown), alloc_new _ _⟩ (fun W4 hW4 => ?_)
  obtain ⟨hF4, hg4⟩ := hW4
  have HSP0 : Hid ([wP [115, 116, 97, 116, 101, 115], .row t.states[0]] = stPs t 0) := by (have h : [wP [115, 116, 97, 116, 101, 115], .row t.states[0]] = stPs t 0 := by (unfold stPs; rw [getD_of_lt [] hst0])); exact h
  refine (hF4.line w3.heap.size 2 _ [wP [115, 116, 97, 116, 101, 115], .row t.states[0]] rfl (acc_le OK.out (b := lnT (stPs t 0) ++ roTail t 0) rfl) (by simp) hg4 (list_parts2 (part_w _ _ (by simp)) (part_r _ _ _ HU0.out (OK.out.st _ (List.getElem_mem hst0)))) rfl).mono ?_
  rintro e w5 ⟨rfl, hF5, hs5⟩
  rw [HSP0.out] at hF5
  have HF5 := Lib.hid hF5
  clear hF4 hg4 hs3 hs5 du0 t1
  have t1 := cell_block hF5.bt
  rw [← HCS.out] at t1
  clear hF5
  go_wp2_with fail
  clear t1
  go_loopw [7, 8, 9, 10, 11, 41] (fun v _ _ _ _ i wr => ∃ (k : Nat) (acc : List UInt8), k ≤ t.word.length ∧ i = .int .i64 k ∧ IsMsgs w v (remM t k) ∧ acc ++ roTail t k = formatT t ∧ FS w w.heap.size w1.heap.size CS acc wr) (fun _ _ _ _ _ i _ => t.word.length - (intOf i).toNat)
  case atStart => exact ⟨0, lnT (inPs t) ++ lnT (stPs t 0), by omega, rfl, HM.out, by simp [formatT, List.append_assoc], HF5.out⟩
  case round =>
    obtain ⟨k, acc, hk, rfl, hvm, hacc, hFS⟩ := hrel
    have HFS := Lib.hid hFS
    have HVM := Lib.hid hvm
    have HACC := Lib.hid hacc
    obtain ⟨pv, cv, rfl, _⟩ := hvm.at
    have t1 := cell_block hFS.bt
    rw [← HCS.out] at t1
    clear hvm hFS hacc
    by_cases hlt : k < t.word.length
    · have hfr : t.word[k].f = 0 := OK.out.f _ (List.getElem_mem hlt)
      have hwo := word_one SH.out.2.2.1 hlt hfr
      obtain ⟨bw, ow, rfl, hrd⟩ := EW.out k hlt
      have hgl := HGL.out k hlt
      have HSTEP := Lib.hid (roTail_step t k hlt)
      have HHD : Hid (hdPs t k = [wP [114, 111, 117, 110, 100, 32], .num (k + 1), wP (58 :: 32 :: gT t.word[k].g)]) := by (have h : hdPs t k = [wP [114, 111, 117, 110, 100, 32], .num (k + 1), wP (58 :: 32 :: gT t.word[k].g)] := by (unfold hdPs; rw [getD_of_lt default hlt])); exact h
      have HRF : Hid (∀ W, Below w.heap.size w W → Calls Tryz.prog 30 #[.int .i64 t.inp.length, .slice (some ⟨bw, ow + k * 7, none⟩) 1 (cw - k)] W fun e W' => e = .returned (.tuple #[.string ⟨(gT t.word[k].g).toArray⟩, .int .i64 0]) ∧ Below W.heap.size W W') := by
        have h : ∀ W, Below w.heap.size w W → Calls Tryz.prog 30 #[.int .i64 t.inp.length, .slice (some ⟨bw, ow + k * 7, none⟩) 1 (cw - k)] W fun e W' => e = .returned (.tuple #[.string ⟨(gT t.word[k].g).toArray⟩, .int .i64 0]) ∧ Below W.heap.size W W' := fun W hW => by
          have hv : IsWord W (.slice (some ⟨bw, ow + k * 7, none⟩) 1 (cw - k)) [t.word[k]] := ⟨some ⟨bw, ow + k * 7, none⟩, cw - k, rfl, ⟨by simp; omega, by omega, fun e => by cases e⟩, by simp, fun i x hx => by
            have h0 : i = 0 := by by_cases e : i = 0; exact e; simp [e] at hx
            subst h0
            simp at hx
            subst hx
            exact ⟨bw, ow + k * 7, rfl, by rw [Nat.zero_mul, Nat.add_zero]; exact up_round _ _ _ _ _ (.of_below hW) hrd⟩⟩
          have := rformat_any t.inp.length _ [t.word[k]] W hv hwo (by simp) (by simp) (fun r hr => by simp at hr; rw [hr]; exact hfr) (HT.out.up hW)
          have hj : Lib.join (wordT [t.word[k]]) [32, 47, 32] = gT t.word[k].g := by simp [wordT, Lib.join_one]
          rw [hj] at this
          exact this
        exact h
      clear hwo hfr hrd
      generalize gT t.word[k].g = sg at hgl HHD HRF
      go_wp2_with fail
      clear t1
      refine wp_region_core 15 [45, 46, 47, 48, 49, 50, 51, 52, 53, 54, 44, 55, 56, 9, 10] [some (.pointer (some ⟨w.heap.size, 0, none⟩)),
        some (.slice pi t.inp.length ci),
        some (.int .i64 t.inp.length),
        some (.pointer (some ⟨w.heap.size, 1, none⟩)),
        some (.slice (some ⟨bw, ow, none⟩) t.word.length cw),
        some (.int .i64 (k : Int)),
        some (.int .i64 (k : Int)),
        some (.int .i64 ((k : Int) + 1)),
        some (.slice (some ⟨bw, ow + k * 7, none⟩) 1 (cw - k)),
        some (.tuple #[.string ⟨sg.toArray⟩, .int .i64 0]),
        some (.tuple #[.string ⟨sg.toArray⟩, .int .i64 0]),
        some (.string ⟨sg.toArray⟩),
        some (.int .i64 0),
        some (.string ⟨sg.toArray⟩),
        some (.int .i64 0)] (fun _ _ W => FS w w.heap.size w1.heap.size CS acc W) (by kernel_rfl) rfl (by decide) rfl (by kernel_rfl) (fun _ => ⟨HFS.out.old.drew, HFS.out.bt, HFS.out.bl, HFS.out.hB⟩) ?step ?tail
      case step =>
        intro x W D i o s F hi ho hs hD hun hdep hv hcore hF
        have hcase : i = 0 ∨ i = 1 ∨ i = 2 ∨ i = 3 ∨ i = 4 ∨ i = 5 ∨ i = 6 ∨ i = 7 ∨ i = 8 ∨ i = 9 ∨ i = 10 ∨ i = 11 ∨ i = 12 ∨ i = 13 ∨ i = 14 := by omega
        rcases hcase with rfl | rfl | rfl | rfl | rfl | rfl | rfl | rfl | rfl | rfl | rfl | rfl | rfl | rfl | rfl
        · obtain rfl := Option.some.inj ho.symm
          obtain rfl := Option.some.inj hs.symm
          clear hdep hi ho hs hv
          have e1 : F.getD 1 undef = .pointer (some ⟨w.heap.size, 0, none⟩) := by (rw [hF, setAll_getD_ne (by decide)]; rfl)
          clear hF hun
          have e1' := (show F[1]?.getD undef = F.getD 1 undef by simp only [Array.getD_eq_getD_getElem?]).trans e1
          have HD := Lib.hid hD
          have HCORE := Lib.hid hcore
          clear hD hcore
          go_wp2_with fail
          refine CoreK.mk _ (fun c hc => Option.some.inj hc) ?_ rfl
          exact HCORE.out
        · obtain rfl := Option.some.inj ho.symm
          obtain rfl := Option.some.inj hs.symm
          have g0 := hdep ⟨0, .data⟩ (by simp) rfl
          have d0 : x 0 = .pointer (some ⟨w.heap.size, 0, none⟩) := hv 0 _ (by omega) g0 rfl
          clear hdep hi ho hs hv
          have e45 : F.getD 45 undef = .pointer (some ⟨w.heap.size, 0, none⟩) := by (rw [← d0, hF]; exact setAll_getD (by decide) (i := 0) rfl (Nat.le_of_ble_eq_true (by kernel_rfl)))
          clear hF hun d0
          have t1 := cell_block hcore.bt
          rw [← HCS.out] at t1
          have e45' := (show F[45]?.getD undef = F.getD 45 undef by simp only [Array.getD_eq_getD_getElem?]).trans e45
          have HD := Lib.hid hD
          have HCORE := Lib.hid hcore
          clear hD hcore
          clear g0
          go_wp2_with fail
          refine CoreK.mk _ (fun c hc => Option.some.inj hc) ?_ rfl
          exact HCORE.out
        · obtain rfl := Option.some.inj ho.symm
          obtain rfl := Option.some.inj hs.symm
          have g1 := hdep ⟨1, .data⟩ (by simp) rfl
          have d1 : x 1 = .slice pi t.inp.length ci := hv 1 _ (by omega) g1 rfl
          clear hdep hi ho hs hv
          have e46 : F.getD 46 undef = .slice pi t.inp.length ci := by (rw [← d1, hF]; exact setAll_getD (by decide) (i := 1) rfl (Nat.le_of_ble_eq_true (by kernel_rfl)))
          clear hF hun d1
          have e46' := (show F[46]?.getD undef = F.getD 46 undef by simp only [Array.getD_eq_getD_getElem?]).trans e46
          have HD := Lib.hid hD
          have HCORE := Lib.hid hcore
          clear hD hcore
          clear g1
          go_wp2_with fail
          refine CoreK.mk _ (fun c hc => Option.some.inj hc) ?_ rfl
          exact HCORE.out
        · obtain rfl := Option.some.inj ho.symm
          obtain rfl := Option.some.inj hs.symm
          clear hdep hi ho hs hv
          have e1 : F.getD 1 undef = .pointer (some ⟨w.heap.size, 0, none⟩) := by (rw [hF, setAll_getD_ne (by decide)]; rfl)
          clear hF hun
          have e1' := (show F[1]?.getD undef = F.getD 1 undef by simp only [Array.getD_eq_getD_getElem?]).trans e1
          have HD := Lib.hid hD
          have HCORE := Lib.hid hcore
          clear hD hcore
          go_wp2_with fail
          refine CoreK.mk _ (fun c hc => Option.some.inj hc) ?_ rfl
          exact HCORE.out
        · obtain rfl := Option.some.inj ho.symm
          obtain rfl := Option.some.inj hs.symm
          have g3 := hdep ⟨3, .data⟩ (by simp) rfl
          have d3 : x 3 = .pointer (some ⟨w.heap.size, 1, none⟩) := hv 3 _ (by omega) g3 rfl
          clear hdep hi ho hs hv
          have e48 : F.getD 48 undef = .pointer (some ⟨w.heap.size, 1, none⟩) := by (rw [← d3, hF]; exact setAll_getD (by decide) (i := 3) rfl (Nat.le_of_ble_eq_true (by kernel_rfl)))
          clear hF hun d3
          have t1 := cell_block hcore.bt
          rw [← HCS.out] at t1
          have e48' := (show F[48]?.getD undef = F.getD 48 undef by simp only [Array.getD_eq_getD_getElem?]).trans e48
          have HD := Lib.hid hD
          have HCORE := Lib.hid hcore
          clear hD hcore
          clear g3
          go_wp2_with fail
          refine CoreK.mk _ (fun c hc => Option.some.inj hc) ?_ rfl
          exact HCORE.out
        · obtain rfl := Option.some.inj ho.symm
          obtain rfl := Option.some.inj hs.symm
          clear hdep hi ho hs hv
          have e8 : F.getD 8 undef = .int .i64 (k : Int) := by (rw [hF, setAll_getD_ne (by decide)]; rfl)
          clear hF hun
          have e8' := (show F[8]?.getD undef = F.getD 8 undef by simp only [Array.getD_eq_getD_getElem?]).trans e8
          have HD := Lib.hid hD
          have HCORE := Lib.hid hcore
          clear hD hcore
          go_wp2_with fail
          refine CoreK.mk _ (fun c hc => Option.some.inj hc) ?_ rfl
          exact HCORE.out
        · obtain rfl := Option.some.inj ho.symm
          obtain rfl := Option.some.inj hs.symm
          clear hdep hi ho hs hv
          have e8 : F.getD 8 undef = .int .i64 (k : Int) := by (rw [hF, setAll_getD_ne (by decide)]; rfl)
          clear hF hun
          have e8' := (show F[8]?.getD undef = F.getD 8 undef by simp only [Array.getD_eq_getD_getElem?]).trans e8
          have HD := Lib.hid hD
          have HCORE := Lib.hid hcore
          clear hD hcore
          go_wp2_with fail
          refine CoreK.mk _ (fun c hc => Option.some.inj hc) ?_ rfl
          exact HCORE.out
        · obtain rfl := Option.some.inj ho.symm
          obtain rfl := Option.some.inj hs.symm
          have g6 := hdep ⟨6, .data⟩ (by simp) rfl
          have d6 : x 6 = .int .i64 (k : Int) := hv 6 _ (by omega) g6 rfl
          clear hdep hi ho hs hv
          have e51 : F.getD 51 undef = .int .i64 (k : Int) := by (rw [← d6, hF]; exact setAll_getD (by decide) (i := 6) rfl (Nat.le_of_ble_eq_true (by kernel_rfl)))
          clear hF hun d6
          have e51' := (show F[51]?.getD undef = F.getD 51 undef by simp only [Array.getD_eq_getD_getElem?]).trans e51
          have HD := Lib.hid hD
          have HCORE := Lib.hid hcore
          clear hD hcore
          clear g6
          go_wp2_with fail
          refine CoreK.mk _ (fun c hc => Option.some.inj hc) ?_ rfl
          exact HCORE.out
        · obtain rfl := Option.some.inj ho.symm
          obtain rfl := Option.some.inj hs.symm
          have g4 := hdep ⟨4, .data⟩ (by simp) rfl
          have d4 : x 4 = .slice (some ⟨bw, ow, none⟩) t.word.length cw := hv 4 _ (by omega) g4 rfl
          have g5 := hdep ⟨5, .data⟩ (by simp) rfl
          have d5 : x 5 = .int .i64 (k : Int) := hv 5 _ (by omega) g5 rfl
          have g7 := hdep ⟨7, .data⟩ (by simp) rfl
          have d7 : x 7 = .int .i64 ((k : Int) + 1) := hv 7 _ (by omega) g7 rfl
          clear hdep hi ho hs hv
          have e49 : F.getD 49 undef = .slice (some ⟨bw, ow, none⟩) t.word.length cw := by (rw [← d4, hF]; exact setAll_getD (by decide) (i := 4) rfl (Nat.le_of_ble_eq_true (by kernel_rfl)))
          have e50 : F.getD 50 undef = .int .i64 (k : Int) := by (rw [← d5, hF]; exact setAll_getD (by decide) (i := 5) rfl (Nat.le_of_ble_eq_true (by kernel_rfl)))
          have e52 : F.getD 52 undef = .int .i64 ((k : Int) + 1) := by (rw [← d7, hF]; exact setAll_getD (by decide) (i := 7) rfl (Nat.le_of_ble_eq_true (by kernel_rfl)))
          clear hF hun d4 d5 d7
          have e49' := (show F[49]?.getD undef = F.getD 49 undef by simp only [Array.getD_eq_getD_getElem?]).trans e49
          have e50' := (show F[50]?.getD undef = F.getD 50 undef by simp only [Array.getD_eq_getD_getElem?]).trans e50
          have e52' := (show F[52]?.getD undef = F.getD 52 undef by simp only [Array.getD_eq_getD_getElem?]).trans e52
          have HD := Lib.hid hD
          have HCORE := Lib.hid hcore
          clear hD hcore
          clear g4
          clear g5
          clear g7
          go_wp2_with fail
          refine CoreK.mk _ (fun c hc => Option.some.inj hc) ?_ rfl
          exact HCORE.out
        · obtain rfl := Option.some.inj ho.symm
          obtain rfl := Option.some.inj hs.symm
          have g2 := hdep ⟨2, .data⟩ (by simp) rfl
          have d2 : x 2 = .int .i64 t.inp.length := hv 2 _ (by omega) g2 rfl
          have g8 := hdep ⟨8, .data⟩ (by simp) rfl
          have d8 : x 8 = .slice (some ⟨bw, ow + k * 7, none⟩) 1 (cw - k) := hv 8 _ (by omega) g8 rfl
          clear hdep hi ho hs hv
          have e47 : F.getD 47 undef = .int .i64 t.inp.length := by (rw [← d2, hF]; exact setAll_getD (by decide) (i := 2) rfl (Nat.le_of_ble_eq_true (by kernel_rfl)))
          have e53 : F.getD 53 undef = .slice (some ⟨bw, ow + k * 7, none⟩) 1 (cw - k) := by (rw [← d8, hF]; exact setAll_getD (by decide) (i := 8) rfl (Nat.le_of_ble_eq_true (by kernel_rfl)))
          clear hF hun d2 d8
          have e47' := (show F[47]?.getD undef = F.getD 47 undef by simp only [Array.getD_eq_getD_getElem?]).trans e47
          have e53' := (show F[53]?.getD undef = F.getD 53 undef by simp only [Array.getD_eq_getD_getElem?]).trans e53
          have HD := Lib.hid hD
          have HCORE := Lib.hid hcore
          clear hD hcore
          clear g2
          clear g8
          go_wp2_with fail
          refine (HRF.out _ HCORE.out.old).mono ?_
          rintro e w3 ⟨rfl, hb3⟩
          go_wp2_with fail
          refine CoreK.mk _ (fun c hc => Option.some.inj hc) ?_ rfl
          exact HCORE.out.up hb3
        · obtain rfl := Option.some.inj ho.symm
          obtain rfl := Option.some.inj hs.symm
          have g9 := hdep ⟨9, .data⟩ (by simp) rfl
          have d9 : x 9 = .tuple #[.string ⟨sg.toArray⟩, .int .i64 0] := hv 9 _ (by omega) g9 rfl
          clear hdep hi ho hs hv
          have e54 : F.getD 54 undef = .tuple #[.string ⟨sg.toArray⟩, .int .i64 0] := by (rw [← d9, hF]; exact setAll_getD (by decide) (i := 9) rfl (Nat.le_of_ble_eq_true (by kernel_rfl)))
          clear hF hun d9
          have e54' := (show F[54]?.getD undef = F.getD 54 undef by simp only [Array.getD_eq_getD_getElem?]).trans e54
          have HD := Lib.hid hD
          have HCORE := Lib.hid hcore
          clear hD hcore
          clear g9
          go_wp2_with fail
          refine CoreK.mk _ (fun c hc => Option.some.inj hc) ?_ rfl
          exact HCORE.out
        · obtain rfl := Option.some.inj ho.symm
          obtain rfl := Option.some.inj hs.symm
          have g10 := hdep ⟨10, .data⟩ (by simp) rfl
          have d10 : x 10 = .tuple #[.string ⟨sg.toArray⟩, .int .i64 0] := hv 10 _ (by omega) g10 rfl
          clear hdep hi ho hs hv
          have e44 : F.getD 44 undef = .tuple #[.string ⟨sg.toArray⟩, .int .i64 0] := by (rw [← d10, hF]; exact setAll_getD (by decide) (i := 10) rfl (Nat.le_of_ble_eq_true (by kernel_rfl)))
          clear hF hun d10
          have e44' := (show F[44]?.getD undef = F.getD 44 undef by simp only [Array.getD_eq_getD_getElem?]).trans e44
          have HD := Lib.hid hD
          have HCORE := Lib.hid hcore
          clear hD hcore
          clear g10
          go_wp2_with fail
          refine CoreK.mk _ (fun c hc => Option.some.inj hc) ?_ rfl
          exact HCORE.out
        · obtain rfl := Option.some.inj ho.symm
          obtain rfl := Option.some.inj hs.symm
          have g10 := hdep ⟨10, .data⟩ (by simp) rfl
          have d10 : x 10 = .tuple #[.string ⟨sg.toArray⟩, .int .i64 0] := hv 10 _ (by omega) g10 rfl
          clear hdep hi ho hs hv
          have e44 : F.getD 44 undef = .tuple #[.string ⟨sg.toArray⟩, .int .i64 0] := by (rw [← d10, hF]; exact setAll_getD (by decide) (i := 10) rfl (Nat.le_of_ble_eq_true (by kernel_rfl)))
          clear hF hun d10
          have e44' := (show F[44]?.getD undef = F.getD 44 undef by simp only [Array.getD_eq_getD_getElem?]).trans e44
          have HD := Lib.hid hD
          have HCORE := Lib.hid hcore
          clear hD hcore
          clear g10
          go_wp2_with fail
          refine CoreK.mk _ (fun c hc => Option.some.inj hc) ?_ rfl
          exact HCORE.out
        · obtain rfl := Option.some.inj ho.symm
          obtain rfl := Option.some.inj hs.symm
          have g11 := hdep ⟨11, .data⟩ (by simp) rfl
          have d11 : x 11 = .string ⟨sg.toArray⟩ := hv 11 _ (by omega) g11 rfl
          clear hdep hi ho hs hv
          have e55 : F.getD 55 undef = .string ⟨sg.toArray⟩ := by (rw [← d11, hF]; exact setAll_getD (by decide) (i := 11) rfl (Nat.le_of_ble_eq_true (by kernel_rfl)))
          clear hF hun d11
          have e55' := (show F[55]?.getD undef = F.getD 55 undef by simp only [Array.getD_eq_getD_getElem?]).trans e55
          have HD := Lib.hid hD
          have HCORE := Lib.hid hcore
          clear hD hcore
          clear g11
          go_wp2_with fail
          refine CoreK.mk _ (fun c hc => Option.some.inj hc) ?_ rfl
          exact HCORE.out
        · obtain rfl := Option.some.inj ho.symm
          obtain rfl := Option.some.inj hs.symm
          have g12 := hdep ⟨12, .data⟩ (by simp) rfl
          have d12 : x 12 = .int .i64 0 := hv 12 _ (by omega) g12 rfl
          clear hdep hi ho hs hv
          have e56 : F.getD 56 undef = .int .i64 0 := by (rw [← d12, hF]; exact setAll_getD (by decide) (i := 12) rfl (Nat.le_of_ble_eq_true (by kernel_rfl)))
          clear hF hun d12
          have e56' := (show F[56]?.getD undef = F.getD 56 undef by simp only [Array.getD_eq_getD_getElem?]).trans e56
          have HD := Lib.hid hD
          have HCORE := Lib.hid hcore
          clear hD hcore
          clear g12
          go_wp2_with fail
          refine CoreK.mk _ (fun c hc => Option.some.inj hc) ?_ rfl
          exact HCORE.out
      case tail =>
        intro x W' D F hall hv hcore hF
        have x0 := hv 0 _ (by omega) rfl
        have x1 := hv 1 _ (by omega) rfl
        have x2 := hv 2 _ (by omega) rfl
        have x3 := hv 3 _ (by omega) rfl
        have x4 := hv 4 _ (by omega) rfl
        have x5 := hv 5 _ (by omega) rfl
        have x6 := hv 6 _ (by omega) rfl
        have x7 := hv 7 _ (by omega) rfl
        have x8 := hv 8 _ (by omega) rfl
        have x9 := hv 9 _ (by omega) rfl
        have x10 := hv 10 _ (by omega) rfl
        have x11 := hv 11 _ (by omega) rfl
        have x12 := hv 12 _ (by omega) rfl
        have x13 := hv 13 _ (by omega) rfl
        have x14 := hv 14 _ (by omega) rfl
        have HC12 := Lib.hid hcore
        simp only [setAll, setFrom, List.setIfInBounds_toArray, List.set_cons_succ, List.set_cons_zero, Nat.reduceAdd, x0, x1, x2, x3, x4, x5, x6, x7, x8, x9, x10, x11, x12, x13, x14] at hF
        subst hF
        clear hv hall hcore x0 x1 x2 x3 x4 x5 x6 x7 x8 x9 x10 x11 x12 x13 x14
        have t1 := cell_block HC12.out.bt
        rw [← HCS.out] at t1
        have hls := block_lt HC12.out.bt
        clear HFS
        go_wp2_with fail
        refine calls_gen (fun W => FS w w.heap.size w1.heap.size CS acc W ∧ W.heap[W'.heap.size]? = some (.cells [.iface 88 (.string ⟨#[114, 111, 117, 110, 100, 32]⟩), .iface 91 (.int .i64 ((k : Int) + 1)), .iface 88 (.string (⟨#[58, 32]⟩ ++ ⟨sg.toArray⟩))].toArray 80)) ⟨HC12.out.up (by go_grown), alloc_new _ _⟩ (fun W4 hW4 => ?_)
        obtain ⟨hF4, hg4⟩ := hW4
        refine (hF4.line W'.heap.size 3 _ [wP [114, 111, 117, 110, 100, 32], .num (k + 1), wP (58 :: 32 :: sg)] rfl (acc_le OK.out HACC.out) (by simp) hg4 (list_parts3 (part_w _ _ (by simp)) (part_s _ _ (by omega)) (part_c _ _ (by omega))) rfl).mono ?_
        rintro e w5 ⟨rfl, hF5, hs5⟩
        rw [← HHD.out] at hF5
        have HF5 := Lib.hid hF5
        clear hF4 hg4 hF5 t1
        have HACC5 := HACC.out
        rw [HSTEP.out, ← List.append_assoc] at HACC5
        have HA5 := Lib.hid HACC5
        clear HACC5
        go_wp2_with fail
        have hmm : msR k (remM t k) = remM t (k + 1) := rfl
        have HMM := Lib.hid hmm
        clear hmm
        generalize acc ++ lnT (hdPs t k) = acc5 at HF5 HA5
        have HRM := Lib.hid (remM_mem t k)
        generalize hrem : remM t k = lrem at HVM HA5 HMM HRM ⊢
        clear hrem
        have hk1 : k + 1 < t.states.length := by have := SH.out.2.2.2.1; omega
        obtain ⟨bu, ou, hbu, vu, hcu, hsu⟩ := ES.out (k + 1) hk1
        obtain ⟨rfl, rfl⟩ : b0 = bu ∧ o0 = ou := by injection hbu with h; injection h with h1 h2; exact ⟨h1, h2⟩
        rw [Nat.mul_one] at hcu
        obtain ⟨pu, qu, rfl, _⟩ := hsu.at
        have HCU := Lib.hid hcu
        have HSU := Lib.hid hsu
        have HSS := Lib.hid (OK.out.st _ (List.getElem_mem hk1))
        have HSP : Hid (lnT [wP [115, 116, 97, 116, 101, 115], .row t.states[k + 1]] = lnT (stPs t (k + 1))) := by (have h : lnT [wP [115, 116, 97, 116, 101, 115], .row t.states[k + 1]] = lnT (stPs t (k + 1)) := by (unfold stPs; rw [getD_of_lt [] hk1])); exact h
        clear hbu hcu hsu
        generalize t.states[k + 1] = su at HCU HSU HSS HSP
        go_loopw [7] (fun v wr => ∃ (l : List Msg) (acc : List UInt8), (∀ y ∈ l, y ∈ t.msgs) ∧ IsMsgs w v l ∧ msR k l = remM t (k + 1) ∧ acc ++ midT t k (roTail t (k + 1)) l = formatT t ∧ FS w w.heap.size w1.heap.size CS acc wr) (fun v _ => slLen v)
        case atStart => exact ⟨lrem, acc5, HRM.out, HVM.out, HMM.out, HA5.out, HF5.out⟩
        case round =>
          obtain ⟨l, acc2, hmm2, hvm2, hmr, hacc2, hFS2⟩ := hrel
          have HMM2 := Lib.hid hmm2
          clear hmm2
          have HVM2 := Lib.hid hvm2
          have HMR := Lib.hid hmr
          have HAC2 := Lib.hid hacc2
          have HFS2 := Lib.hid hFS2
          have t1 := cell_block hFS2.bt
          rw [← HCS.out] at t1
          have dus := cell_up hFS2.old HCU.out
          have hls2 := block_lt hFS2.bt
          have hlo := cell_lt HCU.out
          obtain ⟨pv2, cv2, rfl, lv1, lv2, ev⟩ := hvm2.at
          clear hmr hacc2 hvm2
          cases l with
          | nil =>
            go_wp2_with fail
            refine calls_gen (fun W => FS w w.heap.size w1.heap.size CS acc2 W ∧ W.heap[wr.heap.size]? = some (.cells [.iface 88 (.string ⟨#[115, 116, 97, 116, 101, 115]⟩), .iface 89 (.slice pu su.length qu)].toArray 80)) ⟨HFS2.out.up (by go_grown), alloc_new _ _⟩ (fun W8 hW8 => ?_)
            obtain ⟨hF8, hg8⟩ := hW8
            refine (hF8.line wr.heap.size 2 _ [wP [115, 116, 97, 116, 101, 115], .row su] rfl (acc_le OK.out HAC2.out) (by simp) hg8 (list_parts2 (part_w _ _ (by simp)) (part_r _ _ _ HSU.out HSS.out)) rfl).mono ?_
            rintro e w9 ⟨rfl, hF9, hs9⟩
            rw [HSP.out] at hF9
            have HF9 := Lib.hid hF9
            clear hF8 hg8 hF9 t1 dus
            go_wp2_with fail
            go_roundw
            case rel =>
              refine ⟨k + 1, _, by omega, by go_num, ?_, ?_, HF9.out⟩
              · rw [← HMR.out]; exact HVM2.out
              · have h := HAC2.out
                unfold midT at h
                rw [show msT k [] = [] from rfl, List.nil_append, ← List.append_assoc] at h
                exact h
            case measure => simp [intOf]; omega
          | cons mg r =>
            have hmem : mg ∈ t.msgs := HMM2.out mg (by simp)
            obtain ⟨bx, ox, rfl, ⟨c0, _⟩, ⟨c1, _⟩, ⟨c2, _⟩, c3, _⟩ := ev 0 (by simp)
            simp only [List.getElem_cons_zero, Nat.zero_mul, Nat.add_zero] at c0 c1 c2 c3
            have d0 := cell_up hFS2.old c0
            have d1 := cell_up hFS2.old c1
            have d2 := cell_up hFS2.old c2
            have d3 := cell_up hFS2.old c3
            clear c0 c1 c2 c3 ev hFS2
            by_cases hxr : mg.rd = k
            · rw [hxr] at d0
              obtain ⟨an, cn, hst, hvr⟩ := msgs_tail HVM2.out
              have hlr : r.length + 1 ≤ cv2 := lv1
              have hm1 : msR k (mg :: r) = msR k r := by rw [msR, if_pos hxr]
              have hm2 : midT t k (roTail t (k + 1)) (mg :: r) = lnT (msgPs mg) ++ midT t k (roTail t (k + 1)) r := by unfold midT; rw [msT, if_pos hxr, List.append_assoc]
              have HM1 := Lib.hid hm1
              have HM2 := Lib.hid hm2
              have HVR := Lib.hid hvr
              have hxm := HMS.out mg hmem
              obtain ⟨fN, hfN⟩ : ∃ fN : Nat, mg.fr = fN := ⟨mg.fr.toNat, by omega⟩
              obtain ⟨tN, htN⟩ : ∃ tN : Nat, mg.to = tN := ⟨mg.to.toNat, by omega⟩
              have HPS : Hid (msgPs mg = [wP [102, 114, 111, 109, 32], .num fN, wP [32, 116, 111, 32], .num tN, wP (58 :: 32 :: hexT mg.bs.data.toList)]) := by (have h : msgPs mg = [wP [102, 114, 111, 109, 32], .num fN, wP [32, 116, 111, 32], .num tN, wP (58 :: 32 :: hexT mg.bs.data.toList)] := by (unfold msgPs; rw [hfN, htN, Int.toNat_natCast, Int.toNat_natCast])); exact h
              rw [hfN] at d1
              rw [htN] at d2
              have hf1 : fN < 100 := by omega
              have hf2 : tN < 100 := by omega
              have hbl := hexT_len mg.bs.data.toList
              have hbl2 : mg.bs.data.toList.length = mg.bs.size := by simp
              have HDG := Lib.hid (fun W => digits_any mg.bs (by omega) hxm.2.2.1 W)
              have hhx : (hexT mg.bs.data.toList).length ≤ 30000 := by omega
              clear hm1 hm2 hvr hfN htN hbl hbl2 hxm
              generalize hexT mg.bs.data.toList = hx at HDG HPS hhx
              generalize mg.bs = xb at d3 HDG
              go_wp2_with fail
              clear hst
              refine wp_gen (fun W => FS w w.heap.size w1.heap.size CS acc2 W ∧ W.heap[wr.heap.size]? = some (.cells #[.int .i64 (k : Int), .int .i64 (fN : Int), .int .i64 (tN : Int), .string xb] 65)) ⟨HFS2.out.up (by go_grown), alloc_new _ _⟩ (fun W6 hW6 => ?_)
              obtain ⟨hF6, hm6⟩ := hW6
              have HF6 := Lib.hid hF6
              have HM6 := Lib.hid hm6
              clear hF6 hm6 t1 dus d0 d1 d2 d3
              refine wp_region_core 16 [86, 87, 88, 89, 90, 91, 92, 93, 94, 95, 96, 97, 98, 99, 100, 101] [some (.func (.func 27) #[] #[.pointer (some ⟨w1.heap.size, 0, none⟩)]),
                some (.iface 88 (.string ⟨#[102, 114, 111, 109, 32]⟩)),
                some (.pointer (some ⟨wr.heap.size, 1, none⟩)),
                some (.int .i64 (fN : Int)),
                some (.iface 91 (.int .i64 (fN : Int))),
                some (.iface 88 (.string ⟨#[32, 116, 111, 32]⟩)),
                some (.pointer (some ⟨wr.heap.size, 2, none⟩)),
                some (.int .i64 (tN : Int)),
                some (.iface 91 (.int .i64 (tN : Int))),
                some (.pointer (some ⟨wr.heap.size, 3, none⟩)),
                some (.string xb),
                some (.string ⟨hx.toArray⟩),
                some (.string (⟨#[58, 32]⟩ ++ ⟨hx.toArray⟩)),
                some (.iface 88 (.string (⟨#[58, 32]⟩ ++ ⟨hx.toArray⟩))),
                none,
                some (.tuple #[])] (C19 w w.heap.size w1.heap.size wr.heap.size CS #[.int .i64 (k : Int), .int .i64 (fN : Int), .int .i64 (tN : Int), .string xb] acc2 (acc2 ++ lnT (msgPs mg)) [.iface 88 (.string ⟨#[102, 114, 111, 109, 32]⟩), .iface 91 (.int .i64 (fN : Int)), .iface 88 (.string ⟨#[32, 116, 111, 32]⟩), .iface 91 (.int .i64 (tN : Int)), .iface 88 (.string (⟨#[58, 32]⟩ ++ ⟨hx.toArray⟩))]) (by kernel_rfl) rfl (by decide) rfl (by kernel_rfl) (fun _ => ⟨⟨HF6.out.old.drew, HF6.out.bt, HF6.out.bl, HF6.out.hB⟩, HM6.out, nofun⟩) ?step ?tail
              case step =>
                intro x W D i o s F hi ho hs hD hun hdep hv hcore hF
                have hcase : i = 0 ∨ i = 1 ∨ i = 2 ∨ i = 3 ∨ i = 4 ∨ i = 5 ∨ i = 6 ∨ i = 7 ∨ i = 8 ∨ i = 9 ∨ i = 10 ∨ i = 11 ∨ i = 12 ∨ i = 13 ∨ i = 14 ∨ i = 15 := by omega
                rcases hcase with rfl | rfl | rfl | rfl | rfl | rfl | rfl | rfl | rfl | rfl | rfl | rfl | rfl | rfl | rfl | rfl
                · obtain rfl := Option.some.inj ho.symm
                  obtain rfl := Option.some.inj hs.symm
                  clear hdep hi ho hs hv
                  have e6 : F.getD 6 undef = .func (.func 27) #[] #[.pointer (some ⟨w1.heap.size, 0, none⟩)] := by (rw [hF, setAll_getD_ne (by decide)]; rfl)
                  clear hF hun
                  have e6' := (show F[6]?.getD undef = F.getD 6 undef by simp only [Array.getD_eq_getD_getElem?]).trans e6
                  have HD := Lib.hid hD
                  have HCORE := Lib.hid hcore
                  clear hD hcore
                  go_wp2_with fail
                  refine CoreK.mk _ (fun c hc => Option.some.inj hc) ?_ rfl
                  exact ⟨HCORE.out.fs, HCORE.out.bm, HCORE.out.sl⟩
                · obtain rfl := Option.some.inj ho.symm
                  obtain rfl := Option.some.inj hs.symm
                  clear hdep hi ho hs hv
                  clear hF hun
                  have HD := Lib.hid hD
                  have HCORE := Lib.hid hcore
                  clear hD hcore
                  go_wp2_with fail
                  refine CoreK.mk _ (fun c hc => Option.some.inj hc) ?_ rfl
                  exact ⟨HCORE.out.fs, HCORE.out.bm, HCORE.out.sl⟩
                · obtain rfl := Option.some.inj ho.symm
                  obtain rfl := Option.some.inj hs.symm
                  clear hdep hi ho hs hv
                  have e11 : F.getD 11 undef = .pointer (some ⟨wr.heap.size, 0, none⟩) := by (rw [hF, setAll_getD_ne (by decide)]; rfl)
                  clear hF hun
                  have e11' := (show F[11]?.getD undef = F.getD 11 undef by simp only [Array.getD_eq_getD_getElem?]).trans e11
                  have HD := Lib.hid hD
                  have HCORE := Lib.hid hcore
                  clear hD hcore
                  go_wp2_with fail
                  refine CoreK.mk _ (fun c hc => Option.some.inj hc) ?_ rfl
                  exact ⟨HCORE.out.fs, HCORE.out.bm, HCORE.out.sl⟩
                · obtain rfl := Option.some.inj ho.symm
                  obtain rfl := Option.some.inj hs.symm
                  have g2 := hdep ⟨2, .data⟩ (by simp) rfl
                  have d2 : x 2 = .pointer (some ⟨wr.heap.size, 1, none⟩) := hv 2 _ (by omega) g2 rfl
                  clear hdep hi ho hs hv
                  have e88 : F.getD 88 undef = .pointer (some ⟨wr.heap.size, 1, none⟩) := by (rw [← d2, hF]; exact setAll_getD (by decide) (i := 2) rfl (Nat.le_of_ble_eq_true (by kernel_rfl)))
                  clear hF hun d2
                  have t9 := cell_block hcore.bm
                  have e88' := (show F[88]?.getD undef = F.getD 88 undef by simp only [Array.getD_eq_getD_getElem?]).trans e88
                  have HD := Lib.hid hD
                  have HCORE := Lib.hid hcore
                  clear hD hcore
                  clear g2
                  go_wp2_with fail
                  refine CoreK.mk _ (fun c hc => Option.some.inj hc) ?_ rfl
                  exact ⟨HCORE.out.fs, HCORE.out.bm, HCORE.out.sl⟩
                · obtain rfl := Option.some.inj ho.symm
                  obtain rfl := Option.some.inj hs.symm
                  have g3 := hdep ⟨3, .data⟩ (by simp) rfl
                  have d3 : x 3 = .int .i64 (fN : Int) := hv 3 _ (by omega) g3 rfl
                  clear hdep hi ho hs hv
                  have e89 : F.getD 89 undef = .int .i64 (fN : Int) := by (rw [← d3, hF]; exact setAll_getD (by decide) (i := 3) rfl (Nat.le_of_ble_eq_true (by kernel_rfl)))
                  clear hF hun d3
                  have e89' := (show F[89]?.getD undef = F.getD 89 undef by simp only [Array.getD_eq_getD_getElem?]).trans e89
                  have HD := Lib.hid hD
                  have HCORE := Lib.hid hcore
                  clear hD hcore
                  clear g3
                  go_wp2_with fail
                  refine CoreK.mk _ (fun c hc => Option.some.inj hc) ?_ rfl
                  exact ⟨HCORE.out.fs, HCORE.out.bm, HCORE.out.sl⟩
                · obtain rfl := Option.some.inj ho.symm
                  obtain rfl := Option.some.inj hs.symm
                  clear hdep hi ho hs hv
                  clear hF hun
                  have HD := Lib.hid hD
                  have HCORE := Lib.hid hcore
                  clear hD hcore
                  go_wp2_with fail
                  refine CoreK.mk _ (fun c hc => Option.some.inj hc) ?_ rfl
                  exact ⟨HCORE.out.fs, HCORE.out.bm, HCORE.out.sl⟩
                · obtain rfl := Option.some.inj ho.symm
                  obtain rfl := Option.some.inj hs.symm
                  clear hdep hi ho hs hv
                  have e11 : F.getD 11 undef = .pointer (some ⟨wr.heap.size, 0, none⟩) := by (rw [hF, setAll_getD_ne (by decide)]; rfl)
                  clear hF hun
                  have e11' := (show F[11]?.getD undef = F.getD 11 undef by simp only [Array.getD_eq_getD_getElem?]).trans e11
                  have HD := Lib.hid hD
                  have HCORE := Lib.hid hcore
                  clear hD hcore
                  go_wp2_with fail
                  refine CoreK.mk _ (fun c hc => Option.some.inj hc) ?_ rfl
                  exact ⟨HCORE.out.fs, HCORE.out.bm, HCORE.out.sl⟩
                · obtain rfl := Option.some.inj ho.symm
                  obtain rfl := Option.some.inj hs.symm
                  have g6 := hdep ⟨6, .data⟩ (by simp) rfl
                  have d6 : x 6 = .pointer (some ⟨wr.heap.size, 2, none⟩) := hv 6 _ (by omega) g6 rfl
                  clear hdep hi ho hs hv
                  have e92 : F.getD 92 undef = .pointer (some ⟨wr.heap.size, 2, none⟩) := by (rw [← d6, hF]; exact setAll_getD (by decide) (i := 6) rfl (Nat.le_of_ble_eq_true (by kernel_rfl)))
                  clear hF hun d6
                  have t9 := cell_block hcore.bm
                  have e92' := (show F[92]?.getD undef = F.getD 92 undef by simp only [Array.getD_eq_getD_getElem?]).trans e92
                  have HD := Lib.hid hD
                  have HCORE := Lib.hid hcore
                  clear hD hcore
                  clear g6
                  go_wp2_with fail
                  refine CoreK.mk _ (fun c hc => Option.some.inj hc) ?_ rfl
                  exact ⟨HCORE.out.fs, HCORE.out.bm, HCORE.out.sl⟩
                · obtain rfl := Option.some.inj ho.symm
                  obtain rfl := Option.some.inj hs.symm
                  have g7 := hdep ⟨7, .data⟩ (by simp) rfl
                  have d7 : x 7 = .int .i64 (tN : Int) := hv 7 _ (by omega) g7 rfl
                  clear hdep hi ho hs hv
                  have e93 : F.getD 93 undef = .int .i64 (tN : Int) := by (rw [← d7, hF]; exact setAll_getD (by decide) (i := 7) rfl (Nat.le_of_ble_eq_true (by kernel_rfl)))
                  clear hF hun d7
                  have e93' := (show F[93]?.getD undef = F.getD 93 undef by simp only [Array.getD_eq_getD_getElem?]).trans e93
                  have HD := Lib.hid hD
                  have HCORE := Lib.hid hcore
                  clear hD hcore
                  clear g7
                  go_wp2_with fail
                  refine CoreK.mk _ (fun c hc => Option.some.inj hc) ?_ rfl
                  exact ⟨HCORE.out.fs, HCORE.out.bm, HCORE.out.sl⟩
                · obtain rfl := Option.some.inj ho.symm
                  obtain rfl := Option.some.inj hs.symm
                  clear hdep hi ho hs hv
                  have e11 : F.getD 11 undef = .pointer (some ⟨wr.heap.size, 0, none⟩) := by (rw [hF, setAll_getD_ne (by decide)]; rfl)
                  clear hF hun
                  have e11' := (show F[11]?.getD undef = F.getD 11 undef by simp only [Array.getD_eq_getD_getElem?]).trans e11
                  have HD := Lib.hid hD
                  have HCORE := Lib.hid hcore
                  clear hD hcore
                  go_wp2_with fail
                  refine CoreK.mk _ (fun c hc => Option.some.inj hc) ?_ rfl
                  exact ⟨HCORE.out.fs, HCORE.out.bm, HCORE.out.sl⟩
                · obtain rfl := Option.some.inj ho.symm
                  obtain rfl := Option.some.inj hs.symm
                  have g9 := hdep ⟨9, .data⟩ (by simp) rfl
                  have d9 : x 9 = .pointer (some ⟨wr.heap.size, 3, none⟩) := hv 9 _ (by omega) g9 rfl
                  clear hdep hi ho hs hv
                  have e95 : F.getD 95 undef = .pointer (some ⟨wr.heap.size, 3, none⟩) := by (rw [← d9, hF]; exact setAll_getD (by decide) (i := 9) rfl (Nat.le_of_ble_eq_true (by kernel_rfl)))
                  clear hF hun d9
                  have t9 := cell_block hcore.bm
                  have e95' := (show F[95]?.getD undef = F.getD 95 undef by simp only [Array.getD_eq_getD_getElem?]).trans e95
                  have HD := Lib.hid hD
                  have HCORE := Lib.hid hcore
                  clear hD hcore
                  clear g9
                  go_wp2_with fail
                  refine CoreK.mk _ (fun c hc => Option.some.inj hc) ?_ rfl
                  exact ⟨HCORE.out.fs, HCORE.out.bm, HCORE.out.sl⟩
                · obtain rfl := Option.some.inj ho.symm
                  obtain rfl := Option.some.inj hs.symm
                  have g10 := hdep ⟨10, .data⟩ (by simp) rfl
                  have d10 : x 10 = .string xb := hv 10 _ (by omega) g10 rfl
                  clear hdep hi ho hs hv
                  have e96 : F.getD 96 undef = .string xb := by (rw [← d10, hF]; exact setAll_getD (by decide) (i := 10) rfl (Nat.le_of_ble_eq_true (by kernel_rfl)))
                  clear hF hun d10
                  have e96' := (show F[96]?.getD undef = F.getD 96 undef by simp only [Array.getD_eq_getD_getElem?]).trans e96
                  have HD := Lib.hid hD
                  have HCORE := Lib.hid hcore
                  clear hD hcore
                  clear g10
                  go_wp2_with fail
                  refine (HDG.out _).mono ?_
                  rintro e w3 ⟨rfl, hb3⟩
                  go_wp2_with fail
                  refine CoreK.mk _ (fun c hc => Option.some.inj hc) ?_ rfl
                  have h := HCORE.out.up hb3
                  exact ⟨h.fs, h.bm, h.sl⟩
                · obtain rfl := Option.some.inj ho.symm
                  obtain rfl := Option.some.inj hs.symm
                  have g11 := hdep ⟨11, .data⟩ (by simp) rfl
                  have d11 : x 11 = .string ⟨hx.toArray⟩ := hv 11 _ (by omega) g11 rfl
                  clear hdep hi ho hs hv
                  have e97 : F.getD 97 undef = .string ⟨hx.toArray⟩ := by (rw [← d11, hF]; exact setAll_getD (by decide) (i := 11) rfl (Nat.le_of_ble_eq_true (by kernel_rfl)))
                  clear hF hun d11
                  have e97' := (show F[97]?.getD undef = F.getD 97 undef by simp only [Array.getD_eq_getD_getElem?]).trans e97
                  have HD := Lib.hid hD
                  have HCORE := Lib.hid hcore
                  clear hD hcore
                  clear g11
                  go_wp2_with fail
                  refine CoreK.mk _ (fun c hc => Option.some.inj hc) ?_ rfl
                  exact ⟨HCORE.out.fs, HCORE.out.bm, HCORE.out.sl⟩
                · obtain rfl := Option.some.inj ho.symm
                  obtain rfl := Option.some.inj hs.symm
                  have g12 := hdep ⟨12, .data⟩ (by simp) rfl
                  have d12 : x 12 = .string (⟨#[58, 32]⟩ ++ ⟨hx.toArray⟩) := hv 12 _ (by omega) g12 rfl
                  clear hdep hi ho hs hv
                  have e98 : F.getD 98 undef = .string (⟨#[58, 32]⟩ ++ ⟨hx.toArray⟩) := by (rw [← d12, hF]; exact setAll_getD (by decide) (i := 12) rfl (Nat.le_of_ble_eq_true (by kernel_rfl)))
                  clear hF hun d12
                  have e98' := (show F[98]?.getD undef = F.getD 98 undef by simp only [Array.getD_eq_getD_getElem?]).trans e98
                  have HD := Lib.hid hD
                  have HCORE := Lib.hid hcore
                  clear hD hcore
                  clear g12
                  go_wp2_with fail
                  refine CoreK.mk _ (fun c hc => Option.some.inj hc) ?_ rfl
                  exact ⟨HCORE.out.fs, HCORE.out.bm, HCORE.out.sl⟩
                · obtain rfl := Option.some.inj ho.symm
                  obtain rfl := Option.some.inj hs.symm
                  have g1 := hdep ⟨1, .data⟩ (by simp) rfl
                  have d1 : x 1 = .iface 88 (.string ⟨#[102, 114, 111, 109, 32]⟩) := hv 1 _ (by omega) g1 rfl
                  have g4 := hdep ⟨4, .data⟩ (by simp) rfl
                  have d4 : x 4 = .iface 91 (.int .i64 (fN : Int)) := hv 4 _ (by omega) g4 rfl
                  have g5 := hdep ⟨5, .data⟩ (by simp) rfl
                  have d5 : x 5 = .iface 88 (.string ⟨#[32, 116, 111, 32]⟩) := hv 5 _ (by omega) g5 rfl
                  have g8 := hdep ⟨8, .data⟩ (by simp) rfl
                  have d8 : x 8 = .iface 91 (.int .i64 (tN : Int)) := hv 8 _ (by omega) g8 rfl
                  have g13 := hdep ⟨13, .data⟩ (by simp) rfl
                  have d13 : x 13 = .iface 88 (.string (⟨#[58, 32]⟩ ++ ⟨hx.toArray⟩)) := hv 13 _ (by omega) g13 rfl
                  clear hdep hi ho hs hv
                  have e87 : F.getD 87 undef = .iface 88 (.string ⟨#[102, 114, 111, 109, 32]⟩) := by (rw [← d1, hF]; exact setAll_getD (by decide) (i := 1) rfl (Nat.le_of_ble_eq_true (by kernel_rfl)))
                  have e90 : F.getD 90 undef = .iface 91 (.int .i64 (fN : Int)) := by (rw [← d4, hF]; exact setAll_getD (by decide) (i := 4) rfl (Nat.le_of_ble_eq_true (by kernel_rfl)))
                  have e91 : F.getD 91 undef = .iface 88 (.string ⟨#[32, 116, 111, 32]⟩) := by (rw [← d5, hF]; exact setAll_getD (by decide) (i := 5) rfl (Nat.le_of_ble_eq_true (by kernel_rfl)))
                  have e94 : F.getD 94 undef = .iface 91 (.int .i64 (tN : Int)) := by (rw [← d8, hF]; exact setAll_getD (by decide) (i := 8) rfl (Nat.le_of_ble_eq_true (by kernel_rfl)))
                  have e99 : F.getD 99 undef = .iface 88 (.string (⟨#[58, 32]⟩ ++ ⟨hx.toArray⟩)) := by (rw [← d13, hF]; exact setAll_getD (by decide) (i := 13) rfl (Nat.le_of_ble_eq_true (by kernel_rfl)))
                  clear hF hun d1 d4 d5 d8 d13
                  have e87' := (show F[87]?.getD undef = F.getD 87 undef by simp only [Array.getD_eq_getD_getElem?]).trans e87
                  have e90' := (show F[90]?.getD undef = F.getD 90 undef by simp only [Array.getD_eq_getD_getElem?]).trans e90
                  have e91' := (show F[91]?.getD undef = F.getD 91 undef by simp only [Array.getD_eq_getD_getElem?]).trans e91
                  have e94' := (show F[94]?.getD undef = F.getD 94 undef by simp only [Array.getD_eq_getD_getElem?]).trans e94
                  have e99' := (show F[99]?.getD undef = F.getD 99 undef by simp only [Array.getD_eq_getD_getElem?]).trans e99
                  have HD := Lib.hid hD
                  have HCORE := Lib.hid hcore
                  clear hD hcore
                  clear g1
                  clear g4
                  clear g5
                  clear g8
                  clear g13
                  go_wp2_with fail
                  refine CoreK.mk _ (fun c hc => by cases hc) ?_ rfl
                  have h := HCORE.out.up (W' := W.alloc (.cells #[.iface 88 (.string ⟨#[102, 114, 111, 109, 32]⟩), .iface 91 (.int .i64 (fN : Int)), .iface 88 (.string ⟨#[32, 116, 111, 32]⟩), .iface 91 (.int .i64 (tN : Int)), .iface 88 (.string (⟨#[58, 32]⟩ ++ ⟨hx.toArray⟩))] 80)) (by go_grown)
                  exact ⟨h.fs, h.bm, fun _ _ => ⟨W.heap.size, rfl, alloc_new _ _⟩⟩
                · obtain rfl := Option.some.inj ho.symm
                  obtain rfl := Option.some.inj hs.symm
                  have g0 := hdep ⟨0, .data⟩ (by simp) rfl
                  have d0 : x 0 = .func (.func 27) #[] #[.pointer (some ⟨w1.heap.size, 0, none⟩)] := hv 0 _ (by omega) g0 rfl
                  have g14 := hdep ⟨14, .data⟩ (by simp) rfl
                  clear hdep hi ho hs hv
                  have e86 : F.getD 86 undef = .func (.func 27) #[] #[.pointer (some ⟨w1.heap.size, 0, none⟩)] := by (rw [← d0, hF]; exact setAll_getD (by decide) (i := 0) rfl (Nat.le_of_ble_eq_true (by kernel_rfl)))
                  have e100 : F.getD 100 undef = x 14 := by (rw [hF]; exact setAll_getD (by decide) (i := 14) rfl (Nat.le_of_ble_eq_true (by kernel_rfl)))
                  clear hF hun d0
                  obtain ⟨gb, qx, hgb⟩ := hcore.sl g14 hD
                  rw [qx] at e100
                  have hfs := hcore.fs
                  rw [hD] at hfs
                  have hline := FS.line hfs gb 5 _ [wP [102, 114, 111, 109, 32], .num fN, wP [32, 116, 111, 32], .num tN, wP (58 :: 32 :: hx)] rfl (acc_le OK.out HAC2.out) (by simp) hgb (list_parts5 (part_w _ _ (by simp)) (part_n _ _ (by omega)) (part_w _ _ (by simp)) (part_n _ _ (by omega)) (part_c _ _ (by omega))) rfl
                  rw [← HPS.out] at hline
                  have HLINE := Lib.hid hline
                  clear hline hfs hgb qx
                  have e86' := (show F[86]?.getD undef = F.getD 86 undef by simp only [Array.getD_eq_getD_getElem?]).trans e86
                  have e100' := (show F[100]?.getD undef = F.getD 100 undef by simp only [Array.getD_eq_getD_getElem?]).trans e100
                  have HD := Lib.hid hD
                  have HCORE := Lib.hid hcore
                  clear hD hcore
                  clear g0
                  clear g14
                  go_wp2_with fail
                  refine HLINE.out.mono ?_
                  rintro e w3 ⟨rfl, hF3, _, ho3⟩
                  have HF3 := Lib.hid hF3
                  have hfs0 := HCORE.out.fs
                  rw [HD.out] at hfs0
                  have HBM3 := Lib.hid (ho3.block hfs0.bl HCORE.out.bm (by decide) (by decide))
                  clear hF3 hfs0
                  go_wp2_with fail
                  refine CoreK.mk _ (fun c hc => Option.some.inj hc) ?_ rfl
                  exact ⟨HF3.out, HBM3.out, nofun⟩
              case tail =>
                intro x W' D F hall hv hcore hF
                have x0 := hv 0 _ (by omega) rfl
                have x1 := hv 1 _ (by omega) rfl
                have x2 := hv 2 _ (by omega) rfl
                have x3 := hv 3 _ (by omega) rfl
                have x4 := hv 4 _ (by omega) rfl
                have x5 := hv 5 _ (by omega) rfl
                have x6 := hv 6 _ (by omega) rfl
                have x7 := hv 7 _ (by omega) rfl
                have x8 := hv 8 _ (by omega) rfl
                have x9 := hv 9 _ (by omega) rfl
                have x10 := hv 10 _ (by omega) rfl
                have x11 := hv 11 _ (by omega) rfl
                have x12 := hv 12 _ (by omega) rfl
                have x13 := hv 13 _ (by omega) rfl
                have x15 := hv 15 _ (by omega) rfl
                have hfs := hcore.fs
                rw [hall 15 (by omega)] at hfs
                have HFS9 := Lib.hid (show FS w w.heap.size w1.heap.size CS (acc2 ++ lnT (msgPs mg)) W' from hfs)
                simp only [setAll, setFrom, List.setIfInBounds_toArray, List.set_cons_succ, List.set_cons_zero, Nat.reduceAdd, x0, x1, x2, x3, x4, x5, x6, x7, x8, x9, x10, x11, x12, x13, x15] at hF
                generalize x 14 = y14 at hF
                subst hF
                clear hv hall hcore hfs x0 x1 x2 x3 x4 x5 x6 x7 x8 x9 x10 x11 x12 x13 x15
                go_wp2_with fail
                go_roundw
                case rel =>
                  refine ⟨r, _, fun y hy => HMM2.out y (by simp [hy]), HVR.out, HM1.out.symm.trans HMR.out, ?_, HFS9.out⟩
                  rw [List.append_assoc, ← HM2.out]; exact HAC2.out
                case measure => simp [slLen]
            · have hxb : (mg.rd == (k : Int)) = false := by simpa using hxr
              have hm1 : msR k (mg :: r) = mg :: r := by rw [msR, if_neg hxr]
              have hm2 : msT k (mg :: r) = [] := by rw [msT, if_neg hxr]
              have HM1 := Lib.hid hm1
              have HM2 := Lib.hid hm2
              clear hm1 hm2
              go_wp2_with fail
              refine calls_gen (fun W => FS w w.heap.size w1.heap.size CS acc2 W ∧ W.heap[wr.heap.size]? = some (.cells [.iface 88 (.string ⟨#[115, 116, 97, 116, 101, 115]⟩), .iface 89 (.slice pu su.length qu)].toArray 80)) ⟨HFS2.out.up (by go_grown), alloc_new _ _⟩ (fun W8 hW8 => ?_)
              obtain ⟨hF8, hg8⟩ := hW8
              refine (hF8.line wr.heap.size 2 _ [wP [115, 116, 97, 116, 101, 115], .row su] rfl (acc_le OK.out HAC2.out) (by simp) hg8 (list_parts2 (part_w _ _ (by simp)) (part_r _ _ _ HSU.out HSS.out)) rfl).mono ?_
              rintro e w9 ⟨rfl, hF9, hs9⟩
              rw [HSP.out] at hF9
              have HF9 := Lib.hid hF9
              clear hF8 hg8 hF9 t1 dus d0 d1 d2 d3
              go_wp2_with fail
              go_roundw
              case rel =>
                refine ⟨k + 1, _, by omega, by go_num, ?_, ?_, HF9.out⟩
                · rw [← HMR.out, HM1.out]; exact HVM2.out
                · have h := HAC2.out
                  unfold midT at h
                  rw [HM2.out, List.nil_append, ← List.append_assoc] at h
                  exact h
              case measure => simp [intOf]; omega
    · obtain rfl : k = t.word.length := by omega
      rw [roTail_end] at HACC
      go_wp2_with fail
      clear t1
      obtain ⟨wo, hwo⟩ : ∃ wo : World, wo = wr := ⟨_, rfl⟩
      rw [← hwo] at HFS ⊢
      clear hwo wr
      go_loopw [12, 13, 117] (fun _ _ i wr => ∃ (p : Nat) (acc : List UInt8), p ≤ t.dec.length ∧ i = .int .i64 p ∧ acc ++ deTail t p = formatT t ∧ FS w w.heap.size w1.heap.size CS acc wr) (fun _ _ i _ => t.dec.length - (intOf i).toNat)
      case atStart => exact ⟨0, acc, by omega, rfl, HACC.out, HFS.out⟩
      case round =>
        obtain ⟨p, acc2, hp, rfl, hacc2, hFS2⟩ := hrel
        have HFS2 := Lib.hid hFS2
        have HACC2 := Lib.hid hacc2
        have t1 := cell_block hFS2.bt
        rw [← HCS.out] at t1
        by_cases hpt : p < t.dec.length
        · obtain ⟨b1, o1, rfl, c1, _⟩ := ED.out p hpt
          rw [Nat.mul_one] at c1
          have d1 := cell_up hFS2.old c1
          have hptt : p < t.times.length := by have := SH.out; omega
          obtain ⟨b2, o2, rfl, c2, _⟩ := ET.out p hptt
          rw [Nat.mul_one] at c2
          have d2 := cell_up hFS2.old c2
          have hdr := OK.out.de _ (List.getElem_mem hpt)
          have hti := OK.out.ti p hpt
          have HDE : Hid (dePs t p = if t.dec[p] < 0 then [wP [112, 114, 111, 99, 101, 115, 115, 32], .num p, wP [32, 100, 111, 101, 115, 32, 110, 111, 116, 32, 100, 101, 99, 105, 100, 101]]
              else [wP [112, 114, 111, 99, 101, 115, 115, 32], .num p, wP [32, 100, 101, 99, 105, 100, 101, 115, 32], .num (t.dec[p]).toNat, wP [32, 97, 116, 32], .num (t.times[p]).toNat]) := by
            have h := (rfl : dePs t p = dePs t p)
            conv at h => rhs; unfold dePs
            rw [getD_of_lt 0 hpt, getD_of_lt 0 hptt] at h
            exact h
          rw [getD_of_lt 0 hpt, getD_of_lt 0 hptt] at hti
          have HST := Lib.hid (deTail_step t p hpt)
          have hsW := block_lt hFS2.bt
          clear c1 c2 hacc2 hFS2
          generalize t.dec[p] = d at d1 hdr hti HDE
          generalize t.times[p] = tm at d2 hti HDE
          have HTI := Lib.hid hti
          clear hti
          by_cases hd0 : d < 0
          · go_wp2_with fail
            refine calls_gen (fun W => FS w w.heap.size w1.heap.size CS acc2 W ∧ W.heap[wr.heap.size]? = some (.cells [.iface 88 (.string ⟨#[112, 114, 111, 99, 101, 115, 115, 32]⟩), .iface 91 (.int .i64 p), .iface 88 (.string ⟨#[32, 100, 111, 101, 115, 32, 110, 111, 116, 32, 100, 101, 99, 105, 100, 101]⟩)].toArray 80)) ⟨HFS2.out.up (by go_grown), alloc_new _ _⟩ (fun W4 hW4 => ?_)
            obtain ⟨hF4, hg4⟩ := hW4
            refine (hF4.line wr.heap.size 3 _ [wP [112, 114, 111, 99, 101, 115, 115, 32], .num p, wP [32, 100, 111, 101, 115, 32, 110, 111, 116, 32, 100, 101, 99, 105, 100, 101]] rfl (acc_le OK.out HACC2.out) (by simp) hg4 (list_parts3 (part_w _ _ (by simp)) (part_n _ _ (by omega)) (part_w _ _ (by simp))) rfl).mono ?_
            rintro e w5 ⟨rfl, hF5, hs5⟩
            have HF5 := Lib.hid hF5
            clear hF4 hg4 hF5 d1 d2 t1
            go_wp2_with fail
            go_roundw
            case rel =>
              refine ⟨p + 1, _, by omega, by go_num, ?_, HF5.out⟩
              have h := HST.out
              rw [HDE.out, if_pos hd0] at h
              rw [List.append_assoc, ← h]; exact HACC2.out
            case measure => simp [intOf]; omega
          · obtain ⟨dn, rfl⟩ : ∃ dn : Nat, d = dn := ⟨d.toNat, by omega⟩
            obtain ⟨tn, rfl⟩ : ∃ tn : Nat, tm = tn := ⟨tm.toNat, by have := HTI.out hd0; omega⟩
            have htn : tn < 100 := by have := (HTI.out hd0).2; omega
            go_wp2_with fail
            refine calls_gen (fun W => FS w w.heap.size w1.heap.size CS acc2 W ∧ W.heap[wr.heap.size]? = some (.cells [.iface 88 (.string ⟨#[112, 114, 111, 99, 101, 115, 115, 32]⟩), .iface 91 (.int .i64 p), .iface 88 (.string ⟨#[32, 100, 101, 99, 105, 100, 101, 115, 32]⟩), .iface 91 (.int .i64 dn), .iface 88 (.string ⟨#[32, 97, 116, 32]⟩), .iface 91 (.int .i64 tn)].toArray 80)) ⟨HFS2.out.up (by go_grown), alloc_new _ _⟩ (fun W4 hW4 => ?_)
            obtain ⟨hF4, hg4⟩ := hW4
            refine (hF4.line wr.heap.size 6 _ [wP [112, 114, 111, 99, 101, 115, 115, 32], .num p, wP [32, 100, 101, 99, 105, 100, 101, 115, 32], .num dn, wP [32, 97, 116, 32], .num tn] rfl (acc_le OK.out HACC2.out) (by simp) hg4 (list_parts6 (part_w _ _ (by simp)) (part_n _ _ (by omega)) (part_w _ _ (by simp)) (part_n _ _ (by omega)) (part_w _ _ (by simp)) (part_n _ _ htn)) rfl).mono ?_
            rintro e w5 ⟨rfl, hF5, hs5⟩
            have HF5 := Lib.hid hF5
            clear hF4 hg4 hF5 d1 d2 t1
            go_wp2_with fail
            go_roundw
            case rel =>
              refine ⟨p + 1, _, by omega, by go_num, ?_, HF5.out⟩
              have h := HST.out
              rw [HDE.out, if_neg (by omega), Int.toNat_natCast, Int.toNat_natCast] at h
              rw [List.append_assoc, ← h]; exact HACC2.out
            case measure => simp [intOf]; omega
        · obtain rfl : p = t.dec.length := by omega
          rw [deTail_end, List.append_nil] at hacc2
          subst hacc2
          have hle := OK.out.len
          clear t1 HACC2
          have hbl := hFS2.bl
          have HBL := Lib.hid hbl
          generalize hft : formatT t = ft at hle HBL HFS2
          have HFT := Lib.hid hft
          clear hft
          clear hFS2 hbl
          go_wp2_with fail
          refine (bldLen_any _ _ _ _ HBL.out).mono ?_
          rintro e w' ⟨rfl, rfl⟩
          go_wp2_with fail
          refine (bldString_any _ _ _ _ HBL.out).mono ?_
          rintro e w' ⟨rfl, _, hb2, _⟩
          go_wp2_with fail
          go_ret2
          refine ⟨?_, HFS2.out.old.trans (hb2.mono HFS2.out.hB)⟩
          rw [HFT.out]
          simp
end Go.Proofs.YtjmejfgkogjpaaaGreatDoor

namespace Go.Proofs.YtjmejfgkogjpaaaGreatDoor
open Go.RowKit Go Go.Shelf
attribute [local go_sem] Oper.semAt_some

set_option maxRecDepth 100000 in
set_option maxHeartbeats 2000000 in
theorem replay_any (m : Mac) (vf vy vt vo : Value) (t : Tr) (ui uw us um ud ut : Value) (w : World) (hf : IsVecs w vf m.first) (hy : IsV4 w vy m.syms) (ht : IsSteps w vt m.steps) (ho : IsV3 w vo m.out) (hT : IsTr w t ui uw us um ud ut) :
    Calls Tryz.prog 16 #[.agg (macC m vf vy vt vo), .agg (trC ui uw us um ud ut)] w fun e w' => e = .returned (.int .i64 (replayE m t)) ∧ Below w.heap.size w w' := by
  have HF := Lib.hid hf
  have HY := Lib.hid hy
  have HM := Lib.hid ht
  have HO := Lib.hid ho
  have HT := Lib.hid hT
  obtain ⟨pf, cf, rfl, _⟩ := hf.at
  obtain ⟨py, cy, rfl, _⟩ := hy.at
  obtain ⟨pt, ct, rfl, _⟩ := ht.at
  obtain ⟨po, co, rfl, _⟩ := ho.at
  obtain ⟨k1, k2, k3, k4, k5, k6⟩ := hT
  obtain ⟨q1, d1, rfl, _⟩ := k1.at
  obtain ⟨q2, d2, rfl, _⟩ := k2.at
  obtain ⟨q3, d3, rfl, _⟩ := k3.at
  obtain ⟨q4, d4, rfl, _⟩ := k4.at
  obtain ⟨q5, d5, rfl, _⟩ := k5.at
  obtain ⟨q6, d6, rfl, _⟩ := k6.at
  clear hf hy ht ho k1 k2 k3 k4 k5 k6
  have HV : Hid (replayE m t = if checkE m ≠ 0 then checkE m else if traceE t ≠ 0 then traceE t else if playE m t.inp t.word ≠ 0 then playE m t.inp t.word else if sameT (madeT m t.inp t.word) t then 0 else 18) := by exact rfl
  go_enter Tryz.func16, Tryz.ntmps16
  go_wp2_with fail
  refine calls_gen (fun W => Below w.heap.size w W ∧ W.heap[w.heap.size]? = some (.cells (macC m (.slice pf m.first.length cf) (.slice py m.syms.length cy) (.slice pt m.steps.length ct) (.slice po m.out.length co)) 27) ∧ W.heap[w.heap.size + 1]? = some (.cells (trC (.slice q1 t.inp.length d1) (.slice q2 t.word.length d2) (.slice q3 t.states.length d3) (.slice q4 t.msgs.length d4) (.slice q5 t.dec.length d5) (.slice q6 t.times.length d6)) 35)) ⟨by go_grown, alloc_old _ (alloc_new _ _), alloc2_new _ _ _⟩ (fun W0 hW0 => ?_)
  obtain ⟨hb0, hA0, hB0⟩ := hW0
  have HA0 := Lib.hid hA0
  have HB0 := Lib.hid hB0
  clear hA0 hB0
  refine (macCheck_any m _ _ _ _ W0 (HF.out.up up_ints hb0) (HY.out.up up_v3 hb0) (HM.out.up up_step hb0) (HO.out.up up_vecs hb0)).mono ?_
  rintro e w1 ⟨rfl, hb1'⟩
  have hb1 := ext_trans hb0 hb1'
  generalize checkE m = ec at HV
  by_cases hc : ec = 0
  case neg =>
    have hc' : (ec != 0) = true := by simpa using hc
    go_wp2_with fail
    go_ret
    exact ⟨ret_int (by rw [HV.out, if_pos hc]), hb1⟩
  subst hc
  have s2 := cell_block (block_up hb1' HB0.out)
  go_wp2_with fail
  clear s2
  refine (trCheck_any t _ _ _ _ _ _ w1 (HT.out.up hb1)).mono ?_
  rintro e w2 ⟨rfl, hb2'⟩
  have hb2 := ext_trans hb1 hb2'
  have hq2 := ext_trans hb1' hb2'
  generalize traceE t = et at HV
  by_cases hc : et = 0
  case neg =>
    have hc' : (et != 0) = true := by simpa using hc
    go_wp2_with fail
    go_ret
    exact ⟨ret_int (by rw [HV.out, if_neg (by simp), if_pos hc]), hb2⟩
  subst hc
  have s1 := cell_block (block_up hq2 HA0.out)
  have s2 := cell_block (block_up hq2 HB0.out)
  go_wp2_with fail
  clear s1 s2
  refine (simRun_any m _ _ _ _ _ _ t.inp t.word w2 (HF.out.up up_ints hb2) (HY.out.up up_v3 hb2) (HM.out.up up_step hb2) (HO.out.up up_vecs hb2) (HT.out.inp.up up_int hb2) (HT.out.word.up up_round hb2)).mono ?_
  rintro e w3 ⟨vi, vw, vs, vm, vd, vtt, rfl, hz, hnz, hb3'⟩
  have hb3 := ext_trans hb2 hb3'
  have hq3 := ext_trans hq2 hb3'
  by_cases hc : playE m t.inp t.word = 0
  case neg =>
    have h := hnz hc
    injection h with h
    injection h with e1 h
    injection h with e2 h
    injection h with e3 h
    injection h with e4 h
    injection h with e5 h
    injection h with e6 h
    subst e1 e2 e3 e4 e5 e6
    clear hz hnz
    generalize playE m t.inp t.word = ep at HV hc
    have hc' : (ep != 0) = true := by simpa using hc
    go_wp2_with fail
    go_ret
    exact ⟨ret_int (by rw [HV.out, if_neg (by simp), if_neg (by simp), if_pos hc]), ext_trans hb3 (by go_grown)⟩
  have hIs := hz hc
  rw [hc] at HV ⊢
  have HIS := Lib.hid hIs
  clear hz hnz hc
  obtain ⟨k1, k2, k3, k4, k5, k6⟩ := hIs
  obtain ⟨p1, c1, rfl, _⟩ := k1.at
  obtain ⟨p2, c2, rfl, _⟩ := k2.at
  obtain ⟨p3, c3, rfl, _⟩ := k3.at
  obtain ⟨p4, c4, rfl, _⟩ := k4.at
  obtain ⟨p5, c5, rfl, _⟩ := k5.at
  obtain ⟨p6, c6, rfl, _⟩ := k6.at
  clear k1 k2 k3 k4 k5 k6
  have s2 := cell_block (block_up hq3 HB0.out)
  have hlt : w.heap.size + 1 < w3.heap.size := block_lt (block_up hq3 HB0.out)
  go_wp2_with fail
  refine calls_gen (fun W => Below w3.heap.size w3 W) (by go_grown) (fun W4 hb4 => ?_)
  refine (same_any (madeT m t.inp t.word) t _ _ _ _ _ _ _ _ _ _ _ _ W4 (HIS.out.up hb4) (HT.out.up (ext_trans hb3 hb4))).mono ?_
  rintro e w5 ⟨rfl, hb5⟩
  have hb5' := ext_trans hb3 (ext_trans hb4 hb5)
  clear s2
  generalize sameT (madeT m t.inp t.word) t = sb at HV
  cases sb with
  | true =>
    go_wp2_with fail
    go_ret
    exact ⟨ret_int (by rw [HV.out]; simp), hb5'⟩
  | false =>
    go_wp2_with fail
    go_ret
    exact ⟨ret_int (by rw [HV.out]; simp), hb5'⟩
end Go.Proofs.YtjmejfgkogjpaaaGreatDoor

namespace Go.Proofs.YtjmejfgkogjpaaaGreatDoor
open Go.RowKit Go Go.Shelf
attribute [local go_sem] Oper.semAt_some

theorem word_block {W : World} {B : Nat} {t : TypeId} {x0 x1 x2 x3 x4 x5 x6 : Int} (h : W.heap[B]? = some (.cells #[.int .i64 x0, .int .i64 x1, .int .i64 x2, .int .i64 x3, .int .i64 x4, .int .i64 x5, .int .i64 x6] t)) (h0 : InR x0) (h1 : InR x1) (h2 : InR x2) (h3 : InR x3) (h4 : InR x4) (h5 : InR x5) (h6 : InR x6) :
    IsWord W (.slice (some ⟨B, 0, none⟩) 1 1) [⟨⟨x0, x1, x2, x3, x4, x5⟩, x6⟩] := by
  refine ⟨some ⟨B, 0, none⟩, 1, rfl, ⟨by simp, by omega, fun e => by cases e⟩, by simp, fun i x hx => ⟨B, 0, rfl, ?_⟩⟩
  have hi : i = 0 := by by_cases e : i = 0; exact e; simp [e] at hx
  subst hi
  simp at hx
  subst hx
  have c := cell_block h
  exact ⟨⟨c 0, h0⟩, ⟨c 1, h1⟩, ⟨c 2, h2⟩, ⟨c 3, h3⟩, ⟨c 4, h4⟩, ⟨c 5, h5⟩, ⟨c 6, h6⟩⟩
theorem inR1 (x : Int) (h : 0 ≤ x ∧ x < 100) : InR x := by unfold InR; omega
theorem eqV_refl (a : List Int) : eqV a a = true := by simp [eqV]

set_option maxRecDepth 100000 in
set_option maxHeartbeats 8000000 in
theorem lawake56_any (w : World) (hT : TzAt w) :
    Calls Tryz.prog 6 #[] w fun e w' => e = .returned (.bool true) ∧ Below w.heap.size w w' := by
  have HT := Lib.hid hT
  clear hT
  go_enter Tryz.func6, Tryz.ntmps6
  go_wp2_with fail
  refine (lexample_any w).mono ?_
  rintro e w1 ⟨vf, vy, vt, vo, rfl, hf, hy, ht, ho, hb1⟩
  have HF := Lib.hid hf
  have HY := Lib.hid hy
  have HM := Lib.hid ht
  have HO := Lib.hid ho
  have HB1 := Lib.hid hb1
  obtain ⟨pf, cf, rfl, _⟩ := hf.at
  obtain ⟨py, cy, rfl, _⟩ := hy.at
  obtain ⟨pt, ct, rfl, _⟩ := ht.at
  obtain ⟨po, co, rfl, _⟩ := ho.at
  clear hf hy ht ho hb1
  generalize hMC : macC exM (.slice pf exM.first.length cf) (.slice py exM.syms.length cy) (.slice pt exM.steps.length ct) (.slice po exM.out.length co) = MC
  have hMC' : MC = #[.int .i64 2, .int .i64 1, .int .i64 2, .int .i64 2, .slice pf 2 cf, .slice py 1 cy, .slice pt 4 ct, .slice po 2 co] := hMC.symm
  have HMC := Lib.hid hMC
  clear hMC
  subst hMC'
  go_wp2_with fail
  refine calls_gen (fun W => Below w1.heap.size w1 W ∧ ∀ i o, [Obj.cells #[.int .i64 2, .int .i64 1, .int .i64 2, .int .i64 2, .slice pf 2 cf, .slice py 1 cy, .slice pt 4 ct, .slice po 2 co] 27, .cells #[.int .i64 2, .int .i64 3, .int .i64 3, .int .i64 0, .int .i64 0, .int .i64 0, .int .i64 0] 49, .cells #[.int .i64 2, .int .i64 1, .int .i64 3, .int .i64 0, .int .i64 0, .int .i64 0, .int .i64 0] 49, .cells (intsC [0, 1]) 3][i]? = some o → W.heap[w1.heap.size + i]? = some o) ⟨below_allocs [_, _, _, _] w1, fun i o h => allocs_get [_, _, _, _] w1 i h⟩ (fun W2 hW2 => ?_)
  obtain ⟨hb2, hL2⟩ := hW2
  have HL2 := Lib.hid hL2
  have HB2 := Lib.hid (ext_trans HB1.out hb2)
  have HFM : Hid (∀ W, Below w1.heap.size w1 W → IsVecs W (.slice pf 2 cf) exM.first ∧ IsV4 W (.slice py 1 cy) exM.syms ∧ IsSteps W (.slice pt 4 ct) exM.steps ∧ IsV3 W (.slice po 2 co) exM.out) := by
    have h : ∀ W, Below w1.heap.size w1 W → IsVecs W (.slice pf 2 cf) exM.first ∧ IsV4 W (.slice py 1 cy) exM.syms ∧ IsSteps W (.slice pt 4 ct) exM.steps ∧ IsV3 W (.slice po 2 co) exM.out := fun W hW => ⟨HF.out.up up_ints hW, HY.out.up up_v3 hW, HM.out.up up_step hW, HO.out.up up_vecs hW⟩
    exact h
  have hr := simRun_any exM (.slice pf 2 cf) (.slice py 1 cy) (.slice pt 4 ct) (.slice po 2 co) (.slice (some ⟨w1.heap.size + 3, 0, none⟩) 2 2) (.slice (some ⟨w1.heap.size + 1, 0, none⟩) 1 1) [0, 1] [rdF] W2 (HFM.out W2 hb2).1 (HFM.out W2 hb2).2.1 (HFM.out W2 hb2).2.2.1 (HFM.out W2 hb2).2.2.2 (ib [0, 1] (hL2 3 _ rfl) (by decide) (by decide)) (word_block (hL2 1 _ rfl) (inR1 _ (by omega)) (inR1 _ (by omega)) (inR1 _ (by omega)) (inR1 _ (by omega)) (inR1 _ (by omega)) (inR1 _ (by omega)) (inR1 _ (by omega)))
  rw [play_full, made_full] at hr
  have HR := Lib.hid hr
  clear hr hL2
  refine HR.out.mono ?_
  rintro e w3 ⟨ai, aw, as', am, ad, at', rfl, ha1, _, hb3⟩
  have hta := ha1 rfl
  have HTA := Lib.hid hta
  have HB3 := Lib.hid (ext_trans HB2.out hb3)
  have HC3 := Lib.hid (ext_trans hb2 hb3)
  obtain ⟨p1, q1, e1, _⟩ := hta.inp.at
  obtain ⟨p2, q2, e2, _⟩ := hta.word.at
  obtain ⟨p3, q3, e3, _⟩ := hta.states.at
  obtain ⟨p4, q4, e4, _⟩ := hta.msgs.at
  obtain ⟨p5, q5, e5, _⟩ := hta.dec.at
  obtain ⟨p6, q6, e6, _⟩ := hta.times.at
  obtain rfl : ai = .slice p1 2 q1 := e1
  obtain rfl : aw = .slice p2 1 q2 := e2
  obtain rfl : as' = .slice p3 2 q3 := e3
  obtain rfl : am = .slice p4 2 q4 := e4
  obtain rfl : ad = .slice p5 2 q5 := e5
  obtain rfl : at' = .slice p6 2 q6 := e6
  clear ha1 hta
  have HL3 : Hid (∀ i o, [Obj.cells #[.int .i64 2, .int .i64 1, .int .i64 2, .int .i64 2, .slice pf 2 cf, .slice py 1 cy, .slice pt 4 ct, .slice po 2 co] 27, .cells #[.int .i64 2, .int .i64 3, .int .i64 3, .int .i64 0, .int .i64 0, .int .i64 0, .int .i64 0] 49, .cells #[.int .i64 2, .int .i64 1, .int .i64 3, .int .i64 0, .int .i64 0, .int .i64 0, .int .i64 0] 49, .cells (intsC [0, 1]) 3][i]? = some o → w3.heap[w1.heap.size + i]? = some o) := Lib.hid (fun i o h => block_up hb3 (HL2.out i o h))
  have t1 := cell_block (HL3.out 0 _ rfl)
  have hl1 : w1.heap.size < w3.heap.size := by have := block_lt (HL3.out 3 _ rfl); omega
  simp only [Nat.add_zero] at t1
  clear hb3 hb2
  go_wp2_with fail
  -- the second run
  refine calls_gen (fun W => Below w3.heap.size w3 W ∧ W.heap[w3.heap.size]? = some (.cells #[.slice p1 2 q1, .slice p2 1 q2, .slice p3 2 q3, .slice p4 2 q4, .slice p5 2 q5, .slice p6 2 q6] 35) ∧ W.heap[w3.heap.size + 1]? = some (.cells (intsC [0, 1]) 3)) ⟨by go_grown, alloc_old _ (alloc_new _ _), alloc2_new _ _ _⟩ (fun W4 hW4 => ?_)
  obtain ⟨hb4, hA4, hI4⟩ := hW4
  have HA4 := Lib.hid hA4
  have HB4 := Lib.hid (ext_trans HB3.out hb4)
  have HC4 := Lib.hid (ext_trans HC3.out hb4)
  have HD4 := Lib.hid hb4
  have hr2 := simRun_any exM (.slice pf 2 cf) (.slice py 1 cy) (.slice pt 4 ct) (.slice po 2 co) (.slice (some ⟨w3.heap.size + 1, 0, none⟩) 2 2) (.slice (some ⟨w1.heap.size + 1 + 1, 0, none⟩) 1 1) [0, 1] [rdH] W4 (HFM.out W4 HC4.out).1 (HFM.out W4 HC4.out).2.1 (HFM.out W4 HC4.out).2.2.1 (HFM.out W4 HC4.out).2.2.2 (ib [0, 1] hI4 (by decide) (by decide)) (word_block (block_up hb4 (HL3.out 2 _ rfl)) (inR1 _ (by omega)) (inR1 _ (by omega)) (inR1 _ (by omega)) (inR1 _ (by omega)) (inR1 _ (by omega)) (inR1 _ (by omega)) (inR1 _ (by omega)))
  rw [play_half] at hr2
  have HR2 := Lib.hid hr2
  have HHM := Lib.hid half_msgs
  clear hr2 hA4 hI4 t1 hl1
  generalize madeT exM [0, 1] [rdH] = trH at HR2 HHM
  refine HR2.out.mono ?_
  rintro e w5 ⟨bi, bw, bs', bm, bd, bt, rfl, hc1, _, hb5⟩
  have htb := hc1 rfl
  obtain ⟨x1, y1, rfl, _⟩ := htb.inp.at
  obtain ⟨x2, y2, rfl, _⟩ := htb.word.at
  obtain ⟨x3, y3, rfl, _⟩ := htb.states.at
  obtain ⟨x4, y4, rfl, _⟩ := htb.msgs.at
  obtain ⟨x5, y5, rfl, _⟩ := htb.dec.at
  obtain ⟨x6, y6, rfl, _⟩ := htb.times.at
  rw [HHM.out]
  clear hc1 htb
  have HA5 := Lib.hid (block_up hb5 HA4.out)
  have HB5 := Lib.hid (ext_trans HB4.out hb5)
  have HC5 := Lib.hid (ext_trans HC4.out hb5)
  have HD5 := Lib.hid (ext_trans HD4.out hb5)
  have t1 := cell_block HA5.out
  have hl5 : w3.heap.size < w5.heap.size := block_lt HA5.out
  clear hb5 hb4
  go_wp2_with fail
  -- the bytes
  refine calls_gen (fun W => Below w5.heap.size w5 W ∧ W.heap[w5.heap.size]? = some (.cells #[.slice x1 trH.inp.length y1, .slice x2 trH.word.length y2, .slice x3 trH.states.length y3, .slice x4 1 y4, .slice x5 trH.dec.length y5, .slice x6 trH.times.length y6] 35)) ⟨by go_grown, alloc_new _ _⟩ (fun W6 hW6 => ?_)
  obtain ⟨hb6, hU6⟩ := hW6
  have HU6 := Lib.hid hU6
  have HB6 := Lib.hid (ext_trans HB5.out hb6)
  have HC6 := Lib.hid (ext_trans HC5.out hb6)
  have HD6 := Lib.hid (ext_trans HD5.out hb6)
  have hby := bytes_any trF (.slice p1 2 q1) (.slice p2 1 q2) (.slice p3 2 q3) (.slice p4 2 q4) (.slice p5 2 q5) (.slice p6 2 q6) W6 (HTA.out.up HD6.out) trace_full (by decide) (by decide)
  rw [bytes_full] at hby
  have HBY := Lib.hid hby
  have HA6 := Lib.hid (block_up hb6 HA5.out)
  clear hby hU6 t1 hb6
  refine HBY.out.mono ?_
  rintro e w7 ⟨rfl, hb7⟩
  have HA7 := Lib.hid (block_up hb7 HA6.out)
  have HU7 := Lib.hid (block_up hb7 HU6.out)
  have HB7 := Lib.hid (ext_trans HB6.out hb7)
  have HC7 := Lib.hid (ext_trans HC6.out hb7)
  have HD7 := Lib.hid (ext_trans HD6.out hb7)
  have t1 := cell_block HA7.out
  clear hb7
  go_wp2_with fail
  -- the text
  have hfm := format_any trF (.slice p1 2 q1) (.slice p2 1 q2) (.slice p3 2 q3) (.slice p4 2 q4) (.slice p5 2 q5) (.slice p6 2 q6) w7 (HTA.out.up HD7.out) fmtOk_full (HT.out.up HB7.out)
  rw [format_full] at hfm
  have HFMT := Lib.hid hfm
  clear hfm t1
  refine HFMT.out.mono ?_
  rintro e w8 ⟨rfl, hb8⟩
  have HA8 := Lib.hid (block_up hb8 HA7.out)
  have HU8 := Lib.hid (block_up hb8 HU7.out)
  have HB8 := Lib.hid (ext_trans HB7.out hb8)
  have HC8 := Lib.hid (ext_trans HC7.out hb8)
  have HD8 := Lib.hid (ext_trans HD7.out hb8)
  have t1 := cell_block HA8.out
  have t2 := cell_block HU8.out
  clear hb8
  go_wp2_with fail
  -- the times and the decisions
  refine calls_gen (fun W => Below w8.heap.size w8 W ∧ W.heap[w8.heap.size]? = some (.cells (intsC [-1, 1]) 3)) ⟨by go_grown, alloc_new _ _⟩ (fun W9 hW9 => ?_)
  obtain ⟨hb9, hI9⟩ := hW9
  have HE1 := Lib.hid (slicesEqual_any (.slice p6 2 q6) (.slice (some ⟨w8.heap.size, 0, none⟩) 2 2) [-1, 1] [-1, 1] W9 (HTA.out.times.up up_int (ext_trans HD8.out hb9)) (ib [-1, 1] hI9 (by decide) (by decide)))
  rw [eqV_refl] at HE1
  have HB9 := Lib.hid (ext_trans HB8.out hb9)
  have HC9 := Lib.hid (ext_trans HC8.out hb9)
  have HD9 := Lib.hid (ext_trans HD8.out hb9)
  have HA9 := Lib.hid (block_up hb9 HA8.out)
  clear hI9 t1 t2 hb9
  refine HE1.out.mono ?_
  rintro e w10 ⟨rfl, hb10⟩
  have HB10 := Lib.hid (ext_trans HB9.out hb10)
  have HC10 := Lib.hid (ext_trans HC9.out hb10)
  have HD10 := Lib.hid (ext_trans HD9.out hb10)
  have HA10 := Lib.hid (block_up hb10 HA9.out)
  have t1 := cell_block HA10.out
  have hl10 := block_lt HA10.out
  clear hb10
  go_wp2_with fail
  refine calls_gen (fun W => Below w10.heap.size w10 W ∧ W.heap[w10.heap.size]? = some (.cells (intsC [-1, 1]) 3)) ⟨by go_grown, alloc_new _ _⟩ (fun W11 hW11 => ?_)
  obtain ⟨hb11, hI11⟩ := hW11
  have HE2 := Lib.hid (slicesEqual_any (.slice p5 2 q5) (.slice (some ⟨w10.heap.size, 0, none⟩) 2 2) [-1, 1] [-1, 1] W11 (HTA.out.dec.up up_int (ext_trans HD10.out hb11)) (ib [-1, 1] hI11 (by decide) (by decide)))
  rw [eqV_refl] at HE2
  have HB11 := Lib.hid (ext_trans HB10.out hb11)
  have HC11 := Lib.hid (ext_trans HC10.out hb11)
  have HD11 := Lib.hid (ext_trans HD10.out hb11)
  have HA11 := Lib.hid (block_up hb11 HA10.out)
  clear hI11 t1 hb11 hl10
  refine HE2.out.mono ?_
  rintro e w12 ⟨rfl, hb12⟩
  have HB12 := Lib.hid (ext_trans HB11.out hb12)
  have HC12 := Lib.hid (ext_trans HC11.out hb12)
  have HD12 := Lib.hid (ext_trans HD11.out hb12)
  have HA12 := Lib.hid (block_up hb12 HA11.out)
  have t1 := cell_block HA12.out
  clear hb12
  go_wp2_with fail
  have HCK := Lib.hid (trCheck_any trF (.slice p1 2 q1) (.slice p2 1 q2) (.slice p3 2 q3) (.slice p4 2 q4) (.slice p5 2 q5) (.slice p6 2 q6) w12 (HTA.out.up HD12.out))
  rw [trace_full] at HCK
  refine HCK.out.mono ?_
  rintro e w13 ⟨rfl, hb13⟩
  have HB13 := Lib.hid (ext_trans HB12.out hb13)
  have HC13 := Lib.hid (ext_trans HC12.out hb13)
  have HD13 := Lib.hid (ext_trans HD12.out hb13)
  have HA13 := Lib.hid (block_up hb13 HA12.out)
  have HM13 := Lib.hid (block_up (ext_trans (ext_trans HD12.out hb13) (Below.refl _ _)) (HL3.out 0 _ rfl))
  have t2 := cell_block HA13.out
  have t3 := cell_block HM13.out
  simp only [Nat.add_zero] at t3
  clear hb13 t1
  go_wp2_with fail
  have HRP := Lib.hid (replay_any exM (.slice pf 2 cf) (.slice py 1 cy) (.slice pt 4 ct) (.slice po 2 co) trF (.slice p1 2 q1) (.slice p2 1 q2) (.slice p3 2 q3) (.slice p4 2 q4) (.slice p5 2 q5) (.slice p6 2 q6) w13 (HFM.out _ HC13.out).1 (HFM.out _ HC13.out).2.1 (HFM.out _ HC13.out).2.2.1 (HFM.out _ HC13.out).2.2.2 (HTA.out.up HD13.out))
  rw [replay_full] at HRP
  refine HRP.out.mono ?_
  rintro e w14 ⟨rfl, hb14⟩
  go_wp2_with fail
  go_ret
  exact ⟨rfl, ext_trans HB13.out hb14⟩
end Go.Proofs.YtjmejfgkogjpaaaGreatDoor
