/-
  Parts of the proof, in order. Contract of the reference's Made of traces. Conditions: the arguments read as a machine, inputs, a word and the states of the play, which has no error. Contracts of the reference's in, numbers, Count and shaped of machines. Conditions: the arguments read as lists, as a machine of few rounds. Contract of the reference's shaped of machines. Conditions: the argument reads as a machine with few rounds.
-/
import Derived.Deep.QuietTactic
import Derived.BigQuiet
import Derived.Test.YtjmejfgkogjpaaaGreatDoorJ6
namespace Go.Proofs.YtjmejfgkogjpaaaGreatDoor
open Go.RowKit Go Go.Shelf
attribute [local go_sem] Oper.semAt_some

theorem made_results (tmps : Array Value) (B : Nat) (W : World) (vi vw vs vm vd vt : Value) (ty : TypeId) (h1 : tmps[8]?.getD undef = .pointer (some ⟨B, 0, none⟩)) (hb : W.heap[B]? = some (.cells (trC vi vw vs vm vd vt) ty)) :
    (results Tryz.f23 tmps).run Tryz.prog W = .ok (.agg (trC vi vw vs vm vd vt)) W := by
  have c := cell_block hb
  simp [results, Tryz.results23, go_sem, h1, c]

set_option maxRecDepth 100000 in
set_option maxHeartbeats 8000000 in
theorem rmade_any (m : Mac) (vf vy vt vo vi vw vs : Value) (inputs : List Int) (word : List Rd) (n r : Nat) (hok : PlayOk m inputs word n r) (w : World) (hf : IsVecs w vf m.first) (hy : IsV4 w vy m.syms) (ht : IsSteps w vt m.steps) (ho : IsV3 w vo m.out) (hi : IsInts w vi inputs) (hw : IsWord w vw word) (hs : IsVecs w vs (runL m inputs word)) :
    Calls Tryz.prog 23 #[.agg (macC m vf vy vt vo), vi, vw, vs] w fun e w' => ∃ um ud ut, e = .returned (.agg (trC vi vw vs um ud ut)) ∧ IsTr w' (madeT m inputs word) vi vw vs um ud ut ∧ Below w.heap.size w w' := by
  have HF := Lib.hid hf
  have HY := Lib.hid hy
  have HT := Lib.hid ht
  have HO := Lib.hid ho
  have HI := Lib.hid hi
  have HW := Lib.hid hw
  have HS := Lib.hid hs
  have HOK := Lib.hid hok
  have hn5 := hok.good.n5
  have hr6 := hok.good.r6
  have HPLC := Lib.hid (show ∀ W, Below w.heap.size w W → Calls Tryz.prog 53 #[.int .i64 m.n, vw] W fun e w' => ∃ u, e = .returned u ∧ OwnT w' W.heap.size 114 3 u (placesL n word).length (flatP (placesL n word)) ∧ Below W.heap.size W w' from fun W hb => by
    rw [hok.good.hn]
    exact rplaces_any n hn5 vw word W (hw.up up_round hb) (by rw [hok.wl]; omega) hok.we)
  have HDEC := Lib.hid (fun p (hp : p < n) W (hb : Below w.heap.size w W) => rdecided_any m vf vy vt vo vs inputs word n r p hok hp W (hf.up up_ints hb) (hy.up up_v3 hb) (ht.up up_step hb) (ho.up up_vecs hb) (hs.up up_ints hb))
  have hwl := hok.wl
  obtain ⟨L, hL⟩ : ∃ L, runL m inputs word = L := ⟨_, rfl⟩
  rw [hL] at hs HS HDEC
  have HL := Lib.hid hL
  obtain ⟨pf, cf, rfl, _⟩ := hf.at
  obtain ⟨py, cy, rfl, ly1, ly2, ey⟩ := hy.at
  obtain ⟨pt, ct, rfl, _⟩ := ht.at
  obtain ⟨po, co, rfl, _⟩ := ho.at
  obtain ⟨pi, ci, rfl, li1, li2, _⟩ := hi.at
  obtain ⟨pw, cw, rfl, lw1, lw2, _⟩ := hw.at
  obtain ⟨ps, cs, rfl, ls1, ls2, es⟩ := hs.at
  have EY := Lib.hid ey
  have ES := Lib.hid es
  have HWL := Lib.hid hwl
  clear hf hy ht ho hi hw hs hok hL ey es hwl
  obtain ⟨PL, hPL⟩ : ∃ PL, placesL n word = PL := ⟨_, rfl⟩
  have HPL : Hid (∀ x ∈ PL, x.1 < r ∧ x.2.1 < n ∧ x.2.2 < n ∧ x.2.1 ≠ x.2.2) := by
    have h : ∀ x ∈ PL, x.1 < r ∧ x.2.1 < n ∧ x.2.2 < n ∧ x.2.1 ≠ x.2.2 := fun x hx => by
      rw [← hPL] at hx
      have h1 := placesL_mem hx
      have h2 := placesL_ne hx
      have h3 := HOK.out.wl
      exact ⟨by omega, h1.2.1, h1.2.2, h2⟩
    exact h
  have HPLL : Hid (PL.length ≤ 150) := by
    have h : PL.length ≤ 150 := by
      have h1 := placesL_len n word
      have h2 := HOK.out.wl
      rw [hPL] at h1
      omega
    exact h
  rw [hPL] at HPLC
  have HP := Lib.hid hPL
  clear hPL
  obtain ⟨xs, hxs⟩ : ∃ xs, PL.map (msgS m L) = xs := ⟨_, rfl⟩
  have HXL : Hid (xs.length = PL.length) := by
    have h : xs.length = PL.length := by rw [← hxs, List.length_map]
    exact h
  have HXS := Lib.hid hxs
  clear hxs
  obtain ⟨i0, hi0, hz0, hz1, hz2⟩ := info_parts Tryz.infoMsg
  go_enter Tryz.func23, Tryz.ntmps23
  go_wp2_with fail
  refine calls_gen (fun W => Below w.heap.size w W ∧ W.heap[w.heap.size]? = some (.cells (macC m (.slice pf m.first.length cf) (.slice py m.syms.length cy) (.slice pt m.steps.length ct) (.slice po m.out.length co)) 27) ∧ W.heap[w.heap.size + 1]? = some (.cells zeroTr 35) ∧ W.heap[w.heap.size + 1 + 1]? = some (.cells (trC (.slice pi inputs.length ci) (.slice pw word.length cw) (.slice ps L.length cs) (.slice none 0 0) (.slice none 0 0) (.slice none 0 0)) 35)) ⟨by go_grown, alloc_old _ (alloc_old _ (alloc_new _ _)), alloc_old _ (alloc2_new _ _ _), alloc3_new _ _ _ _⟩ (fun W0 hW0 => ?_)
  obtain ⟨hb0, hM0, hR0, hT0⟩ := hW0
  refine (HPLC.out W0 hb0).mono ?_
  rintro e w1 ⟨u, rfl, hu, hb1'⟩
  have HU := Lib.hid hu
  obtain ⟨au, cu, rfl⟩ := hu.slice
  clear hu
  have hbw1 := ext_trans hb0 hb1'
  have HM1 := Lib.hid (block_up hb1' hM0)
  have HR1 := Lib.hid (block_up hb1' hR0)
  have HT1 := Lib.hid (block_up hb1' hT0)
  have hBt0 := block_lt hT0
  have hBt1 := block_lt HT1.out
  have hs1 := hb1'.size
  clear hM0 hR0 hT0
  obtain ⟨Bt, hBt⟩ : ∃ Bt, w.heap.size + 1 + 1 = Bt := ⟨_, rfl⟩
  go_wp2_with fail
  rw [hBt] at HT1 hBt0 hBt1
  have hBtw : w.heap.size + 1 < Bt := by omega
  clear hBt
  go_loopw [11] (fun i wr => ∃ j : Nat, j ≤ PL.length ∧ i = .int .i64 j ∧ MI w w1 Bt (.slice pi inputs.length ci) (.slice pw word.length cw) (.slice ps L.length cs) xs j wr) (fun i _ => PL.length - (intOf i).toNat)
  case atStart => exact ⟨0, by omega, rfl, hbw1, Nat.le_refl _, fun _ _ h _ => h, _, HT1.out, OwnT.nil _ _ _ _⟩
  case round =>
    obtain ⟨i, hi, rfl, hmi⟩ := hrel
    have HMI := Lib.hid hmi
    clear hmi
    have hswr := HMI.out.size
    by_cases hiP : i < PL.length
    · have hiP' : (i : Int) < (PL.length : Int) := by omega
      have hiX : i < xs.length := by rw [HXL.out]; exact hiP
      have hx := HPL.out PL[i] (List.getElem_mem hiP)
      have HFL := Lib.hid (flatM_snoc xs i hiX)
      have hgx : xs.getD i default = msgS m L PL[i] := by
        have h1 := HXS.out
        subst h1
        rw [getD_of_lt default hiX, List.getElem_map]
      rw [hgx] at HFL
      have hcell : ∀ j, j < 3 → ∃ g, au = some ⟨g, 0, none⟩ ∧ g ≠ Bt ∧ w1.cell? ⟨g, i * 3 + j, none⟩ = (plC PL[i])[j]? := fun j hj => by
        obtain ⟨g, c, e, hc⟩ := HU.out.cell (i * 3 + j) ((plC PL[i])[j]'(by simpa using hj)) (by
          unfold flatP
          rw [flat_at plC 3 (fun _ => rfl) PL i j hiP hj, Array.getElem?_eq_getElem (by simpa using hj)])
        refine ⟨g, by simp at e; exact e.1, ?_, by rw [hc, Array.getElem?_eq_getElem (by simpa using hj)]⟩
        have h1 := (HU.out.lt g (by rw [show au = some ⟨g, 0, none⟩ by simp at e; exact e.1]; rfl)).1
        omega
      obtain ⟨g, hau, hgB, hc0⟩ := hcell 0 (by omega)
      subst hau
      have hc1 : w1.cell? ⟨g, i * 3 + 1, none⟩ = (plC PL[i])[1]? := by
        obtain ⟨g', e, _, h⟩ := hcell 1 (by omega)
        obtain rfl : g = g' := by simpa using e
        exact h
      have hc2 : w1.cell? ⟨g, i * 3 + 2, none⟩ = (plC PL[i])[2]? := by
        obtain ⟨g', e, _, h⟩ := hcell 2 (by omega)
        obtain rfl : g = g' := by simpa using e
        exact h
      clear hcell hgx
      generalize PL[i] = x at hx HFL hc0 hc1 hc2
      obtain ⟨k, p, q⟩ := x
      dsimp only at hx
      simp only [plC, List.getElem?_toArray, List.getElem?_cons_zero, List.getElem?_cons_succ, Nat.add_zero] at hc0 hc1 hc2
      have hup : ∀ {a : Addr} {v : Value}, a.block ≠ Bt → w1.cell? a = some v → wr.cell? a = some v := fun {a v} hn hc => by
        unfold World.cell? at hc ⊢
        split at hc
        · rename_i cs t fz hb
          rw [HMI.out.kept _ _ hb hn]
          exact hc
        · cases hc
      have d0 := hup hgB hc0
      have d1 := hup hgB hc1
      have d2 := hup hgB hc2
      obtain ⟨hkr, hpn, hqn, hpq⟩ := hx
      have hky : k < m.syms.length := by rw [HOK.out.good.yl]; exact hkr
      have hyk := HOK.out.good.yk k hkr
      have hyp := HOK.out.good.yp k p hkr hpn
      have hyq := HOK.out.good.yq k p q hkr hpn hqn
      rw [if_neg hpq] at hyq
      rw [getD_of_lt [] hky] at hyk hyp hyq
      have hpy : p < m.syms[k].length := by omega
      rw [getD_of_lt [] hpy] at hyp hyq
      have hqy : q < m.syms[k][p].length := by omega
      rw [getD_of_lt [] hqy] at hyq
      have hkL : k < L.length := by
        have h1 := HOK.out.rl
        rw [HL.out] at h1
        omega
      have hfit := HOK.out.fits (k := k) (p := p) (by omega) hpn
      have hlk := (runL_fits HOK.out.good (word := word) HOK.out.il HOK.out.ir k L[k] (by rw [HL.out]; exact List.getElem?_eq_getElem hkL)).1
      have hpL : p < L[k].length := by omega
      rw [HL.out, getD_of_lt [] hkL, getD_of_lt 0 hpL] at hfit
      obtain ⟨sN, hsN⟩ : ∃ sN : Nat, L[k][p] = sN := ⟨(L[k][p]).toNat, by omega⟩
      rw [hsN] at hfit
      have hsy : sN < m.syms[k][p][q].length := by omega
      have hsr := HOK.out.good.symr k p q sN hkr hpn hqn (by rw [getD_of_lt [] hky, getD_of_lt [] hpy, getD_of_lt [] hqy]; exact hsy)
      rw [getD_of_lt [] hky, getD_of_lt [] hpy, getD_of_lt [] hqy, getD_of_lt 0 hsy] at hsr
      obtain ⟨sy, hsyv⟩ : ∃ sy : Nat, m.syms[k][p][q][sN] = sy := ⟨(m.syms[k][p][q][sN]).toNat, by omega⟩
      obtain ⟨bs, hbs⟩ : ∃ bs, bytesOf (msgL k p q sy) = bs := ⟨_, rfl⟩
      have hms : (msgS m L (k, p, q)).c = #[.int .i64 (k : Int), .int .i64 (p : Int), .int .i64 (q : Int), .string bs] := by
        unfold msgS symS
        dsimp only
        rw [getD_of_lt [] hkL, getD_of_lt 0 hpL, hsN, Int.toNat_natCast, getD_of_lt [] hky, getD_of_lt [] hpy, getD_of_lt [] hqy, getD_of_lt 0 hsy, hsyv, Int.toNat_natCast, hbs]
      rw [hms] at HFL
      have HMSG := Lib.hid (fun W => rmessage_any k p q sy (by omega) (by omega) (by omega) (by omega) W)
      rw [hbs] at HMSG
      obtain ⟨b1, o1, rfl, x1, c1, hx1⟩ := EY.out k hky
      obtain ⟨p1, q1, rfl, l11, l12, e1⟩ := hx1.at
      obtain ⟨b2, o2, rfl, x2, c2, hx2⟩ := e1 p hpy
      obtain ⟨p2, q2, rfl, l21, l22, e2⟩ := hx2.at
      obtain ⟨b3, o3, rfl, x3, c3, hx3⟩ := e2 q hqy
      obtain ⟨p3, q3, rfl, l31, l32, e3⟩ := hx3.at
      obtain ⟨b4, o4, rfl, c4, r4⟩ := e3 sN hsy
      obtain ⟨b5, o5, rfl, x5, c5, hx5⟩ := ES.out k hkL
      obtain ⟨p5, q5, rfl, l51, l52, e5⟩ := hx5.at
      obtain ⟨b6, o6, rfl, c6, r6⟩ := e5 p hpL
      rw [Nat.mul_one] at c1 c2 c3 c4 c5 c6
      rw [hsyv] at c4
      rw [hsN] at c6
      have k1 := Lib.hid (cell_up HMI.out.old c1)
      have k2 := Lib.hid (cell_up HMI.out.old c2)
      have k3 := Lib.hid (cell_up HMI.out.old c3)
      have k4 := Lib.hid (cell_up HMI.out.old c4)
      have k5 := Lib.hid (cell_up HMI.out.old c5)
      have k6 := Lib.hid (cell_up HMI.out.old c6)
      have y1 : (k : Int) < (m.syms.length : Int) := by omega
      have y2 : (p : Int) < (m.syms[k].length : Int) := by omega
      have y3 : (q : Int) < (m.syms[k][p].length : Int) := by omega
      have y4 : (sN : Int) < (m.syms[k][p][q].length : Int) := by omega
      have y5 : (k : Int) < (L.length : Int) := by omega
      have y6 : (p : Int) < (L[k].length : Int) := by omega
      clear c1 c2 c3 c4 c5 c6 r4 r6 e1 e2 e3 e5 hx1 hx2 hx3 hx5 hyk hyp hyq hfit hlk hsN hsr hsyv hms hbs hup hc0 hc1 hc2 hsy
      generalize m.syms[k][p][q].length = n4 at k3 y4 l31 l32
      clear hqy
      generalize m.syms[k][p].length = n3 at k2 y3 l21 l22
      clear hpy
      generalize m.syms[k].length = n2 at k1 y2 l11 l12
      clear hpL
      generalize L[k].length = nL at k5 y6 l51 l52
      have HMr := Lib.hid (HMI.out.kept _ _ HM1.out (by omega))
      go_wp2_with fail
      clear d0 d1 d2
      refine wp_gen (fun W => Below wr.heap.size wr W ∧ W.heap[wr.heap.size]? = some (.cells #[.int .i64 (k : Int), .int .i64 (p : Int), .int .i64 (q : Int)] 114)) ⟨by go_grown, alloc_new _ _⟩ (fun W2 hW2 => ?_)
      obtain ⟨hb2, hX2⟩ := hW2
      have HX2 := Lib.hid hX2
      clear hX2
      have q0 : ∀ y : ExtW W2, ∀ o, y.val.cell? ⟨w.heap.size, o, none⟩ = _ := fun y => cell_block (block_up (ext_trans hb2 y.ext) HMr.out)
      have qX : ∀ y : ExtW W2, ∀ o, y.val.cell? ⟨wr.heap.size, o, none⟩ = _ := fun y => cell_block (block_up y.ext HX2.out)
      have g1 : ∀ y : ExtW W2, y.val.cell? ⟨b1, o1 + k, none⟩ = _ := fun y => y.cell (cell_up hb2 k1.out)
      have g2 : ∀ y : ExtW W2, y.val.cell? ⟨b2, o2 + p, none⟩ = _ := fun y => y.cell (cell_up hb2 k2.out)
      have g3 : ∀ y : ExtW W2, y.val.cell? ⟨b3, o3 + q, none⟩ = _ := fun y => y.cell (cell_up hb2 k3.out)
      have g4 : ∀ y : ExtW W2, y.val.cell? ⟨b4, o4 + sN, none⟩ = _ := fun y => y.cell (cell_up hb2 k4.out)
      have g5 : ∀ y : ExtW W2, y.val.cell? ⟨b5, o5 + k, none⟩ = _ := fun y => y.cell (cell_up hb2 k5.out)
      have g6 : ∀ y : ExtW W2, y.val.cell? ⟨b6, o6 + p, none⟩ = _ := fun y => y.cell (cell_up hb2 k6.out)
      refine wp_region_quiet_ext (by kernel_rfl) (by kernel_rfl) ?_
      repeat (go_big_quiet_step (fail))
      refine wpQuiet_nil ?_
      intro _ hw'
      obtain ⟨xq, hw''⟩ := hw'
      subst hw''
      clear q0 qX g1 g2 g3 g4 g5 g6
      have hb3 := ext_trans hb2 xq.ext
      have HBX0 := Lib.hid (block_up xq.ext HX2.out)
      generalize xq.val = W3 at hb3 HBX0 ⊢
      clear HX2 hb2
      have hBXs : w1.heap.size ≤ wr.heap.size := hswr
      have hMI3 := HMI.out.up hb3
      obtain ⟨v, hbox, hrow⟩ := hMI3.row
      have hs31 := hMI3.size
      have HKP := Lib.hid hMI3.kept
      have HOLD := Lib.hid hMI3.old
      have HNB0 := hrow.ne HBX0.out (by decide)
      obtain ⟨am, cm, rfl⟩ := hrow.slice
      have HBOX := Lib.hid hbox
      obtain ⟨dl, hdl⟩ : ∃ dl, flatM (xs.take i) = dl := ⟨_, rfl⟩
      have HROW := Lib.hid (hdl ▸ hrow)
      have HDL := Lib.hid hdl
      generalize wr.heap.size = BX at HBX0 HNB0 hBXs ⊢
      have HBX := HBX0
      have HNB : Hid ((Value.slice am i cm).ownBlock ≠ some BX) := by
        have h : (Value.slice am i cm).ownBlock ≠ some BX := fun e => HNB0 BX e rfl
        exact h
      have hP150 := HPLL.out
      clear hMI3 hbox hrow hdl HNB0 HBX0
      go_wp2_with fail
      refine wp_region_core 21 [60, 61, 62, 63, 64, 65, 66, 67, 68, 69, 70, 71, 72, 73, 74, 75, 76, 77, 78, 79, 5] [some (.pointer (some ⟨Bt, 3, none⟩)),
        some (.slice am i cm),
        some (.pointer (some ⟨BX, 0, none⟩)),
        some (.int .i64 (k : Int)),
        some (.pointer (some ⟨BX, 1, none⟩)),
        some (.int .i64 (p : Int)),
        some (.pointer (some ⟨BX, 2, none⟩)),
        some (.int .i64 (q : Int)),
        some (.pointer (some ⟨BX, 0, none⟩)),
        some (.int .i64 (k : Int)),
        some (.pointer (some ⟨BX, 1, none⟩)),
        some (.int .i64 (p : Int)),
        some (.pointer (some ⟨BX, 2, none⟩)),
        some (.int .i64 (q : Int)),
        some (.int .i64 (sy : Int)),
        some (.string bs),
        some (.agg #[.int .i64 (k : Int), .int .i64 (p : Int), .int .i64 (q : Int), .string bs]),
        none,
        none,
        some (.pointer (some ⟨Bt, 3, none⟩)),
        some (undef)] (CM w W3 w1.heap.size Bt (.slice pi inputs.length ci) (.slice pw word.length cw) (.slice (some ⟨b5, o5, none⟩) L.length cs) (.slice am i cm) i dl #[.int .i64 (k : Int), .int .i64 (p : Int), .int .i64 (q : Int), .string bs]) (by kernel_rfl) rfl (by decide) rfl (by kernel_rfl) (fun _ => ⟨HOLD.out.drew, Nat.le_refl _, fun _ _ h _ _ => h, HROW.out, HBOX.out, nofun, nofun⟩) ?step ?tail
      case step =>
        intro x W D i o s F hi ho hs hD hun hdep hv hcore hF
        have hcase : i = 0 ∨ i = 1 ∨ i = 2 ∨ i = 3 ∨ i = 4 ∨ i = 5 ∨ i = 6 ∨ i = 7 ∨ i = 8 ∨ i = 9 ∨ i = 10 ∨ i = 11 ∨ i = 12 ∨ i = 13 ∨ i = 14 ∨ i = 15 ∨ i = 16 ∨ i = 17 ∨ i = 18 ∨ i = 19 ∨ i = 20 := by omega
        rcases hcase with rfl | rfl | rfl | rfl | rfl | rfl | rfl | rfl | rfl | rfl | rfl | rfl | rfl | rfl | rfl | rfl | rfl | rfl | rfl | rfl | rfl
        · obtain rfl := Option.some.inj ho.symm
          obtain rfl := Option.some.inj hs.symm
          clear hdep hi ho hs hv
          have e9 : F.getD 9 undef = .pointer (some ⟨Bt, 0, none⟩) := by (rw [hF, setAll_getD_ne (by decide)]; rfl)
          clear hF hun
          have e9' := (show F[9]?.getD undef = F.getD 9 undef by simp only [Array.getD_eq_getD_getElem?]).trans e9
          have HD := Lib.hid hD
          have HCORE := Lib.hid hcore
          clear hD hcore
          go_wp2_with fail
          refine CoreK.mk _ (fun c hc => Option.some.inj hc) ?_ rfl
          exact ⟨HCORE.out.old, HCORE.out.size, HCORE.out.kept, HCORE.out.rd, HCORE.out.box, HCORE.out.s17, HCORE.out.o20⟩
        · obtain rfl := Option.some.inj ho.symm
          obtain rfl := Option.some.inj hs.symm
          have g0 := hdep ⟨0, .data⟩ (by simp) rfl
          have d0 : x 0 = .pointer (some ⟨Bt, 3, none⟩) := hv 0 _ (by omega) g0 rfl
          clear hdep hi ho hs hv
          have e60 : F.getD 60 undef = .pointer (some ⟨Bt, 3, none⟩) := by (rw [← d0, hF]; exact setAll_getD (by decide) (i := 0) rfl (Nat.le_of_ble_eq_true (by kernel_rfl)))
          clear hF hun d0
          have h20 : D 20 = false := by
            cases h : D 20 with
            | false => rfl
            | true => exact absurd (hcore.o20 h).1 (by rw [hD]; decide)
          have hbx : W.heap[Bt]? = some (.cells (trC (.slice pi inputs.length ci) (.slice pw word.length cw) (.slice (some ⟨b5, o5, none⟩) L.length cs) (.slice am i cm) (.slice none 0 0) (.slice none 0 0)) 35) := by
            have h := hcore.box
            rw [h20] at h
            exact h
          have t := cell_block hbx
          have f := frozen_block hbx
          clear hbx
          clear h20 f
          have e60' := (show F[60]?.getD undef = F.getD 60 undef by simp only [Array.getD_eq_getD_getElem?]).trans e60
          have HD := Lib.hid hD
          have HCORE := Lib.hid hcore
          clear hD hcore
          clear g0
          go_wp2_with fail
          refine CoreK.mk _ (fun c hc => Option.some.inj hc) ?_ rfl
          exact ⟨HCORE.out.old, HCORE.out.size, HCORE.out.kept, HCORE.out.rd, HCORE.out.box, HCORE.out.s17, fun e => ⟨rfl, (HCORE.out.o20 e).2⟩⟩
        · obtain rfl := Option.some.inj ho.symm
          obtain rfl := Option.some.inj hs.symm
          clear hdep hi ho hs hv
          have e12 : F.getD 12 undef = .pointer (some ⟨BX, 0, none⟩) := by (rw [hF, setAll_getD_ne (by decide)]; rfl)
          clear hF hun
          have e12' := (show F[12]?.getD undef = F.getD 12 undef by simp only [Array.getD_eq_getD_getElem?]).trans e12
          have HD := Lib.hid hD
          have HCORE := Lib.hid hcore
          clear hD hcore
          go_wp2_with fail
          refine CoreK.mk _ (fun c hc => Option.some.inj hc) ?_ rfl
          exact ⟨HCORE.out.old, HCORE.out.size, HCORE.out.kept, HCORE.out.rd, HCORE.out.box, HCORE.out.s17, HCORE.out.o20⟩
        · obtain rfl := Option.some.inj ho.symm
          obtain rfl := Option.some.inj hs.symm
          have g2 := hdep ⟨2, .data⟩ (by simp) rfl
          have d2 : x 2 = .pointer (some ⟨BX, 0, none⟩) := hv 2 _ (by omega) g2 rfl
          clear hdep hi ho hs hv
          have e62 : F.getD 62 undef = .pointer (some ⟨BX, 0, none⟩) := by (rw [← d2, hF]; exact setAll_getD (by decide) (i := 2) rfl (Nat.le_of_ble_eq_true (by kernel_rfl)))
          clear hF hun d2
          have t := cell_block (hcore.kept _ _ HBX.out (by omega) HNB.out)
          have e62' := (show F[62]?.getD undef = F.getD 62 undef by simp only [Array.getD_eq_getD_getElem?]).trans e62
          have HD := Lib.hid hD
          have HCORE := Lib.hid hcore
          clear hD hcore
          clear g2
          go_wp2_with fail
          refine CoreK.mk _ (fun c hc => Option.some.inj hc) ?_ rfl
          exact ⟨HCORE.out.old, HCORE.out.size, HCORE.out.kept, HCORE.out.rd, HCORE.out.box, HCORE.out.s17, HCORE.out.o20⟩
        · obtain rfl := Option.some.inj ho.symm
          obtain rfl := Option.some.inj hs.symm
          clear hdep hi ho hs hv
          have e12 : F.getD 12 undef = .pointer (some ⟨BX, 0, none⟩) := by (rw [hF, setAll_getD_ne (by decide)]; rfl)
          clear hF hun
          have e12' := (show F[12]?.getD undef = F.getD 12 undef by simp only [Array.getD_eq_getD_getElem?]).trans e12
          have HD := Lib.hid hD
          have HCORE := Lib.hid hcore
          clear hD hcore
          go_wp2_with fail
          refine CoreK.mk _ (fun c hc => Option.some.inj hc) ?_ rfl
          exact ⟨HCORE.out.old, HCORE.out.size, HCORE.out.kept, HCORE.out.rd, HCORE.out.box, HCORE.out.s17, HCORE.out.o20⟩
        · obtain rfl := Option.some.inj ho.symm
          obtain rfl := Option.some.inj hs.symm
          have g4 := hdep ⟨4, .data⟩ (by simp) rfl
          have d4 : x 4 = .pointer (some ⟨BX, 1, none⟩) := hv 4 _ (by omega) g4 rfl
          clear hdep hi ho hs hv
          have e64 : F.getD 64 undef = .pointer (some ⟨BX, 1, none⟩) := by (rw [← d4, hF]; exact setAll_getD (by decide) (i := 4) rfl (Nat.le_of_ble_eq_true (by kernel_rfl)))
          clear hF hun d4
          have t := cell_block (hcore.kept _ _ HBX.out (by omega) HNB.out)
          have e64' := (show F[64]?.getD undef = F.getD 64 undef by simp only [Array.getD_eq_getD_getElem?]).trans e64
          have HD := Lib.hid hD
          have HCORE := Lib.hid hcore
          clear hD hcore
          clear g4
          go_wp2_with fail
          refine CoreK.mk _ (fun c hc => Option.some.inj hc) ?_ rfl
          exact ⟨HCORE.out.old, HCORE.out.size, HCORE.out.kept, HCORE.out.rd, HCORE.out.box, HCORE.out.s17, HCORE.out.o20⟩
        · obtain rfl := Option.some.inj ho.symm
          obtain rfl := Option.some.inj hs.symm
          clear hdep hi ho hs hv
          have e12 : F.getD 12 undef = .pointer (some ⟨BX, 0, none⟩) := by (rw [hF, setAll_getD_ne (by decide)]; rfl)
          clear hF hun
          have e12' := (show F[12]?.getD undef = F.getD 12 undef by simp only [Array.getD_eq_getD_getElem?]).trans e12
          have HD := Lib.hid hD
          have HCORE := Lib.hid hcore
          clear hD hcore
          go_wp2_with fail
          refine CoreK.mk _ (fun c hc => Option.some.inj hc) ?_ rfl
          exact ⟨HCORE.out.old, HCORE.out.size, HCORE.out.kept, HCORE.out.rd, HCORE.out.box, HCORE.out.s17, HCORE.out.o20⟩
        · obtain rfl := Option.some.inj ho.symm
          obtain rfl := Option.some.inj hs.symm
          have g6 := hdep ⟨6, .data⟩ (by simp) rfl
          have d6 : x 6 = .pointer (some ⟨BX, 2, none⟩) := hv 6 _ (by omega) g6 rfl
          clear hdep hi ho hs hv
          have e66 : F.getD 66 undef = .pointer (some ⟨BX, 2, none⟩) := by (rw [← d6, hF]; exact setAll_getD (by decide) (i := 6) rfl (Nat.le_of_ble_eq_true (by kernel_rfl)))
          clear hF hun d6
          have t := cell_block (hcore.kept _ _ HBX.out (by omega) HNB.out)
          have e66' := (show F[66]?.getD undef = F.getD 66 undef by simp only [Array.getD_eq_getD_getElem?]).trans e66
          have HD := Lib.hid hD
          have HCORE := Lib.hid hcore
          clear hD hcore
          clear g6
          go_wp2_with fail
          refine CoreK.mk _ (fun c hc => Option.some.inj hc) ?_ rfl
          exact ⟨HCORE.out.old, HCORE.out.size, HCORE.out.kept, HCORE.out.rd, HCORE.out.box, HCORE.out.s17, HCORE.out.o20⟩
        · obtain rfl := Option.some.inj ho.symm
          obtain rfl := Option.some.inj hs.symm
          clear hdep hi ho hs hv
          have e12 : F.getD 12 undef = .pointer (some ⟨BX, 0, none⟩) := by (rw [hF, setAll_getD_ne (by decide)]; rfl)
          clear hF hun
          have e12' := (show F[12]?.getD undef = F.getD 12 undef by simp only [Array.getD_eq_getD_getElem?]).trans e12
          have HD := Lib.hid hD
          have HCORE := Lib.hid hcore
          clear hD hcore
          go_wp2_with fail
          refine CoreK.mk _ (fun c hc => Option.some.inj hc) ?_ rfl
          exact ⟨HCORE.out.old, HCORE.out.size, HCORE.out.kept, HCORE.out.rd, HCORE.out.box, HCORE.out.s17, HCORE.out.o20⟩
        · obtain rfl := Option.some.inj ho.symm
          obtain rfl := Option.some.inj hs.symm
          have g8 := hdep ⟨8, .data⟩ (by simp) rfl
          have d8 : x 8 = .pointer (some ⟨BX, 0, none⟩) := hv 8 _ (by omega) g8 rfl
          clear hdep hi ho hs hv
          have e68 : F.getD 68 undef = .pointer (some ⟨BX, 0, none⟩) := by (rw [← d8, hF]; exact setAll_getD (by decide) (i := 8) rfl (Nat.le_of_ble_eq_true (by kernel_rfl)))
          clear hF hun d8
          have t := cell_block (hcore.kept _ _ HBX.out (by omega) HNB.out)
          have e68' := (show F[68]?.getD undef = F.getD 68 undef by simp only [Array.getD_eq_getD_getElem?]).trans e68
          have HD := Lib.hid hD
          have HCORE := Lib.hid hcore
          clear hD hcore
          clear g8
          go_wp2_with fail
          refine CoreK.mk _ (fun c hc => Option.some.inj hc) ?_ rfl
          exact ⟨HCORE.out.old, HCORE.out.size, HCORE.out.kept, HCORE.out.rd, HCORE.out.box, HCORE.out.s17, HCORE.out.o20⟩
        · obtain rfl := Option.some.inj ho.symm
          obtain rfl := Option.some.inj hs.symm
          clear hdep hi ho hs hv
          have e12 : F.getD 12 undef = .pointer (some ⟨BX, 0, none⟩) := by (rw [hF, setAll_getD_ne (by decide)]; rfl)
          clear hF hun
          have e12' := (show F[12]?.getD undef = F.getD 12 undef by simp only [Array.getD_eq_getD_getElem?]).trans e12
          have HD := Lib.hid hD
          have HCORE := Lib.hid hcore
          clear hD hcore
          go_wp2_with fail
          refine CoreK.mk _ (fun c hc => Option.some.inj hc) ?_ rfl
          exact ⟨HCORE.out.old, HCORE.out.size, HCORE.out.kept, HCORE.out.rd, HCORE.out.box, HCORE.out.s17, HCORE.out.o20⟩
        · obtain rfl := Option.some.inj ho.symm
          obtain rfl := Option.some.inj hs.symm
          have g10 := hdep ⟨10, .data⟩ (by simp) rfl
          have d10 : x 10 = .pointer (some ⟨BX, 1, none⟩) := hv 10 _ (by omega) g10 rfl
          clear hdep hi ho hs hv
          have e70 : F.getD 70 undef = .pointer (some ⟨BX, 1, none⟩) := by (rw [← d10, hF]; exact setAll_getD (by decide) (i := 10) rfl (Nat.le_of_ble_eq_true (by kernel_rfl)))
          clear hF hun d10
          have t := cell_block (hcore.kept _ _ HBX.out (by omega) HNB.out)
          have e70' := (show F[70]?.getD undef = F.getD 70 undef by simp only [Array.getD_eq_getD_getElem?]).trans e70
          have HD := Lib.hid hD
          have HCORE := Lib.hid hcore
          clear hD hcore
          clear g10
          go_wp2_with fail
          refine CoreK.mk _ (fun c hc => Option.some.inj hc) ?_ rfl
          exact ⟨HCORE.out.old, HCORE.out.size, HCORE.out.kept, HCORE.out.rd, HCORE.out.box, HCORE.out.s17, HCORE.out.o20⟩
        · obtain rfl := Option.some.inj ho.symm
          obtain rfl := Option.some.inj hs.symm
          clear hdep hi ho hs hv
          have e12 : F.getD 12 undef = .pointer (some ⟨BX, 0, none⟩) := by (rw [hF, setAll_getD_ne (by decide)]; rfl)
          clear hF hun
          have e12' := (show F[12]?.getD undef = F.getD 12 undef by simp only [Array.getD_eq_getD_getElem?]).trans e12
          have HD := Lib.hid hD
          have HCORE := Lib.hid hcore
          clear hD hcore
          go_wp2_with fail
          refine CoreK.mk _ (fun c hc => Option.some.inj hc) ?_ rfl
          exact ⟨HCORE.out.old, HCORE.out.size, HCORE.out.kept, HCORE.out.rd, HCORE.out.box, HCORE.out.s17, HCORE.out.o20⟩
        · obtain rfl := Option.some.inj ho.symm
          obtain rfl := Option.some.inj hs.symm
          have g12 := hdep ⟨12, .data⟩ (by simp) rfl
          have d12 : x 12 = .pointer (some ⟨BX, 2, none⟩) := hv 12 _ (by omega) g12 rfl
          clear hdep hi ho hs hv
          have e72 : F.getD 72 undef = .pointer (some ⟨BX, 2, none⟩) := by (rw [← d12, hF]; exact setAll_getD (by decide) (i := 12) rfl (Nat.le_of_ble_eq_true (by kernel_rfl)))
          clear hF hun d12
          have t := cell_block (hcore.kept _ _ HBX.out (by omega) HNB.out)
          have e72' := (show F[72]?.getD undef = F.getD 72 undef by simp only [Array.getD_eq_getD_getElem?]).trans e72
          have HD := Lib.hid hD
          have HCORE := Lib.hid hcore
          clear hD hcore
          clear g12
          go_wp2_with fail
          refine CoreK.mk _ (fun c hc => Option.some.inj hc) ?_ rfl
          exact ⟨HCORE.out.old, HCORE.out.size, HCORE.out.kept, HCORE.out.rd, HCORE.out.box, HCORE.out.s17, HCORE.out.o20⟩
        · obtain rfl := Option.some.inj ho.symm
          obtain rfl := Option.some.inj hs.symm
          clear hdep hi ho hs hv
          have e13 : F.getD 13 undef = .int .i64 (sy : Int) := by (rw [hF, setAll_getD_ne (by decide)]; rfl)
          clear hF hun
          have e13' := (show F[13]?.getD undef = F.getD 13 undef by simp only [Array.getD_eq_getD_getElem?]).trans e13
          have HD := Lib.hid hD
          have HCORE := Lib.hid hcore
          clear hD hcore
          refine core_move (.tmp 13) rfl rfl ?_
          refine CoreK.mk (F.getD 13 undef) (fun c hc => e13.trans (Option.some.inj hc)) ?_ rfl
          exact ⟨HCORE.out.old, HCORE.out.size, HCORE.out.kept, HCORE.out.rd, HCORE.out.box, HCORE.out.s17, HCORE.out.o20⟩
        · obtain rfl := Option.some.inj ho.symm
          obtain rfl := Option.some.inj hs.symm
          have g9 := hdep ⟨9, .data⟩ (by simp) rfl
          have d9 : x 9 = .int .i64 (k : Int) := hv 9 _ (by omega) g9 rfl
          have g11 := hdep ⟨11, .data⟩ (by simp) rfl
          have d11 : x 11 = .int .i64 (p : Int) := hv 11 _ (by omega) g11 rfl
          have g13 := hdep ⟨13, .data⟩ (by simp) rfl
          have d13 : x 13 = .int .i64 (q : Int) := hv 13 _ (by omega) g13 rfl
          have g14 := hdep ⟨14, .data⟩ (by simp) rfl
          have d14 : x 14 = .int .i64 (sy : Int) := hv 14 _ (by omega) g14 rfl
          clear hdep hi ho hs hv
          have e69 : F.getD 69 undef = .int .i64 (k : Int) := by (rw [← d9, hF]; exact setAll_getD (by decide) (i := 9) rfl (Nat.le_of_ble_eq_true (by kernel_rfl)))
          have e71 : F.getD 71 undef = .int .i64 (p : Int) := by (rw [← d11, hF]; exact setAll_getD (by decide) (i := 11) rfl (Nat.le_of_ble_eq_true (by kernel_rfl)))
          have e73 : F.getD 73 undef = .int .i64 (q : Int) := by (rw [← d13, hF]; exact setAll_getD (by decide) (i := 13) rfl (Nat.le_of_ble_eq_true (by kernel_rfl)))
          have e74 : F.getD 74 undef = .int .i64 (sy : Int) := by (rw [← d14, hF]; exact setAll_getD (by decide) (i := 14) rfl (Nat.le_of_ble_eq_true (by kernel_rfl)))
          clear hF hun d9 d11 d13 d14
          have e69' := (show F[69]?.getD undef = F.getD 69 undef by simp only [Array.getD_eq_getD_getElem?]).trans e69
          have e71' := (show F[71]?.getD undef = F.getD 71 undef by simp only [Array.getD_eq_getD_getElem?]).trans e71
          have e73' := (show F[73]?.getD undef = F.getD 73 undef by simp only [Array.getD_eq_getD_getElem?]).trans e73
          have e74' := (show F[74]?.getD undef = F.getD 74 undef by simp only [Array.getD_eq_getD_getElem?]).trans e74
          have HD := Lib.hid hD
          have HCORE := Lib.hid hcore
          clear hD hcore
          clear g9
          clear g11
          clear g13
          clear g14
          go_wp2_with fail
          refine (HMSG.out W).mono ?_
          rintro e W'' ⟨rfl, hb⟩
          go_wp2_with fail
          refine CoreK.mk _ (fun c hc => Option.some.inj hc) ?_ rfl
          exact (fun h : CM _ _ _ _ _ _ _ _ _ _ _ _ _ _ => ⟨h.old, h.size, h.kept, h.rd, h.box, h.s17, h.o20⟩) (HCORE.out.grow hb)
        · obtain rfl := Option.some.inj ho.symm
          obtain rfl := Option.some.inj hs.symm
          have g3 := hdep ⟨3, .data⟩ (by simp) rfl
          have d3 : x 3 = .int .i64 (k : Int) := hv 3 _ (by omega) g3 rfl
          have g5 := hdep ⟨5, .data⟩ (by simp) rfl
          have d5 : x 5 = .int .i64 (p : Int) := hv 5 _ (by omega) g5 rfl
          have g7 := hdep ⟨7, .data⟩ (by simp) rfl
          have d7 : x 7 = .int .i64 (q : Int) := hv 7 _ (by omega) g7 rfl
          have g15 := hdep ⟨15, .data⟩ (by simp) rfl
          have d15 : x 15 = .string bs := hv 15 _ (by omega) g15 rfl
          clear hdep hi ho hs hv
          have e63 : F.getD 63 undef = .int .i64 (k : Int) := by (rw [← d3, hF]; exact setAll_getD (by decide) (i := 3) rfl (Nat.le_of_ble_eq_true (by kernel_rfl)))
          have e65 : F.getD 65 undef = .int .i64 (p : Int) := by (rw [← d5, hF]; exact setAll_getD (by decide) (i := 5) rfl (Nat.le_of_ble_eq_true (by kernel_rfl)))
          have e67 : F.getD 67 undef = .int .i64 (q : Int) := by (rw [← d7, hF]; exact setAll_getD (by decide) (i := 7) rfl (Nat.le_of_ble_eq_true (by kernel_rfl)))
          have e75 : F.getD 75 undef = .string bs := by (rw [← d15, hF]; exact setAll_getD (by decide) (i := 15) rfl (Nat.le_of_ble_eq_true (by kernel_rfl)))
          clear hF hun d3 d5 d7 d15
          have e63' := (show F[63]?.getD undef = F.getD 63 undef by simp only [Array.getD_eq_getD_getElem?]).trans e63
          have e65' := (show F[65]?.getD undef = F.getD 65 undef by simp only [Array.getD_eq_getD_getElem?]).trans e65
          have e67' := (show F[67]?.getD undef = F.getD 67 undef by simp only [Array.getD_eq_getD_getElem?]).trans e67
          have e75' := (show F[75]?.getD undef = F.getD 75 undef by simp only [Array.getD_eq_getD_getElem?]).trans e75
          have HD := Lib.hid hD
          have HCORE := Lib.hid hcore
          clear hD hcore
          clear g3
          clear g5
          clear g7
          clear g15
          go_wp2_with fail
          refine CoreK.mk _ (fun c hc => Option.some.inj hc) ?_ rfl
          exact ⟨HCORE.out.old, HCORE.out.size, HCORE.out.kept, HCORE.out.rd, HCORE.out.box, HCORE.out.s17, HCORE.out.o20⟩
        · obtain rfl := Option.some.inj ho.symm
          obtain rfl := Option.some.inj hs.symm
          have g16 := hdep ⟨16, .data⟩ (by simp) rfl
          have d16 : x 16 = .agg #[.int .i64 (k : Int), .int .i64 (p : Int), .int .i64 (q : Int), .string bs] := hv 16 _ (by omega) g16 rfl
          clear hdep hi ho hs hv
          have e76 : F.getD 76 undef = .agg #[.int .i64 (k : Int), .int .i64 (p : Int), .int .i64 (q : Int), .string bs] := by (rw [← d16, hF]; exact setAll_getD (by decide) (i := 16) rfl (Nat.le_of_ble_eq_true (by kernel_rfl)))
          clear hF hun d16
          have e76' := (show F[76]?.getD undef = F.getD 76 undef by simp only [Array.getD_eq_getD_getElem?]).trans e76
          have HD := Lib.hid hD
          have HCORE := Lib.hid hcore
          clear hD hcore
          clear g16
          go_wp2_with fail
          refine CoreK.mk _ (fun c hc => by cases hc) ?_ rfl
          exact HCORE.out.build
        · obtain rfl := Option.some.inj ho.symm
          obtain rfl := Option.some.inj hs.symm
          have g1 := hdep ⟨1, .data⟩ (by simp) rfl
          have d1 : x 1 = .slice am i cm := hv 1 _ (by omega) g1 rfl
          have g17 := hdep ⟨17, .data⟩ (by simp) rfl
          clear hdep hi ho hs hv
          have e61 : F.getD 61 undef = .slice am i cm := by (rw [← d1, hF]; exact setAll_getD (by decide) (i := 1) rfl (Nat.le_of_ble_eq_true (by kernel_rfl)))
          have e77 : F.getD 77 undef = x 17 := by (rw [hF]; exact setAll_getD (by decide) (i := 17) rfl (Nat.le_of_ble_eq_true (by kernel_rfl)))
          clear hF hun d1
          obtain ⟨gb, qx, hgb, _⟩ := hcore.s17 g17 hD
          rw [qx] at e77
          have hrow := hcore.rd
          rw [hD] at hrow
          have HROW4 : Hid (OwnT W w1.heap.size 65 4 (.slice am i cm) i _) := Lib.hid hrow
          have hnews : ∀ j u', (#[.int .i64 (k : Int), .int .i64 (p : Int), .int .i64 (q : Int), .string bs] : Array Value).toList[j]? = some u' → W.cell? (Addr.add ⟨gb, 0, none⟩ j) = some u' := fun j u' hj => by
            have e1 : (Addr.add ⟨gb, 0, none⟩ j) = ⟨gb, j, none⟩ := by unfold Addr.add; split <;> simp_all
            rw [e1, cell_block hgb]
            simpa using hj
          have HNEWS := Lib.hid hnews
          have hbs := hcore.size
          clear hnews hrow hgb qx
          have e61' := (show F[61]?.getD undef = F.getD 61 undef by simp only [Array.getD_eq_getD_getElem?]).trans e61
          have e77' := (show F[77]?.getD undef = F.getD 77 undef by simp only [Array.getD_eq_getD_getElem?]).trans e77
          have HD := Lib.hid hD
          have HCORE := Lib.hid hcore
          clear hD hcore
          clear g1
          clear g17
          refine wpList_append_T W rfl (.tmp 61) (.tmp 77) 33 rfl w1.heap.size 65 i0 _ 4 40 Tryz.underlying33 hi0 hz0 hz1 hz2 rfl (by decide) _ i _ e61 HROW4.out ⟨gb, 0, none⟩ 1 1 (#[.int .i64 (k : Int), .int .i64 (p : Int), .int .i64 (q : Int), .string bs] : Array Value).toList e77 rfl HNEWS.out (by simp [Value.oneCell']) (by unfold maxLen; omega) (by omega) (by omega) ?_
          intro v' w3 hown3 hgrow3 hwh3
          refine CoreK.mk v' (fun c hc => by cases hc) ?_ rfl
          exact HCORE.out.app HD.out hown3 hgrow3 (by omega)
        · obtain rfl := Option.some.inj ho.symm
          obtain rfl := Option.some.inj hs.symm
          clear hdep hi ho hs hv
          have e9 : F.getD 9 undef = .pointer (some ⟨Bt, 0, none⟩) := by (rw [hF, setAll_getD_ne (by decide)]; rfl)
          clear hF hun
          have e9' := (show F[9]?.getD undef = F.getD 9 undef by simp only [Array.getD_eq_getD_getElem?]).trans e9
          have HD := Lib.hid hD
          have HCORE := Lib.hid hcore
          clear hD hcore
          go_wp2_with fail
          refine CoreK.mk _ (fun c hc => Option.some.inj hc) ?_ rfl
          exact ⟨HCORE.out.old, HCORE.out.size, HCORE.out.kept, HCORE.out.rd, HCORE.out.box, HCORE.out.s17, HCORE.out.o20⟩
        · obtain rfl := Option.some.inj ho.symm
          obtain rfl := Option.some.inj hs.symm
          have g19 := hdep ⟨19, .data⟩ (by simp) rfl
          have d19 : x 19 = .pointer (some ⟨Bt, 3, none⟩) := hv 19 _ (by omega) g19 rfl
          have g18 := hdep ⟨18, .data⟩ (by simp) rfl
          have g1 := hdep ⟨1, .phase⟩ (by simp) rfl
          clear hdep hi ho hs hv
          have e79 : F.getD 79 undef = .pointer (some ⟨Bt, 3, none⟩) := by (rw [← d19, hF]; exact setAll_getD (by decide) (i := 19) rfl (Nat.le_of_ble_eq_true (by kernel_rfl)))
          have e78 : F.getD 78 undef = x 18 := by (rw [hF]; exact setAll_getD (by decide) (i := 18) rfl (Nat.le_of_ble_eq_true (by kernel_rfl)))
          have hself0 : F = F.setIfInBounds 5 undef := by (have hun' : x 20 = undef := hun; rw [← hun', hF]; exact setAll_self1 (by decide) rfl)
          have hself := Lib.hid hself0
          clear hself0
          clear hF hun d19
          have hrd := hcore.rd
          rw [g18] at hrd
          obtain ⟨ax, cx, qx⟩ := hrd.slice
          have qx' : x 18 = .slice ax (i + 1) cx := qx
          rw [qx'] at e78
          have hbx : W.heap[Bt]? = some (.cells (trC (.slice pi inputs.length ci) (.slice pw word.length cw) (.slice (some ⟨b5, o5, none⟩) L.length cs) (.slice am i cm) (.slice none 0 0) (.slice none 0 0)) 35) := by
            have h := hcore.box
            rw [hD] at h
            exact h
          have t := cell_block hbx
          have f := frozen_block hbx
          clear hbx
          have HG := Lib.hid (And.intro qx' (And.intro g18 g1))
          clear hrd qx qx'
          have e79' := (show F[79]?.getD undef = F.getD 79 undef by simp only [Array.getD_eq_getD_getElem?]).trans e79
          have e78' := (show F[78]?.getD undef = F.getD 78 undef by simp only [Array.getD_eq_getD_getElem?]).trans e78
          have HD := Lib.hid hD
          have HCORE := Lib.hid hcore
          clear hD hcore
          clear g19
          clear g18
          clear g1
          go_wp2_with fail
          refine CoreK.mk undef (fun c hc => Option.some.inj hc) ?_ (congrArg (fun t => Act.mk t _) hself.out)
          rw [← HG.out.1]
          exact HCORE.out.put HG.out.2.1 HG.out.2.2 (by omega)
      case tail =>
        intro x W' D F hall hv hcore hF
        have x0 := hv 0 _ (by omega) rfl
        have x1 := hv 1 _ (by omega) rfl
        have x2 := hv 2 _ (by omega) rfl
        have x3 := hv 3 _ (by omega) rfl
        have x4 := hv 4 _ (by omega) rfl
        have x5 := hv 5 _ (by omega) rfl
        have x6 := hv 6 _ (by omega) rfl
        have x7 := hv 7 _ (by omega) rfl
        have x8 := hv 8 _ (by omega) rfl
        have x9 := hv 9 _ (by omega) rfl
        have x10 := hv 10 _ (by omega) rfl
        have x11 := hv 11 _ (by omega) rfl
        have x12 := hv 12 _ (by omega) rfl
        have x13 := hv 13 _ (by omega) rfl
        have x14 := hv 14 _ (by omega) rfl
        have x15 := hv 15 _ (by omega) rfl
        have x16 := hv 16 _ (by omega) rfl
        have x19 := hv 19 _ (by omega) rfl
        have x20 := hv 20 _ (by omega) rfl
        have hrd := hcore.rd
        have hbox := hcore.box
        rw [hall 18 (by omega)] at hrd
        rw [hall 20 (by omega)] at hbox
        have hnx : MI w w1 Bt (.slice pi inputs.length ci) (.slice pw word.length cw) (.slice (some ⟨b5, o5, none⟩) L.length cs) xs (i + 1) W' := ⟨hcore.old, Nat.le_trans hs31 hcore.size, fun k o hk hb => hcore.kept k o (HKP.out k o hk hb) hb (fun e => by have h1 := (HROW.out.lt k e).1; have h2 := block_lt hk; omega), x 18, hbox, by rw [HFL.out, HDL.out]; exact hrd⟩
        have HNX := Lib.hid hnx
        simp only [setAll, setFrom, List.setIfInBounds_toArray, List.set_cons_succ, List.set_cons_zero, Nat.reduceAdd, x0, x1, x2, x3, x4, x5, x6, x7, x8, x9, x10, x11, x12, x13, x14, x15, x16, x19, x20] at hF
        generalize x 17 = y17 at hF
        generalize x 18 = y18 at hF
        subst hF
        clear hv hall hcore hrd hbox hnx x0 x1 x2 x3 x4 x5 x6 x7 x8 x9 x10 x11 x12 x13 x14 x15 x16 x19 x20
        go_wp2_with fail
        go_roundw
        case rel => exact ⟨i + 1, by omega, by go_num, HNX.out⟩
        case measure => simp [intOf]; omega
    · have HIP : Hid (i = PL.length) := by (have h : i = PL.length := by omega); exact h
      rename World => Wd
      obtain ⟨vm0, hbox, hrow⟩ := HMI.out.row
      have HVM := Lib.hid (And.intro hbox hrow)
      obtain ⟨am, cm, rfl⟩ := hrow.slice
      have HOD := Lib.hid HMI.out.old
      have HMd := Lib.hid (HMI.out.kept _ _ HM1.out (by omega))
      have HRd := Lib.hid (HMI.out.kept _ _ HR1.out (by omega))
      obtain ⟨ds, hds⟩ : ∃ ds, (List.range n).map (decS m L) = ds := ⟨_, rfl⟩
      obtain ⟨ts, hts⟩ : ∃ ts, (List.range n).map (whenS m L) = ts := ⟨_, rfl⟩
      have HDS := Lib.hid (And.intro hds hts)
      clear hds hts hbox hrow
      have t1 := cell_block HMd.out
      go_wp2_with fail
      clear t1
      go_loopw [14] (fun ix wr => ∃ p : Nat, p ≤ n ∧ ix = .int .i64 p ∧ DI w Wd Bt (.slice pi inputs.length ci) (.slice pw word.length cw) (.slice ps L.length cs) (.slice am i cm) ds ts p wr) (fun ix _ => n - (intOf ix).toNat)
      case atStart => exact ⟨0, by omega, rfl, HOD.out, Nat.le_refl _, fun _ _ h _ => h, _, _, HVM.out.1, OwnT.nil _ _ _ _, OwnT.nil _ _ _ _, fun g hg => by cases hg⟩
      case round =>
        obtain ⟨p, hp, rfl, hdi⟩ := hrel
        have HDI := Lib.hid hdi
        clear hdi
        by_cases hpn : p < n
        · have hpn' : (p : Int) < m.n := by rw [HOK.out.good.hn]; omega
          have t1 := cell_block (HDI.out.kept _ _ HMd.out (by omega))
          go_wp2_with fail
          clear t1
          refine (HDEC.out p hpn wr HDI.out.old).mono ?_
          rintro e w5 ⟨rfl, hbr5⟩
          obtain ⟨dv, hdv⟩ : ∃ dv, decS m L p = dv := ⟨_, rfl⟩
          obtain ⟨tv, htv⟩ : ∃ tv, whenS m L p = tv := ⟨_, rfl⟩
          rw [hdv, htv]
          have HDW := Lib.hid (And.intro htv hdv)
          clear hdv htv
          go_wp2_with fail
          have HD3 := Lib.hid (HDI.out.drew (hbr5.drew))
          obtain ⟨vd, vtt, hrow, hd, ht, hnedt⟩ := HD3.out.row
          have HROW := Lib.hid hrow
          have HDT := Lib.hid (And.intro hd (And.intro ht hnedt))
          obtain ⟨ad, cd, rfl⟩ := hd.slice
          obtain ⟨at', ct', rfl⟩ := ht.slice
          clear hrow hd ht hnedt
          have hsd0 : Wd.heap.size ≤ w5.heap.size := HD3.out.size
          have hwd : w.heap.size ≤ Wd.heap.size := HOD.out.size
          have hwb : w.heap.size ≤ Bt := by omega
          have hn5 := HOK.out.good.n5
          have HTK := Lib.hid (HDW.out)
          obtain ⟨i1, hj0, hj1, hj2, hj3⟩ := info_parts Tryz.infoInt
          obtain ⟨dl, hdl⟩ : ∃ dl, (ds.take p).map (Value.int .i64) = dl := ⟨_, rfl⟩
          obtain ⟨tl, htl⟩ : ∃ tl, (ts.take p).map (Value.int .i64) = tl := ⟨_, rfl⟩
          rw [hdl, htl] at HDT
          have HDL := Lib.hid (And.intro hdl htl)
          clear hdl htl
          refine wp_region_core 14 [93, 94, 95, 96, 97, 98, 99, 100, 101, 102, 103, 5, 104, 6] [some (.pointer (some ⟨Bt, 4, none⟩)),
            some (.slice ad p cd),
            some (.int .i64 dv),
            none,
            none,
            some (.pointer (some ⟨Bt, 5, none⟩)),
            some (.slice at' p ct'),
            some (.int .i64 tv),
            none,
            none,
            some (.pointer (some ⟨Bt, 4, none⟩)),
            some (undef),
            some (.pointer (some ⟨Bt, 5, none⟩)),
            some (undef)] (C22 w Wd w5 Bt (.slice pi inputs.length ci) (.slice pw word.length cw) (.slice ps L.length cs) (.slice am i cm) (.slice ad p cd) (.slice at' p ct') p dl tl (.int .i64 dv) (.int .i64 tv)) (by kernel_rfl) rfl (by decide) rfl (by kernel_rfl) (fun _ => ⟨HD3.out.old, Nat.le_refl _, fun _ _ h _ _ _ => h, HDT.out.1, HDT.out.2.1, HDT.out.2.2, HROW.out, nofun, nofun, nofun, nofun⟩) ?step ?tail
          case step =>
            intro x W D i o s F hi ho hs hD hun hdep hv hcore hF
            have hcase : i = 0 ∨ i = 1 ∨ i = 2 ∨ i = 3 ∨ i = 4 ∨ i = 5 ∨ i = 6 ∨ i = 7 ∨ i = 8 ∨ i = 9 ∨ i = 10 ∨ i = 11 ∨ i = 12 ∨ i = 13 := by omega
            rcases hcase with rfl | rfl | rfl | rfl | rfl | rfl | rfl | rfl | rfl | rfl | rfl | rfl | rfl | rfl
            · obtain rfl := Option.some.inj ho.symm
              obtain rfl := Option.some.inj hs.symm
              clear hdep hi ho hs hv
              have e9 : F.getD 9 undef = .pointer (some ⟨Bt, 0, none⟩) := by (rw [hF, setAll_getD_ne (by decide)]; rfl)
              clear hF hun
              have e9' := (show F[9]?.getD undef = F.getD 9 undef by simp only [Array.getD_eq_getD_getElem?]).trans e9
              have HD := Lib.hid hD
              have HCORE := Lib.hid hcore
              clear hD hcore
              go_wp2_with fail
              refine CoreK.mk _ (fun c hc => Option.some.inj hc) ?_ rfl
              exact ⟨HCORE.out.old, HCORE.out.size, HCORE.out.kept, HCORE.out.rd, HCORE.out.rt, HCORE.out.ne, HCORE.out.box, HCORE.out.s3, HCORE.out.s8, HCORE.out.o11, HCORE.out.o13⟩
            · obtain rfl := Option.some.inj ho.symm
              obtain rfl := Option.some.inj hs.symm
              have g0 := hdep ⟨0, .data⟩ (by simp) rfl
              have d0 : x 0 = .pointer (some ⟨Bt, 4, none⟩) := hv 0 _ (by omega) g0 rfl
              clear hdep hi ho hs hv
              have e93 : F.getD 93 undef = .pointer (some ⟨Bt, 4, none⟩) := by (rw [← d0, hF]; exact setAll_getD (by decide) (i := 0) rfl (Nat.le_of_ble_eq_true (by kernel_rfl)))
              clear hF hun d0
              have h11 : D 11 = false := by
                cases h : D 11 with
                | false => rfl
                | true => exact absurd (hcore.o11 h).1 (by rw [hD]; decide)
              have h13 : D 13 = false := by
                cases h : D 13 with
                | false => rfl
                | true => exact absurd (hcore.o13 h) (by rw [h11]; decide)
              have hbx : W.heap[Bt]? = some (.cells (trC (.slice pi inputs.length ci) (.slice pw word.length cw) (.slice ps L.length cs) (.slice am i cm) (.slice ad p cd) (.slice at' p ct')) 35) := by
                have h := hcore.box
                rw [h11, h13] at h
                exact h
              have t := cell_block hbx
              have f := frozen_block hbx
              clear hbx
              clear h11 h13 f
              have e93' := (show F[93]?.getD undef = F.getD 93 undef by simp only [Array.getD_eq_getD_getElem?]).trans e93
              have HD := Lib.hid hD
              have HCORE := Lib.hid hcore
              clear hD hcore
              clear g0
              go_wp2_with fail
              refine CoreK.mk _ (fun c hc => Option.some.inj hc) ?_ rfl
              exact ⟨HCORE.out.old, HCORE.out.size, HCORE.out.kept, HCORE.out.rd, HCORE.out.rt, HCORE.out.ne, HCORE.out.box, HCORE.out.s3, HCORE.out.s8, fun e => ⟨rfl, (HCORE.out.o11 e).2⟩, HCORE.out.o13⟩
            · obtain rfl := Option.some.inj ho.symm
              obtain rfl := Option.some.inj hs.symm
              clear hdep hi ho hs hv
              have e15 : F.getD 15 undef = .int .i64 dv := by (rw [hF, setAll_getD_ne (by decide)]; rfl)
              clear hF hun
              have e15' := (show F[15]?.getD undef = F.getD 15 undef by simp only [Array.getD_eq_getD_getElem?]).trans e15
              have HD := Lib.hid hD
              have HCORE := Lib.hid hcore
              clear hD hcore
              refine core_move (.tmp 15) rfl rfl ?_
              refine CoreK.mk (F.getD 15 undef) (fun c hc => e15.trans (Option.some.inj hc)) ?_ rfl
              exact ⟨HCORE.out.old, HCORE.out.size, HCORE.out.kept, HCORE.out.rd, HCORE.out.rt, HCORE.out.ne, HCORE.out.box, HCORE.out.s3, HCORE.out.s8, HCORE.out.o11, HCORE.out.o13⟩
            · obtain rfl := Option.some.inj ho.symm
              obtain rfl := Option.some.inj hs.symm
              have g2 := hdep ⟨2, .data⟩ (by simp) rfl
              have d2 : x 2 = .int .i64 dv := hv 2 _ (by omega) g2 rfl
              clear hdep hi ho hs hv
              have e95 : F.getD 95 undef = .int .i64 dv := by (rw [← d2, hF]; exact setAll_getD (by decide) (i := 2) rfl (Nat.le_of_ble_eq_true (by kernel_rfl)))
              clear hF hun d2
              have e95' := (show F[95]?.getD undef = F.getD 95 undef by simp only [Array.getD_eq_getD_getElem?]).trans e95
              have HD := Lib.hid hD
              have HCORE := Lib.hid hcore
              clear hD hcore
              clear g2
              go_wp2_with fail
              refine CoreK.mk _ (fun c hc => by cases hc) ?_ rfl
              exact HCORE.out.build3
            · obtain rfl := Option.some.inj ho.symm
              obtain rfl := Option.some.inj hs.symm
              have g1 := hdep ⟨1, .data⟩ (by simp) rfl
              have d1 : x 1 = .slice ad p cd := hv 1 _ (by omega) g1 rfl
              have g3 := hdep ⟨3, .data⟩ (by simp) rfl
              clear hdep hi ho hs hv
              have e94 : F.getD 94 undef = .slice ad p cd := by (rw [← d1, hF]; exact setAll_getD (by decide) (i := 1) rfl (Nat.le_of_ble_eq_true (by kernel_rfl)))
              have e96 : F.getD 96 undef = x 3 := by (rw [hF]; exact setAll_getD (by decide) (i := 3) rfl (Nat.le_of_ble_eq_true (by kernel_rfl)))
              clear hF hun d1
              obtain ⟨gb, qx, hgb, _⟩ := hcore.s3 g3 hD
              rw [qx] at e96
              have hrow := hcore.rd
              rw [hD] at hrow
              have HROW4 : Hid (OwnT W Wd.heap.size 3 1 (.slice ad p cd) p _) := Lib.hid hrow
              have hnews : ∀ j u', [Value.int .i64 dv][j]? = some u' → W.cell? (Addr.add ⟨gb, 0, none⟩ j) = some u' := fun j u' hj => by
                have e1 : (Addr.add ⟨gb, 0, none⟩ j) = ⟨gb, j, none⟩ := by unfold Addr.add; split <;> simp_all
                rw [e1, cell_block hgb]
                simpa using hj
              have HNEWS := Lib.hid hnews
              have hbs := hcore.size
              clear hnews hrow hgb qx
              have e94' := (show F[94]?.getD undef = F.getD 94 undef by simp only [Array.getD_eq_getD_getElem?]).trans e94
              have e96' := (show F[96]?.getD undef = F.getD 96 undef by simp only [Array.getD_eq_getD_getElem?]).trans e96
              have HD := Lib.hid hD
              have HCORE := Lib.hid hcore
              clear hD hcore
              clear g1
              clear g3
              refine wpList_append_T W rfl (.tmp 94) (.tmp 96) 28 rfl Wd.heap.size 3 i1 _ 1 8 Tryz.underlying28 hj0 hj1 hj2 hj3 rfl (by decide) _ p _ e94 HROW4.out ⟨gb, 0, none⟩ 1 1 [.int .i64 dv] e96 rfl HNEWS.out (by simp [Value.oneCell']) (by unfold maxLen; omega) (by omega) (by omega) ?_
              intro v' w3 hown3 hgrow3 hwh3
              refine CoreK.mk v' (fun c hc => by cases hc) ?_ rfl
              exact HCORE.out.app4 HD.out hown3 hgrow3 hwh3 hwd
            · obtain rfl := Option.some.inj ho.symm
              obtain rfl := Option.some.inj hs.symm
              clear hdep hi ho hs hv
              have e9 : F.getD 9 undef = .pointer (some ⟨Bt, 0, none⟩) := by (rw [hF, setAll_getD_ne (by decide)]; rfl)
              clear hF hun
              have e9' := (show F[9]?.getD undef = F.getD 9 undef by simp only [Array.getD_eq_getD_getElem?]).trans e9
              have HD := Lib.hid hD
              have HCORE := Lib.hid hcore
              clear hD hcore
              go_wp2_with fail
              refine CoreK.mk _ (fun c hc => Option.some.inj hc) ?_ rfl
              exact ⟨HCORE.out.old, HCORE.out.size, HCORE.out.kept, HCORE.out.rd, HCORE.out.rt, HCORE.out.ne, HCORE.out.box, HCORE.out.s3, HCORE.out.s8, HCORE.out.o11, HCORE.out.o13⟩
            · obtain rfl := Option.some.inj ho.symm
              obtain rfl := Option.some.inj hs.symm
              have g5 := hdep ⟨5, .data⟩ (by simp) rfl
              have d5 : x 5 = .pointer (some ⟨Bt, 5, none⟩) := hv 5 _ (by omega) g5 rfl
              clear hdep hi ho hs hv
              have e98 : F.getD 98 undef = .pointer (some ⟨Bt, 5, none⟩) := by (rw [← d5, hF]; exact setAll_getD (by decide) (i := 5) rfl (Nat.le_of_ble_eq_true (by kernel_rfl)))
              clear hF hun d5
              have h11 : D 11 = false := by
                cases h : D 11 with
                | false => rfl
                | true => exact absurd (hcore.o11 h).2.2.1 (by rw [hD]; decide)
              have h13 : D 13 = false := by
                cases h : D 13 with
                | false => rfl
                | true => exact absurd (hcore.o13 h) (by rw [h11]; decide)
              have hbx : W.heap[Bt]? = some (.cells (trC (.slice pi inputs.length ci) (.slice pw word.length cw) (.slice ps L.length cs) (.slice am i cm) (.slice ad p cd) (.slice at' p ct')) 35) := by
                have h := hcore.box
                rw [h11, h13] at h
                exact h
              have t := cell_block hbx
              have f := frozen_block hbx
              clear hbx
              clear h11 h13 f
              have e98' := (show F[98]?.getD undef = F.getD 98 undef by simp only [Array.getD_eq_getD_getElem?]).trans e98
              have HD := Lib.hid hD
              have HCORE := Lib.hid hcore
              clear hD hcore
              clear g5
              go_wp2_with fail
              refine CoreK.mk _ (fun c hc => Option.some.inj hc) ?_ rfl
              exact ⟨HCORE.out.old, HCORE.out.size, HCORE.out.kept, HCORE.out.rd, HCORE.out.rt, HCORE.out.ne, HCORE.out.box, HCORE.out.s3, HCORE.out.s8, fun e => ⟨(HCORE.out.o11 e).1, (HCORE.out.o11 e).2.1, rfl, (HCORE.out.o11 e).2.2.2⟩, HCORE.out.o13⟩
            · obtain rfl := Option.some.inj ho.symm
              obtain rfl := Option.some.inj hs.symm
              clear hdep hi ho hs hv
              have e16 : F.getD 16 undef = .int .i64 tv := by (rw [hF, setAll_getD_ne (by decide)]; rfl)
              clear hF hun
              have e16' := (show F[16]?.getD undef = F.getD 16 undef by simp only [Array.getD_eq_getD_getElem?]).trans e16
              have HD := Lib.hid hD
              have HCORE := Lib.hid hcore
              clear hD hcore
              refine core_move (.tmp 16) rfl rfl ?_
              refine CoreK.mk (F.getD 16 undef) (fun c hc => e16.trans (Option.some.inj hc)) ?_ rfl
              exact ⟨HCORE.out.old, HCORE.out.size, HCORE.out.kept, HCORE.out.rd, HCORE.out.rt, HCORE.out.ne, HCORE.out.box, HCORE.out.s3, HCORE.out.s8, HCORE.out.o11, HCORE.out.o13⟩
            · obtain rfl := Option.some.inj ho.symm
              obtain rfl := Option.some.inj hs.symm
              have g7 := hdep ⟨7, .data⟩ (by simp) rfl
              have d7 : x 7 = .int .i64 tv := hv 7 _ (by omega) g7 rfl
              clear hdep hi ho hs hv
              have e100 : F.getD 100 undef = .int .i64 tv := by (rw [← d7, hF]; exact setAll_getD (by decide) (i := 7) rfl (Nat.le_of_ble_eq_true (by kernel_rfl)))
              clear hF hun d7
              have e100' := (show F[100]?.getD undef = F.getD 100 undef by simp only [Array.getD_eq_getD_getElem?]).trans e100
              have HD := Lib.hid hD
              have HCORE := Lib.hid hcore
              clear hD hcore
              clear g7
              go_wp2_with fail
              refine CoreK.mk _ (fun c hc => by cases hc) ?_ rfl
              exact HCORE.out.build8
            · obtain rfl := Option.some.inj ho.symm
              obtain rfl := Option.some.inj hs.symm
              have g6 := hdep ⟨6, .data⟩ (by simp) rfl
              have d6 : x 6 = .slice at' p ct' := hv 6 _ (by omega) g6 rfl
              have g8 := hdep ⟨8, .data⟩ (by simp) rfl
              have g4 := hdep ⟨4, .chain⟩ (by simp) rfl
              clear hdep hi ho hs hv
              have e99 : F.getD 99 undef = .slice at' p ct' := by (rw [← d6, hF]; exact setAll_getD (by decide) (i := 6) rfl (Nat.le_of_ble_eq_true (by kernel_rfl)))
              have e101 : F.getD 101 undef = x 8 := by (rw [hF]; exact setAll_getD (by decide) (i := 8) rfl (Nat.le_of_ble_eq_true (by kernel_rfl)))
              clear hF hun d6
              obtain ⟨gb, qx, hgb, _⟩ := hcore.s8 g8 hD
              rw [qx] at e101
              have hrow := hcore.rt
              rw [hD] at hrow
              have HROW4 : Hid (OwnT W Wd.heap.size 3 1 (.slice at' p ct') p _) := Lib.hid hrow
              have hnews : ∀ j u', [Value.int .i64 tv][j]? = some u' → W.cell? (Addr.add ⟨gb, 0, none⟩ j) = some u' := fun j u' hj => by
                have e1 : (Addr.add ⟨gb, 0, none⟩ j) = ⟨gb, j, none⟩ := by unfold Addr.add; split <;> simp_all
                rw [e1, cell_block hgb]
                simpa using hj
              have HNEWS := Lib.hid hnews
              have hbs := hcore.size
              clear hnews hrow hgb qx
              have HG4 := Lib.hid g4
              have e99' := (show F[99]?.getD undef = F.getD 99 undef by simp only [Array.getD_eq_getD_getElem?]).trans e99
              have e101' := (show F[101]?.getD undef = F.getD 101 undef by simp only [Array.getD_eq_getD_getElem?]).trans e101
              have HD := Lib.hid hD
              have HCORE := Lib.hid hcore
              clear hD hcore
              clear g6
              clear g8
              clear g4
              refine wpList_append_T W rfl (.tmp 99) (.tmp 101) 28 rfl Wd.heap.size 3 i1 _ 1 8 Tryz.underlying28 hj0 hj1 hj2 hj3 rfl (by decide) _ p _ e99 HROW4.out ⟨gb, 0, none⟩ 1 1 [.int .i64 tv] e101 rfl HNEWS.out (by simp [Value.oneCell']) (by unfold maxLen; omega) (by omega) (by omega) ?_
              intro v' w3 hown3 hgrow3 hwh3
              refine CoreK.mk v' (fun c hc => by cases hc) ?_ rfl
              exact HCORE.out.app9 HG4.out HD.out hown3 hgrow3 hwh3 hwd
            · obtain rfl := Option.some.inj ho.symm
              obtain rfl := Option.some.inj hs.symm
              clear hdep hi ho hs hv
              have e9 : F.getD 9 undef = .pointer (some ⟨Bt, 0, none⟩) := by (rw [hF, setAll_getD_ne (by decide)]; rfl)
              clear hF hun
              have e9' := (show F[9]?.getD undef = F.getD 9 undef by simp only [Array.getD_eq_getD_getElem?]).trans e9
              have HD := Lib.hid hD
              have HCORE := Lib.hid hcore
              clear hD hcore
              go_wp2_with fail
              refine CoreK.mk _ (fun c hc => Option.some.inj hc) ?_ rfl
              exact ⟨HCORE.out.old, HCORE.out.size, HCORE.out.kept, HCORE.out.rd, HCORE.out.rt, HCORE.out.ne, HCORE.out.box, HCORE.out.s3, HCORE.out.s8, HCORE.out.o11, HCORE.out.o13⟩
            · obtain rfl := Option.some.inj ho.symm
              obtain rfl := Option.some.inj hs.symm
              have g10 := hdep ⟨10, .data⟩ (by simp) rfl
              have d10 : x 10 = .pointer (some ⟨Bt, 4, none⟩) := hv 10 _ (by omega) g10 rfl
              have g4 := hdep ⟨4, .data⟩ (by simp) rfl
              have g9 := hdep ⟨9, .chain⟩ (by simp) rfl
              have g1 := hdep ⟨1, .phase⟩ (by simp) rfl
              have g6 := hdep ⟨6, .phase⟩ (by simp) rfl
              clear hdep hi ho hs hv
              have e103 : F.getD 103 undef = .pointer (some ⟨Bt, 4, none⟩) := by (rw [← d10, hF]; exact setAll_getD (by decide) (i := 10) rfl (Nat.le_of_ble_eq_true (by kernel_rfl)))
              have e97 : F.getD 97 undef = x 4 := by (rw [hF]; exact setAll_getD (by decide) (i := 4) rfl (Nat.le_of_ble_eq_true (by kernel_rfl)))
              have hself0 : F = F.setIfInBounds 5 undef := by (have hun' : x 11 = undef := hun; rw [← hun', hF]; exact setAll_self1 (by decide) rfl)
              have hself := Lib.hid hself0
              clear hself0
              clear hF hun d10
              have hrd := hcore.rd
              rw [g4] at hrd
              obtain ⟨ax, cx, qx⟩ := hrd.slice
              have qx' : x 4 = .slice ax (p + 1) cx := qx
              rw [qx'] at e97
              have h13 : D 13 = false := by
                cases h : D 13 with
                | false => rfl
                | true => exact absurd (hcore.o13 h) (by rw [hD]; decide)
              have hbx : W.heap[Bt]? = some (.cells (trC (.slice pi inputs.length ci) (.slice pw word.length cw) (.slice ps L.length cs) (.slice am i cm) (.slice ad p cd) (.slice at' p ct')) 35) := by
                have h := hcore.box
                rw [hD, h13] at h
                exact h
              have t := cell_block hbx
              have f := frozen_block hbx
              clear hbx
              have HG := Lib.hid (And.intro qx' (And.intro g4 (And.intro g9 (And.intro g1 (And.intro g6 h13)))))
              clear hrd qx qx' h13
              have e103' := (show F[103]?.getD undef = F.getD 103 undef by simp only [Array.getD_eq_getD_getElem?]).trans e103
              have e97' := (show F[97]?.getD undef = F.getD 97 undef by simp only [Array.getD_eq_getD_getElem?]).trans e97
              have HD := Lib.hid hD
              have HCORE := Lib.hid hcore
              clear hD hcore
              clear g10
              clear g4
              clear g9
              clear g1
              clear g6
              go_wp2_with fail
              refine CoreK.mk undef (fun c hc => Option.some.inj hc) ?_ (congrArg (fun t => Act.mk t _) hself.out)
              obtain ⟨qx, k4, k9, k1, k6, h13⟩ := HG.out
              exact HCORE.out.put (D' := upd D 11) (x' := updV x 11 undef) k4 k9 hwb (fun j h1 _ => if_neg h1) rfl rfl 4 (.slice ax (p + 1) cx) (by rw [← qx, HD.out, h13, show upd D 11 13 = false from h13]; rfl) k1 k6 (fun _ => rfl)
            · obtain rfl := Option.some.inj ho.symm
              obtain rfl := Option.some.inj hs.symm
              clear hdep hi ho hs hv
              have e9 : F.getD 9 undef = .pointer (some ⟨Bt, 0, none⟩) := by (rw [hF, setAll_getD_ne (by decide)]; rfl)
              clear hF hun
              have e9' := (show F[9]?.getD undef = F.getD 9 undef by simp only [Array.getD_eq_getD_getElem?]).trans e9
              have HD := Lib.hid hD
              have HCORE := Lib.hid hcore
              clear hD hcore
              go_wp2_with fail
              refine CoreK.mk _ (fun c hc => Option.some.inj hc) ?_ rfl
              exact ⟨HCORE.out.old, HCORE.out.size, HCORE.out.kept, HCORE.out.rd, HCORE.out.rt, HCORE.out.ne, HCORE.out.box, HCORE.out.s3, HCORE.out.s8, HCORE.out.o11, HCORE.out.o13⟩
            · obtain rfl := Option.some.inj ho.symm
              obtain rfl := Option.some.inj hs.symm
              have g12 := hdep ⟨12, .data⟩ (by simp) rfl
              have d12 : x 12 = .pointer (some ⟨Bt, 5, none⟩) := hv 12 _ (by omega) g12 rfl
              have g9 := hdep ⟨9, .data⟩ (by simp) rfl
              have g11 := hdep ⟨11, .chain⟩ (by simp) rfl
              have g1 := hdep ⟨1, .phase⟩ (by simp) rfl
              have g6 := hdep ⟨6, .phase⟩ (by simp) rfl
              have g4 := hdep ⟨4, .phase⟩ (by simp) rfl
              clear hdep hi ho hs hv
              have e104 : F.getD 104 undef = .pointer (some ⟨Bt, 5, none⟩) := by (rw [← d12, hF]; exact setAll_getD (by decide) (i := 12) rfl (Nat.le_of_ble_eq_true (by kernel_rfl)))
              have e102 : F.getD 102 undef = x 9 := by (rw [hF]; exact setAll_getD (by decide) (i := 9) rfl (Nat.le_of_ble_eq_true (by kernel_rfl)))
              have hself0 : F = F.setIfInBounds 6 undef := by (have hun' : x 13 = undef := hun; rw [← hun', hF]; exact setAll_self1 (by decide) rfl)
              have hself := Lib.hid hself0
              clear hself0
              clear hF hun d12
              have hrt := hcore.rt
              rw [g9] at hrt
              obtain ⟨ax, cx, qx⟩ := hrt.slice
              have qx' : x 9 = .slice ax (p + 1) cx := qx
              rw [qx'] at e102
              have hbx : W.heap[Bt]? = some (.cells (trC (.slice pi inputs.length ci) (.slice pw word.length cw) (.slice ps L.length cs) (.slice am i cm) (x 4) (.slice at' p ct')) 35) := by
                have h := hcore.box
                rw [g11, hD] at h
                exact h
              have t := cell_block hbx
              have f := frozen_block hbx
              clear hbx
              have HG := Lib.hid (And.intro qx' (And.intro g4 (And.intro g9 (And.intro g1 (And.intro g6 g11)))))
              clear hrt qx qx'
              have e104' := (show F[104]?.getD undef = F.getD 104 undef by simp only [Array.getD_eq_getD_getElem?]).trans e104
              have e102' := (show F[102]?.getD undef = F.getD 102 undef by simp only [Array.getD_eq_getD_getElem?]).trans e102
              have HD := Lib.hid hD
              have HCORE := Lib.hid hcore
              clear hD hcore
              clear g12
              clear g9
              clear g11
              clear g1
              clear g6
              clear g4
              go_wp2_with fail
              refine CoreK.mk undef (fun c hc => Option.some.inj hc) ?_ (congrArg (fun t => Act.mk t _) hself.out)
              obtain ⟨qx, k4, k9, k1, k6, k11⟩ := HG.out
              exact HCORE.out.put (D' := upd D 13) (x' := updV x 13 undef) k4 k9 hwb (fun j _ h2 => if_neg h2) rfl rfl 5 (.slice ax (p + 1) cx) (by rw [← qx, HD.out, k11, show upd D 13 11 = true from k11]; rfl) k1 k6 (fun _ => k11)
          case tail =>
            intro x W' D F hall hv hcore hF
            have x0 := hv 0 _ (by omega) rfl
            have x1 := hv 1 _ (by omega) rfl
            have x2 := hv 2 _ (by omega) rfl
            have x5 := hv 5 _ (by omega) rfl
            have x6 := hv 6 _ (by omega) rfl
            have x7 := hv 7 _ (by omega) rfl
            have x10 := hv 10 _ (by omega) rfl
            have x11 := hv 11 _ (by omega) rfl
            have x12 := hv 12 _ (by omega) rfl
            have x13 := hv 13 _ (by omega) rfl
            have hrd := hcore.rd
            have hrt := hcore.rt
            have hne := hcore.ne
            have hbox := hcore.box
            rw [hall 4 (by omega)] at hrd hne
            rw [hall 9 (by omega)] at hrt hne
            rw [hall 11 (by omega), hall 13 (by omega)] at hbox
            have hdi : DI w Wd Bt (.slice pi inputs.length ci) (.slice pw word.length cw) (.slice ps L.length cs) (.slice am i cm) ds ts (p + 1) W' := ⟨hcore.old, Nat.le_trans hsd0 hcore.size, fun k o hk hb => hcore.kept k o (HD3.out.kept k o hk hb) hb (fun e => by have h1 := (HDT.out.1.lt k e).1; have h2 := block_lt hk; omega) (fun e => by have h1 := (HDT.out.2.1.lt k e).1; have h2 := block_lt hk; omega), x 4, x 9, hbox, by rw [tk_snoc HDS.out.1 hpn HTK.out.2, HDL.out.1]; exact hrd, by rw [tk_snoc HDS.out.2 hpn HTK.out.1, HDL.out.2]; exact hrt, hne⟩
            have HDI2 := Lib.hid hdi
            simp only [setAll, setFrom, List.setIfInBounds_toArray, List.set_cons_succ, List.set_cons_zero, Nat.reduceAdd, x0, x1, x2, x5, x6, x7, x10, x11, x12, x13] at hF
            generalize x 3 = y3 at hF
            generalize x 4 = y4 at hF
            generalize x 8 = y8 at hF
            generalize x 9 = y9 at hF
            subst hF
            clear hv hall hcore hrd hrt hne hbox hdi x0 x1 x2 x5 x6 x7 x10 x11 x12 x13
            go_wp2_with fail
            go_roundw
            case rel => exact ⟨p + 1, by omega, by go_num, HDI2.out⟩
            case measure => simp [intOf]; omega
        · have hpn' : ¬ (p : Int) < m.n := by rw [HOK.out.good.hn]; omega
          have HPN : Hid (p = n) := by (have h : p = n := by omega); exact h
          obtain ⟨vd, vtt, hrow, hd, ht, _⟩ := HDI.out.row
          have HROW := Lib.hid hrow
          have HDT := Lib.hid (And.intro hd ht)
          obtain ⟨ad, cd, rfl⟩ := hd.slice
          obtain ⟨at', ct', rfl⟩ := ht.slice
          have t1 := cell_block hrow
          have hR := HDI.out.kept _ _ HRd.out (by omega)
          have t2 := cell_block hR
          have f2 := frozen_block hR
          have t3 := cell_block (HDI.out.kept _ _ HMd.out (by omega))
          have HRR := Lib.hid hR
          clear hR hrow hd ht
          go_wp2_with fail
          clear t1 t2 f2 t3
          obtain ⟨p1, p2, p3, p4⟩ := put6 HRR.out rfl (.slice pi inputs.length ci) (.slice pw word.length cw) (.slice ps L.length cs) (.slice am i cm) (.slice ad p cd) (.slice at' p ct') _ rfl
          refine bodyPost_ret (v := .agg (trC (.slice pi inputs.length ci) (.slice pw word.length cw) (.slice ps L.length cs) (.slice am i cm) (.slice ad p cd) (.slice at' p ct'))) (made_results _ (w.heap.size + 1) _ _ _ _ _ _ _ _ rfl p1) rfl ?_
          refine ⟨_, _, _, rfl, ?_, p4 _ _ (by omega) HDI.out.old⟩
          refine tr_nk (W := wr) (put6_nk HRR.out p1 p2) ?ne ?tr
          case ne =>
            intro x hx
            have hx' : x ∈ runL m inputs word := hx
            obtain ⟨k, hk, rfl⟩ := List.getElem_of_mem hx'
            have h2 := (runL_fits HOK.out.good (word := word) HOK.out.il HOK.out.ir k _ (List.getElem?_eq_getElem hk)).1
            have h3 := HOK.out.good.n1
            intro e
            rw [e] at h2
            simp at h2
            omega
          case tr =>
            have hmt : madeT m inputs word = ⟨inputs, word, L, xs, ds, ts⟩ := by
              unfold madeT
              dsimp only
              rw [HL.out, show m.n.toNat = n by (rw [HOK.out.good.hn]; simp), HP.out, HXS.out, HDS.out.1, HDS.out.2]
            rw [hmt]
            have ed : ds.length = p := by rw [← HDS.out.1, HPN.out]; simp
            have et : ts.length = p := by rw [← HDS.out.2, HPN.out]; simp
            have hP150 := HPLL.out
            refine ⟨HI.out.up up_int HDI.out.old, HW.out.up up_round HDI.out.old, HS.out.up up_ints HDI.out.old, ?_, ?_, ?_⟩
            · have h1 : OwnT wr w1.heap.size 65 4 (.slice am i cm) i (flatM (xs.take i)) := HVM.out.2.keep fun g o hg ho => HDI.out.kept g o ho (HVM.out.2.ne HVM.out.1 (by decide) g hg)
              rw [List.take_of_length_le (by rw [HXL.out, HIP.out]; exact Nat.le_refl _)] at h1
              have h3 : OwnT wr w1.heap.size 65 4 (.slice am i cm) xs.length (flatM xs) := by rw [HXL.out, ← HIP.out]; exact h1
              exact own_msgs h3 (fun x hx => by
                rw [← HXS.out] at hx
                obtain ⟨y, hy, rfl⟩ := List.mem_map.1 hx
                have h5 := HPL.out y hy
                rw [← HL.out]
                exact HOK.out.msg h5.1 h5.2.1 h5.2.2.1 h5.2.2.2) (by rw [HXL.out]; omega)
            · have h1 := HDT.out.1
              rw [List.take_of_length_le (by omega)] at h1
              have h2 : OwnT wr Wd.heap.size 3 1 (.slice ad p cd) ds.length (ds.map (Value.int .i64)) := by rw [ed]; exact h1
              exact own_ints h2 (fun x hx => by
                rw [← HDS.out.1] at hx
                obtain ⟨j, hj, rfl⟩ := List.mem_map.1 hx
                rw [List.mem_range] at hj
                have h5 := HOK.out.dec hj
                rw [HL.out] at h5
                unfold InR
                omega) (show ds.length ≤ _ by omega)
            · have h1 := HDT.out.2
              rw [List.take_of_length_le (by omega)] at h1
              have h2 : OwnT wr Wd.heap.size 3 1 (.slice at' p ct') ts.length (ts.map (Value.int .i64)) := by rw [et]; exact h1
              exact own_ints h2 (fun x hx => by
                rw [← HDS.out.2] at hx
                obtain ⟨j, hj, rfl⟩ := List.mem_map.1 hx
                have h5 := HOK.out.when j
                rw [HL.out] at h5
                unfold InR
                omega) (show ts.length ≤ _ by omega)
end Go.Proofs.YtjmejfgkogjpaaaGreatDoor

namespace Go.Proofs.YtjmejfgkogjpaaaGreatDoor
open Go.RowKit Go Go.Shelf

set_option maxHeartbeats 400000 in
theorem rin_any (n lo hi : Int) (w : World) :
    Calls Tryz.prog 87 #[.int .i64 n, .int .i64 lo, .int .i64 hi] w fun e w' => e = .returned (.bool (inB n lo hi)) ∧ w = w' := by
  by_cases h1 : lo ≤ n
  · go_enter Tryz.func87, Tryz.ntmps87
    go_wp2
    go_ret
    refine ⟨ret_bool ?_, rfl⟩
    unfold inB
    simp [h1]
  · have hd : decide (lo ≤ n) = false := decide_eq_false h1
    have HR : Hid (inB n lo hi = false) := by (have h : inB n lo hi = false := by (unfold inB; rw [hd]; rfl)); exact h
    go_enter Tryz.func87, Tryz.ntmps87
    go_wp2
    go_ret
    exact ⟨ret_bool HR.out.symm, rfl⟩

set_option maxHeartbeats 1000000 in
theorem rnumbers_any (v : Value) (l : List Int) (lo hi : Int) (w : World) (hv : IsInts w v l) :
    Calls Tryz.prog 50 #[v, .int .i64 lo, .int .i64 hi] w fun e w' => e = .returned (.bool (allB l lo hi)) ∧ w = w' := by
  obtain ⟨pa, ca, rfl, la1, la2, ea⟩ := hv.at
  have EA := Lib.hid ea
  clear hv ea
  have HV : Hid (allB l lo hi = !anyLt l.length fun i => !inB (l.getD i 0) lo hi) := by exact rfl
  go_enter Tryz.func50, Tryz.ntmps50
  go_wp2
  go_loop [7] (fun i => ∃ k : Nat, k ≤ l.length ∧ i = .int .i64 k ∧ ∀ j, j < k → (!inB (l.getD j 0) lo hi) = false) (fun i => l.length - (intOf i).toNat)
  case atStart => exact ⟨0, by omega, rfl, by simp⟩
  case round =>
    obtain ⟨k, hk, rfl, hinv⟩ := hrel
    have H := Lib.hid hinv; clear hinv
    by_cases hlt : k < l.length
    · obtain ⟨b1, o1, rfl, c1, hr⟩ := EA.out k hlt
      rw [Nat.mul_one] at c1
      have HG := Lib.hid (getD_of_lt 0 hlt)
      clear hr
      generalize l[k] = x at c1 HG
      go_wp2_with fail
      refine (rin_any _ _ _ _).mono ?_
      rintro e w1 ⟨rfl, rfl⟩
      cases hb : inB x lo hi with
      | true =>
        have HB := Lib.hid hb; clear hb
        go_wp2_with fail
        go_round
        case rel => exact ⟨k + 1, by omega, by go_num, below_succ H.out (by rw [HG.out, HB.out]; rfl)⟩
        case measure => simp [intOf]; omega
      | false =>
        have HB := Lib.hid hb; clear hb
        go_wp2_with fail
        go_ret
        exact ⟨ret_bool (by rw [HV.out, anyLt_at hlt (by rw [HG.out, HB.out]; rfl)]; rfl), rfl⟩
    · obtain rfl : k = l.length := by omega
      go_wp2
      go_ret
      exact ⟨ret_bool (by rw [HV.out, anyLt_none H.out]; rfl), rfl⟩

set_option maxHeartbeats 1000000 in
theorem rcountX_any (m : Mac) (vf vy vt vo : Value) (w : World) (h1 : m.out.length ≤ 7) (h2 : ∀ k (hk : k < m.out.length), m.out[k].length ≤ 5) (ho : IsV3 w vo m.out) :
    Calls Tryz.prog 10 #[.agg (macC m vf vy vt vo)] w fun e w' => e = .returned (.int .i64 (statesN m)) ∧ Below w.heap.size w w' := by
  obtain ⟨po, co, rfl, lo1, lo2, eo⟩ := ho.at
  clear ho
  have EO := Lib.hid eo; clear eo
  have H2 := Lib.hid h2; clear h2
  have HS := Lib.hid (statesN_eq m)
  go_enter Tryz.func10, Tryz.ntmps10
  go_wp2
  refine wp_gen (fun W => Below w.heap.size w W ∧ W.heap[w.heap.size]? = some (.cells (macC m vf vy vt (.slice po m.out.length co)) 27)) ⟨by go_grown, alloc_new _ _⟩ (fun W0 hW0 => ?_)
  obtain ⟨hb0, hA0⟩ := hW0
  have t1 := cell_block hA0
  clear hA0
  go_loop [3, 4] (fun s i => ∃ k n : Nat, k ≤ m.out.length ∧ i = .int .i64 k ∧ s = .int .i64 n ∧ n ≤ k * 87960930222080 ∧ n = lenT (m.out.take k)) (fun _ i => m.out.length - (intOf i).toNat)
  case atStart => exact ⟨0, 0, by omega, rfl, rfl, by omega, by simp [lenT]⟩
  case round =>
    obtain ⟨k, n, hk, rfl, rfl, hn, hs⟩ := hrel
    have HN := Lib.hid hs; clear hs
    by_cases hlt : k < m.out.length
    · obtain ⟨b1, o1, rfl, x, cx, hx⟩ := EO.out k hlt
      rw [Nat.mul_one] at cx
      have c1 := cell_up hb0 cx
      obtain ⟨px, qx, rfl, lx1, lx2, ex⟩ := hx.at
      clear hx cx
      have hl5 := H2.out k hlt
      have HK := Lib.hid (lenT_snoc m.out k hlt)
      have EX := Lib.hid ex; clear ex
      generalize m.out[k] = l at c1 lx1 lx2 EX hl5 HK
      go_wp2
      go_loop [3, 5] (fun s i => ∃ q c : Nat, q ≤ l.length ∧ i = .int .i64 q ∧ s = .int .i64 c ∧ c ≤ k * 87960930222080 + q * 17592186044416 ∧ c = n + lenS (l.take q)) (fun _ i => l.length - (intOf i).toNat)
      case atStart => exact ⟨0, n, by omega, rfl, rfl, (by rw [Nat.zero_mul, Nat.add_zero]; exact hn), by simp [lenS]⟩
      case round =>
        obtain ⟨q, c, hq, rfl, rfl, hc, hs⟩ := hrel
        have HC := Lib.hid hs; clear hs
        by_cases hql : q < l.length
        · obtain ⟨b2, o2, rfl, y, cy, hy⟩ := EX.out q hql
          rw [Nat.mul_one] at cy
          have c2 := cell_up hb0 cy
          obtain ⟨py, qy, rfl, ly1, ly2, _⟩ := hy.at
          clear hy cy
          have HL := Lib.hid (lenS_snoc l q hql)
          generalize l[q] = u at c2 ly1 ly2 HL
          go_wp2
          go_round
          case rel => exact ⟨q + 1, c + u.length, by omega, by go_num, by go_num, by omega, by rw [HL.out, HC.out]; omega⟩
          case measure => simp [intOf]; omega
        · obtain rfl : q = l.length := by omega
          go_wp2
          go_round
          case rel => exact ⟨k + 1, c, by omega, by go_num, rfl, by omega, by rw [HK.out, HC.out, HN.out, List.take_length]⟩
          case measure => simp [intOf]; omega
    · obtain rfl : k = m.out.length := by omega
      go_wp2
      go_ret
      exact ⟨ret_int (by rw [HS.out, HN.out, List.take_length]), hb0⟩
end Go.Proofs.YtjmejfgkogjpaaaGreatDoor

namespace Go.Proofs.YtjmejfgkogjpaaaGreatDoor
open Go.RowKit Go Go.Shelf

set_option maxRecDepth 100000 in
set_option maxHeartbeats 4000000 in
theorem rshaped_any (m : Mac) (vf vy vt vo : Value) (w : World) (hr : 0 ≤ m.rounds ∧ m.rounds ≤ 100) (hf : IsVecs w vf m.first) (hy : IsV4 w vy m.syms) (ho : IsV3 w vo m.out) :
    Calls Tryz.prog 88 #[.agg (macC m vf vy vt vo)] w fun e w' => e = .returned (.bool (shapedB m)) ∧ Below w.heap.size w w' := by
  obtain ⟨pf, cf, rfl, lf1, lf2, ef⟩ := hf.at
  obtain ⟨py, cy, rfl, ly1, ly2, ey⟩ := hy.at
  obtain ⟨po, co, rfl, lo1, lo2, eo⟩ := ho.at
  clear hf hy ho
  have EF := Lib.hid ef; clear ef
  have EY := Lib.hid ey; clear ey
  have EO := Lib.hid eo; clear eo
  obtain ⟨hr0, hr1⟩ := hr
  by_cases h1 : (m.first.length : Int) = m.n
  case neg =>
    have d1 : ((m.first.length : Int) != m.n) = true := by simpa using h1
    have HD : Hid (shapedB m = false) := by (have h : shapedB m = false := by (unfold shapedB; rw [if_pos (Or.inl h1)])); exact h
    go_enter Tryz.func88, Tryz.ntmps88
    go_wp2
    go_ret
    exact ⟨ret_bool HD.out.symm, by go_grown⟩
  have d1 : ((m.first.length : Int) != m.n) = false := by simpa using h1
  by_cases h2 : (m.out.length : Int) = m.rounds + 1
  case neg =>
    have d2 : ((m.out.length : Int) != m.rounds + 1) = true := by simpa using h2
    have HD : Hid (shapedB m = false) := by (have h : shapedB m = false := by (unfold shapedB; rw [if_pos (Or.inr (Or.inl h2))])); exact h
    clear h1 h2
    go_enter Tryz.func88, Tryz.ntmps88
    go_wp2
    go_ret
    exact ⟨ret_bool HD.out.symm, by go_grown⟩
  have d2 : ((m.out.length : Int) != m.rounds + 1) = false := by simpa using h2
  by_cases h3 : (m.syms.length : Int) = m.rounds
  case neg =>
    have d3 : ((m.syms.length : Int) != m.rounds) = true := by simpa using h3
    have HD : Hid (shapedB m = false) := by (have h : shapedB m = false := by (unfold shapedB; rw [if_pos (Or.inr (Or.inr h3))])); exact h
    clear h1 h2 h3
    go_enter Tryz.func88, Tryz.ntmps88
    go_wp2
    go_ret
    exact ⟨ret_bool HD.out.symm, by go_grown⟩
  have d3 : ((m.syms.length : Int) != m.rounds) = false := by simpa using h3
  have HD : Hid (shapedB m = if anyLt m.first.length (fun i => decide (((m.first.getD i []).length : Int) ≠ m.ins)) then false
      else if anyLt m.out.length (fun i => decide (((m.out.getD i []).length : Int) ≠ m.n)) then false else !anyLt m.syms.length (roundB m)) := by
    have h : shapedB m = if anyLt m.first.length (fun i => decide (((m.first.getD i []).length : Int) ≠ m.ins)) then false
      else if anyLt m.out.length (fun i => decide (((m.out.getD i []).length : Int) ≠ m.n)) then false else !anyLt m.syms.length (roundB m) := by
      unfold shapedB; rw [if_neg (by omega)]
    exact h
  have HOS : Hid (m.out.length = m.syms.length + 1) := by (have h : m.out.length = m.syms.length + 1 := by omega); exact h
  have HN1 := Lib.hid h1
  have HN2 := Lib.hid h2
  have HN3 := Lib.hid h3
  clear h1 h2 h3
  go_enter Tryz.func88, Tryz.ntmps88
  go_wp2_with fail
  refine wp_gen (fun W => Below w.heap.size w W ∧ W.heap[w.heap.size]? = some (.cells (macC m (.slice pf m.first.length cf) (.slice py m.syms.length cy) vt (.slice po m.out.length co)) 27)) ⟨by go_grown, alloc_new _ _⟩ (fun W0 hW0 => ?_)
  obtain ⟨hb0, hA0⟩ := hW0
  have HA0 := Lib.hid hA0
  clear hA0
  go_loopw [3] (fun i wr => Below W0.heap.size W0 wr ∧ ∃ k : Nat, k ≤ m.first.length ∧ i = .int .i64 k ∧ ∀ j, j < k → decide (((m.first.getD j []).length : Int) ≠ m.ins) = false) (fun i _ => m.first.length - (intOf i).toNat)
  case atStart => exact ⟨Below.refl _ _, 0, by omega, rfl, by simp⟩
  case round =>
    obtain ⟨hbr, k, hkk, rfl, hinv⟩ := hrel
    have Hk := Lib.hid hinv
    clear hinv
    have hbw := ext_trans hb0 hbr
    have t1 := cell_block (block_up hbr HA0.out)
    have t1' : ∀ n o, (wr.drewN n).cell? ⟨w.heap.size, o, none⟩ = _ := fun n => cell_block (block_up hbr HA0.out)
    by_cases hltk : k < m.first.length
    · have hc : (k : Int) < m.n := by have := HN1.out; omega
      obtain ⟨b1, o1, rfl, x, cx, hx⟩ := EF.out k hltk
      rw [Nat.mul_one] at cx
      have CX := Lib.hid cx
      obtain ⟨px, qx, rfl, lx1, lx2, _⟩ := hx.at
      clear hx cx
      have HG := Lib.hid (getD_of_lt [] hltk)
      generalize m.first[k] = l at CX lx1 lx2 HG
      have c1 := cell_up hbw CX.out
      have c1' : ∀ n, (wr.drewN n).cell? _ = _ := fun n => cell_up hbw CX.out
      by_cases hq : (l.length : Int) = m.ins
      · have dq : ((l.length : Int) != m.ins) = false := by simpa using hq
        have HQ := Lib.hid hq; clear hq
        go_wp2_with fail
        go_quiet (fail)
        go_wp2_with fail
        go_roundw
        case rel => exact ⟨below_drewN hbr _, k + 1, by omega, by go_num, below_succ Hk.out (by rw [HG.out]; simpa using HQ.out)⟩
        case measure => simp [intOf]; omega
      · have dq : ((l.length : Int) != m.ins) = true := by simpa using hq
        have HQ := Lib.hid hq; clear hq
        go_wp2_with fail
        go_quiet (fail)
        go_wp2_with fail
        go_ret
        exact ⟨ret_bool (by rw [HD.out, if_pos (anyLt_at hltk (by rw [HG.out]; simpa using HQ.out))]), below_drewN hbw _⟩
    · have hc1 : ¬ (k : Int) < m.n := by have := HN1.out; omega
      obtain rfl : k = m.first.length := by omega
      have HN := Lib.hid (anyLt_none Hk.out)
      go_wp2_with fail
      clear t1 t1' hbw hkk hltk Hk
      go_loopw [4] (fun i wr => Below W0.heap.size W0 wr ∧ ∃ k : Nat, k ≤ m.out.length ∧ i = .int .i64 k ∧ ∀ j, j < k → decide (((m.out.getD j []).length : Int) ≠ m.n) = false) (fun i _ => m.out.length - (intOf i).toNat)
      case atStart => exact ⟨hbr, 0, by omega, rfl, by simp⟩
      case round =>
        obtain ⟨hbr, k, hkk, rfl, hinv⟩ := hrel
        have Hk := Lib.hid hinv
        clear hinv
        have hbw := ext_trans hb0 hbr
        have t1 := cell_block (block_up hbr HA0.out)
        have t1' : ∀ n o, (wr.drewN n).cell? ⟨w.heap.size, o, none⟩ = _ := fun n => cell_block (block_up hbr HA0.out)
        by_cases hltk : k < m.out.length
        · have hc : (k : Int) ≤ m.rounds := by have := HN2.out; omega
          obtain ⟨b1, o1, rfl, x, cx, hx⟩ := EO.out k hltk
          rw [Nat.mul_one] at cx
          have CX := Lib.hid cx
          obtain ⟨px, qx, rfl, lx1, lx2, _⟩ := hx.at
          clear hx cx
          have HG := Lib.hid (getD_of_lt [] hltk)
          generalize m.out[k] = l at CX lx1 lx2 HG
          have c1 := cell_up hbw CX.out
          have c1' : ∀ n, (wr.drewN n).cell? _ = _ := fun n => cell_up hbw CX.out
          by_cases hq : (l.length : Int) = m.n
          · have dq : ((l.length : Int) != m.n) = false := by simpa using hq
            have HQ := Lib.hid hq; clear hq
            go_wp2_with fail
            go_quiet (fail)
            go_wp2_with fail
            go_roundw
            case rel => exact ⟨below_drewN hbr _, k + 1, by omega, by go_num, below_succ Hk.out (by rw [HG.out]; simpa using HQ.out)⟩
            case measure => simp [intOf]; omega
          · have dq : ((l.length : Int) != m.n) = true := by simpa using hq
            have HQ := Lib.hid hq; clear hq
            go_wp2_with fail
            go_quiet (fail)
            go_wp2_with fail
            go_ret
            exact ⟨ret_bool (by rw [HD.out, HN.out, if_neg (by simp), if_pos (anyLt_at hltk (by rw [HG.out]; simpa using HQ.out))]), below_drewN hbw _⟩
        · have hc2 : ¬ (k : Int) ≤ m.rounds := by have := HN2.out; omega
          obtain rfl : k = m.out.length := by omega
          have HM := Lib.hid (anyLt_none Hk.out)
          have HO := Lib.hid Hk.out
          have HDD : Hid (shapedB m = !anyLt m.syms.length (roundB m)) := by (have h : shapedB m = !anyLt m.syms.length (roundB m) := by (rw [HD.out, HN.out, HM.out]; simp)); exact h
          clear hkk hltk Hk HM HN HD
          go_wp2_with fail
          clear t1 t1' hbw
          go_loopw [5] (fun i wr => Below W0.heap.size W0 wr ∧ ∃ k : Nat, k ≤ m.syms.length ∧ i = .int .i64 k ∧ ∀ j, j < k → roundB m j = false) (fun i _ => m.syms.length - (intOf i).toNat)
          case atStart => exact ⟨hbr, 0, by omega, rfl, by simp⟩
          case round =>
            obtain ⟨hbr, k, hkk, rfl, hinv⟩ := hrel
            have Hk := Lib.hid hinv
            clear hinv
            have hbw := ext_trans hb0 hbr
            have t1 := cell_block (block_up hbr HA0.out)
            have t1' : ∀ n o, (wr.drewN n).cell? ⟨w.heap.size, o, none⟩ = _ := fun n => cell_block (block_up hbr HA0.out)
            by_cases hltk : k < m.syms.length
            · have hc3 : (k : Int) < m.rounds := by have := HN3.out; omega
              obtain ⟨b1, o1, rfl, x, cx, hx⟩ := EY.out k hltk
              rw [Nat.mul_one] at cx
              have C1 := Lib.hid cx
              obtain ⟨px, qx, rfl, lx1, lx2, ex⟩ := hx.at
              clear hx cx
              have hlo : k < m.out.length := by have := HOS.out; omega
              obtain ⟨b2, o2, rfl, y, cy', hy⟩ := EO.out k hlo
              rw [Nat.mul_one] at cy'
              have C2 := Lib.hid cy'
              obtain ⟨pz, qz, rfl, lz1, lz2, ez⟩ := hy.at
              clear hy cy'
              have HRB : Hid (roundB m k = (decide ((m.syms[k].length : Int) ≠ m.n) || anyLt m.syms[k].length (sendB m.n m.out[k] m.syms[k]))) := by
                (have h : roundB m k = (decide ((m.syms[k].length : Int) ≠ m.n) || anyLt m.syms[k].length (sendB m.n m.out[k] m.syms[k])) := by (unfold roundB; rw [getD_of_lt [] hltk, getD_of_lt [] hlo])); exact h
              have HOL : Hid ((m.out[k].length : Int) = m.n) := by (have h : (m.out[k].length : Int) = m.n := by (have := HO.out k hlo; rw [getD_of_lt [] hlo] at this; simpa using this)); exact h
              have EX := Lib.hid ex; clear ex
              have EZ := Lib.hid ez; clear ez
              have hlz : (k : Int) < (m.out.length : Int) := by omega
              generalize m.syms[k] = l at C1 lx1 lx2 HRB EX
              generalize m.out[k] = o at C2 lz1 lz2 HRB EZ HOL
              have c1 := cell_up hbw C1.out
              have c1' : ∀ n, (wr.drewN n).cell? _ = _ := fun n => cell_up hbw C1.out
              by_cases hq : (l.length : Int) = m.n
              · have dq : ((l.length : Int) != m.n) = false := by simpa using hq
                have hlo' : l.length = o.length := by have := HOL.out; omega
                have HQ := Lib.hid hq; clear hq
                go_wp2_with fail
                go_quiet (fail)
                go_wp2_with fail
                clear c1 c1' t1 t1' hbw
                go_loopw [6] (fun i wr => Below W0.heap.size W0 wr ∧ ∃ p : Nat, p ≤ l.length ∧ i = .int .i64 p ∧ ∀ j, j < p → sendB m.n o l j = false) (fun i _ => l.length - (intOf i).toNat)
                case atStart => exact ⟨below_drewN hbr _, 0, by omega, rfl, by simp⟩
                case round =>
                  obtain ⟨hbr, p, hkp, rfl, hinv⟩ := hrel
                  have Hp := Lib.hid hinv
                  clear hinv
                  have hbw := ext_trans hb0 hbr
                  have t1 := cell_block (block_up hbr HA0.out)
                  have t1' : ∀ n o, (wr.drewN n).cell? ⟨w.heap.size, o, none⟩ = _ := fun n => cell_block (block_up hbr HA0.out)
                  by_cases hltp : p < l.length
                  · have hc4 : (p : Int) < m.n := by have := HQ.out; omega
                    obtain ⟨b3, o3, rfl, x, cx, hx⟩ := EX.out p hltp
                    rw [Nat.mul_one] at cx
                    have C3 := Lib.hid cx
                    obtain ⟨pu, qu, rfl, lu1, lu2, eu⟩ := hx.at
                    clear hx cx
                    have hpo : p < o.length := by omega
                    obtain ⟨b4, o4, rfl, y, cy', hy⟩ := EZ.out p hpo
                    rw [Nat.mul_one] at cy'
                    have C4 := Lib.hid cy'
                    obtain ⟨pv, qv, rfl, lv1, lv2, _⟩ := hy.at
                    clear hy cy'
                    have HSB : Hid (sendB m.n o l p = (decide ((l[p].length : Int) ≠ m.n) || symB o p l[p])) := by (have h : sendB m.n o l p = (decide ((l[p].length : Int) ≠ m.n) || symB o p l[p]) := by (unfold sendB; rw [getD_of_lt [] hltp])); exact h
                    have HSY : Hid (symB o p l[p] = anyLt l[p].length fun q => decide ((l[p].getD q []).length ≠ if p = q then 0 else o[p].length)) := by (have h : symB o p l[p] = anyLt l[p].length fun q => decide ((l[p].getD q []).length ≠ if p = q then 0 else o[p].length) := by (unfold symB; rw [getD_of_lt [] hpo])); exact h
                    have EU := Lib.hid eu; clear eu
                    have hpo' : (p : Int) < (o.length : Int) := by omega
                    generalize l[p] = u at C3 lu1 lu2 HSB HSY EU
                    generalize o[p] = z at C4 lv1 lv2 HSY
                    have c1 := cell_up hbw C1.out
                    have c1' : ∀ n, (wr.drewN n).cell? _ = _ := fun n => cell_up hbw C1.out
                    have c3 := cell_up hbw C3.out
                    have c3' : ∀ n, (wr.drewN n).cell? _ = _ := fun n => cell_up hbw C3.out
                    by_cases hq2 : (u.length : Int) = m.n
                    · have dq2 : ((u.length : Int) != m.n) = false := by simpa using hq2
                      have HQ2 := Lib.hid hq2; clear hq2
                      go_wp2_with fail
                      go_quiet (fail)
                      go_wp2_with fail
                      clear c1 c3 c1' c3' t1 t1'
                      have hbr0 := hbr
                      clear hbw
                      go_loopw [7] (fun i wr => Below W0.heap.size W0 wr ∧ ∃ q : Nat, q ≤ u.length ∧ i = .int .i64 q ∧ ∀ j, j < q → decide ((u.getD j []).length ≠ if p = j then 0 else z.length) = false) (fun i _ => u.length - (intOf i).toNat)
                      case atStart => exact ⟨below_drewN hbr _, 0, by omega, rfl, by simp⟩
                      case round =>
                        obtain ⟨hbr, q, hkq, rfl, hinv⟩ := hrel
                        have Hq := Lib.hid hinv
                        clear hinv
                        have hbw := ext_trans hb0 hbr
                        have t1 := cell_block (block_up hbr HA0.out)
                        have t1' : ∀ n o, (wr.drewN n).cell? ⟨w.heap.size, o, none⟩ = _ := fun n => cell_block (block_up hbr HA0.out)
                        by_cases hltq : q < u.length
                        · have hc5 : (q : Int) < m.n := by have := HQ2.out; omega
                          obtain ⟨b5, o5, rfl, x, cx, hx⟩ := EU.out q hltq
                          rw [Nat.mul_one] at cx
                          have C5 := Lib.hid cx
                          obtain ⟨ps, qs, rfl, ls1, ls2, _⟩ := hx.at
                          clear hx cx
                          have HG := Lib.hid (getD_of_lt [] hltq)
                          generalize u[q] = s at C5 ls1 ls2 HG
                          have c1 := cell_up hbw C1.out
                          have c1' : ∀ n, (wr.drewN n).cell? _ = _ := fun n => cell_up hbw C1.out
                          have c2 := cell_up hbw C2.out
                          have c2' : ∀ n, (wr.drewN n).cell? _ = _ := fun n => cell_up hbw C2.out
                          have c3 := cell_up hbw C3.out
                          have c3' : ∀ n, (wr.drewN n).cell? _ = _ := fun n => cell_up hbw C3.out
                          have c4 := cell_up hbw C4.out
                          have c4' : ∀ n, (wr.drewN n).cell? _ = _ := fun n => cell_up hbw C4.out
                          have c5 := cell_up hbw C5.out
                          have c5' : ∀ n, (wr.drewN n).cell? _ = _ := fun n => cell_up hbw C5.out
                          have hkS : (k : Int) < (m.syms.length : Int) := by omega
                          have hpL : (p : Int) < (l.length : Int) := by omega
                          have hqU : (q : Int) < (u.length : Int) := by omega
                          by_cases hpq : p = q
                          · subst hpq
                            have dp : ((p : Int) == (p : Int)) = true := by simp
                            have dn : ((p : Int) != (p : Int)) = false := by simp
                            by_cases hz : s.length = 0
                            · have dz : decide ((0 : Int) < (s.length : Int)) = false := by simp [hz]
                              have dz2 : decide (0 < s.length) = false := by simp [hz]
                              have HZ := Lib.hid hz; clear hz
                              go_wp2_with fail
                              go_quiet (fail)
                              go_wp2_with fail
                              go_roundw
                              case rel => exact ⟨below_drewN hbr _, p + 1, by omega, by go_num, below_succ Hq.out (by rw [HG.out]; simpa using HZ.out)⟩
                              case measure => simp [intOf]; omega
                            · have dz : decide ((0 : Int) < (s.length : Int)) = true := by simp; omega
                              have dz' : (0 : Int) < (s.length : Int) := by omega
                              have dz2 : decide (0 < s.length) = true := by simp; omega
                              have HZ := Lib.hid hz; clear hz
                              go_wp2_with fail
                              go_quiet (fail)
                              go_wp2_with fail
                              go_ret
                              exact ⟨ret_bool (by rw [HDD.out, anyLt_at hltk (by rw [HRB.out, anyLt_at hltp (by rw [HSB.out, HSY.out, anyLt_at hltq (by rw [HG.out]; simpa using HZ.out)]; simp)]; simp)]; rfl), below_drewN hbw _⟩
                          · have dp : ((p : Int) == (q : Int)) = false := by simp; omega
                            have dn : ((p : Int) != (q : Int)) = true := by simp; omega
                            by_cases hz : s.length = z.length
                            · have dz : ((s.length : Int) != (z.length : Int)) = false := by simp; omega
                              have HZ := Lib.hid hz; clear hz
                              go_wp2_with fail
                              go_quiet (fail)
                              go_wp2_with fail
                              go_roundw
                              case rel => exact ⟨below_drewN hbr _, q + 1, by omega, by go_num, below_succ Hq.out (by rw [HG.out, if_neg hpq]; simpa using HZ.out)⟩
                              case measure => simp [intOf]; omega
                            · have dz : ((s.length : Int) != (z.length : Int)) = true := by simp; omega
                              have HZ := Lib.hid hz; clear hz
                              go_wp2_with fail
                              go_quiet (fail)
                              go_wp2_with fail
                              go_ret
                              exact ⟨ret_bool (by rw [HDD.out, anyLt_at hltk (by rw [HRB.out, anyLt_at hltp (by rw [HSB.out, HSY.out, anyLt_at hltq (by rw [HG.out, if_neg hpq]; simpa using HZ.out)]; simp)]; simp)]; rfl), below_drewN hbw _⟩
                        · have hc5 : ¬ (q : Int) < m.n := by have := HQ2.out; omega
                          obtain rfl : q = u.length := by omega
                          go_wp2_with fail
                          go_roundw
                          case rel => exact ⟨hbr, p + 1, by omega, by go_num, below_succ Hp.out (by rw [HSB.out, HSY.out, anyLt_none Hq.out]; simpa using HQ2.out)⟩
                          case measure => simp [intOf]; omega
                    · have dq2 : ((u.length : Int) != m.n) = true := by simpa using hq2
                      have HQ2 := Lib.hid hq2; clear hq2
                      go_wp2_with fail
                      go_quiet (fail)
                      go_wp2_with fail
                      go_ret
                      exact ⟨ret_bool (by rw [HDD.out, anyLt_at hltk (by rw [HRB.out, anyLt_at hltp (by rw [HSB.out]; simp; exact Or.inl HQ2.out)]; simp)]; rfl), below_drewN hbw _⟩
                  · have hc4 : ¬ (p : Int) < m.n := by have := HQ.out; omega
                    obtain rfl : p = l.length := by omega
                    go_wp2_with fail
                    go_roundw
                    case rel => exact ⟨hbr, k + 1, by omega, by go_num, below_succ Hk.out (by rw [HRB.out, anyLt_none Hp.out]; simpa using HQ.out)⟩
                    case measure => simp [intOf]; omega
              · have dq : ((l.length : Int) != m.n) = true := by simpa using hq
                have HQ := Lib.hid hq; clear hq
                go_wp2_with fail
                go_quiet (fail)
                go_wp2_with fail
                go_ret
                exact ⟨ret_bool (by rw [HDD.out, anyLt_at hltk (by rw [HRB.out]; simp; exact Or.inl HQ.out)]; rfl), below_drewN hbw _⟩
            · have hc3 : ¬ (k : Int) < m.rounds := by have := HN3.out; omega
              obtain rfl : k = m.syms.length := by omega
              go_wp2_with fail
              go_ret
              exact ⟨ret_bool (by rw [HDD.out, anyLt_none Hk.out]; rfl), hbw⟩
end Go.Proofs.YtjmejfgkogjpaaaGreatDoor
