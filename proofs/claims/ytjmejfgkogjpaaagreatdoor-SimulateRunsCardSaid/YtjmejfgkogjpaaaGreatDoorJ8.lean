/-
  Parts of the proof, in order. Contract of the reference's ranged of machines. Conditions: the argument reads as a machine of the right shape. Contract of the reference's step of machines. Conditions: the arguments read as a machine of the right shape, and a step. Contract of the reference's Order of steps. Conditions: none. Contract of the reference's Check of machines. Conditions: the argument reads as a machine. Contracts of the reference's Find and Hears of machines. Conditions: the arguments read as a machine, states and a graph, within their bounds.
-/
import Derived.StillTailTactics
import Derived.Test.YtjmejfgkogjpaaaGreatDoorJ7
namespace Go.Proofs.YtjmejfgkogjpaaaGreatDoor
open Go.RowKit Go Go.Shelf

def outPB (m : Mac) (k p : Nat) : Bool := !allB ((m.out.getD k []).getD p []) (-1) (m.outs - 1)
def symPB (m : Mac) (k p q : Nat) : Bool := !allB (((m.syms.getD k []).getD p []).getD q []) 0 1048576
def procPB (m : Mac) (n k p : Nat) : Bool := outPB m k p || (decide (k < m.syms.length) && anyLt n (symPB m k p))
def rangedR (m : Mac) (n : Nat) : Bool := !anyLt n fun p => firstBad m p || anyLt m.out.length fun k => procPB m n k p
/-- the shape of a machine -/
structure Shp (m : Mac) (n : Nat) : Prop where
  hn : m.n = n
  f : m.first.length = n
  o : (m.out.length : Int) = m.rounds + 1
  s : (m.syms.length : Int) = m.rounds
  ok : ∀ k (hk : k < m.out.length), m.out[k].length = n
  sk : ∀ k (hk : k < m.syms.length), m.syms[k].length = n
  sp : ∀ k (hk : k < m.syms.length) p (hp : p < m.syms[k].length), m.syms[k][p].length = n
theorem shp_of {m : Mac} (h : shapedB m = true) (hn : 1 ≤ m.n) : ∃ n : Nat, Shp m n := by
  obtain ⟨h1, h2, h3, _, h5, h6⟩ := shapedB_true h
  refine ⟨m.first.length, h1.symm, rfl, h2, h3, fun k hk => by have := h5 k hk; omega, ?_, ?_⟩
  · intro k hk
    have := h6 k hk
    unfold roundB at this
    simp only [getD_of_lt [] hk, Bool.or_eq_false_iff] at this
    have := this.1
    simp at this
    omega
  · intro k hk p hp
    have := h6 k hk
    unfold roundB at this
    simp only [getD_of_lt [] hk, Bool.or_eq_false_iff] at this
    have := (anyLt_eq_false _ _).1 this.2 p hp
    unfold sendB at this
    simp only [getD_of_lt [] hp, Bool.or_eq_false_iff] at this
    have := this.1
    simp at this
    omega
theorem rangedR_eq {m : Mac} {n : Nat} (h : Shp m n) : rangedR m n = rangedB m := by
  have h1 : rangedR m n = true ↔ (∀ p, p < n → firstBad m p = false) ∧ (∀ k, k < m.out.length → ∀ p, p < n → outPB m k p = false) ∧ ∀ k, k < m.syms.length → ∀ p, p < n → ∀ q, q < n → symPB m k p q = false := by
    unfold rangedR procPB
    simp only [Bool.not_eq_true', anyLt_eq_false, Bool.or_eq_false_iff, Bool.and_eq_false_iff, decide_eq_false_iff_not]
    constructor
    · intro h0
      refine ⟨fun p hp => (h0 p hp).1, fun k hk p hp => ((h0 p hp).2 k hk).1, fun k hk p hp q hq => ?_⟩
      rcases ((h0 p hp).2 k (by have := h.o; have := h.s; omega)).2 with h2 | h2
      · exact absurd hk h2
      · exact h2 q hq
    · rintro ⟨g1, g2, g3⟩ p hp
      refine ⟨g1 p hp, fun k hk => ⟨g2 k hk p hp, ?_⟩⟩
      by_cases hks : k < m.syms.length
      · exact .inr (g3 k hks p hp)
      · exact .inl hks
  have h2 : rangedB m = true ↔ (∀ p, p < n → firstBad m p = false) ∧ (∀ k, k < m.out.length → ∀ p, p < n → outPB m k p = false) ∧ ∀ k, k < m.syms.length → ∀ p, p < n → ∀ q, q < n → symPB m k p q = false := by
    rw [rangedB_eq, h.f]
    have e2 : anyLt m.out.length (outBad m) = false ↔ ∀ k, k < m.out.length → ∀ p, p < n → outPB m k p = false := by
      rw [anyLt_eq_false]
      refine forall_congr' fun k => forall_congr' fun hk => ?_
      unfold outBad
      rw [anyLt_eq_false, show (m.out.getD k []).length = n by rw [getD_of_lt [] hk]; exact h.ok k hk]
      rfl
    have e3 : anyLt m.syms.length (symBad m) = false ↔ ∀ k, k < m.syms.length → ∀ p, p < n → ∀ q, q < n → symPB m k p q = false := by
      rw [anyLt_eq_false]
      refine forall_congr' fun k => forall_congr' fun hk => ?_
      unfold symBad
      have ek : (m.syms.getD k []).length = n := by rw [getD_of_lt [] hk]; exact h.sk k hk
      rw [anyLt_eq_false, ek]
      refine forall_congr' fun p => forall_congr' fun hp => ?_
      unfold sendBad
      have hp' : p < m.syms[k].length := by rw [h.sk k hk]; exact hp
      rw [anyLt_eq_false, show ((m.syms.getD k []).getD p []).length = n by rw [getD_of_lt [] hk, getD_of_lt [] hp']; exact h.sp k hk p hp']
      rfl
    rw [← e2, ← e3, ← anyLt_eq_false]
    cases anyLt n (firstBad m) <;> cases anyLt m.out.length (outBad m) <;> cases anyLt m.syms.length (symBad m) <;> simp
  exact Bool.eq_iff_iff.2 (h1.trans h2.symm)

set_option maxRecDepth 100000 in
set_option maxHeartbeats 4000000 in
theorem rranged_any (m : Mac) (vf vy vt vo : Value) (w : World) (n : Nat) (hsh : Shp m n) (hn1 : 1 ≤ n) (h3 : 1 ≤ m.outs ∧ m.outs ≤ 8) (hr : 0 ≤ m.rounds ∧ m.rounds ≤ 100) (hf : IsVecs w vf m.first) (hy : IsV4 w vy m.syms) (ho : IsV3 w vo m.out) :
    Calls Tryz.prog 89 #[.agg (macC m vf vy vt vo)] w fun e w' => e = .returned (.bool (rangedB m)) ∧ Below w.heap.size w w' := by
  obtain ⟨pf, cf, rfl, lf1, lf2, ef⟩ := hf.at
  obtain ⟨py, cy, rfl, ly1, ly2, ey⟩ := hy.at
  obtain ⟨po, co, rfl, lo1, lo2, eo⟩ := ho.at
  clear hf hy ho
  have EF := Lib.hid ef; clear ef
  have EY := Lib.hid ey; clear ey
  have EO := Lib.hid eo; clear eo
  have HSH := Lib.hid hsh
  obtain ⟨ho1, ho2⟩ := h3
  obtain ⟨hr1, hr2⟩ := hr
  rw [← rangedR_eq hsh]
  have HV : Hid (rangedR m n = !anyLt n fun p => firstBad m p || anyLt m.out.length fun k => procPB m n k p) := by exact rfl
  have hwo : IntKind.i64.wrap (m.outs - 1) = m.outs - 1 := IntWalk.i64_in _ (by omega)
  have hfn : m.first.length ≤ 17592186044416 := by omega
  have hnb : n ≤ 17592186044416 := by have := hsh.f; omega
  clear hsh
  go_enter Tryz.func89, Tryz.ntmps89
  go_wp2_with fail
  refine wp_gen (fun W => Below w.heap.size w W ∧ W.heap[w.heap.size]? = some (.cells (macC m (.slice pf m.first.length cf) (.slice py m.syms.length cy) vt (.slice po m.out.length co)) 27)) ⟨by go_grown, alloc_new _ _⟩ (fun W0 hW0 => ?_)
  obtain ⟨hb0, hA0⟩ := hW0
  have HA0 := Lib.hid hA0
  clear hA0
  go_loopw [3] (fun i wr => Below W0.heap.size W0 wr ∧ ∃ p : Nat, p ≤ n ∧ i = .int .i64 p ∧ ∀ j, j < p → (firstBad m j || anyLt m.out.length fun k => procPB m n k j) = false) (fun i _ => n - (intOf i).toNat)
  case atStart => exact ⟨Below.refl _ _, 0, by omega, rfl, by simp⟩
  case round =>
    obtain ⟨hbr, p, hkp, rfl, hinv⟩ := hrel
    have Hp := Lib.hid hinv
    clear hinv
    have hbw := ext_trans hb0 hbr
    have t1 := cell_block (block_up hbr HA0.out)
    have t1' : ∀ x : ExtW wr, ∀ o, x.val.cell? ⟨w.heap.size, o, none⟩ = _ := fun x => cell_block (block_up (ext_trans hbr x.ext) HA0.out)
    by_cases hltp : p < n
    · have hc : (p : Int) < m.n := by have := HSH.out.hn; omega
      have hpf : p < m.first.length := by have := HSH.out.f; omega
      obtain ⟨b1, o1, rfl, x, cx, hx⟩ := EF.out p hpf
      rw [Nat.mul_one] at cx
      have C1 := Lib.hid cx
      have HX := Lib.hid hx
      obtain ⟨px, qx, rfl, lx1, lx2, e99⟩ := hx.at
      clear e99
      clear hx cx
      have h0 : 0 < m.out.length := by have := HSH.out.o; omega
      obtain ⟨b2, o2, hpo, y, cy', hy⟩ := EO.out 0 h0
      rw [Nat.mul_one, Nat.add_zero] at cy'
      have C2 := Lib.hid cy'
      obtain ⟨pz, qz, rfl, lz1, lz2, ez⟩ := hy.at
      have hpo0 : p < m.out[0].length := by rw [HSH.out.ok 0 h0]; exact hltp
      obtain ⟨b3, o3, rfl, z, cz', hz⟩ := ez p hpo0
      rw [Nat.mul_one] at cz'
      have C3 := Lib.hid cz'
      obtain ⟨pu, qu, rfl, lu1, lu2, e99⟩ := hz.at
      clear e99
      clear hy cy' ez hz cz'
      subst hpo
      have HG : Hid (firstBad m p = !allB m.first[p] (-1) ((m.out[0][p].length : Int) - 1)) := by (have h : firstBad m p = !allB m.first[p] (-1) ((m.out[0][p].length : Int) - 1) := by (unfold firstBad; rw [getD_of_lt [] hpf, getD_of_lt [] h0, getD_of_lt [] hpo0])); exact h
      have h0' : (0 : Int) < (m.out.length : Int) := by omega
      have hpl' : (p : Int) < (m.first.length : Int) := by omega
      have hpo' : (p : Int) < (m.out[0].length : Int) := by omega
      generalize m.first[p] = row at C1 lx1 lx2 HX HG
      generalize m.out[0][p].length = oz at C3 lu1 lu2 HG
      generalize m.out[0].length = ok at C2 lz1 lz2 hpo' hpo0
      have hwz : IntKind.i64.wrap ((oz : Int) - 1) = (oz : Int) - 1 := IntWalk.i64_in _ (by omega)
      have c1' : ∀ x : ExtW wr, x.val.cell? _ = _ := fun x => x.cell (cell_up hbw C1.out)
      have c1 := cell_up hbw C1.out
      have c2' : ∀ x : ExtW wr, x.val.cell? _ = _ := fun x => x.cell (cell_up hbw C2.out)
      have c2 := cell_up hbw C2.out
      have c3' : ∀ x : ExtW wr, x.val.cell? _ = _ := fun x => x.cell (cell_up hbw C3.out)
      have c3 := cell_up hbw C3.out
      have HCALL := Lib.hid (show ∀ x : ExtW wr, Calls Tryz.prog 50 #[.slice px row.length qx, .int .i64 (-1), .int .i64 ((oz : Int) - 1)] x.val fun e w'' => e = .returned (.bool (allB row (-1) ((oz : Int) - 1))) ∧ ∃ p : ExtW wr, w'' = p.val from fun x => Calls.ext_of ((rnumbers_any _ row _ _ x.val (HX.out.up up_int (ext_trans hbw x.ext))).mono fun _ _ h => ⟨h.1, h.2 ▸ Below.refl _ _⟩))
      cases hb : allB row (-1) ((oz : Int) - 1) with
      | false =>
        rw [hb] at HCALL
        have HB := Lib.hid hb; clear hb
        go_wp2_with fail
        refine wp_region_quiet_ext (by kernel_rfl) (by kernel_rfl) ?_
        repeat (go_big_quiet_step ((go_at_call 50; exact HCALL.out _)))
        refine wpQuiet_nil ?_
        intro _ hw'
        obtain ⟨xq, hw''⟩ := hw'
        subst hw''
        go_wp2_with fail
        go_ret
        exact ⟨ret_bool (by rw [HV.out, anyLt_at hltp (by rw [HG.out, HB.out]; simp)]; rfl), ext_trans hbw xq.ext⟩
      | true =>
        rw [hb] at HCALL
        have HB := Lib.hid hb; clear hb
        have HFB : Hid (firstBad m p = false) := by (have h : firstBad m p = false := by (rw [HG.out, HB.out]; rfl)); exact h
        go_wp2_with fail
        refine wp_region_quiet_ext (by kernel_rfl) (by kernel_rfl) ?_
        repeat (go_big_quiet_step ((go_at_call 50; exact HCALL.out _)))
        refine wpQuiet_nil ?_
        intro _ hw'
        obtain ⟨xq, hw''⟩ := hw'
        subst hw''
        have hbr1 := ext_trans hbr xq.ext
        clear c1 c2 c3 c1' c2' c3' t1 t1' HCALL hwz
        go_wp2_with fail
        clear hbw
        go_loopw [4] (fun i wr => Below W0.heap.size W0 wr ∧ ∃ k : Nat, k ≤ m.out.length ∧ i = .int .i64 k ∧ ∀ j, j < k → procPB m n j p = false) (fun i _ => m.out.length - (intOf i).toNat)
        case atStart => exact ⟨hbr1, 0, by omega, rfl, by simp⟩
        case round =>
          obtain ⟨hbr, k, hkk, rfl, hinv⟩ := hrel
          have Hk := Lib.hid hinv
          clear hinv
          have hbw := ext_trans hb0 hbr
          have t1 := cell_block (block_up hbr HA0.out)
          have t1' : ∀ x : ExtW wr, ∀ o, x.val.cell? ⟨w.heap.size, o, none⟩ = _ := fun x => cell_block (block_up (ext_trans hbr x.ext) HA0.out)
          by_cases hltk : k < m.out.length
          · have hc : (k : Int) ≤ m.rounds := by have := HSH.out.o; omega
            obtain ⟨b8, o8, e8, x, cx, hx⟩ := EO.out k hltk
            obtain ⟨rfl, rfl⟩ : b2 = b8 ∧ o2 = o8 := by simpa using e8
            clear e8
            rw [Nat.mul_one] at cx
            have C1 := Lib.hid cx
            obtain ⟨px, qx, rfl, lx1, lx2, ex⟩ := hx.at
            have hpo : p < m.out[k].length := by rw [HSH.out.ok k hltk]; exact hltp
            obtain ⟨b3, o3, rfl, y, cy', hy⟩ := ex p hpo
            rw [Nat.mul_one] at cy'
            have C2 := Lib.hid cy'
            have HX := Lib.hid hy
            obtain ⟨pz, qz, rfl, lz1, lz2, e99⟩ := hy.at
            clear e99
            clear hx cx hy cy' ex
            have hkl : (k : Int) < (m.out.length : Int) := by omega
            have hpl : (p : Int) < (m.out[k].length : Int) := by omega
            have HG : Hid (outPB m k p = !allB m.out[k][p] (-1) (m.outs - 1)) := by (have h : outPB m k p = !allB m.out[k][p] (-1) (m.outs - 1) := by (unfold outPB; rw [getD_of_lt [] hltk, getD_of_lt [] hpo])); exact h
            generalize m.out[k][p] = row at C2 lz1 lz2 HX HG
            generalize m.out[k].length = ok at C1 lx1 lx2 hpl hpo
            have c1' : ∀ x : ExtW wr, x.val.cell? _ = _ := fun x => x.cell (cell_up hbw C1.out)
            have c1 := cell_up hbw C1.out
            have c2' : ∀ x : ExtW wr, x.val.cell? _ = _ := fun x => x.cell (cell_up hbw C2.out)
            have c2 := cell_up hbw C2.out
            have HCALL := Lib.hid (show ∀ x : ExtW wr, Calls Tryz.prog 50 #[.slice pz row.length qz, .int .i64 (-1), .int .i64 (m.outs - 1)] x.val fun e w'' => e = .returned (.bool (allB row (-1) (m.outs - 1))) ∧ ∃ p : ExtW wr, w'' = p.val from fun x => Calls.ext_of ((rnumbers_any _ row _ _ x.val (HX.out.up up_int (ext_trans hbw x.ext))).mono fun _ _ h => ⟨h.1, h.2 ▸ Below.refl _ _⟩))
            cases hb : allB row (-1) (m.outs - 1) with
            | false =>
              rw [hb] at HCALL
              have HB := Lib.hid hb; clear hb
              go_wp2_with fail
              refine wp_region_quiet_ext (by kernel_rfl) (by kernel_rfl) ?_
              repeat (go_big_quiet_step ((go_at_call 50; exact HCALL.out _)))
              refine wpQuiet_nil ?_
              intro _ hw'
              obtain ⟨xq, hw''⟩ := hw'
              subst hw''
              go_wp2_with fail
              go_ret
              exact ⟨ret_bool (by rw [HV.out, anyLt_at hltp (by rw [anyLt_at hltk (by unfold procPB; rw [HG.out, HB.out]; simp)]; simp)]; rfl), ext_trans hbw xq.ext⟩
            | true =>
              rw [hb] at HCALL
              have HB := Lib.hid hb; clear hb
              have HOB : Hid (outPB m k p = false) := by (have h : outPB m k p = false := by (rw [HG.out, HB.out]; rfl)); exact h
              go_wp2_with fail
              refine wp_region_quiet_ext (by kernel_rfl) (by kernel_rfl) ?_
              repeat (go_big_quiet_step ((go_at_call 50; exact HCALL.out _)))
              refine wpQuiet_nil ?_
              intro _ hw'
              obtain ⟨xq, hw''⟩ := hw'
              subst hw''
              have hbr2 := ext_trans hbr xq.ext
              clear c1 c2 c1' c2' t1 t1' HCALL
              have t2 := cell_block (block_up hbr2 HA0.out)
              by_cases hks : k < m.syms.length
              · have hks' : (k : Int) < m.rounds := by have := HSH.out.s; omega
                have hksl : (k : Int) < (m.syms.length : Int) := by omega
                obtain ⟨b6, o6, rfl, x, cx, hx⟩ := EY.out k hks
                rw [Nat.mul_one] at cx
                have C3 := Lib.hid cx
                obtain ⟨px, qx, rfl, lx1, lx2, ex⟩ := hx.at
                have hps : p < m.syms[k].length := by rw [HSH.out.sk k hks]; exact hltp
                obtain ⟨b7, o7, rfl, y, cy', hy⟩ := ex p hps
                rw [Nat.mul_one] at cy'
                have C4 := Lib.hid cy'
                obtain ⟨pz, qz, rfl, lz1, lz2, ez⟩ := hy.at
                have ES2 := Lib.hid ez
                have HL2 := Lib.hid (HSH.out.sp k hks p hps)
                have HG3 : Hid ((m.syms.getD k []).getD p [] = m.syms[k][p]) := by (have h : (m.syms.getD k []).getD p [] = m.syms[k][p] := by rw [getD_of_lt [] hks, getD_of_lt [] hps]); exact h
                have hpl2 : (p : Int) < (m.syms[k].length : Int) := by omega
                clear hx cx hy cy' ex ez
                generalize m.syms[k][p] = s2 at C4 lz1 lz2 ES2 HL2 HG3
                generalize m.syms[k].length = sk at C3 lx1 lx2 hpl2 hps
                go_wp2_with fail
                clear t2 hbw
                go_loopw [5] (fun i wr => Below W0.heap.size W0 wr ∧ ∃ q : Nat, q ≤ n ∧ i = .int .i64 q ∧ ∀ j, j < q → symPB m k p j = false) (fun i _ => n - (intOf i).toNat)
                case atStart => exact ⟨hbr2, 0, by omega, rfl, by simp⟩
                case round =>
                  obtain ⟨hbr, q, hkq, rfl, hinv⟩ := hrel
                  have Hq := Lib.hid hinv
                  clear hinv
                  have hbw := ext_trans hb0 hbr
                  have t1 := cell_block (block_up hbr HA0.out)
                  have t1' : ∀ x : ExtW wr, ∀ o, x.val.cell? ⟨w.heap.size, o, none⟩ = _ := fun x => cell_block (block_up (ext_trans hbr x.ext) HA0.out)
                  by_cases hltq : q < n
                  · have hc : (q : Int) < m.n := by have := HSH.out.hn; omega
                    have hqs : q < s2.length := by have := HL2.out; omega
                    obtain ⟨b5, o5, rfl, x, cx, hx⟩ := ES2.out q hqs
                    rw [Nat.mul_one] at cx
                    have C5 := Lib.hid cx
                    have HX := Lib.hid hx
                    obtain ⟨ps, qs, rfl, ls1, ls2, e99⟩ := hx.at
                    clear e99
                    clear hx cx
                    have hqs' : (q : Int) < (s2.length : Int) := by omega
                    have HG5 : Hid (symPB m k p q = !allB s2[q] 0 1048576) := by (have h : symPB m k p q = !allB s2[q] 0 1048576 := by (unfold symPB; rw [HG3.out, getD_of_lt [] hqs])); exact h
                    generalize s2[q] = row at C5 ls1 ls2 HG5 HX
                    have c3' : ∀ x : ExtW wr, x.val.cell? _ = _ := fun x => x.cell (cell_up hbw C3.out)
                    have c3 := cell_up hbw C3.out
                    have c4' : ∀ x : ExtW wr, x.val.cell? _ = _ := fun x => x.cell (cell_up hbw C4.out)
                    have c4 := cell_up hbw C4.out
                    have c5' : ∀ x : ExtW wr, x.val.cell? _ = _ := fun x => x.cell (cell_up hbw C5.out)
                    have c5 := cell_up hbw C5.out
                    go_wp2_with fail
                    refine (rnumbers_any _ row _ _ _ (HX.out.up up_int hbw)).mono ?_
                    rintro e w9 ⟨rfl, rfl⟩
                    cases hb : allB row 0 1048576 with
                    | true =>
                      have HB := Lib.hid hb; clear hb
                      go_wp2_with fail
                      go_roundw
                      case rel => exact ⟨hbr, q + 1, by omega, by go_num, below_succ Hq.out (by rw [HG5.out, HB.out]; rfl)⟩
                      case measure => simp [intOf]; omega
                    | false =>
                      have HB := Lib.hid hb; clear hb
                      go_wp2_with fail
                      go_ret
                      exact ⟨ret_bool (by rw [HV.out, anyLt_at hltp (by rw [anyLt_at hltk (by unfold procPB; rw [anyLt_at hltq (by rw [HG5.out, HB.out]; rfl), decide_eq_true hks]; simp)]; simp)]; rfl), hbw⟩
                  · have hc : ¬ (q : Int) < m.n := by have := HSH.out.hn; omega
                    have hc' : decide ((q : Int) < m.n) = false := decide_eq_false hc
                    obtain rfl : q = n := by omega
                    have HPK : Hid (procPB m q k p = false) := by (have h : procPB m q k p = false := by (unfold procPB; rw [HOB.out, anyLt_none Hq.out]; simp)); exact h
                    go_wp2_with fail
                    go_roundw
                    case rel => exact ⟨hbr, k + 1, by omega, by go_num, below_succ Hk.out HPK.out⟩
                    case measure => simp [intOf]; omega
              · have hks' : ¬ (k : Int) < m.rounds := by have := HSH.out.s; omega
                have hksd : decide ((k : Int) < m.rounds) = false := decide_eq_false hks'
                have hn0 : (0 : Int) < m.n := by have := HSH.out.hn; omega
                have HPK : Hid (procPB m n k p = false) := by (have h : procPB m n k p = false := by (unfold procPB; rw [HOB.out, decide_eq_false hks]; simp)); exact h
                go_wp2_with fail
                clear t2 hbw
                go_loopw [5] (fun i wr => Below W0.heap.size W0 wr ∧ i = .int .i64 0) (fun _ _ => 0)
                case atStart => exact ⟨hbr2, rfl⟩
                case round =>
                  obtain ⟨hbr, rfl⟩ := hrel
                  have t1 := cell_block (block_up hbr HA0.out)
                  go_wp2_with fail
                  go_roundw
                  case rel => exact ⟨hbr, k + 1, by omega, by go_num, below_succ Hk.out HPK.out⟩
                  case measure => simp [intOf]; omega
          · have hc : ¬ (k : Int) ≤ m.rounds := by have := HSH.out.o; omega
            obtain rfl : k = m.out.length := by omega
            have HPA := Lib.hid (anyLt_none Hk.out)
            go_wp2_with fail
            go_roundw
            case rel => exact ⟨hbr, p + 1, by omega, by go_num, below_succ Hp.out (by rw [HFB.out, HPA.out]; rfl)⟩
            case measure => simp [intOf]; omega
    · have hc : ¬ (p : Int) < m.n := by have := HSH.out.hn; omega
      obtain rfl : p = n := by omega
      go_wp2_with fail
      go_ret
      exact ⟨ret_bool (by rw [HV.out, anyLt_none Hp.out]; rfl), hbw⟩
end Go.Proofs.YtjmejfgkogjpaaaGreatDoor

namespace Go.Proofs.YtjmejfgkogjpaaaGreatDoor
open Go.RowKit Go Go.Shelf

theorem rin_ext (W0 : World) (n lo hi : Int) (r : Bool) (h : inB n lo hi = r) (x : ExtW W0) :
    Calls Tryz.prog 87 #[.int .i64 n, .int .i64 lo, .int .i64 hi] x.val fun e w'' => e = .returned (.bool r) ∧ ∃ p : ExtW W0, w'' = p.val :=
  (rin_any n lo hi x.val).mono fun e w' ⟨he, hw⟩ => ⟨by rw [he, h], x, hw.symm⟩
theorem heard_drop_getD (s : St) (n i : Nat) (h : n + i < 5) : (s.heard.drop n).getD i 0 = s.hear (n + i) := by
  rw [List.getD_eq_getElem?_getD, List.getElem?_drop]
  rcases (show n + i = 0 ∨ n + i = 1 ∨ n + i = 2 ∨ n + i = 3 ∨ n + i = 4 by omega) with e | e | e | e | e <;> rw [e] <;> rfl
theorem heard_allM (s : St) (n : Nat) (hn : n ≤ 5) : allB (s.heard.drop n) (-1) (-1) = true ↔ ∀ k, n ≤ k → k < 5 → s.hear k = -1 := by
  unfold allB
  have hl : (s.heard.drop n).length = 5 - n := by simp [St.heard]
  rw [Bool.not_eq_true', anyLt_eq_false, hl]
  constructor
  · intro h k h1 h2
    have := h (k - n) (by omega)
    rw [heard_drop_getD s n (k - n) (by omega), show n + (k - n) = k by omega] at this
    simp [inB] at this
    omega
  · intro h i hi
    rw [heard_drop_getD s n i (by omega), h (n + i) (by omega) (by omega)]
    rfl

set_option maxRecDepth 100000 in
set_option maxHeartbeats 4000000 in
theorem rstep_any (m : Mac) (vf vy vt vo : Value) (s : St) (hs : s.In) (w : World) (hn : 1 ≤ m.n ∧ m.n ≤ 5) (hr : 0 ≤ m.rounds ∧ m.rounds ≤ 6) (h1 : (m.out.length : Int) = m.rounds + 1) (h2 : ∀ k (hk : k < m.out.length), (m.out[k].length : Int) = m.n) (ho : IsV3 w vo m.out) :
    Calls Tryz.prog 90 #[.agg (macC m vf vy vt vo), s.v] w fun e w' => e = .returned (.int .i64 (stepE m s)) ∧ Below w.heap.size w w' := by
  obtain ⟨po, co, rfl, lo1, lo2, eo⟩ := ho.at
  clear ho
  have EO := Lib.hid eo; clear eo
  have H2 := Lib.hid h2; clear h2
  have HIS := Lib.hid hs; clear hs
  obtain ⟨hn1, hn2⟩ := hn
  obtain ⟨hr1, hr2⟩ := hr
  have HD : Hid (stepE m s = if headBad m s then 2 else if !allB (s.heard.drop m.n.toNat) (-1) (-1) then 3 else if anyLt m.n.toNat (hearBad m s) then 2 else 0) := by exact rfl
  have hb : Below w.heap.size w ((w.alloc (.cells (macC m vf vy vt (.slice po m.out.length co)) 27)).alloc (.cells s.c 73)) := by go_grown
  cases hA : inB s.rd 0 (m.rounds - 1) with
  | false =>
    have HB : Hid (headBad m s = true) := by (have h : headBad m s = true := by (unfold headBad; rw [hA]; rfl)); exact h
    go_enter Tryz.func90, Tryz.ntmps90
    go_wp2_with fail
    refine wp_gen (fun W => Below w.heap.size w W ∧ W.heap[w.heap.size]? = some (.cells (macC m vf vy vt (.slice po m.out.length co)) 27) ∧ W.heap[w.heap.size + 1]? = some (.cells s.c 73)) ⟨hb, alloc_old _ (alloc_new _ _), by simpa using alloc_new (w.alloc _) _⟩ (fun W0 hW0 => ?_)
    obtain ⟨hb0, hM, hS⟩ := hW0
    have HC1 := Lib.hid (rin_ext W0 _ _ _ _ hA)
    have t1 : ∀ (x : ExtW W0) o, x.val.cell? ⟨w.heap.size, o, none⟩ = _ := fun x o => cell_block (block_up x.ext hM) o
    have t2 : ∀ (x : ExtW W0) o, x.val.cell? ⟨w.heap.size + 1, o, none⟩ = _ := fun x o => cell_block (block_up x.ext hS) o
    clear hA hM hS
    refine wp_region_quiet_ext (by kernel_rfl) (by kernel_rfl) ?_
    repeat (go_big_quiet_step ((go_at_call 87; exact HC1.out _)))
    refine wpQuiet_nil ?_
    intro _ hw'
    obtain ⟨xq, hw''⟩ := hw'
    subst hw''
    go_wp2_with fail
    go_ret
    exact ⟨ret_int (by rw [HD.out, HB.out]; rfl), ext_trans hb0 xq.ext⟩
  | true =>
    cases hP : inB s.pr 0 (m.n - 1) with
    | false =>
      have HB : Hid (headBad m s = true) := by (have h : headBad m s = true := by (unfold headBad; rw [hA, hP]; rfl)); exact h
      go_enter Tryz.func90, Tryz.ntmps90
      go_wp2_with fail
      refine wp_gen (fun W => Below w.heap.size w W ∧ W.heap[w.heap.size]? = some (.cells (macC m vf vy vt (.slice po m.out.length co)) 27) ∧ W.heap[w.heap.size + 1]? = some (.cells s.c 73)) ⟨hb, alloc_old _ (alloc_new _ _), by simpa using alloc_new (w.alloc _) _⟩ (fun W0 hW0 => ?_)
      obtain ⟨hb0, hM, hS⟩ := hW0
      have HC1 := Lib.hid (rin_ext W0 _ _ _ _ hA)
      have HC2 := Lib.hid (rin_ext W0 _ _ _ _ hP)
      have t1 : ∀ (x : ExtW W0) o, x.val.cell? ⟨w.heap.size, o, none⟩ = _ := fun x o => cell_block (block_up x.ext hM) o
      have t2 : ∀ (x : ExtW W0) o, x.val.cell? ⟨w.heap.size + 1, o, none⟩ = _ := fun x o => cell_block (block_up x.ext hS) o
      clear hA hP hM hS
      refine wp_region_quiet_ext (by kernel_rfl) (by kernel_rfl) ?_
      repeat (go_big_quiet_step ((go_at_call 87; first | with_reducible exact HC1.out _ | with_reducible exact HC2.out _)))
      refine wpQuiet_nil ?_
      intro _ hw'
      obtain ⟨xq, hw''⟩ := hw'
      subst hw''
      go_wp2_with fail
      go_ret
      exact ⟨ret_int (by rw [HD.out, HB.out]; rfl), ext_trans hb0 xq.ext⟩
    | true =>
      obtain ⟨hA1, hA2⟩ := inB_true hA
      obtain ⟨hP1, hP2⟩ := inB_true hP
      obtain ⟨srd, spr, sh0, sh1, sh2, sh3, sh4, sto⟩ := s
      dsimp only at hA hP hA1 hA2 hP1 hP2
      obtain ⟨r, rfl⟩ : ∃ r : Nat, srd = r := ⟨srd.toNat, by omega⟩
      obtain ⟨p, rfl⟩ : ∃ p : Nat, spr = p := ⟨spr.toNat, by omega⟩
      obtain ⟨q, HQ⟩ : ∃ q : Nat, Hid (q = r + 1) := ⟨r + 1, Lib.hid rfl⟩
      have hq : q < m.out.length := by have := HQ.out; omega
      have hrl : r < m.out.length := by omega
      obtain ⟨b1, o1, rfl, x, cx, hx⟩ := EO.out q hq
      obtain ⟨b1', o1', e1, z, cz, hz⟩ := EO.out r hrl
      obtain ⟨rfl, rfl⟩ : b1 = b1' ∧ o1 = o1' := by simpa using e1
      rw [Nat.mul_one] at cx cz
      have hlq : (m.out[q].length : Int) = m.n := H2.out q hq
      have hlr : (m.out[r].length : Int) = m.n := H2.out r hrl
      obtain ⟨px, qx, rfl, lx1, lx2, ex⟩ := hx.at
      obtain ⟨pz, qz, rfl, lz1, lz2, ez⟩ := hz.at
      clear hx hz e1
      have hpq : p < m.out[q].length := by omega
      have hpr : p < m.out[r].length := by omega
      obtain ⟨b2, o2, rfl, y, cy, hy⟩ := ex p hpq
      obtain ⟨b3, o3, rfl, u, cu, hu⟩ := ez p hpr
      rw [Nat.mul_one] at cy cu
      obtain ⟨py, qy, rfl, ly1, ly2, ey⟩ := hy.at
      obtain ⟨pu, qu, rfl, lu1, lu2, eu⟩ := hu.at
      clear hy hu ex ez ey eu
      have HO1 : Hid (outN m ((r : Int) + 1) p = (m.out[q][p].length : Int)) := by
        have h : outN m ((r : Int) + 1) p = (m.out[q][p].length : Int) := by
          have hQ := HQ.out
          subst hQ
          unfold outN
          rw [show ((r : Int) + 1).toNat = r + 1 by omega, show ((p : Nat) : Int).toNat = p by omega, getD_of_lt [] hq, getD_of_lt [] hpq]
        exact h
      have HO2 : Hid (outN m (r : Int) p = (m.out[r][p].length : Int)) := by
        have h : outN m (r : Int) p = (m.out[r][p].length : Int) := by
          unfold outN
          rw [show ((r : Nat) : Int).toNat = r by omega, show ((p : Nat) : Int).toNat = p by omega, getD_of_lt [] hrl, getD_of_lt [] hpr]
        exact h
      generalize m.out[q][p].length = ly at cy ly1 ly2 HO1
      generalize m.out[r][p].length = lu at cu lu1 lu2 HO2
      generalize m.out[q].length = lx at cx lx1 lx2 hlq hpq
      generalize m.out[r].length = lz at cz lz1 lz2 hlr hpr
      obtain ⟨nn, hnn⟩ : ∃ nn : Nat, m.n = nn := ⟨m.n.toNat, by omega⟩
      have HNN := Lib.hid hnn
      have HLQ := Lib.hid hlq
      have HLR := Lib.hid hlr
      clear hnn hlq hlr
      go_enter Tryz.func90, Tryz.ntmps90
      go_wp2_with fail
      refine wp_gen (fun W => Below w.heap.size w W ∧ W.heap[w.heap.size]? = some (.cells (macC m vf vy vt (.slice (some ⟨b1, o1, none⟩) m.out.length co)) 27) ∧ W.heap[w.heap.size + 1]? = some (.cells (St.mk r p sh0 sh1 sh2 sh3 sh4 sto).c 73)) ⟨hb, alloc_old _ (alloc_new _ _), by simpa using alloc_new (w.alloc _) _⟩ (fun W0 hW0 => ?_)
      obtain ⟨hb0, hM, hS⟩ := hW0
      have HM := Lib.hid hM
      have HS := Lib.hid hS
      have HC1 := Lib.hid (rin_ext W0 _ _ _ _ hA)
      have HC2 := Lib.hid (rin_ext W0 _ _ _ _ hP)
      obtain ⟨tb, htb⟩ : ∃ tb, inB sto 0 ((ly : Int) - 1) = tb := ⟨_, rfl⟩
      have HC3 := Lib.hid (rin_ext W0 _ _ _ _ htb)
      have HTB := Lib.hid htb; clear htb
      have t1 : ∀ (x : ExtW W0) o, x.val.cell? ⟨w.heap.size, o, none⟩ = _ := fun x o => cell_block (block_up x.ext hM) o
      have t2 : ∀ (x : ExtW W0) o, x.val.cell? ⟨w.heap.size + 1, o, none⟩ = _ := fun x o => cell_block (block_up x.ext hS) o
      have t3 : ∀ (x : ExtW W0), x.val.cell? ⟨b1, o1 + q, none⟩ = _ := fun x => x.cell (cell_up hb0 cx)
      have t4 : ∀ (x : ExtW W0), x.val.cell? ⟨b2, o2 + p, none⟩ = _ := fun x => x.cell (cell_up hb0 cy)
      have hw1 : IntKind.i64.wrap ((r : Int) + 1) = (q : Int) := by rw [HQ.out]; rw [IntWalk.i64_in _ (by omega)]; omega
      have HP := Lib.hid hP
      have HA := Lib.hid hA
      clear hA hP hM hS
      refine wp_region_quiet_ext (by kernel_rfl) (by kernel_rfl) ?_
      repeat (go_big_quiet_step ((go_at_call 87; first | with_reducible exact HC1.out _ | with_reducible exact HC2.out _ | with_reducible exact HC3.out _)))
      refine wpQuiet_nil ?_
      intro _ hw'
      obtain ⟨xq, hw''⟩ := hw'
      subst hw''
      clear t1 t2 t3 t4
      have hbq := ext_trans hb0 xq.ext
      cases tb with
      | false =>
        have HB : Hid (headBad m ⟨r, p, sh0, sh1, sh2, sh3, sh4, sto⟩ = true) := by (have h : headBad m ⟨r, p, sh0, sh1, sh2, sh3, sh4, sto⟩ = true := by (unfold headBad; dsimp only; rw [HA.out, HP.out, HO1.out, HTB.out]; rfl)); exact h
        go_wp2_with fail
        go_ret
        exact ⟨ret_int (by rw [HD.out, HB.out]; rfl), hbq⟩
      | true =>
        have HB : Hid (headBad m ⟨r, p, sh0, sh1, sh2, sh3, sh4, sto⟩ = false) := by (have h : headBad m ⟨r, p, sh0, sh1, sh2, sh3, sh4, sto⟩ = false := by (unfold headBad; dsimp only; rw [HA.out, HP.out, HO1.out, HTB.out]; rfl)); exact h
        have hnn := HNN.out
        have hn5 : nn ≤ 5 := by omega
        obtain ⟨s, hs⟩ : ∃ s : St, s = ⟨r, p, sh0, sh1, sh2, sh3, sh4, sto⟩ := ⟨_, rfl⟩
        have HALL := Lib.hid (heard_allM s nn hn5)
        have HD2 : Hid (stepE m s = if !allB (s.heard.drop nn) (-1) (-1) then 3 else if anyLt nn (hearBad m s) then 2 else 0) := by
          (have h : stepE m s = if !allB (s.heard.drop nn) (-1) (-1) then 3 else if anyLt nn (hearBad m s) then 2 else 0 := by (rw [hs, HD.out, HB.out, hnn]; rfl)); exact h
        rw [← hs] at HS ⊢
        have HEQ := Lib.hid hs
        clear HD HB hs hnn
        have HMq := Lib.hid (block_up xq.ext HM.out)
        have HSq := Lib.hid (block_up xq.ext HS.out)
        have t1 := cell_block HMq.out
        have HCZ := Lib.hid (cell_up hbq cz)
        have HCU := Lib.hid (cell_up hbq cu)
        clear cx cy cz cu
        go_wp2_with fail
        clear t1
        go_loopw [5] (fun i wr => Below xq.val.heap.size xq.val wr ∧ ∃ k : Nat, nn ≤ k ∧ k ≤ 5 ∧ i = .int .i64 k ∧ ∀ j, nn ≤ j → j < k → s.hear j = -1) (fun i _ => 5 - (intOf i).toNat)
        case atStart => exact ⟨Below.refl _ _, nn, by omega, by omega, by rw [HNN.out], fun j h1 h2 => by omega⟩
        case round =>
          obtain ⟨hbr, k, hk1, hk2, rfl, hinv⟩ := hrel
          have H := Lib.hid hinv
          clear hinv
          have hbw := ext_trans hbq hbr
          by_cases hk5 : k < 5
          · have hk5' : (k : Int) < 5 := by omega
            have ck := hear_cell' s k hk5 wr (w.heap.size + 1) _ (block_up hbr HSq.out)
            generalize hhv : s.hear k = hv at ck
            have HHV := Lib.hid hhv
            clear hhv
            by_cases hv1 : hv = -1
            · subst hv1
              go_wp2_with fail
              go_roundw
              case rel => exact ⟨hbr, k + 1, by omega, by omega, by go_num, fun j h1 h2 => by
                by_cases e : j < k
                · exact H.out j h1 e
                · obtain rfl : j = k := by omega
                  exact HHV.out⟩
              case measure => simp [intOf]; omega
            · have hv1' : (hv != -1) = true := by simpa using hv1
              have HAF : Hid (allB (s.heard.drop nn) (-1) (-1) = false) := by
                have h : allB (s.heard.drop nn) (-1) (-1) = false := by
                  cases h : allB (s.heard.drop nn) (-1) (-1) with
                  | false => rfl
                  | true => exact absurd (HHV.out.symm.trans (HALL.out.1 h k hk1 hk5)) hv1
                exact h
              go_wp2_with fail
              go_ret
              exact ⟨ret_int (by rw [← HEQ.out, HD2.out, HAF.out]; rfl), hbw⟩
          · have hk5' : ¬ (k : Int) < 5 := by omega
            have HAT : Hid (allB (s.heard.drop nn) (-1) (-1) = true) := by
              have h : allB (s.heard.drop nn) (-1) (-1) = true := HALL.out.2 fun j h1 h2 => H.out j h1 (by omega)
              exact h
            have HV : Hid (stepE m s = if anyLt nn (hearBad m s) then 2 else 0) := by
              have h : stepE m s = if anyLt nn (hearBad m s) then 2 else 0 := by rw [HD2.out, HAT.out]; rfl
              exact h
            clear HD2 HAT HALL
            go_wp2_with fail
            clear hk5 hk5' hk1 hk2 hbw H
            have hbk := hbr
            go_loopw [6] (fun i wr => Below xq.val.heap.size xq.val wr ∧ ∃ k : Nat, k ≤ nn ∧ i = .int .i64 k ∧ ∀ j, j < k → hearBad m s j = false) (fun i _ => nn - (intOf i).toNat)
            case atStart => exact ⟨hbk, 0, by omega, rfl, by simp⟩
            case round =>
              obtain ⟨hbr, k, hk, rfl, hinv⟩ := hrel
              have H := Lib.hid hinv
              clear hinv
              have hbw := ext_trans hbq hbr
              have t1 := cell_block (block_up hbr HMq.out)
              have t1' : ∀ n o, (wr.drewN n).cell? ⟨w.heap.size, o, none⟩ = _ := fun n => cell_block (block_up hbr HMq.out)
              have t21 : wr.cell? ⟨w.heap.size + 1, 1, none⟩ = some (.int .i64 (p : Int)) := by rw [cell_block (block_up hbr HSq.out), HEQ.out]; rfl
              have t20 : ∀ n, (wr.drewN n).cell? ⟨w.heap.size + 1, 0, none⟩ = some (.int .i64 (r : Int)) := fun n => by
                have h : wr.cell? ⟨w.heap.size + 1, 0, none⟩ = some (.int .i64 (r : Int)) := by rw [cell_block (block_up hbr HSq.out), HEQ.out]; rfl
                exact h
              by_cases hlt : k < nn
              · have hkn : (k : Int) < m.n := by rw [HNN.out]; omega
                have hk5 : (k : Int) < 5 := by omega
                have ck := hear_cell' s k (by omega) wr (w.heap.size + 1) _ (block_up hbr HSq.out)
                have ck' : ∀ n, (wr.drewN n).cell? ⟨w.heap.size + 1, 2 + k, none⟩ = _ := fun n => hear_cell' s k (by omega) wr (w.heap.size + 1) _ (block_up hbr HSq.out)
                have HHB : Hid (hearBad m s k = if (k : Int) = (p : Int) then !inB (s.hear k) 0 (outN m r k - 1) else !inB (s.hear k) (-1) 1048576) := by
                  have h : hearBad m s k = if (k : Int) = (p : Int) then !inB (s.hear k) 0 (outN m r k - 1) else !inB (s.hear k) (-1) 1048576 := by
                    have e1 : s.pr = (p : Int) := by rw [HEQ.out]
                    have e2 : s.rd = (r : Int) := by rw [HEQ.out]
                    unfold hearBad
                    rw [e1, e2]
                  exact h
                generalize s.hear k = hv at ck ck' HHB
                by_cases hkp : k = p
                · subst hkp
                  have HB1 : Hid (hearBad m s k = !inB hv 0 ((lu : Int) - 1)) := by
                    (have h : hearBad m s k = !inB hv 0 ((lu : Int) - 1) := by (rw [HHB.out, if_pos rfl, HO2.out])); exact h
                  have q1 : ∀ n, (wr.drewN n).cell? ⟨b1, o1 + r, none⟩ = _ := fun n => cell_up hbr HCZ.out
                  have q2 : ∀ n, (wr.drewN n).cell? ⟨b3, o3 + k, none⟩ = _ := fun n => cell_up hbr HCU.out
                  have hrl' : (r : Int) < (m.out.length : Int) := by omega
                  have hkl' : (k : Int) < (lz : Int) := by omega
                  clear HHB
                  go_wp2_with fail
                  go_quiet (fail)
                  go_wp2_with fail
                  refine (rin_any _ _ _ _).mono ?_
                  rintro e w2 ⟨rfl, rfl⟩
                  generalize inB hv 0 ((lu : Int) - 1) = bb at HB1
                  cases bb with
                  | false =>
                    go_wp2_with fail
                    go_ret
                    exact ⟨ret_int (by rw [← HEQ.out, HV.out, anyLt_at hlt HB1.out]; rfl), below_drewN hbw _⟩
                  | true =>
                    go_wp2_with fail
                    go_roundw
                    case rel => exact ⟨below_drewN hbr _, k + 1, by omega, by go_num, below_succ H.out HB1.out⟩
                    case measure => simp [intOf]; omega
                · have hkp' : ((k : Int) == (p : Int)) = false := by simp; omega
                  have HB1 : Hid (hearBad m s k = !inB hv (-1) 1048576) := by
                    (have h : hearBad m s k = !inB hv (-1) 1048576 := by (rw [HHB.out, if_neg (by omega)])); exact h
                  clear HHB
                  go_wp2_with fail
                  refine (rin_any _ _ _ _).mono ?_
                  rintro e w2 ⟨rfl, rfl⟩
                  generalize inB hv (-1) 1048576 = bb at HB1
                  cases bb with
                  | false =>
                    go_wp2_with fail
                    go_ret
                    exact ⟨ret_int (by rw [← HEQ.out, HV.out, anyLt_at hlt HB1.out]; rfl), hbw⟩
                  | true =>
                    go_wp2_with fail
                    go_roundw
                    case rel => exact ⟨hbr, k + 1, by omega, by go_num, below_succ H.out HB1.out⟩
                    case measure => simp [intOf]; omega
              · have hkn : ¬ (k : Int) < m.n := by rw [HNN.out]; omega
                have HKN : Hid (k = nn) := by (have h : k = nn := by omega); exact h
                go_wp2_with fail
                go_ret
                exact ⟨ret_int (by rw [← HEQ.out, HV.out, anyLt_none (fun j hj => H.out j (by rw [HKN.out]; exact hj))]; rfl), hbw⟩
end Go.Proofs.YtjmejfgkogjpaaaGreatDoor

namespace Go.Proofs.YtjmejfgkogjpaaaGreatDoor
open Go.RowKit Go Go.Shelf

def St.all (s : St) : List Int := s.rd :: s.pr :: s.heard
theorem St.all_len (s : St) : s.all.length = 7 := rfl
theorem sthear_cell {s : St} {q : Nat} (h : q < 5) : s.c[2 + q]? = some (.int .i64 (s.hear q)) := by
  rcases (show q = 0 ∨ q = 1 ∨ q = 2 ∨ q = 3 ∨ q = 4 by omega) with rfl | rfl | rfl | rfl | rfl <;> rfl
theorem take_hear {s : St} {q : Nat} {h : Int} (hq : q < 5) (hc : s.c[2 + q]? = some (.int .i64 h)) : (s.all.take (q + 1 + 2)).map (Value.int .i64) = (s.all.take (q + 2)).map (Value.int .i64) ++ [.int .i64 h] := by
  rcases (show q = 0 ∨ q = 1 ∨ q = 2 ∨ q = 3 ∨ q = 4 by omega) with rfl | rfl | rfl | rfl | rfl <;> (simp at hc; subst hc; rfl)
/-- between two rounds of the first loop -/
structure TwoI (w : World) (ya yb : St) (q : Nat) (vx vy : Value) (W : World) : Prop where
  old : Below w.heap.size w W
  a : W.heap[w.heap.size]? = some (.cells ya.c 73)
  b : W.heap[w.heap.size + 1]? = some (.cells yb.c 73)
  rx : OwnT W (w.heap.size + 2) 3 1 vx (q + 2) ((ya.all.take (q + 2)).map (Value.int .i64))
  ry : OwnT W (w.heap.size + 2) 3 1 vy (q + 2) ((yb.all.take (q + 2)).map (Value.int .i64))
  ne : ∀ g, vx.ownBlock = some g → vy.ownBlock ≠ some g
theorem ordV_none {a b : List Int} {k : Nat} (hl : a.length = b.length) (hk : k = a.length) (h : ∀ j, j < k → a.getD j 0 = b.getD j 0) : ordV a b = 0 := by
  have : a = b := List.ext_getElem hl fun i h1 h2 => by
    have := h i (by omega)
    rwa [getD_of_lt 0 h1, getD_of_lt 0 h2] at this
  rw [this, ordV_self]
theorem ordV_at {a b : List Int} {k : Nat} (hk : k < a.length) (hl : a.length = b.length) (h : ∀ j, j < k → a.getD j 0 = b.getD j 0) : ordV a b = ordV (a.drop k) (b.drop k) := by
  induction k generalizing a b with
  | zero => rfl
  | succ k ih =>
    match a, b, hl with
    | x :: r, y :: s, hl =>
      have h0 : x = y := h 0 (by omega)
      subst h0
      simp only [ordV, Int.lt_irrefl, if_false, List.drop_succ_cons]
      exact ih (by simpa using hk) (by simpa using hl) (fun j hj => h (j + 1) (by omega))
    | [], _, _ => simp at hk
theorem ordV_head {a b : List Int} {k : Nat} (hk : k < a.length) (hl : a.length = b.length) (h : ∀ j, j < k → a.getD j 0 = b.getD j 0) (hne : a.getD k 0 ≠ b.getD k 0) : ordV a b = if a.getD k 0 < b.getD k 0 then -1 else 1 := by
  rw [ordV_at hk hl h, drop_cons hk, drop_cons (show k < b.length by omega)]
  rw [getD_of_lt 0 hk, getD_of_lt 0 (show k < b.length by omega)] at hne ⊢
  simp only [ordV]
  split
  · rfl
  · rw [if_pos (by omega)]
theorem ord_all (ya yb : St) : ordV ya.all yb.all = orderI ya yb := by
  unfold orderI orI St.all
  simp only [ordV, List.length_cons, List.length_nil, firstNZ, List.getD_cons_zero, List.getD_cons_succ, cmpI]
  generalize ordV ya.heard yb.heard = o
  grind

set_option maxRecDepth 100000 in
set_option maxHeartbeats 4000000 in
theorem rorder_any (ya yb : St) (w : World) :
    Calls Tryz.prog 91 #[ya.v, yb.v] w fun e w' => e = .returned (.int .i64 (orderI ya yb)) ∧ Below w.heap.size w w' := by
  have HV := Lib.hid (ord_all ya yb)
  go_enter Tryz.func91, Tryz.ntmps91
  go_wp2_with fail
  refine wp_gen (fun W1 => TwoI w ya yb 0 (.slice (some ⟨w.heap.size + 1 + 1, 0, none⟩) 2 2) (.slice (some ⟨w.heap.size + 1 + 1 + 1, 0, none⟩) 2 2) W1) ?_ (fun W1 hW1 => ?_)
  · have own2 : ∀ (W : World) (g : Nat) (x y : Int), w.heap.size + 2 ≤ g → W.heap[g]? = some (.cells #[.int .i64 x, .int .i64 y] 3) → OwnT W (w.heap.size + 2) 3 1 (.slice (some ⟨g, 0, none⟩) 2 2) 2 [.int .i64 x, .int .i64 y] := fun W g x y hg h =>
      ⟨rfl, .inr ⟨g, 2, _, (0, 0), rfl, hg, h, fun i _ hh => by have := hh.2; simp at this, Nat.le_refl _, by unfold maxLen; omega, rfl, rfl⟩⟩
    exact ⟨by go_grown, alloc_old _ (alloc_old _ (alloc_old _ (alloc_new _ _))), alloc_old _ (alloc_old _ (by simpa using alloc_new (w.alloc _) _)), own2 _ _ _ _ (by omega) (alloc_old _ (by simpa using alloc_new ((w.alloc _).alloc _) _)), own2 _ _ _ _ (by omega) (by simpa using alloc_new (((w.alloc _).alloc _).alloc _) _), fun g hg e => by simp [Value.ownBlock] at hg e; omega⟩
  have HW1 := Lib.hid hW1
  clear hW1
  obtain ⟨i1, hj0, hj1, hj2, hj3⟩ := info_parts Tryz.infoInt
  go_loopw [5, 6, 7] (fun vx vy i wr => ∃ q : Nat, q ≤ 5 ∧ i = .int .i64 q ∧ TwoI w ya yb q vx vy wr) (fun _ _ i _ => 5 - (intOf i).toNat)
  case atStart => exact ⟨0, by omega, rfl, HW1.out⟩
  case round =>
    obtain ⟨q, hq, rfl, hi⟩ := hrel
    have HI := Lib.hid hi
    clear hi
    obtain ⟨ax, cx, rfl⟩ := HI.out.rx.slice
    obtain ⟨ay, cy, rfl⟩ := HI.out.ry.slice
    by_cases hq5 : q < 5
    · have hq5' : (q : Int) < 5 := by omega
      obtain ⟨ha, hha⟩ : ∃ ha, ya.c[2 + q]? = some (.int .i64 ha) := ⟨_, sthear_cell hq5⟩
      obtain ⟨hb, hhb⟩ : ∃ hb, yb.c[2 + q]? = some (.int .i64 hb) := ⟨_, sthear_cell hq5⟩
      have HCa := Lib.hid hha
      have HCb := Lib.hid hhb
      have HBa := Lib.hid HI.out.a
      have HBb := Lib.hid HI.out.b
      have hlb := block_lt HI.out.b
      obtain ⟨dl, hdl⟩ : ∃ dl, (ya.all.take (q + 2)).map (Value.int .i64) = dl := ⟨_, rfl⟩
      obtain ⟨tl, htl⟩ : ∃ tl, (yb.all.take (q + 2)).map (Value.int .i64) = tl := ⟨_, rfl⟩
      have HDT := Lib.hid (And.intro (hdl ▸ HI.out.rx) (And.intro (htl ▸ HI.out.ry) HI.out.ne))
      have HNO : Hid (∀ k, k < w.heap.size + 2 → (Value.slice ax (q + 2) cx).ownBlock ≠ some k ∧ (Value.slice ay (q + 2) cy).ownBlock ≠ some k) := by
        have h : ∀ k, k < w.heap.size + 2 → (Value.slice ax (q + 2) cx).ownBlock ≠ some k ∧ (Value.slice ay (q + 2) cy).ownBlock ≠ some k := fun k hk => ⟨fun e => by have := (HI.out.rx.lt k e).1; omega, fun e => by have := (HI.out.ry.lt k e).1; omega⟩
        exact h
      clear hha hhb
      have HDL := Lib.hid (And.intro hdl htl)
      clear hdl htl
      go_wp2_with fail
      refine wp_region_core3 16 [23, 24, 25, 26, 27, 28, 29, 30, 31, 32, 33, 34, 35, 36, 5, 6] [some (.slice ax (q + 2) cx),
        some (.int .i64 (q : Int)),
        some (.pointer (some ⟨w.heap.size, 2, none⟩)),
        some (.pointer (some ⟨w.heap.size, 2 + q, none⟩)),
        some (.int .i64 ha),
        none,
        none,
        some (.slice ay (q + 2) cy),
        some (.int .i64 (q : Int)),
        some (.pointer (some ⟨w.heap.size + 1, 2, none⟩)),
        some (.pointer (some ⟨w.heap.size + 1, 2 + q, none⟩)),
        some (.int .i64 hb),
        none,
        none,
        none,
        none] (CTwo w wr (w.heap.size + 2) (.slice ax (q + 2) cx) (.slice ay (q + 2) cy) (q + 2) dl tl (.int .i64 ha) (.int .i64 hb)) (by kernel_rfl) rfl (by decide) rfl (by kernel_rfl) (fun _ => ⟨HI.out.old.drew, Nat.le_refl _, fun _ _ h _ _ => h, HDT.out.1, HDT.out.2.1, HDT.out.2.2, nofun, nofun, nofun, nofun⟩) ?step ?tail
      case step =>
        intro x W D i o s F hi ho hs hD hun0 hcl hdep hv hcore hF
        have hcase : i = 0 ∨ i = 1 ∨ i = 2 ∨ i = 3 ∨ i = 4 ∨ i = 5 ∨ i = 6 ∨ i = 7 ∨ i = 8 ∨ i = 9 ∨ i = 10 ∨ i = 11 ∨ i = 12 ∨ i = 13 ∨ i = 14 ∨ i = 15 := by omega
        rcases hcase with rfl | rfl | rfl | rfl | rfl | rfl | rfl | rfl | rfl | rfl | rfl | rfl | rfl | rfl | rfl | rfl
        · have hun := hun0 _ _ hs hD
          obtain rfl := Option.some.inj ho.symm
          obtain rfl := Option.some.inj hs.symm
          clear hdep hi hv
          have hn14 : D 14 = false := by
            cases h : D 14 with
            | false => rfl
            | true => exact absurd (hcl 14 _ rfl h ⟨0, .phase⟩ (by simp) rfl) (by rw [hD]; decide)
          have e5 : F.getD 5 undef = .slice ax (q + 2) cx := by (rw [hF]; exact (setAll_getD (by decide) (i := 14) rfl (Nat.le_of_ble_eq_true (by kernel_rfl))).trans (hun0 14 5 rfl hn14))
          clear hn14
          clear hun0 hcl
          clear hF hun
          have e5' := (show F[5]?.getD undef = F.getD 5 undef by simp only [Array.getD_eq_getD_getElem?]).trans e5
          have HD := Lib.hid hD
          have HCORE := Lib.hid hcore
          clear hD hcore
          refine core_move (.tmp 5) rfl rfl ?_
          refine CoreK.mk (F.getD 5 undef) (fun c hc => e5.trans (Option.some.inj hc)) ?_ rfl
          exact ⟨HCORE.out.old, HCORE.out.size, HCORE.out.kept, HCORE.out.rd, HCORE.out.rt, HCORE.out.ne, HCORE.out.s5, HCORE.out.s12, HCORE.out.a14, HCORE.out.a15⟩
        · have hun := hun0 _ _ hs hD
          obtain rfl := Option.some.inj ho.symm
          obtain rfl := Option.some.inj hs.symm
          clear hdep hi hv
          have e7 : F.getD 7 undef = .int .i64 (q : Int) := by (rw [hF, setAll_getD_ne (by decide)]; rfl)
          clear hun0 hcl
          clear hF hun
          have e7' := (show F[7]?.getD undef = F.getD 7 undef by simp only [Array.getD_eq_getD_getElem?]).trans e7
          have HD := Lib.hid hD
          have HCORE := Lib.hid hcore
          clear hD hcore
          refine core_move (.tmp 7) rfl rfl ?_
          refine CoreK.mk (F.getD 7 undef) (fun c hc => e7.trans (Option.some.inj hc)) ?_ rfl
          exact ⟨HCORE.out.old, HCORE.out.size, HCORE.out.kept, HCORE.out.rd, HCORE.out.rt, HCORE.out.ne, HCORE.out.s5, HCORE.out.s12, HCORE.out.a14, HCORE.out.a15⟩
        · have hun := hun0 _ _ hs hD
          obtain rfl := Option.some.inj ho.symm
          obtain rfl := Option.some.inj hs.symm
          clear hdep hi hv
          have e2 : F.getD 2 undef = .pointer (some ⟨w.heap.size, 0, none⟩) := by (rw [hF, setAll_getD_ne (by decide)]; rfl)
          clear hun0 hcl
          clear hF hun
          have e2' := (show F[2]?.getD undef = F.getD 2 undef by simp only [Array.getD_eq_getD_getElem?]).trans e2
          have HD := Lib.hid hD
          have HCORE := Lib.hid hcore
          clear hD hcore
          go_wp2_with fail
          refine CoreK.mk _ (fun c hc => Option.some.inj hc) ?_ rfl
          exact ⟨HCORE.out.old, HCORE.out.size, HCORE.out.kept, HCORE.out.rd, HCORE.out.rt, HCORE.out.ne, HCORE.out.s5, HCORE.out.s12, HCORE.out.a14, HCORE.out.a15⟩
        · have hun := hun0 _ _ hs hD
          obtain rfl := Option.some.inj ho.symm
          obtain rfl := Option.some.inj hs.symm
          have g2 := hdep ⟨2, .data⟩ (by simp) rfl
          have d2 : x 2 = .pointer (some ⟨w.heap.size, 2, none⟩) := hv 2 _ (by omega) g2 rfl
          have g1 := hdep ⟨1, .data⟩ (by simp) rfl
          have d1 : x 1 = .int .i64 (q : Int) := hv 1 _ (by omega) g1 rfl
          clear hdep hi hv
          have e25 : F.getD 25 undef = .pointer (some ⟨w.heap.size, 2, none⟩) := by (rw [← d2, hF]; exact setAll_getD (by decide) (i := 2) rfl (Nat.le_of_ble_eq_true (by kernel_rfl)))
          have e24 : F.getD 24 undef = .int .i64 (q : Int) := by (rw [← d1, hF]; exact setAll_getD (by decide) (i := 1) rfl (Nat.le_of_ble_eq_true (by kernel_rfl)))
          clear hun0 hcl
          clear hF hun d2 d1
          have e25' := (show F[25]?.getD undef = F.getD 25 undef by simp only [Array.getD_eq_getD_getElem?]).trans e25
          have e24' := (show F[24]?.getD undef = F.getD 24 undef by simp only [Array.getD_eq_getD_getElem?]).trans e24
          have HD := Lib.hid hD
          have HCORE := Lib.hid hcore
          clear hD hcore
          clear g2
          clear g1
          go_wp2_with fail
          refine CoreK.mk _ (fun c hc => Option.some.inj hc) ?_ rfl
          exact ⟨HCORE.out.old, HCORE.out.size, HCORE.out.kept, HCORE.out.rd, HCORE.out.rt, HCORE.out.ne, HCORE.out.s5, HCORE.out.s12, HCORE.out.a14, HCORE.out.a15⟩
        · have hun := hun0 _ _ hs hD
          obtain rfl := Option.some.inj ho.symm
          obtain rfl := Option.some.inj hs.symm
          have g3 := hdep ⟨3, .data⟩ (by simp) rfl
          have d3 : x 3 = .pointer (some ⟨w.heap.size, 2 + q, none⟩) := hv 3 _ (by omega) g3 rfl
          clear hdep hi hv
          have e26 : F.getD 26 undef = .pointer (some ⟨w.heap.size, 2 + q, none⟩) := by (rw [← d3, hF]; exact setAll_getD (by decide) (i := 3) rfl (Nat.le_of_ble_eq_true (by kernel_rfl)))
          clear hun0 hcl
          clear hF hun d3
          have t : W.cell? ⟨w.heap.size, 2 + q, none⟩ = some (.int .i64 ha) := by
            rw [cell_block (hcore.kept _ _ HBa.out (HNO.out _ (by omega)).1 (HNO.out _ (by omega)).2)]
            exact HCa.out
          have e26' := (show F[26]?.getD undef = F.getD 26 undef by simp only [Array.getD_eq_getD_getElem?]).trans e26
          have HD := Lib.hid hD
          have HCORE := Lib.hid hcore
          clear hD hcore
          clear g3
          go_wp2_with fail
          refine CoreK.mk _ (fun c hc => Option.some.inj hc) ?_ rfl
          exact ⟨HCORE.out.old, HCORE.out.size, HCORE.out.kept, HCORE.out.rd, HCORE.out.rt, HCORE.out.ne, HCORE.out.s5, HCORE.out.s12, HCORE.out.a14, HCORE.out.a15⟩
        · have hun := hun0 _ _ hs hD
          obtain rfl := Option.some.inj ho.symm
          obtain rfl := Option.some.inj hs.symm
          have g4 := hdep ⟨4, .data⟩ (by simp) rfl
          have d4 : x 4 = .int .i64 ha := hv 4 _ (by omega) g4 rfl
          clear hdep hi hv
          have e27 : F.getD 27 undef = .int .i64 ha := by (rw [← d4, hF]; exact setAll_getD (by decide) (i := 4) rfl (Nat.le_of_ble_eq_true (by kernel_rfl)))
          clear hun0 hcl
          clear hF hun d4
          have e27' := (show F[27]?.getD undef = F.getD 27 undef by simp only [Array.getD_eq_getD_getElem?]).trans e27
          have HD := Lib.hid hD
          have HCORE := Lib.hid hcore
          clear hD hcore
          clear g4
          go_wp2_with fail
          refine CoreK.mk _ (fun c hc => by cases hc) ?_ rfl
          exact HCORE.out.build5
        · have hun := hun0 _ _ hs hD
          obtain rfl := Option.some.inj ho.symm
          obtain rfl := Option.some.inj hs.symm
          have g0 := hdep ⟨0, .data⟩ (by simp) rfl
          have d0 : x 0 = .slice ax (q + 2) cx := hv 0 _ (by omega) g0 rfl
          have g5 := hdep ⟨5, .data⟩ (by simp) rfl
          clear hdep hi hv
          have e23 : F.getD 23 undef = .slice ax (q + 2) cx := by (rw [← d0, hF]; exact setAll_getD (by decide) (i := 0) rfl (Nat.le_of_ble_eq_true (by kernel_rfl)))
          have e28 : F.getD 28 undef = x 5 := by (rw [hF]; exact setAll_getD (by decide) (i := 5) rfl (Nat.le_of_ble_eq_true (by kernel_rfl)))
          clear hun0 hcl
          clear hF hun d0
          obtain ⟨gb, qx, hgb, _⟩ := hcore.s5 g5 hD
          rw [qx] at e28
          have hrow := hcore.rd
          rw [hD] at hrow
          have HROW4 : Hid (OwnT W (w.heap.size + 2) 3 1 (.slice ax (q + 2) cx) (q + 2) _) := Lib.hid hrow
          have hnews : ∀ j u', [Value.int .i64 ha][j]? = some u' → W.cell? (Addr.add ⟨gb, 0, none⟩ j) = some u' := fun j u' hj => by
            have e1 : (Addr.add ⟨gb, 0, none⟩ j) = ⟨gb, j, none⟩ := by unfold Addr.add; split <;> simp_all
            rw [e1, cell_block hgb]
            simpa using hj
          have HNEWS := Lib.hid hnews
          have hbs := hcore.size
          clear hnews hrow hgb qx
          have e23' := (show F[23]?.getD undef = F.getD 23 undef by simp only [Array.getD_eq_getD_getElem?]).trans e23
          have e28' := (show F[28]?.getD undef = F.getD 28 undef by simp only [Array.getD_eq_getD_getElem?]).trans e28
          have HD := Lib.hid hD
          have HCORE := Lib.hid hcore
          clear hD hcore
          clear g0
          clear g5
          refine wpList_append_T W rfl (.tmp 23) (.tmp 28) 28 rfl (w.heap.size + 2) 3 i1 _ 1 8 Tryz.underlying28 hj0 hj1 hj2 hj3 rfl (by decide) _ (q + 2) _ e23 HROW4.out ⟨gb, 0, none⟩ 1 1 [.int .i64 ha] e28 rfl HNEWS.out (by simp [Value.oneCell']) (by unfold maxLen; omega) (by omega) (by omega) ?_
          intro v' w3 hown3 hgrow3 hwh3
          refine CoreK.mk v' (fun c hc => by cases hc) ?_ rfl
          exact HCORE.out.app1 HD.out hown3 hgrow3 hwh3 (by omega)
        · have hun := hun0 _ _ hs hD
          obtain rfl := Option.some.inj ho.symm
          obtain rfl := Option.some.inj hs.symm
          clear hdep hi hv
          have hn15 : D 15 = false := by
            cases h : D 15 with
            | false => rfl
            | true => exact absurd (hcl 15 _ rfl h ⟨7, .phase⟩ (by simp) rfl) (by rw [hD]; decide)
          have e6 : F.getD 6 undef = .slice ay (q + 2) cy := by (rw [hF]; exact (setAll_getD (by decide) (i := 15) rfl (Nat.le_of_ble_eq_true (by kernel_rfl))).trans (hun0 15 6 rfl hn15))
          clear hn15
          clear hun0 hcl
          clear hF hun
          have e6' := (show F[6]?.getD undef = F.getD 6 undef by simp only [Array.getD_eq_getD_getElem?]).trans e6
          have HD := Lib.hid hD
          have HCORE := Lib.hid hcore
          clear hD hcore
          refine core_move (.tmp 6) rfl rfl ?_
          refine CoreK.mk (F.getD 6 undef) (fun c hc => e6.trans (Option.some.inj hc)) ?_ rfl
          exact ⟨HCORE.out.old, HCORE.out.size, HCORE.out.kept, HCORE.out.rd, HCORE.out.rt, HCORE.out.ne, HCORE.out.s5, HCORE.out.s12, HCORE.out.a14, HCORE.out.a15⟩
        · have hun := hun0 _ _ hs hD
          obtain rfl := Option.some.inj ho.symm
          obtain rfl := Option.some.inj hs.symm
          clear hdep hi hv
          have e7 : F.getD 7 undef = .int .i64 (q : Int) := by (rw [hF, setAll_getD_ne (by decide)]; rfl)
          clear hun0 hcl
          clear hF hun
          have e7' := (show F[7]?.getD undef = F.getD 7 undef by simp only [Array.getD_eq_getD_getElem?]).trans e7
          have HD := Lib.hid hD
          have HCORE := Lib.hid hcore
          clear hD hcore
          refine core_move (.tmp 7) rfl rfl ?_
          refine CoreK.mk (F.getD 7 undef) (fun c hc => e7.trans (Option.some.inj hc)) ?_ rfl
          exact ⟨HCORE.out.old, HCORE.out.size, HCORE.out.kept, HCORE.out.rd, HCORE.out.rt, HCORE.out.ne, HCORE.out.s5, HCORE.out.s12, HCORE.out.a14, HCORE.out.a15⟩
        · have hun := hun0 _ _ hs hD
          obtain rfl := Option.some.inj ho.symm
          obtain rfl := Option.some.inj hs.symm
          clear hdep hi hv
          have e3 : F.getD 3 undef = .pointer (some ⟨w.heap.size + 1, 0, none⟩) := by (rw [hF, setAll_getD_ne (by decide)]; rfl)
          clear hun0 hcl
          clear hF hun
          have e3' := (show F[3]?.getD undef = F.getD 3 undef by simp only [Array.getD_eq_getD_getElem?]).trans e3
          have HD := Lib.hid hD
          have HCORE := Lib.hid hcore
          clear hD hcore
          go_wp2_with fail
          refine CoreK.mk _ (fun c hc => Option.some.inj hc) ?_ rfl
          exact ⟨HCORE.out.old, HCORE.out.size, HCORE.out.kept, HCORE.out.rd, HCORE.out.rt, HCORE.out.ne, HCORE.out.s5, HCORE.out.s12, HCORE.out.a14, HCORE.out.a15⟩
        · have hun := hun0 _ _ hs hD
          obtain rfl := Option.some.inj ho.symm
          obtain rfl := Option.some.inj hs.symm
          have g9 := hdep ⟨9, .data⟩ (by simp) rfl
          have d9 : x 9 = .pointer (some ⟨w.heap.size + 1, 2, none⟩) := hv 9 _ (by omega) g9 rfl
          have g8 := hdep ⟨8, .data⟩ (by simp) rfl
          have d8 : x 8 = .int .i64 (q : Int) := hv 8 _ (by omega) g8 rfl
          clear hdep hi hv
          have e32 : F.getD 32 undef = .pointer (some ⟨w.heap.size + 1, 2, none⟩) := by (rw [← d9, hF]; exact setAll_getD (by decide) (i := 9) rfl (Nat.le_of_ble_eq_true (by kernel_rfl)))
          have e31 : F.getD 31 undef = .int .i64 (q : Int) := by (rw [← d8, hF]; exact setAll_getD (by decide) (i := 8) rfl (Nat.le_of_ble_eq_true (by kernel_rfl)))
          clear hun0 hcl
          clear hF hun d9 d8
          have e32' := (show F[32]?.getD undef = F.getD 32 undef by simp only [Array.getD_eq_getD_getElem?]).trans e32
          have e31' := (show F[31]?.getD undef = F.getD 31 undef by simp only [Array.getD_eq_getD_getElem?]).trans e31
          have HD := Lib.hid hD
          have HCORE := Lib.hid hcore
          clear hD hcore
          clear g9
          clear g8
          go_wp2_with fail
          refine CoreK.mk _ (fun c hc => Option.some.inj hc) ?_ rfl
          exact ⟨HCORE.out.old, HCORE.out.size, HCORE.out.kept, HCORE.out.rd, HCORE.out.rt, HCORE.out.ne, HCORE.out.s5, HCORE.out.s12, HCORE.out.a14, HCORE.out.a15⟩
        · have hun := hun0 _ _ hs hD
          obtain rfl := Option.some.inj ho.symm
          obtain rfl := Option.some.inj hs.symm
          have g10 := hdep ⟨10, .data⟩ (by simp) rfl
          have d10 : x 10 = .pointer (some ⟨w.heap.size + 1, 2 + q, none⟩) := hv 10 _ (by omega) g10 rfl
          clear hdep hi hv
          have e33 : F.getD 33 undef = .pointer (some ⟨w.heap.size + 1, 2 + q, none⟩) := by (rw [← d10, hF]; exact setAll_getD (by decide) (i := 10) rfl (Nat.le_of_ble_eq_true (by kernel_rfl)))
          clear hun0 hcl
          clear hF hun d10
          have t : W.cell? ⟨w.heap.size + 1, 2 + q, none⟩ = some (.int .i64 hb) := by
            rw [cell_block (hcore.kept _ _ HBb.out (HNO.out _ (by omega)).1 (HNO.out _ (by omega)).2)]
            exact HCb.out
          have e33' := (show F[33]?.getD undef = F.getD 33 undef by simp only [Array.getD_eq_getD_getElem?]).trans e33
          have HD := Lib.hid hD
          have HCORE := Lib.hid hcore
          clear hD hcore
          clear g10
          go_wp2_with fail
          refine CoreK.mk _ (fun c hc => Option.some.inj hc) ?_ rfl
          exact ⟨HCORE.out.old, HCORE.out.size, HCORE.out.kept, HCORE.out.rd, HCORE.out.rt, HCORE.out.ne, HCORE.out.s5, HCORE.out.s12, HCORE.out.a14, HCORE.out.a15⟩
        · have hun := hun0 _ _ hs hD
          obtain rfl := Option.some.inj ho.symm
          obtain rfl := Option.some.inj hs.symm
          have g11 := hdep ⟨11, .data⟩ (by simp) rfl
          have d11 : x 11 = .int .i64 hb := hv 11 _ (by omega) g11 rfl
          clear hdep hi hv
          have e34 : F.getD 34 undef = .int .i64 hb := by (rw [← d11, hF]; exact setAll_getD (by decide) (i := 11) rfl (Nat.le_of_ble_eq_true (by kernel_rfl)))
          clear hun0 hcl
          clear hF hun d11
          have e34' := (show F[34]?.getD undef = F.getD 34 undef by simp only [Array.getD_eq_getD_getElem?]).trans e34
          have HD := Lib.hid hD
          have HCORE := Lib.hid hcore
          clear hD hcore
          clear g11
          go_wp2_with fail
          refine CoreK.mk _ (fun c hc => by cases hc) ?_ rfl
          exact HCORE.out.build12
        · have hun := hun0 _ _ hs hD
          obtain rfl := Option.some.inj ho.symm
          obtain rfl := Option.some.inj hs.symm
          have g7 := hdep ⟨7, .data⟩ (by simp) rfl
          have d7 : x 7 = .slice ay (q + 2) cy := hv 7 _ (by omega) g7 rfl
          have g12 := hdep ⟨12, .data⟩ (by simp) rfl
          have g6 := hdep ⟨6, .chain⟩ (by simp) rfl
          clear hdep hi hv
          have e30 : F.getD 30 undef = .slice ay (q + 2) cy := by (rw [← d7, hF]; exact setAll_getD (by decide) (i := 7) rfl (Nat.le_of_ble_eq_true (by kernel_rfl)))
          have e35 : F.getD 35 undef = x 12 := by (rw [hF]; exact setAll_getD (by decide) (i := 12) rfl (Nat.le_of_ble_eq_true (by kernel_rfl)))
          clear hun0 hcl
          clear hF hun d7
          obtain ⟨gb, qx, hgb, _⟩ := hcore.s12 g12 hD
          rw [qx] at e35
          have hrow := hcore.rt
          rw [hD] at hrow
          have HROW4 : Hid (OwnT W (w.heap.size + 2) 3 1 (.slice ay (q + 2) cy) (q + 2) _) := Lib.hid hrow
          have hnews : ∀ j u', [Value.int .i64 hb][j]? = some u' → W.cell? (Addr.add ⟨gb, 0, none⟩ j) = some u' := fun j u' hj => by
            have e1 : (Addr.add ⟨gb, 0, none⟩ j) = ⟨gb, j, none⟩ := by unfold Addr.add; split <;> simp_all
            rw [e1, cell_block hgb]
            simpa using hj
          have HNEWS := Lib.hid hnews
          have hbs := hcore.size
          clear hnews hrow hgb qx
          have HG6 := Lib.hid g6
          have e30' := (show F[30]?.getD undef = F.getD 30 undef by simp only [Array.getD_eq_getD_getElem?]).trans e30
          have e35' := (show F[35]?.getD undef = F.getD 35 undef by simp only [Array.getD_eq_getD_getElem?]).trans e35
          have HD := Lib.hid hD
          have HCORE := Lib.hid hcore
          clear hD hcore
          clear g7
          clear g12
          clear g6
          refine wpList_append_T W rfl (.tmp 30) (.tmp 35) 28 rfl (w.heap.size + 2) 3 i1 _ 1 8 Tryz.underlying28 hj0 hj1 hj2 hj3 rfl (by decide) _ (q + 2) _ e30 HROW4.out ⟨gb, 0, none⟩ 1 1 [.int .i64 hb] e35 rfl HNEWS.out (by simp [Value.oneCell']) (by unfold maxLen; omega) (by omega) (by omega) ?_
          intro v' w3 hown3 hgrow3 hwh3
          refine CoreK.mk v' (fun c hc => by cases hc) ?_ rfl
          exact HCORE.out.app2 HG6.out HD.out hown3 hgrow3 hwh3 (by omega)
        · have hun := hun0 _ _ hs hD
          obtain rfl := Option.some.inj ho.symm
          obtain rfl := Option.some.inj hs.symm
          have g6 := hdep ⟨6, .data⟩ (by simp) rfl
          clear hdep hi hv
          have e29 : F.getD 29 undef = x 6 := by (rw [hF]; exact setAll_getD (by decide) (i := 6) rfl (Nat.le_of_ble_eq_true (by kernel_rfl)))
          clear hun0 hcl
          clear hF hun
          have hr := hcore.rd
          rw [g6] at hr
          obtain ⟨ag, cg, qg⟩ := hr.slice
          have qg' : x 6 = .slice ag (q + 2 + 1) cg := qg
          rw [qg'] at e29
          have HG := Lib.hid (And.intro qg' g6)
          clear hr qg qg'
          have e29' := (show F[29]?.getD undef = F.getD 29 undef by simp only [Array.getD_eq_getD_getElem?]).trans e29
          have HD := Lib.hid hD
          have HCORE := Lib.hid hcore
          clear hD hcore
          clear g6
          go_wp2_with fail
          refine CoreK.mk _ (fun c hc => by cases hc) ?_ rfl
          exact ⟨HCORE.out.old, HCORE.out.size, HCORE.out.kept, HCORE.out.rd, HCORE.out.rt, HCORE.out.ne, HCORE.out.s5, HCORE.out.s12, fun _ => ⟨HG.out.2, HG.out.1.symm⟩, HCORE.out.a15⟩
        · have hun := hun0 _ _ hs hD
          obtain rfl := Option.some.inj ho.symm
          obtain rfl := Option.some.inj hs.symm
          have g13 := hdep ⟨13, .data⟩ (by simp) rfl
          clear hdep hi hv
          have e36 : F.getD 36 undef = x 13 := by (rw [hF]; exact setAll_getD (by decide) (i := 13) rfl (Nat.le_of_ble_eq_true (by kernel_rfl)))
          clear hun0 hcl
          clear hF hun
          have hr := hcore.rt
          rw [g13] at hr
          obtain ⟨ag, cg, qg⟩ := hr.slice
          have qg' : x 13 = .slice ag (q + 2 + 1) cg := qg
          rw [qg'] at e36
          have HG := Lib.hid (And.intro qg' g13)
          clear hr qg qg'
          have e36' := (show F[36]?.getD undef = F.getD 36 undef by simp only [Array.getD_eq_getD_getElem?]).trans e36
          have HD := Lib.hid hD
          have HCORE := Lib.hid hcore
          clear hD hcore
          clear g13
          go_wp2_with fail
          refine CoreK.mk _ (fun c hc => by cases hc) ?_ rfl
          exact ⟨HCORE.out.old, HCORE.out.size, HCORE.out.kept, HCORE.out.rd, HCORE.out.rt, HCORE.out.ne, HCORE.out.s5, HCORE.out.s12, HCORE.out.a14, fun _ => ⟨HG.out.2, HG.out.1.symm⟩⟩
      case tail =>
        intro x W' D F hall hv hcore hF
        have x0 := hv 0 _ (by omega) rfl
        have x1 := hv 1 _ (by omega) rfl
        have x2 := hv 2 _ (by omega) rfl
        have x3 := hv 3 _ (by omega) rfl
        have x4 := hv 4 _ (by omega) rfl
        have x7 := hv 7 _ (by omega) rfl
        have x8 := hv 8 _ (by omega) rfl
        have x9 := hv 9 _ (by omega) rfl
        have x10 := hv 10 _ (by omega) rfl
        have x11 := hv 11 _ (by omega) rfl
        have hrd := hcore.rd
        have hrt := hcore.rt
        have hne := hcore.ne
        rw [hall 6 (by omega)] at hrd hne
        rw [hall 13 (by omega)] at hrt hne
        have x14 := (hcore.a14 (hall 14 (by omega))).2
        have x15 := (hcore.a15 (hall 15 (by omega))).2
        have hnx : TwoI w ya yb (q + 1) (x 6) (x 13) W' := ⟨hcore.old, hcore.kept _ _ HBa.out (HNO.out _ (by omega)).1 (HNO.out _ (by omega)).2, hcore.kept _ _ HBb.out (HNO.out _ (by omega)).1 (HNO.out _ (by omega)).2, by rw [take_hear hq5 HCa.out, HDL.out.1]; exact hrd, by rw [take_hear hq5 HCb.out, HDL.out.2]; exact hrt, hne⟩
        have HNX := Lib.hid hnx
        simp only [setAll, setFrom, List.setIfInBounds_toArray, List.set_cons_succ, List.set_cons_zero, Nat.reduceAdd, x0, x1, x2, x3, x4, x7, x8, x9, x10, x11, x14, x15] at hF
        generalize x 5 = y5 at hF
        generalize x 6 = y6 at hF HNX
        generalize x 12 = y12 at hF
        generalize x 13 = y13 at hF HNX
        subst hF
        clear hv hall hcore hrd hrt hne hnx x14 x15 x0 x1 x2 x3 x4 x7 x8 x9 x10 x11
        go_wp2_with fail
        go_roundw
        case rel => exact ⟨q + 1, by omega, by go_num, HNX.out⟩
        case measure => simp [intOf]; omega
    · have HQ5 : Hid (q = 5) := by (have h : q = 5 := by omega); exact h
      have hq5' : ¬ (q : Int) < 5 := by omega
      clear hq5
      have hl7 : ya.all.take (5 + 2) = ya.all ∧ yb.all.take (5 + 2) = yb.all := ⟨rfl, rfl⟩
      have HX := HI.out.rx
      have HY := HI.out.ry
      rw [HQ5.out, hl7.1] at HX
      rw [HQ5.out, hl7.2] at HY
      have CX : Hid (∀ k (hk : k < 7), ∃ g, ax = some ⟨g, 0, none⟩ ∧ wr.cell? ⟨g, k, none⟩ = some (.int .i64 (ya.all.getD k 0))) := by
        have h : ∀ k (hk : k < 7), ∃ g, ax = some ⟨g, 0, none⟩ ∧ wr.cell? ⟨g, k, none⟩ = some (.int .i64 (ya.all.getD k 0)) := fun k hk => by
          obtain ⟨g, c, e, hc⟩ := HX.cell k (.int .i64 (ya.all.getD k 0)) (by rw [List.getElem?_map, List.getElem?_eq_getElem (by rw [St.all_len]; exact hk), getD_of_lt 0 (by rw [St.all_len]; exact hk)]; rfl)
          exact ⟨g, by simp at e; exact e.1, hc⟩
        exact h
      have CY : Hid (∀ k (hk : k < 7), ∃ g, ay = some ⟨g, 0, none⟩ ∧ wr.cell? ⟨g, k, none⟩ = some (.int .i64 (yb.all.getD k 0))) := by
        have h : ∀ k (hk : k < 7), ∃ g, ay = some ⟨g, 0, none⟩ ∧ wr.cell? ⟨g, k, none⟩ = some (.int .i64 (yb.all.getD k 0)) := fun k hk => by
          obtain ⟨g, c, e, hc⟩ := HY.cell k (.int .i64 (yb.all.getD k 0)) (by rw [List.getElem?_map, List.getElem?_eq_getElem (by rw [St.all_len]; exact hk), getD_of_lt 0 (by rw [St.all_len]; exact hk)]; rfl)
          exact ⟨g, by simp at e; exact e.1, hc⟩
        exact h
      have hold := HI.out.old
      clear HX HY hl7 HI
      go_wp2_with fail
      clear hq5'
      go_loopw [8] (fun i wr' => Below wr.heap.size wr wr' ∧ ∃ k : Nat, k ≤ q + 2 ∧ i = .int .i64 k ∧ ∀ j, j < k → ya.all.getD j 0 = yb.all.getD j 0) (fun i _ => q + 2 - (intOf i).toNat)
      case atStart => exact ⟨Below.refl _ _, 0, by omega, rfl, by simp⟩
      case round =>
        obtain ⟨hbr, k, hk, rfl, hinv⟩ := hrel
        have H := Lib.hid hinv
        clear hinv
        have hbw := ext_trans hold hbr
        by_cases hkq : k < q + 2
        · have hk7 : k < 7 := by have := HQ5.out; omega
          have hk7' : (k : Int) < (q : Int) + 2 := by omega
          have hk7'' : (k : Int) < ((q + 2 : Nat) : Int) := by omega
          obtain ⟨g1, rfl, c1⟩ := CX.out k hk7
          obtain ⟨g2, rfl, c2⟩ := CY.out k hk7
          have t1 := cell_up hbr c1
          have t2 := cell_up hbr c2
          have t1' : ∀ n, (wr.drewN n).cell? _ = _ := fun n => cell_up hbr c1
          have t2' : ∀ n, (wr.drewN n).cell? _ = _ := fun n => cell_up hbr c2
          have HHD := Lib.hid (ordV_head (a := ya.all) (b := yb.all) (k := k) hk7 rfl H.out)
          clear c1 c2
          generalize hxk : ya.all.getD k 0 = xk at t1 t1' HHD
          generalize hyk : yb.all.getD k 0 = yk at t2 t2' HHD
          have HXK := Lib.hid (And.intro hxk hyk)
          clear hxk hyk
          by_cases hlt : xk < yk
          · go_wp2_with fail
            go_quiet (fail)
            go_wp2_with fail
            go_ret
            exact ⟨ret_int (by rw [← HV.out, HHD.out (by omega), if_pos hlt]), below_drewN hbw _⟩
          · have dlt : decide (xk < yk) = false := decide_eq_false hlt
            by_cases hgt : yk < xk
            · go_wp2_with fail
              go_quiet (fail)
              go_wp2_with fail
              go_quiet (fail)
              go_wp2_with fail
              go_ret
              exact ⟨ret_int (by rw [← HV.out, HHD.out (by omega), if_neg (by omega)]), below_drewN (below_drewN hbw _) _⟩
            · have dgt : decide (yk < xk) = false := decide_eq_false hgt
              go_wp2_with fail
              go_quiet (fail)
              go_wp2_with fail
              go_quiet (fail)
              go_wp2_with fail
              go_roundw
              case rel =>
                exact ⟨below_drewN hbr _, k + 1, by omega, by go_num, fun j hj => by
                by_cases e : j < k
                · exact H.out j e
                · obtain rfl : j = k := by omega
                  rw [HXK.out.1, HXK.out.2]; omega⟩
              case measure => simp [intOf]; omega
        · have hk7' : ¬ (k : Int) < (q : Int) + 2 := by omega
          have HK7 : Hid (k = 7) := by (have h : k = 7 := by (have := HQ5.out; omega)); exact h
          go_wp2_with fail
          go_ret
          exact ⟨ret_int (by rw [← HV.out, ordV_none (a := ya.all) (b := yb.all) (k := k) rfl HK7.out H.out]), hbw⟩
end Go.Proofs.YtjmejfgkogjpaaaGreatDoor

namespace Go.Proofs.YtjmejfgkogjpaaaGreatDoor
open Go.RowKit Go Go.Shelf

set_option maxRecDepth 100000 in
set_option maxHeartbeats 8000000 in
theorem rmacCheck_any (m : Mac) (vf vy vt vo : Value) (w : World) (hf : IsVecs w vf m.first) (hy : IsV4 w vy m.syms) (ht : IsSteps w vt m.steps) (ho : IsV3 w vo m.out) :
    Calls Tryz.prog 49 #[.agg (macC m vf vy vt vo)] w fun e w' => e = .returned (.int .i64 (checkE m)) ∧ Below w.heap.size w w' := by
  have HF := Lib.hid hf
  have HY := Lib.hid hy
  have HO := Lib.hid ho
  obtain ⟨pf, cf, rfl, _⟩ := hf
  obtain ⟨py, cy, rfl, _⟩ := hy
  obtain ⟨po, co, rfl, _⟩ := ho
  obtain ⟨pt, ct, rfl, lt1, lt2, et⟩ := ht.at
  have ET := Lib.hid et
  clear et ht
  have HC : Hid (checkE m = if headE m then 2 else if !shapedB m then 15 else if 8192 < statesN m ∨ 65536 < m.steps.length then 5 else if !rangedB m then 2 else firstNZ m.steps.length (stepsE m)) := by exact rfl
  have HH : Hid (headE m = (!inB m.n 1 5 || !inB m.rounds 0 6 || !inB m.ins 1 8 || !inB m.outs 1 8)) := by exact rfl
  go_enter Tryz.func49, Tryz.ntmps49
  go_wp2_with fail
  refine (rin_any _ _ _ _).mono ?_
  rintro e w1 ⟨rfl, rfl⟩
  cases h1 : inB m.n 1 5
  · have HD : Hid (checkE m = 2) := by (have h : checkE m = 2 := by (rw [HC.out, HH.out, h1]; rfl)); exact h
    go_wp2_with fail
    go_ret
    exact ⟨ret_int HD.out.symm, by go_grown⟩
  go_wp2_with fail
  refine (rin_any _ _ _ _).mono ?_
  rintro e w1 ⟨rfl, rfl⟩
  cases h2 : inB m.rounds 0 6
  · have HD : Hid (checkE m = 2) := by (have h : checkE m = 2 := by (rw [HC.out, HH.out, h1, h2]; rfl)); exact h
    go_wp2_with fail
    go_ret
    exact ⟨ret_int HD.out.symm, by go_grown⟩
  go_wp2_with fail
  refine (rin_any _ _ _ _).mono ?_
  rintro e w1 ⟨rfl, rfl⟩
  cases h3 : inB m.ins 1 8
  · have HD : Hid (checkE m = 2) := by (have h : checkE m = 2 := by (rw [HC.out, HH.out, h1, h2, h3]; rfl)); exact h
    go_wp2_with fail
    go_ret
    exact ⟨ret_int HD.out.symm, by go_grown⟩
  go_wp2_with fail
  refine (rin_any _ _ _ _).mono ?_
  rintro e w1 ⟨rfl, rfl⟩
  cases h4 : inB m.outs 1 8
  · have HD : Hid (checkE m = 2) := by (have h : checkE m = 2 := by (rw [HC.out, HH.out, h1, h2, h3, h4]; rfl)); exact h
    go_wp2_with fail
    go_ret
    exact ⟨ret_int HD.out.symm, by go_grown⟩
  have HC2 : Hid (checkE m = if !shapedB m then 15 else if 8192 < statesN m ∨ 65536 < m.steps.length then 5 else if !rangedB m then 2 else firstNZ m.steps.length (stepsE m)) := by
    (have h : checkE m = if !shapedB m then 15 else if 8192 < statesN m ∨ 65536 < m.steps.length then 5 else if !rangedB m then 2 else firstNZ m.steps.length (stepsE m) := by (rw [HC.out, HH.out, h1, h2, h3, h4]; rfl)); exact h
  clear HC HH
  obtain ⟨hn1, hn2⟩ := inB_true h1
  obtain ⟨hr1, hr2⟩ := inB_true h2
  obtain ⟨hi1, hi2⟩ := inB_true h3
  obtain ⟨hu1, hu2⟩ := inB_true h4
  clear h1 h2 h3 h4
  go_wp2_with fail
  refine calls_gen (fun W => Below w.heap.size w W ∧ W.heap[w.heap.size]? = some (.cells (macC m (.slice pf m.first.length cf) (.slice py m.syms.length cy) (.slice pt m.steps.length ct) (.slice po m.out.length co)) 27)) ⟨by go_grown, alloc_new _ _⟩ (fun W0 hW0 => ?_)
  obtain ⟨hb0, hM⟩ := hW0
  have HM := Lib.hid hM; clear hM
  refine (rshaped_any m _ _ _ _ W0 ⟨hr1, by omega⟩ (HF.out.up up_ints hb0) (HY.out.up up_v3 hb0) (HO.out.up up_vecs hb0)).mono ?_
  rintro e w1 ⟨rfl, hb1⟩
  cases hsh : shapedB m
  · have HD : Hid (checkE m = 15) := by (have h : checkE m = 15 := by (rw [HC2.out, hsh]; rfl)); exact h
    go_wp2_with fail
    go_ret
    exact ⟨ret_int HD.out.symm, ext_trans hb0 hb1⟩
  have HC3 : Hid (checkE m = if 8192 < statesN m ∨ 65536 < m.steps.length then 5 else if !rangedB m then 2 else firstNZ m.steps.length (stepsE m)) := by
    (have h : checkE m = if 8192 < statesN m ∨ 65536 < m.steps.length then 5 else if !rangedB m then 2 else firstNZ m.steps.length (stepsE m) := by (rw [HC2.out, hsh]; rfl)); exact h
  clear HC2
  have HS := Lib.hid (shapedB_true hsh)
  have HSB := Lib.hid hsh
  clear hsh
  have hbw1 := ext_trans hb0 hb1
  have s1 := cell_block (block_up hb1 HM.out)
  go_wp2_with fail
  refine (rcountX_any m _ _ _ _ w1 (by have := HS.out.2.1; omega) (fun k hk => by have := HS.out.2.2.2.2.1 k hk; omega) (HO.out.up up_vecs hbw1)).mono ?_
  rintro e w2 ⟨rfl, hb2⟩
  have hbw2 := ext_trans hbw1 hb2
  have hm2 := block_up (ext_trans hb1 hb2) HM.out
  clear s1
  have s1 := cell_block hm2
  by_cases hst : 8192 < statesN m
  · have HD : Hid (checkE m = 5) := by (have h : checkE m = 5 := by (rw [HC3.out, if_pos (Or.inl hst)])); exact h
    go_wp2_with fail
    go_ret
    exact ⟨ret_int HD.out.symm, hbw2⟩
  by_cases hsl : 65536 < m.steps.length
  · have HD : Hid (checkE m = 5) := by (have h : checkE m = 5 := by (rw [HC3.out, if_pos (Or.inr hsl)])); exact h
    go_wp2_with fail
    go_ret
    exact ⟨ret_int HD.out.symm, hbw2⟩
  have HC4 : Hid (checkE m = if !rangedB m then 2 else firstNZ m.steps.length (stepsE m)) := by
    (have h : checkE m = if !rangedB m then 2 else firstNZ m.steps.length (stepsE m) := by (rw [HC3.out, if_neg (by omega)])); exact h
  clear HC3
  go_wp2_with fail
  obtain ⟨n, hshp⟩ := shp_of HSB.out (by omega)
  refine (rranged_any m _ _ _ _ w2 n hshp (by have := hshp.hn; omega) ⟨hu1, hu2⟩ ⟨hr1, by omega⟩ (HF.out.up up_ints hbw2) (HY.out.up up_v3 hbw2) (HO.out.up up_vecs hbw2)).mono ?_
  rintro e w3 ⟨rfl, hb3⟩
  have hbw3 := ext_trans hbw2 hb3
  clear hshp
  cases hrg : rangedB m
  · have HD : Hid (checkE m = 2) := by (have h : checkE m = 2 := by (rw [HC4.out, hrg]; rfl)); exact h
    go_wp2_with fail
    go_ret
    exact ⟨ret_int HD.out.symm, hbw3⟩
  have HV : Hid (checkE m = firstNZ m.steps.length (stepsE m)) := by
    (have h : checkE m = firstNZ m.steps.length (stepsE m) := by (rw [HC4.out, hrg]; rfl)); exact h
  clear HC4 hrg s1
  have HM3 := Lib.hid (block_up hb3 hm2)
  have s1 := cell_block HM3.out
  clear hm2
  go_wp2_with fail
  clear s1
  go_loopw [3] (fun i wr => Below w3.heap.size w3 wr ∧ ∃ k : Nat, k ≤ m.steps.length ∧ i = .int .i64 k ∧ ∀ j, j < k → stepsE m j = 0) (fun i _ => m.steps.length - (intOf i).toNat)
  case atStart => exact ⟨Below.refl _ _, 0, by omega, rfl, by simp⟩
  case round =>
    obtain ⟨hbr, k, hk, rfl, hinv⟩ := hrel
    have H := Lib.hid hinv; clear hinv
    have t1 := cell_block (block_up hbr HM3.out)
    have hbW := ext_trans hbw3 hbr
    by_cases hlt : k < m.steps.length
    · obtain ⟨b1, o1, rfl, hsk⟩ := ET.out k hlt
      have hin := step_in hsk
      obtain ⟨c0, c1, c2, c3, c4, c5, c6, c7⟩ := hsk
      have hlt' : (k : Int) < (m.steps.length : Int) := by omega
      have HG := Lib.hid (getD_of_lt default hlt)
      generalize hsk : m.steps[k] = s at hin c0 c1 c2 c3 c4 c5 c6 c7 HG
      clear hsk
      have q1 : ∀ x : ExtW wr, ∀ o, x.val.cell? ⟨w.heap.size, o, none⟩ = _ := fun x => cell_block (block_up (ext_trans hbr x.ext) HM3.out)
      have d0 : ∀ x : ExtW wr, x.val.cell? ⟨b1, o1 + k * 8, none⟩ = _ := fun x => x.cell (cell_up hbW c0.1)
      have d1 : ∀ x : ExtW wr, x.val.cell? ⟨b1, o1 + k * 8 + 1, none⟩ = _ := fun x => x.cell (cell_up hbW c1.1)
      have d2 : ∀ x : ExtW wr, x.val.cell? ⟨b1, o1 + k * 8 + 2, none⟩ = _ := fun x => x.cell (cell_up hbW c2.1)
      have d3 : ∀ x : ExtW wr, x.val.cell? ⟨b1, o1 + k * 8 + 3, none⟩ = _ := fun x => x.cell (cell_up hbW c3.1)
      have d4 : ∀ x : ExtW wr, x.val.cell? ⟨b1, o1 + k * 8 + 4, none⟩ = _ := fun x => x.cell (cell_up hbW c4.1)
      have d5 : ∀ x : ExtW wr, x.val.cell? ⟨b1, o1 + k * 8 + 5, none⟩ = _ := fun x => x.cell (cell_up hbW c5.1)
      have d6 : ∀ x : ExtW wr, x.val.cell? ⟨b1, o1 + k * 8 + 6, none⟩ = _ := fun x => x.cell (cell_up hbW c6.1)
      have d7 : ∀ x : ExtW wr, x.val.cell? ⟨b1, o1 + k * 8 + 7, none⟩ = _ := fun x => x.cell (cell_up hbW c7.1)
      have HCALL := Lib.hid (show ∀ x : ExtW wr, Calls Tryz.prog 90 #[.agg (macC m (.slice pf m.first.length cf) (.slice py m.syms.length cy) (.slice (some ⟨b1, o1, none⟩) m.steps.length ct) (.slice po m.out.length co)), s.v] x.val fun e w'' => e = .returned (.int .i64 (stepE m s)) ∧ ∃ p : ExtW wr, w'' = p.val from fun x => Calls.ext_of (rstep_any m _ _ _ _ s hin x.val ⟨hn1, hn2⟩ ⟨hr1, hr2⟩ HS.out.2.1 HS.out.2.2.2.2.1 (HO.out.up up_vecs (ext_trans hbW x.ext))))
      have HO4 : Hid (stepsE m k = if stepE m s ≠ 0 then stepE m s else if 0 < k ∧ 0 ≤ orderI (m.steps.getD (k - 1) default) s then 14 else 0) := by
        (have h : stepsE m k = if stepE m s ≠ 0 then stepE m s else if 0 < k ∧ 0 ≤ orderI (m.steps.getD (k - 1) default) s then 14 else 0 := by (unfold stepsE; rw [HG.out])); exact h
      generalize stepE m s = ev at HO4 HCALL
      go_wp2_with fail
      refine wp_region_quiet_ext (by kernel_rfl) (by kernel_rfl) ?_
      repeat (go_big_quiet_step ((go_at_call 90; exact HCALL.out _)))
      refine wpQuiet_nil ?_
      intro _ hw'
      obtain ⟨xq, hw''⟩ := hw'
      subst hw''
      clear t1 q1 d0 d1 d2 d3 d4 d5 d6 d7 HCALL
      have hWU := ext_trans hbW xq.ext
      have hrU := ext_trans hbr xq.ext
      by_cases hev : ev = 0
      case neg =>
        have hev' : (ev != 0) = true := by simpa using hev
        go_wp2_with fail
        go_ret
        exact ⟨ret_int (by rw [HV.out, ← firstNZ_hit k ev hlt H.out (by rw [HO4.out, if_pos hev]) hev]), hWU⟩
      subst hev
      go_wp2_with fail
      by_cases hk0 : k = 0
      · have HO5 : Hid (stepsE m k = 0) := by (have h : stepsE m k = 0 := by (rw [HO4.out, if_neg (by simp), if_neg (by omega)])); exact h
        have hd : decide ((0 : Int) < (k : Int)) = false := by simp; omega
        have hd2 : decide (0 < k) = false := by simp; omega
        clear HO4 hk0
        refine wp_region_quiet_ext (by kernel_rfl) (by kernel_rfl) ?_
        repeat (go_big_quiet_step (fail))
        refine wpQuiet_nil ?_
        intro _ hw'
        obtain ⟨xr, hw''⟩ := hw'
        subst hw''
        clear hd hd2
        go_wp2_with fail
        go_roundw
        case rel => exact ⟨ext_trans hrU xr.ext, k + 1, by omega, by go_num, below_succ H.out HO5.out⟩
        case measure => simp [intOf]; omega
      · obtain ⟨j, hj⟩ : ∃ j, k = j + 1 := ⟨k - 1, by omega⟩
        have hjl : j < m.steps.length := by omega
        have hjl' : (j : Int) < (m.steps.length : Int) := by omega
        have HJ := Lib.hid hj
        obtain ⟨b2, o2, e2, hsj⟩ := ET.out j hjl
        obtain ⟨rfl, rfl⟩ : b1 = b2 ∧ o1 = o2 := by simpa using e2
        clear e2
        have hinj := step_in hsj
        have HGJ := Lib.hid (getD_of_lt default hjl)
        obtain ⟨a0, a1, a2, a3, a4, a5, a6, a7⟩ := hsj
        generalize hsj : m.steps[j] = sj at hinj a0 a1 a2 a3 a4 a5 a6 a7 HGJ
        clear hsj
        have hd : decide ((0 : Int) < (k : Int)) = true := by simp; omega
        have hd2 : 0 < k := by omega
        have HO1 : Hid (stepsE m k = if 0 ≤ orderI sj s then 14 else 0) := by
          have h : stepsE m k = if 0 ≤ orderI sj s then 14 else 0 := by
            rw [HO4.out, if_neg (by simp)]
            have e : k - 1 = j := by omega
            rw [e, HGJ.out]
            grind
          exact h
        clear HO4 hk0 hj
        have hw1 : IntKind.i64.wrap ((k : Int) - 1) = (j : Int) := by rw [HJ.out]; rw [IntWalk.i64_in _ (by omega)]; omega
        have q1 : ∀ x : ExtW xq.val, ∀ o, x.val.cell? ⟨w.heap.size, o, none⟩ = _ := fun x => cell_block (block_up (ext_trans hrU x.ext) HM3.out)
        have f0 : ∀ x : ExtW xq.val, x.val.cell? ⟨b1, o1 + k * 8, none⟩ = _ := fun x => x.cell (cell_up hWU c0.1)
        have f1 : ∀ x : ExtW xq.val, x.val.cell? ⟨b1, o1 + k * 8 + 1, none⟩ = _ := fun x => x.cell (cell_up hWU c1.1)
        have f2 : ∀ x : ExtW xq.val, x.val.cell? ⟨b1, o1 + k * 8 + 2, none⟩ = _ := fun x => x.cell (cell_up hWU c2.1)
        have f3 : ∀ x : ExtW xq.val, x.val.cell? ⟨b1, o1 + k * 8 + 3, none⟩ = _ := fun x => x.cell (cell_up hWU c3.1)
        have f4 : ∀ x : ExtW xq.val, x.val.cell? ⟨b1, o1 + k * 8 + 4, none⟩ = _ := fun x => x.cell (cell_up hWU c4.1)
        have f5 : ∀ x : ExtW xq.val, x.val.cell? ⟨b1, o1 + k * 8 + 5, none⟩ = _ := fun x => x.cell (cell_up hWU c5.1)
        have f6 : ∀ x : ExtW xq.val, x.val.cell? ⟨b1, o1 + k * 8 + 6, none⟩ = _ := fun x => x.cell (cell_up hWU c6.1)
        have f7 : ∀ x : ExtW xq.val, x.val.cell? ⟨b1, o1 + k * 8 + 7, none⟩ = _ := fun x => x.cell (cell_up hWU c7.1)
        have g0 : ∀ x : ExtW xq.val, x.val.cell? ⟨b1, o1 + j * 8, none⟩ = _ := fun x => x.cell (cell_up hWU a0.1)
        have g1 : ∀ x : ExtW xq.val, x.val.cell? ⟨b1, o1 + j * 8 + 1, none⟩ = _ := fun x => x.cell (cell_up hWU a1.1)
        have g2 : ∀ x : ExtW xq.val, x.val.cell? ⟨b1, o1 + j * 8 + 2, none⟩ = _ := fun x => x.cell (cell_up hWU a2.1)
        have g3 : ∀ x : ExtW xq.val, x.val.cell? ⟨b1, o1 + j * 8 + 3, none⟩ = _ := fun x => x.cell (cell_up hWU a3.1)
        have g4 : ∀ x : ExtW xq.val, x.val.cell? ⟨b1, o1 + j * 8 + 4, none⟩ = _ := fun x => x.cell (cell_up hWU a4.1)
        have g5 : ∀ x : ExtW xq.val, x.val.cell? ⟨b1, o1 + j * 8 + 5, none⟩ = _ := fun x => x.cell (cell_up hWU a5.1)
        have g6 : ∀ x : ExtW xq.val, x.val.cell? ⟨b1, o1 + j * 8 + 6, none⟩ = _ := fun x => x.cell (cell_up hWU a6.1)
        have g7 : ∀ x : ExtW xq.val, x.val.cell? ⟨b1, o1 + j * 8 + 7, none⟩ = _ := fun x => x.cell (cell_up hWU a7.1)
        have HCALL := Lib.hid (show ∀ x : ExtW xq.val, Calls Tryz.prog 91 #[sj.v, s.v] x.val fun e w'' => e = .returned (.int .i64 (orderI sj s)) ∧ ∃ p : ExtW xq.val, w'' = p.val from fun x => Calls.ext_of (rorder_any sj s _))
        generalize orderI sj s = oo at HCALL HO1
        clear c0 c1 c2 c3 c4 c5 c6 c7 a0 a1 a2 a3 a4 a5 a6 a7
        refine wp_region_quiet_ext (by kernel_rfl) (by kernel_rfl) ?_
        repeat (go_big_quiet_step ((go_at_call 91; exact HCALL.out _)))
        refine wpQuiet_nil ?_
        intro _ hw'
        obtain ⟨xr, hw''⟩ := hw'
        subst hw''
        clear q1 f0 f1 f2 f3 f4 f5 f6 f7 g0 g1 g2 g3 g4 g5 g6 g7 hd hd2
        have hWX := ext_trans hWU xr.ext
        by_cases hoo : 0 ≤ oo
        · go_wp2_with fail
          go_ret
          exact ⟨ret_int (by rw [HV.out, ← firstNZ_hit k 14 hlt H.out (by rw [HO1.out, if_pos hoo]) (by decide)]), hWX⟩
        · have HO5 : Hid (stepsE m k = 0) := by (have h : stepsE m k = 0 := by (rw [HO1.out, if_neg hoo])); exact h
          go_wp2_with fail
          go_roundw
          case rel => exact ⟨ext_trans hrU xr.ext, k + 1, by omega, by go_num, below_succ H.out HO5.out⟩
          case measure => simp [intOf]; omega
    · go_wp2_with fail
      go_ret
      exact ⟨ret_int (by rw [HV.out, firstNZ_zero]; intro j hj; exact H.out j (by omega)), hbW⟩
end Go.Proofs.YtjmejfgkogjpaaaGreatDoor

namespace Go.Proofs.YtjmejfgkogjpaaaGreatDoor
open Go.RowKit Go Go.Shelf

theorem stepTo_at {m : Mac} {x : Pl} {k : Nat} (hk : k < m.steps.length) (h : ∀ j, j < k → decide (x = (m.steps.getD j default).pl) = false) (e : x = m.steps[k].pl) : stepTo m x = some m.steps[k].to := by
  unfold stepTo
  rw [(List.find?_eq_some_iff_getElem (xs := m.steps) (p := fun s => decide (x = s.pl)) (b := m.steps[k])).2 ⟨by simpa using e, k, hk, rfl, fun j hj => by
    have := h j hj
    rw [getD_of_lt default (by omega)] at this
    simpa using this⟩]
  rfl
theorem stepTo_none {m : Mac} {x : Pl} (h : ∀ j, j < m.steps.length → decide (x = (m.steps.getD j default).pl) = false) : stepTo m x = none := by
  unfold stepTo
  rw [List.find?_eq_none.2 fun s hs => ?_]
  · rfl
  · obtain ⟨j, hj, rfl⟩ := List.getElem_of_mem hs
    have := h j hj
    rw [getD_of_lt default hj] at this
    simpa using this
abbrev arrV (h0 h1 h2 h3 h4 : Int) : Value := .agg #[.int .i64 h0, .int .i64 h1, .int .i64 h2, .int .i64 h3, .int .i64 h4]
theorem eql_arr (a0 a1 a2 a3 a4 b0 b1 b2 b3 b4 : Int) (w : World) : (binOp .eql 45 (arrV a0 a1 a2 a3 a4) (arrV b0 b1 b2 b3 b4)).run Tryz.prog w = .ok (.bool (decide (a0 = b0 ∧ a1 = b1 ∧ a2 = b2 ∧ a3 = b3 ∧ a4 = b4))) w := by
  rw [run_eql_struct, eqIn_arr 9998]; rfl
theorem pl_ne {s : St} {R p h0 h1 h2 h3 h4 : Int} : (⟨R, p, h0, h1, h2, h3, h4⟩ : Pl) = s.pl ↔ s.rd = R ∧ s.pr = p ∧ (s.h0 = h0 ∧ s.h1 = h1 ∧ s.h2 = h2 ∧ s.h3 = h3 ∧ s.h4 = h4) := by
  unfold St.pl
  rw [Pl.mk.injEq]
  grind

set_option maxRecDepth 100000 in
set_option maxHeartbeats 4000000 in
theorem rfind_any (m : Mac) (vf vy vt vo : Value) (R p h0 h1 h2 h3 h4 : Int) (w : World) (hf : IsVecs w vf m.first) (hy : IsV4 w vy m.syms) (ht : IsSteps w vt m.steps) (ho : IsV3 w vo m.out) :
    Calls Tryz.prog 95 #[.agg (macC m vf vy vt vo), .int .i64 R, .int .i64 p, arrV h0 h1 h2 h3 h4] w fun e w' => e = .returned (.int .i64 ((stepTo m ⟨R, p, h0, h1, h2, h3, h4⟩).getD (-1))) ∧ Below w.heap.size w w' := by
  obtain ⟨pf, cf, rfl, _⟩ := hf.at
  obtain ⟨py, cy, rfl, _⟩ := hy.at
  obtain ⟨po, co, rfl, _⟩ := ho.at
  obtain ⟨pt, ct, rfl, lt1, lt2, et⟩ := ht.at
  have ET := Lib.hid et
  clear hf hy ht ho et
  obtain ⟨rv, hrv⟩ : ∃ rv, (stepTo m ⟨R, p, h0, h1, h2, h3, h4⟩).getD (-1) = rv := ⟨_, rfl⟩
  rw [hrv]
  have HV := Lib.hid hrv
  clear hrv
  go_enter Tryz.func95, Tryz.ntmps95
  go_wp2_with fail
  refine wp_gen (fun W => Below w.heap.size w W ∧ W.heap[w.heap.size]? = some (.cells (macC m (.slice pf m.first.length cf) (.slice py m.syms.length cy) (.slice pt m.steps.length ct) (.slice po m.out.length co)) 27) ∧ ∃ ty, W.heap[w.heap.size + 1]? = some (.cells #[.int .i64 h0, .int .i64 h1, .int .i64 h2, .int .i64 h3, .int .i64 h4] ty)) ⟨by go_grown, alloc_old _ (alloc_new _ _), _, by simpa using alloc_new (w.alloc _) _⟩ (fun W0 hW0 => ?_)
  obtain ⟨hb0, hM, ty, hA⟩ := hW0
  have HM := Lib.hid hM
  have HA := Lib.hid hA
  clear hM hA
  go_loopw [9] (fun i wr => Below W0.heap.size W0 wr ∧ ∃ k : Nat, k ≤ m.steps.length ∧ i = .int .i64 k ∧ ∀ j, j < k → decide ((⟨R, p, h0, h1, h2, h3, h4⟩ : Pl) = (m.steps.getD j default).pl) = false) (fun i _ => m.steps.length - (intOf i).toNat)
  case atStart => exact ⟨Below.refl _ _, 0, by omega, rfl, by simp⟩
  case round =>
    obtain ⟨hbr, k, hk, rfl, hinv⟩ := hrel
    have H := Lib.hid hinv
    clear hinv
    have hbw := ext_trans hb0 hbr
    have t1 := cell_block (block_up hbr HM.out)
    have t2 := cell_block (block_up hbr HA.out)
    have hl1 := block_lt (block_up hbr HM.out)
    have hl2 := block_lt (block_up hbr HA.out)
    by_cases hlt : k < m.steps.length
    · obtain ⟨b1, o1, rfl, hsk⟩ := ET.out k hlt
      obtain ⟨c0, c1, c2, c3, c4, c5, c6, c7⟩ := hsk
      have d0 := cell_up hbw c0.1
      have d1 := cell_up hbw c1.1
      have d2 := cell_up hbw c2.1
      have d3 := cell_up hbw c3.1
      have d4 := cell_up hbw c4.1
      have d5 := cell_up hbw c5.1
      have d6 := cell_up hbw c6.1
      have d7 := cell_up hbw c7.1
      clear c0 c1 c2 c3 c4 c5 c6 c7
      have HG := Lib.hid (getD_of_lt default hlt)
      have HHIT := Lib.hid (stepTo_at (m := m) (x := ⟨R, p, h0, h1, h2, h3, h4⟩) hlt H.out)
      have HPL : Hid ((⟨R, p, h0, h1, h2, h3, h4⟩ : Pl) = m.steps[k].pl ↔ _) := Lib.hid (pl_ne (s := m.steps[k]))
      generalize hsk : m.steps[k] = s at d0 d1 d2 d3 d4 d5 d6 d7 HG HHIT HPL
      clear hsk
      by_cases e1 : s.rd = R
      case neg =>
        have e1' : (s.rd == R) = false := by simpa using e1
        go_wp2_with fail
        go_roundw
        case rel => exact ⟨ext_trans hbr (by go_grown), k + 1, by omega, by go_num, below_succ H.out (by rw [HG.out]; exact decide_eq_false fun h => e1 (HPL.out.1 h).1)⟩
        case measure => simp [intOf]; omega
      have e1' : (s.rd == R) = true := by simpa using e1
      have HE1 := Lib.hid e1
      clear e1
      by_cases e2 : s.pr = p
      case neg =>
        have e2' : (s.pr == p) = false := by simpa using e2
        go_wp2_with fail
        go_roundw
        case rel => exact ⟨ext_trans hbr (by go_grown), k + 1, by omega, by go_num, below_succ H.out (by rw [HG.out]; exact decide_eq_false fun h => e2 (HPL.out.1 h).2.1)⟩
        case measure => simp [intOf]; omega
      have e2' : (s.pr == p) = true := by simpa using e2
      have HE2 := Lib.hid e2
      clear e2
      have hea := fun w => eql_arr s.h0 s.h1 s.h2 s.h3 s.h4 h0 h1 h2 h3 h4 w
      by_cases e3 : s.h0 = h0 ∧ s.h1 = h1 ∧ s.h2 = h2 ∧ s.h3 = h3 ∧ s.h4 = h4
      case neg =>
        rw [decide_eq_false e3] at hea
        have HE3 := Lib.hid e3
        clear e3
        go_wp2_with fail
        go_roundw
        case rel => exact ⟨ext_trans hbr (by go_grown), k + 1, by omega, by go_num, below_succ H.out (by rw [HG.out]; exact decide_eq_false fun h => HE3.out (HPL.out.1 h).2.2)⟩
        case measure => simp [intOf]; omega
      rw [decide_eq_true e3] at hea
      have HE3 := Lib.hid e3
      clear e3
      go_wp2_with fail
      go_ret
      exact ⟨ret_int (by rw [← HV.out, HHIT.out (HPL.out.2 ⟨HE1.out, HE2.out, HE3.out⟩)]; rfl), ext_trans hbw (by go_grown)⟩
    · go_wp2_with fail
      go_ret
      exact ⟨ret_int (by rw [← HV.out, stepTo_none (fun j hj => H.out j (by omega))]; rfl), hbw⟩
end Go.Proofs.YtjmejfgkogjpaaaGreatDoor
