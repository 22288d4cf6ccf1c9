/-
  Parts of the proof, in order. Contract of the program's monitor.Verdict. Conditions: the arguments read as a problem, a machine and a trace; there are fewer than 2^40 moves. The walk of MonitorAgrees: it returns true. Conditions: the arguments read as a problem, a machine and a trace.
-/
import Derived.Test.YtjmejfgkogjpaaaGreatJ16
namespace Go.Proofs.YtjmejfgkogjpaaaGreat
open Go.RowKit Go Go.Shelf
attribute [local go_sem] Oper.semAt_some

def verdR (p : Pb) (m : Mac) (t : Tr) : Int × Int :=
  if probE p ≠ 0 then (0, probE p) else if checkE m ≠ 0 then (0, checkE m) else if m.n ≠ p.t.n ∨ m.rounds ≠ p.rounds ∨ m.ins ≠ p.t.ins ∨ m.outs ≠ p.t.outs then (0, 22)
  else if traceE t ≠ 0 then (0, traceE t) else if findE p.t t.inp < 0 then (0, 6) else if (judgeR p (findE p.t t.inp) t.word t.dec).1 = 0 ∧ replayE m t ≠ 0 then (4, 0) else ((judgeR p (findE p.t t.inp) t.word t.dec).1, 0)
theorem find_len {t : Tk} {inp : List Int} (h : taskE t = 0) (hf : ¬ findE t inp < 0) : (inp.length : Int) = t.n := by
  unfold findE at hf
  rcases firstIx_cases t.cases.length (fun i => eqV (t.cases.getD i default).inp inp) with ⟨e, _⟩ | ⟨k, hk, e, he, _⟩
  · omega
  · have h1 := ((task_ok h).2.2.2.2 t.cases[k] (List.getElem_mem hk)).inp
    rw [getD_of_lt default hk] at he
    have h2 : t.cases[k].inp = inp := by simpa [eqV] using he
    rw [← h2]; exact h1
theorem trace_dec {t : Tr} (h : traceE t = 0) : t.dec.length = t.inp.length := by
  unfold traceE decisionsE at h
  grind

set_option maxRecDepth 100000 in
set_option maxHeartbeats 4000000 in
theorem verdict_any (p : Pb) (vc vs : Value) (m : Mac) (vf vy vt vo : Value) (t : Tr) (ui uw us um ud ut : Value) (w : World) (hc : IsCases w vc p.t.cases) (hs : IsStates w vs p.a.states) (hN : movesN p.a.states < 1099511627776) (hf : IsVecs w vf m.first) (hy : IsV4 w vy m.syms) (ht : IsSteps w vt m.steps) (ho : IsV3 w vo m.out) (hT : IsTr w t ui uw us um ud ut) :
    Calls Tryz.prog 8 #[pbV p vc vs, .agg (macC m vf vy vt vo), .agg (trC ui uw us um ud ut)] w fun e w' => e = .returned (.tuple #[.int .i64 (verdR p m t).1, .int .i64 (verdR p m t).2]) ∧ Below w.heap.size w w' := by
  have HC := Lib.hid hc
  have HS := Lib.hid hs
  have HF := Lib.hid hf
  have HY := Lib.hid hy
  have HM := Lib.hid ht
  have HO := Lib.hid ho
  have HT := Lib.hid hT
  obtain ⟨pc, cc, rfl, _⟩ := hc.at
  obtain ⟨ps, cs, rfl, _⟩ := hs.at
  obtain ⟨pf, cf, rfl, _⟩ := hf.at
  obtain ⟨py, cy, rfl, _⟩ := hy.at
  obtain ⟨pt, ct, rfl, _⟩ := ht.at
  obtain ⟨po, co, rfl, _⟩ := ho.at
  obtain ⟨k1, k2, k3, k4, k5, k6⟩ := hT
  obtain ⟨q1, d1, rfl, _⟩ := k1.at
  obtain ⟨q2, d2, rfl, _⟩ := k2.at
  obtain ⟨q3, d3, rfl, _⟩ := k3.at
  obtain ⟨q4, d4, rfl, _⟩ := k4.at
  obtain ⟨q5, d5, rfl, _⟩ := k5.at
  obtain ⟨q6, d6, rfl, _⟩ := k6.at
  clear hc hs hf hy ht ho k1 k2 k3 k4 k5 k6
  have HV : Hid (verdR p m t = if probE p ≠ 0 then (0, probE p) else if checkE m ≠ 0 then (0, checkE m) else if m.n ≠ p.t.n ∨ m.rounds ≠ p.rounds ∨ m.ins ≠ p.t.ins ∨ m.outs ≠ p.t.outs then (0, 22) else if traceE t ≠ 0 then (0, traceE t) else if findE p.t t.inp < 0 then (0, 6) else if (judgeR p (findE p.t t.inp) t.word t.dec).1 = 0 ∧ replayE m t ≠ 0 then (4, 0) else ((judgeR p (findE p.t t.inp) t.word t.dec).1, 0)) := by exact rfl
  go_enter Tryz.func8, Tryz.ntmps8
  go_wp2_with fail
  refine calls_gen (fun W => Below w.heap.size w W ∧ W.heap[w.heap.size]? = some (.cells (pbC p (.slice pc p.t.cases.length cc) (.slice ps p.a.states.length cs)) 29) ∧ W.heap[w.heap.size + 1]? = some (.cells (macC m (.slice pf m.first.length cf) (.slice py m.syms.length cy) (.slice pt m.steps.length ct) (.slice po m.out.length co)) 35) ∧ W.heap[w.heap.size + 1 + 1]? = some (.cells (trC (.slice q1 t.inp.length d1) (.slice q2 t.word.length d2) (.slice q3 t.states.length d3) (.slice q4 t.msgs.length d4) (.slice q5 t.dec.length d5) (.slice q6 t.times.length d6)) 40)) ⟨by go_grown, alloc_old _ (alloc_old _ (alloc_new _ _)), alloc_old _ (alloc2_new _ _ _), alloc3_new _ _ _ _⟩ (fun W0 hW0 => ?_)
  obtain ⟨hb0, hA0, hB0, hC0⟩ := hW0
  have HA0 := Lib.hid hA0
  have HB0 := Lib.hid hB0
  have HC0 := Lib.hid hC0
  clear hA0 hB0 hC0
  refine (execCheck_any p _ _ W0 (HC.out.up up_case hb0) (HS.out.up up_moves hb0) hN).mono ?_
  rintro e w1 ⟨rfl, hb1'⟩
  have hb1 := ext_trans hb0 hb1'
  by_cases hp : probE p = 0
  case neg =>
    generalize probE p = ep at hp HV
    have hp' : (ep != 0) = true := by simpa using hp
    go_wp2_with fail
    go_ret2
    refine ⟨ret_pair ?_ ?_, hb1⟩ <;> rw [HV.out, if_pos hp]
  have HP := Lib.hid hp
  rw [hp] at HV ⊢
  clear hp
  have s1 := cell_block (block_up hb1' HB0.out)
  go_wp2_with fail
  clear s1
  refine (macCheck_any m _ _ _ _ w1 (HF.out.up up_ints hb1) (HY.out.up up_v3 hb1) (HM.out.up up_step hb1) (HO.out.up up_vecs hb1)).mono ?_
  rintro e w2 ⟨rfl, hb2'⟩
  have hb2 := ext_trans hb1 hb2'
  have hq2 := ext_trans hb1' hb2'
  generalize checkE m = ec at HV
  by_cases hc : ec = 0
  case neg =>
    have hc' : (ec != 0) = true := by simpa using hc
    go_wp2_with fail
    go_ret2
    refine ⟨ret_pair ?_ ?_, hb2⟩ <;> rw [HV.out, if_neg (by simp), if_pos hc]
  subst hc
  have s1 := cell_block (block_up hq2 HA0.out)
  have s2 := cell_block (block_up hq2 HB0.out)
  by_cases hm1 : m.n = p.t.n
  case neg =>
    have hm1' : (m.n != p.t.n) = true := by simpa using hm1
    go_wp2_with fail
    go_ret2
    refine ⟨ret_pair ?_ ?_, hb2⟩ <;> rw [HV.out, if_neg (by simp), if_neg (by simp), if_pos (by simp [hm1])]
  have hm1' : (m.n != p.t.n) = false := by simpa using hm1
  have HM1 := Lib.hid hm1
  clear hm1
  by_cases hm2 : m.rounds = p.rounds
  case neg =>
    have hm2' : (m.rounds != p.rounds) = true := by simpa using hm2
    go_wp2_with fail
    go_ret2
    refine ⟨ret_pair ?_ ?_, hb2⟩ <;> rw [HV.out, if_neg (by simp), if_neg (by simp), if_pos (by simp [hm2])]
  have hm2' : (m.rounds != p.rounds) = false := by simpa using hm2
  have HM2 := Lib.hid hm2
  clear hm2
  by_cases hm3 : m.ins = p.t.ins
  case neg =>
    have hm3' : (m.ins != p.t.ins) = true := by simpa using hm3
    go_wp2_with fail
    go_ret2
    refine ⟨ret_pair ?_ ?_, hb2⟩ <;> rw [HV.out, if_neg (by simp), if_neg (by simp), if_pos (by simp [hm3])]
  have hm3' : (m.ins != p.t.ins) = false := by simpa using hm3
  have HM3 := Lib.hid hm3
  clear hm3
  by_cases hm4 : m.outs = p.t.outs
  case neg =>
    have hm4' : (m.outs != p.t.outs) = true := by simpa using hm4
    go_wp2_with fail
    go_ret2
    refine ⟨ret_pair ?_ ?_, hb2⟩ <;> rw [HV.out, if_neg (by simp), if_neg (by simp), if_pos (by simp [hm4])]
  have hm4' : (m.outs != p.t.outs) = false := by simpa using hm4
  have HM4 := Lib.hid hm4
  clear hm4
  have HVM : Hid (¬ (m.n ≠ p.t.n ∨ m.rounds ≠ p.rounds ∨ m.ins ≠ p.t.ins ∨ m.outs ≠ p.t.outs)) := by
    have h : ¬ (m.n ≠ p.t.n ∨ m.rounds ≠ p.rounds ∨ m.ins ≠ p.t.ins ∨ m.outs ≠ p.t.outs) := by
      simp [HM1.out, HM2.out, HM3.out, HM4.out]
    exact h
  rw [if_neg HVM.out] at HV
  have s3 := cell_block (block_up hq2 HC0.out)
  go_wp2_with fail
  clear s1 s2 s3 hm1' hm2' hm3' hm4'
  refine (trCheck_any t _ _ _ _ _ _ w2 (HT.out.up hb2)).mono ?_
  rintro e w3 ⟨rfl, hb3'⟩
  have hb3 := ext_trans hb2 hb3'
  have hq3 := ext_trans hq2 hb3'
  by_cases hc : traceE t = 0
  case neg =>
    generalize traceE t = et at HV hc
    have hc' : (et != 0) = true := by simpa using hc
    go_wp2_with fail
    go_ret2
    refine ⟨ret_pair ?_ ?_, hb3⟩ <;> rw [HV.out, if_neg (by simp), if_neg (by simp), if_pos hc]
  have HTE := Lib.hid hc
  rw [hc] at HV ⊢
  clear hc
  have s1 := cell_block (block_up hq3 HA0.out)
  have s3 := cell_block (block_up hq3 HC0.out)
  go_wp2_with fail
  clear s1 s3
  refine (find_any p.t _ _ t.inp w3 (HC.out.up up_case hb3) (HT.out.inp.up up_int hb3)).mono ?_
  rintro e w4 ⟨rfl, hb4'⟩
  have hb4 := ext_trans hb3 hb4'
  have hq4 := ext_trans hq3 hb4'
  have HFR : Hid (findR p.t t.inp = if findE p.t t.inp < 0 then (0, 6) else (findE p.t t.inp, 0)) := by exact rfl
  by_cases hf : findE p.t t.inp < 0
  · have hfr : findR p.t t.inp = (0, 6) := by rw [HFR.out, if_pos hf]
    rw [hfr]
    have HF := Lib.hid hf
    clear hfr hf
    go_wp2_with fail
    go_ret2
    refine ⟨ret_pair ?_ ?_, hb4⟩ <;> rw [HV.out, if_neg (by simp), if_neg (by simp), if_neg (by simp), if_pos HF.out]
  have hfr : findR p.t t.inp = (findE p.t t.inp, 0) := by rw [HFR.out, if_neg hf]
  rw [hfr]
  have HFI := Lib.hid hf
  clear hfr hf HFR
  have s1 := cell_block (block_up hq4 HA0.out)
  have s3 := cell_block (block_up hq4 HC0.out)
  go_wp2_with fail
  clear s1 s3
  refine (newScene_any p _ _ _ _ _ _ _ _ t.word _ _ _ w4 (HT.out.word.up up_round hb4)).mono ?_
  rintro e w5 ⟨rfl, hb5'⟩
  have hb5 := ext_trans hb4 hb5'
  have hq5 := ext_trans hq4 hb5'
  go_wp2_with fail
  obtain ⟨ht, ha, _⟩ := prob_ok HP.out
  have hln : (t.dec.length : Int) = p.t.n := by
    have h1 := find_len ht (inp := t.inp) (by have := HFI.out; omega)
    have h2 := trace_dec HTE.out
    omega
  refine (judge_any p _ _ (findE p.t t.inp) _ t.word _ t.dec w5 (HC.out.up up_case hb5) (HS.out.up up_moves hb5) (HT.out.word.up up_round hb5) (HT.out.dec.up up_int hb5) hN ha (by have := (task_ok ht).1; omega) hln (allowedS_ok ht _ _)).mono ?_
  rintro e w6 ⟨rfl, hb6'⟩
  have hb6 := ext_trans hb5 hb6'
  have hq6 := ext_trans hq5 hb6'
  clear ht ha hln
  rw [if_neg (by simp), if_neg (by simp), if_neg (by simp), if_neg (by have := HFI.out; omega)] at HV
  generalize judgeR p (findE p.t t.inp) t.word t.dec = jr at HV
  obtain ⟨j1, j2⟩ := jr
  dsimp only at HV ⊢
  by_cases hj : j1 = 0
  case neg =>
    have hj' : (j1 == 0) = false := by simpa using hj
    go_wp2_with fail
    go_ret2
    refine ⟨ret_pair ?_ ?_, hb6⟩ <;> rw [HV.out, if_neg (by simp [hj])]
  subst hj
  have s1 := cell_block (block_up hq6 HB0.out)
  have s3 := cell_block (block_up hq6 HC0.out)
  go_wp2_with fail
  clear s1 s3
  refine (replay_any m _ _ _ _ t _ _ _ _ _ _ w6 (HF.out.up up_ints hb6) (HY.out.up up_v3 hb6) (HM.out.up up_step hb6) (HO.out.up up_vecs hb6) (HT.out.up hb6)).mono ?_
  rintro e w7 ⟨rfl, hb7'⟩
  have hb7 := ext_trans hb6 hb7'
  generalize replayE m t = er at HV
  by_cases hr : er = 0
  · subst hr
    go_wp2_with fail
    go_ret2
    refine ⟨ret_pair ?_ ?_, hb7⟩ <;> rw [HV.out, if_neg (by simp)]
  · have hr' : (er != 0) = true := by simpa using hr
    go_wp2_with fail
    go_ret2
    refine ⟨ret_pair ?_ ?_, hb7⟩ <;> rw [HV.out, if_pos (by simp [hr])]
end Go.Proofs.YtjmejfgkogjpaaaGreat

namespace Go.Proofs.YtjmejfgkogjpaaaGreat
open Go.RowKit Go Go.Shelf

theorem verd_ok {p : Pb} {m : Mac} {t : Tr} (h : (verdR p m t).2 = 0) : probE p = 0 ∧ ¬ findE p.t t.inp < 0 ∧ (t.dec.length : Int) = p.t.n ∧ (verdR p m t).1 = if (judgeR p (findE p.t t.inp) t.word t.dec).1 = 0 ∧ replayE m t ≠ 0 then 4 else (judgeR p (findE p.t t.inp) t.word t.dec).1 := by
  unfold verdR at h ⊢
  by_cases h1 : probE p = 0
  · rw [if_neg (by simp [h1])] at h ⊢
    by_cases h2 : checkE m = 0
    · rw [if_neg (by simp [h2])] at h ⊢
      by_cases h3 : m.n ≠ p.t.n ∨ m.rounds ≠ p.rounds ∨ m.ins ≠ p.t.ins ∨ m.outs ≠ p.t.outs
      · rw [if_pos h3] at h; simp at h
      · rw [if_neg h3] at h ⊢
        by_cases h4 : traceE t = 0
        · rw [if_neg (by simp [h4])] at h ⊢
          by_cases h5 : findE p.t t.inp < 0
          · rw [if_pos h5] at h; simp at h
          · rw [if_neg h5]
            have h6 := find_len (prob_ok h1).1 h5
            have h7 := trace_dec h4
            refine ⟨h1, h5, by omega, ?_⟩
            split <;> rfl
        · rw [if_pos h4] at h; exact absurd h h4
    · rw [if_pos h2] at h; exact absurd h h2
  · rw [if_pos h1] at h; exact absurd h h1
theorem firstObl_lt (n : Nat) (f : Int) (q : Nat → Bool) : firstObl n f q < n := by
  unfold firstObl
  rcases firstIx_cases n (fun p => !hasB f p && q p) with ⟨e, _⟩ | ⟨k, hk, e, _⟩ <;> omega
theorem judge_cases {p : Pb} (ix : Int) (word : List Rd) (dec : List Int) (hn : 0 ≤ p.t.n) :
    judgeR p ix word dec = (1, -1) ∨ judgeR p ix word dec = (0, -1) ∨ ∃ q, 0 ≤ q ∧ q < p.t.n ∧ (judgeR p ix word dec = (2, q) ∨ judgeR p ix word dec = (3, q)) := by
  unfold judgeR
  split
  · exact .inl rfl
  split
  · rename_i h
    exact .inr (.inr ⟨_, h, by have := firstObl_lt p.t.n.toNat (faultyS word) (fun p => decide (dec.getD p 0 < 0)); unfold undecE; omega, .inl rfl⟩)
  split
  · rename_i h
    exact .inr (.inr ⟨_, h, by have := firstObl_lt p.t.n.toNat (faultyS word) (noneB (faultyS word) dec (allowedS p.t ix (faultyS word))); unfold outpE; omega, .inr rfl⟩)
  · exact .inr (.inl rfl)
/-- what is asked of the verdict a, the kind b, the process q, the error f and the error r of the replay -/
inductive AgreeS (n a b q f r : Int) : Prop where
  | range : f = 2 → (a = 0 ∨ a = 1 ∨ a = 2 ∨ a = 3 ∨ a = 4) → AgreeS n a b q f r
  | sched : f = 0 → a = 1 → b = 1 → q = -1 → AgreeS n a b q f r
  | none : f = 0 → a = 0 → b = 0 → q = -1 → r = 0 → AgreeS n a b q f r
  | trace : f = 0 → a = 4 → b = 0 → q = -1 → r ≠ 0 → AgreeS n a b q f r
  | undec : f = 0 → a = 2 → b = 2 → 0 ≤ q → q < n → AgreeS n a b q f r
  | outp : f = 0 → a = 3 → b = 3 → 0 ≤ q → q < n → AgreeS n a b q f r
theorem agree_ok {p : Pb} {m : Mac} {t : Tr} (h : (verdR p m t).2 = 0) :
    AgreeS p.t.n (verdR p m t).1 (blameR p t.inp t.word t.dec).1 (blameR p t.inp t.word t.dec).2.1 (blameR p t.inp t.word t.dec).2.2 (replayE m t) := by
  obtain ⟨h1, h2, h3, h4⟩ := verd_ok h
  have h5 := judge_cases (p := p) (findE p.t t.inp) t.word t.dec (by have := (task_ok (prob_ok h1).1).1; omega)
  have hB : blameR p t.inp t.word t.dec = if decB p.t.outs t.dec then (0, 0, 2) else ((judgeR p (findE p.t t.inp) t.word t.dec).1, (judgeR p (findE p.t t.inp) t.word t.dec).2, 0) := by
    unfold blameR
    rw [if_neg (by simp [h1]), if_neg h2, if_neg (by simp [h3])]
  rw [hB, h4]
  by_cases hd : decB p.t.outs t.dec = true
  · rw [if_pos hd]
    refine .range rfl ?_
    rcases h5 with e | e | ⟨q, _, _, e | e⟩ <;> rw [e] <;> dsimp only <;> split <;> simp
  · rw [if_neg hd]
    rcases h5 with e | e | ⟨q, g1, g2, e | e⟩ <;> rw [e] <;> dsimp only
    · exact .sched rfl (by simp) rfl rfl
    · by_cases hr : replayE m t = 0
      · exact .none rfl (by simp [hr]) rfl rfl hr
      · exact .trace rfl (by simp [hr]) rfl rfl hr
    · exact .undec rfl (by simp) rfl g1 g2
    · exact .outp rfl (by simp) rfl g1 g2

set_option maxRecDepth 100000 in
set_option maxHeartbeats 8000000 in
theorem lagrees_any (p : Pb) (vc vs : Value) (m : Mac) (vf vy vt vo : Value) (t : Tr) (ui uw us um ud ut : Value) (w : World) (hc : IsCases w vc p.t.cases) (hs : IsStates w vs p.a.states) (hf : IsVecs w vf m.first) (hy : IsV4 w vy m.syms) (ht : IsSteps w vt m.steps) (ho : IsV3 w vo m.out) (hT : IsTr w t ui uw us um ud ut) :
    Calls Tryz.prog 3 #[pbV p vc vs, .agg (macC m vf vy vt vo), .agg (trC ui uw us um ud ut)] w fun e w' => e = .returned (.bool true) ∧ Below w.heap.size w w' := by
  have HC := Lib.hid hc
  have HS := Lib.hid hs
  have HF := Lib.hid hf
  have HY := Lib.hid hy
  have HM := Lib.hid ht
  have HO := Lib.hid ho
  have HT := Lib.hid hT
  obtain ⟨pc, cc, rfl, _⟩ := hc.at
  obtain ⟨ps, cs, rfl, _⟩ := hs.at
  obtain ⟨pf, cf, rfl, _⟩ := hf.at
  obtain ⟨py, cy, rfl, _⟩ := hy.at
  obtain ⟨pt, ct, rfl, _⟩ := ht.at
  obtain ⟨po, co, rfl, _⟩ := ho.at
  obtain ⟨k1, k2, k3, k4, k5, k6⟩ := hT
  obtain ⟨q1, d1, rfl, _⟩ := k1.at
  obtain ⟨q2, d2, rfl, _⟩ := k2.at
  obtain ⟨q3, d3, rfl, _⟩ := k3.at
  obtain ⟨q4, d4, rfl, _⟩ := k4.at
  obtain ⟨q5, d5, rfl, _⟩ := k5.at
  obtain ⟨q6, d6, rfl, _⟩ := k6.at
  clear hc hs hf hy ht ho k1 k2 k3 k4 k5 k6
  go_enter Tryz.func3, Tryz.ntmps3
  go_wp2_with fail
  refine calls_gen (fun W => Below w.heap.size w W ∧ W.heap[w.heap.size]? = some (.cells (pbC p (.slice pc p.t.cases.length cc) (.slice ps p.a.states.length cs)) 29) ∧ W.heap[w.heap.size + 1]? = some (.cells (macC m (.slice pf m.first.length cf) (.slice py m.syms.length cy) (.slice pt m.steps.length ct) (.slice po m.out.length co)) 35) ∧ W.heap[w.heap.size + 1 + 1]? = some (.cells (trC (.slice q1 t.inp.length d1) (.slice q2 t.word.length d2) (.slice q3 t.states.length d3) (.slice q4 t.msgs.length d4) (.slice q5 t.dec.length d5) (.slice q6 t.times.length d6)) 40)) ⟨by go_grown, alloc_old _ (alloc_old _ (alloc_new _ _)), alloc_old _ (alloc2_new _ _ _), alloc3_new _ _ _ _⟩ (fun W0 hW0 => ?_)
  obtain ⟨hb0, hA0, hB0, hC0⟩ := hW0
  have HA0 := Lib.hid hA0
  have HB0 := Lib.hid hB0
  have HC0 := Lib.hid hC0
  clear hA0 hB0 hC0
  refine (rfewProb_any p _ _ W0 (HC.out.up up_case hb0) (HS.out.up up_moves hb0)).mono ?_
  rintro e w1 ⟨rfl, hq1⟩
  have hb1 := ext_trans hb0 hq1
  cases hfp : fewPB p with
  | false =>
    clear hfp
    go_wp2_with fail
    refine (lawake_any _).mono ?_
    rintro e w2 ⟨rfl, hb2⟩
    go_wp2_with fail
    go_ret
    exact ⟨rfl, ext_trans hb1 hb2⟩
  | true =>
  have hmv := fewPB_moves hfp
  clear hfp
  have s1 := cell_block (block_up hq1 HB0.out)
  go_wp2_with fail
  clear s1
  refine (rfewMac_any m _ _ _ _ w1 (HF.out.up up_ints hb1) (HY.out.up up_v3 hb1) (HM.out.up up_step hb1) (HO.out.up up_vecs hb1)).mono ?_
  rintro e w2 ⟨⟨fm, rfl⟩, hb2'⟩
  have hb2 := ext_trans hb1 hb2'
  have hq2 := ext_trans hq1 hb2'
  cases fm with
  | false =>
    go_wp2_with fail
    refine (lawake_any _).mono ?_
    rintro e w3 ⟨rfl, hb3⟩
    go_wp2_with fail
    go_ret
    exact ⟨rfl, ext_trans hb2 hb3⟩
  | true =>
  have s1 := cell_block (block_up hq2 HC0.out)
  go_wp2_with fail
  clear s1
  refine (rfewTr_any t _ _ _ _ _ _ w2 (HT.out.up hb2)).mono ?_
  rintro e w3 ⟨⟨ft, rfl⟩, hb3'⟩
  have hb3 := ext_trans hb2 hb3'
  have hq3 := ext_trans hq2 hb3'
  cases ft with
  | false =>
    go_wp2_with fail
    refine (lawake_any _).mono ?_
    rintro e w4 ⟨rfl, hb4⟩
    go_wp2_with fail
    go_ret
    exact ⟨rfl, ext_trans hb3 hb4⟩
  | true =>
  have s1 := cell_block (block_up hq3 HA0.out)
  have s2 := cell_block (block_up hq3 HB0.out)
  have s3 := cell_block (block_up hq3 HC0.out)
  go_wp2_with fail
  clear s1 s2 s3
  refine (verdict_any p _ _ m _ _ _ _ t _ _ _ _ _ _ w3 (HC.out.up up_case hb3) (HS.out.up up_moves hb3) (by omega) (HF.out.up up_ints hb3) (HY.out.up up_v3 hb3) (HM.out.up up_step hb3) (HO.out.up up_vecs hb3) (HT.out.up hb3)).mono ?_
  rintro e w4 ⟨rfl, hb4'⟩
  have hb4 := ext_trans hb3 hb4'
  have hq4 := ext_trans hq3 hb4'
  have s1 := cell_block (block_up hq4 HA0.out)
  have s3 := cell_block (block_up hq4 HC0.out)
  go_wp2_with fail
  clear s1 s3
  refine (blame_any p _ _ _ t.inp _ t.word _ t.dec w4 (HC.out.up up_case hb4) (HS.out.up up_moves hb4) (HT.out.inp.up up_int hb4) (HT.out.word.up up_round hb4) (HT.out.dec.up up_int hb4) (by omega)).mono ?_
  rintro e w5 ⟨rfl, hb5'⟩
  have hb5 := ext_trans hb4 hb5'
  have hq5 := ext_trans hq4 hb5'
  by_cases he : (verdR p m t).2 = 0
  case neg =>
    generalize (verdR p m t).2 = ev at he
    generalize (verdR p m t).1 = a
    generalize (blameR p t.inp t.word t.dec).1 = b
    generalize (blameR p t.inp t.word t.dec).2.1 = q
    generalize (blameR p t.inp t.word t.dec).2.2 = f
    have he' : (ev != 0) = true := by simpa using he
    go_wp2_with fail
    refine (lawake_any _).mono ?_
    rintro e w6 ⟨rfl, hb6⟩
    go_wp2_with fail
    go_ret
    exact ⟨rfl, ext_trans hb5 hb6⟩
  have hA := agree_ok he
  have hn : (-1 : Int) < p.t.n := by
    have h := (task_ok (prob_ok (verd_ok he).1).1).1
    omega
  have HR := Lib.hid (fun W (hb : Below w.heap.size w W) => replay_any m _ _ _ _ t _ _ _ _ _ _ W (HF.out.up up_ints hb) (HY.out.up up_v3 hb) (HM.out.up up_step hb) (HO.out.up up_vecs hb) (HT.out.up hb))
  rw [he]
  clear he
  generalize (verdR p m t).1 = a at hA
  generalize (blameR p t.inp t.word t.dec).1 = b at hA
  generalize (blameR p t.inp t.word t.dec).2.1 = q at hA
  generalize (blameR p t.inp t.word t.dec).2.2 = f at hA
  generalize replayE m t = r at hA HR
  have s1 := cell_block (block_up hq5 HB0.out)
  have s3 := cell_block (block_up hq5 HC0.out)
  cases hA with
  | range hf ha =>
    subst hf
    clear s1 s3
    rcases ha with rfl | rfl | rfl | rfl | rfl <;>
    · go_wp2_with fail
      refine (lawake_any _).mono ?_
      rintro e w6 ⟨rfl, hb6⟩
      go_wp2_with fail
      go_ret
      exact ⟨rfl, ext_trans hb5 hb6⟩
  | sched e1 e2 e3 e4 =>
    subst e1 e2 e3 e4
    go_wp2_with fail
    clear s1 s3
    refine (HR.out _ hb5).mono ?_
    rintro e w6 ⟨rfl, hb6'⟩
    have hb6 := ext_trans hb5 hb6'
    have s4 := cell_block (block_up (ext_trans hq5 hb6') HA0.out)
    go_wp2_with fail
    clear s4
    refine (lawake_any _).mono ?_
    rintro e w7 ⟨rfl, hb7⟩
    go_wp2_with fail
    go_ret
    exact ⟨rfl, ext_trans hb6 hb7⟩
  | none e1 e2 e3 e4 e5 =>
    subst e1 e2 e3 e4 e5
    go_wp2_with fail
    clear s1 s3
    refine (HR.out _ hb5).mono ?_
    rintro e w6 ⟨rfl, hb6'⟩
    have hb6 := ext_trans hb5 hb6'
    have s4 := cell_block (block_up (ext_trans hq5 hb6') HA0.out)
    go_wp2_with fail
    clear s4
    refine (lawake_any _).mono ?_
    rintro e w7 ⟨rfl, hb7⟩
    go_wp2_with fail
    go_ret
    exact ⟨rfl, ext_trans hb6 hb7⟩
  | trace e1 e2 e3 e4 e5 =>
    subst e1 e2 e3 e4
    have e5' : (r != 0) = true := by simpa using e5
    go_wp2_with fail
    clear s1 s3
    refine (HR.out _ hb5).mono ?_
    rintro e w6 ⟨rfl, hb6'⟩
    have hb6 := ext_trans hb5 hb6'
    have s4 := cell_block (block_up (ext_trans hq5 hb6') HA0.out)
    go_wp2_with fail
    clear s4
    refine (lawake_any _).mono ?_
    rintro e w7 ⟨rfl, hb7⟩
    go_wp2_with fail
    go_ret
    exact ⟨rfl, ext_trans hb6 hb7⟩
  | undec e1 e2 e3 e4 e5 =>
    subst e1 e2 e3
    go_wp2_with fail
    clear s1 s3
    refine (HR.out _ hb5).mono ?_
    rintro e w6 ⟨rfl, hb6'⟩
    have hb6 := ext_trans hb5 hb6'
    have s4 := cell_block (block_up (ext_trans hq5 hb6') HA0.out)
    go_wp2_with fail
    clear s4
    refine (lawake_any _).mono ?_
    rintro e w7 ⟨rfl, hb7⟩
    go_wp2_with fail
    go_ret
    exact ⟨rfl, ext_trans hb6 hb7⟩
  | outp e1 e2 e3 e4 e5 =>
    subst e1 e2 e3
    go_wp2_with fail
    clear s1 s3
    refine (HR.out _ hb5).mono ?_
    rintro e w6 ⟨rfl, hb6'⟩
    have hb6 := ext_trans hb5 hb6'
    have s4 := cell_block (block_up (ext_trans hq5 hb6') HA0.out)
    go_wp2_with fail
    clear s4
    refine (lawake_any _).mono ?_
    rintro e w7 ⟨rfl, hb7⟩
    go_wp2_with fail
    go_ret
    exact ⟨rfl, ext_trans hb6 hb7⟩
end Go.Proofs.YtjmejfgkogjpaaaGreat
