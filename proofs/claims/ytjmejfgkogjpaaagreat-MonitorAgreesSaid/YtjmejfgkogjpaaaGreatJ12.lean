/-
  Parts of the proof, in order. Contract of the iterator of the program's machine.run. Conditions: the arguments read as a machine without errors, inputs and a word that fit it. Contracts of the library's slices.AppendSeq and slices.Collect at messages, over an iterator that makes memory between its rounds. Conditions: the iterator's contract; it hands out at most 2^20 messages. Contracts of the library's slices.AppendSeq and slices.Collect at lists of numbers, over an iterator that makes them between its rounds. Conditions: the iterator's contract; it hands out at most 2^20 lists. Contract of the program's machine.Play. Conditions: the arguments read as a machine, inputs and a word. Contract of the program's wire.Checksum. Conditions: the bytes are fewer than 2^47. Contracts of the program's wire: writer and its two functions. Conditions: one number is written, which is not negative and below 2^40.
-/
import Derived.Laws.IdiomStrings
import Derived.Test.YtjmejfgkogjpaaaGreatJ11
namespace Go.Proofs.YtjmejfgkogjpaaaGreat
open Go.RowKit Go Go.Shelf
attribute [local go_sem] Oper.semAt_some

/-- What the iterator hands out. -/
def EN (L : List (List Int)) (n n0 : Nat) (i : Nat) (args : Array Value) (T : Nat → Prop) (W : World) : Prop :=
  ∃ b, args = #[.slice (some ⟨b, 0, none⟩) n n] ∧ T b ∧ n0 ≤ b ∧ W.heap[b]? = some (.cells (intsC (L.getD i [])) 3)

/-- Between two rounds. -/
structure RI (m : Mac) (n n0 : Nat) (wd : World) (S : Nat → Prop) (Bm : Nat) (mc : Array Value) (L : List (List Int)) (J : Nat → (Nat → Prop) → World → Prop) (k : Nat) (now : List Int) (Bn Bs : Nat) (T : Nat → Prop) (W : World) : Prop where
  sub : ∀ x, S x → T x
  keep : Keep wd.heap.size wd W
  mb : W.heap[Bm]? = some (.cells mc 35)
  tn : T Bn
  nb : n0 ≤ Bn
  nw : W.heap[Bn]? = some (.cells (intsC now) 3)
  ts : T Bs
  map : GMapIs Pl.v W Bs (stepsF m.steps)
  lat : L[k]? = some now
  fits : Fits m n k now
  j : J (k + 1) T W
theorem fits_in {m : Mac} {n k : Nat} {now : List Int} (h : Fits m n k now) (hl : ∀ p, p < n → ((m.out.getD k []).getD p []).length ≤ 17592186044416) : ∀ i, i < now.length → InR (now.getD i 0) := fun i hi => by
  have h1 := h.1
  have h2 := h.2 i (by omega)
  have h3 := hl i (by omega)
  unfold InR
  omega
theorem v3_len {w : World} {v : Value} {l : List (List (List Int))} (h : IsV3 w v l) (k p : Nat) (hk : k < l.length) (hp : p < (l.getD k []).length) : ((l.getD k []).getD p []).length ≤ 17592186044416 := by
  obtain ⟨a, c, _, _, _, e⟩ := h.at
  obtain ⟨b, o, _, x, _, hx⟩ := e k hk
  rw [getD_of_lt [] hk] at hp ⊢
  obtain ⟨a2, c2, _, _, _, e2⟩ := hx.at
  obtain ⟨b2, o2, _, y, _, hy⟩ := e2 p hp
  rw [getD_of_lt [] hp]
  obtain ⟨_, _, _, _, h5, _⟩ := hy.at
  exact h5

set_option maxRecDepth 100000 in
set_option maxHeartbeats 8000000 in
theorem run1_seq (m : Mac) (n r : Nat) (g : Good m n r) (vf vy vt vo vi vw : Value) (inputs : List Int) (word : List Rd) (wd : World) (hf : IsVecs wd vf m.first) (hy : IsV4 wd vy m.syms) (ht : IsSteps wd vt m.steps) (ho : IsV3 wd vo m.out) (hi : IsInts wd vi inputs) (hw : IsWord wd vw word)
    (hil : inputs.length = n) (hir : ∀ p, p < n → 0 ≤ inputs.getD p 0 ∧ inputs.getD p 0 < m.ins) (hwe : wordE n word = 0) (hwl : word.length = r) (w : World) (hb : Below wd.heap.size wd w) (Bm Bi Bw : Nat)
    (hm : w.heap[Bm]? = some (.cells (macC m vf vy vt vo) 35)) (hbi : w.heap[Bi]? = some (.cells #[vi] 36)) (hbw : w.heap[Bw]? = some (.cells #[vw] 37)) :
    SeqMk Tryz.prog 120 #[.pointer (some ⟨Bm, 0, none⟩), .pointer (some ⟨Bi, 0, none⟩), .pointer (some ⟨Bw, 0, none⟩)] (EN (runL m inputs word) n w.heap.size) (runL m inputs word).length (fun k => k < wd.heap.size ∨ k = Bm ∨ k = Bi ∨ k = Bw) w := by
  generalize hL : runL m inputs word = L
  have HLE := Lib.hid hL
  clear hL
  intro yl J Jx W hW hyl hJ hJx hY h0
  have hwW := hW.size
  have hm1 := block_up hW hm
  have hbi1 := block_up hW hbi
  have hbw1 := block_up hW hbw
  have hbW := ext_trans hb hW
  clear hm hbi hbw hW hb
  have HF := Lib.hid hf
  have HY' := Lib.hid hy
  have HT := Lib.hid ht
  have HO := Lib.hid ho
  have HI := Lib.hid hi
  have HW := Lib.hid hw
  obtain ⟨pf, cf, rfl, lf1, lf2, ef⟩ := hf.at
  obtain ⟨py, cy, rfl, _⟩ := hy.at
  obtain ⟨pt, ct, rfl, _⟩ := ht.at
  obtain ⟨po, co, rfl, _⟩ := ho.at
  obtain ⟨pi, ci, rfl, li1, li2, ei⟩ := hi.at
  obtain ⟨pw, cw, rfl, lw1, lw2, ew⟩ := hw.at
  have EF := Lib.hid ef
  have EI := Lib.hid ei
  have EW := Lib.hid ew
  have HIL := Lib.hid hil
  have HIR := Lib.hid hir
  have HWE := Lib.hid hwe
  have HWL := Lib.hid hwl
  have HG := Lib.hid g
  have HJ := Lib.hid hJ; clear hJ
  have HJX := Lib.hid hJx; clear hJx
  have HY := Lib.hid hY; clear hY
  have H0 := Lib.hid h0
  have HM1 := Lib.hid hm1
  have hn5 := g.n5
  have t1 := cell_block hm1
  have ci1 := cell_block hbi1 0
  simp at ci1
  have CI1 := Lib.hid ci1
  have HBI := Lib.hid hbi1
  have hlbi := block_lt hbi1
  have hlbm := block_lt hm1
  have hlbw := block_lt hbw1
  have HBW := Lib.hid hbw1
  obtain ⟨f, hfd⟩ : ∃ f : Nat → Int, f = fun p => (m.first.getD p []).getD (inputs.getD p 0).toNat 0 := ⟨_, rfl⟩
  have HFD := Lib.hid hfd
  have HFS : Hid (firstS m inputs = (List.range n).map f) := by (have h : firstS m inputs = (List.range n).map f := by (unfold firstS; rw [hfd, g.hn, Int.toNat_natCast])); exact h
  have hmk : ∀ w, (Instr.makeSlice 36 (.int .i64 m.n) (.int .i64 m.n)).run Tryz.prog w = .ok (.slice (some ⟨w.heap.size, 0, none⟩) n n) (w.alloc (.cells (fC n f 0) 3)) := fun w => by rw [g.hn]; exact make_ints f n (by omega) w
  clear hf hy ht ho hi hw ef ei ew hil hir hwe hwl g h0 hm1 hfd hbi1 hbw1
  refine (callsIn_wide (n := 0)).1 ?_
  refine callsIn_of_wp Tryz.func120 rfl trivial ?_ rfl
  simp only [Tryz.ntmps120, List.size_toArray, List.length_cons, List.length_nil, Nat.reduceAdd, Nat.reduceSub, Array.replicate_succ, Array.replicate_zero, List.push_toArray, List.append_toArray, List.nil_append, List.cons_append]
  gi_wp2
  clear hmk
  gi_loopw [20] (fun i wr => ∃ p : Nat, p ≤ inputs.length ∧ i = .int .i64 p ∧ Below W.heap.size W wr ∧ wr.heap[W.heap.size]? = some (.cells (fC n f p) 3)) (fun i _ => inputs.length - (intOf i).toNat)
  case atStart => exact ⟨0, by omega, rfl, by go_grown, alloc_new _ _⟩
  case round =>
    clear t1 ci1
    obtain ⟨p, hp, rfl, hbr, hfc⟩ := hrel
    have hs := block_lt hfc
    have t1 := cell_block (block_up hbr HM1.out)
    by_cases hlt : p < inputs.length
    · have hpn : p < n := by have := HIL.out; omega
      have hpf : p < m.first.length := by rw [HG.out.fl]; exact hpn
      have hv := HIR.out p hpn
      have hfl := HG.out.fp p hpn
      obtain ⟨b1, o1, rfl, c1, r1⟩ := EI.out p hlt
      obtain ⟨b2, o2, rfl, x, c2, hx⟩ := EF.out p hpf
      rw [Nat.mul_one] at c1 c2
      obtain ⟨p2, q2, rfl, l1, l2, e2⟩ := hx.at
      rw [getD_of_lt [] hpf] at hfl
      rw [getD_of_lt 0 hlt] at hv
      obtain ⟨v, hvv⟩ : ∃ v : Nat, inputs[p] = v := ⟨inputs[p].toNat, by omega⟩
      have hvl : v < m.first[p].length := by omega
      obtain ⟨b3, o3, rfl, c3, r3⟩ := e2 v hvl
      clear r1 r3
      rw [Nat.mul_one] at c3
      rw [hvv] at c1
      have d1 := cell_up (ext_trans hbW hbr) c1
      have d2 := cell_up (ext_trans hbW hbr) c2
      have d3 := cell_up (ext_trans hbW hbr) c3
      have HV : Hid (f p = m.first[p][v]) := by (have h : f p = m.first[p][v] := by (rw [HFD.out]; dsimp only; rw [getD_of_lt [] hpf, getD_of_lt 0 hlt, hvv, Int.toNat_natCast, getD_of_lt 0 hvl])); exact h
      generalize m.first[p][v] = y at d3 HV c3
      generalize m.first[p].length = lf at d2 l1 l2 hfl hvl c2
      have cq := cell_block hfc p
      rw [fC_get _ _ _ _ hpn, if_neg (by omega)] at cq
      have fq := frozen_block hfc p
      have HFC := Lib.hid hfc
      have hz1 : b1 ≠ W.heap.size := by have := cell_lt c1; have := hbW.size; dsimp only at *; omega
      have HBR := Lib.hid hbr
      clear hfc hx c1 c2 c3 e2 hvv hv
      gi_wp2
      go_roundw
      case rel => exact ⟨p + 1, by omega, by go_num, HBR.out.setCell (p := ⟨W.heap.size, p, none⟩) (by simp) _, by rw [setCell_same HFC.out, ← HV.out, fC_set n f p hpn]⟩
      case measure => simp [intOf]; omega
    · obtain rfl : p = inputs.length := by omega
      rw [HIL.out, fC_all, ← HFS.out] at hfc
      have hfsl : (firstS m inputs).length = n := by rw [HFS.out]; simp
      have HFC := Lib.hid hfc
      have HBR := Lib.hid hbr
      have hins : ∀ i, i < (firstS m inputs).length → InR ((firstS m inputs).getD i 0) := fun i hi => by
        have hi' : i < n := by omega
        have e : (firstS m inputs).getD i 0 = (m.first.getD i []).getD (inputs.getD i 0).toNat 0 := by rw [HFS.out, HFD.out]; simp [hi']
        have h1 := HIR.out i hi'
        have h2 := HG.out.fp i hi'
        have h3 := HG.out.fr i (inputs.getD i 0).toNat hi' (by omega)
        have h4 := v3_len HO.out 0 i (by rw [HG.out.ol]; omega) (by rw [HG.out.ok 0 (by omega)]; exact hi')
        rw [e]; unfold InR; omega
      have HCON := Lib.hid (containsInts_any _ (firstS m inputs) (-1) wr (now_ints hfsl (by omega) hfc hins))
      have HRL : Hid (L = if (firstS m inputs).contains (-1) then [] else runFrom m 0 (firstS m inputs) word) := by (have h : L = if (firstS m inputs).contains (-1) then [] else runFrom m 0 (firstS m inputs) word := by (rw [← HLE.out]; rfl)); exact h
      have HFIT : Hid ((firstS m inputs).contains (-1) = false → Fits m n 0 (firstS m inputs)) := by (have h : (firstS m inputs).contains (-1) = false → Fits m n 0 (firstS m inputs) := fun h => firstS_fits HG.out HIL.out HIR.out h); exact h
      clear hfc hins t1
      gi_wp2
      refine ⟨trivial, rfl, callsIn_wide.2 (HCON.out.mono ?_)⟩
      rintro e w1 ⟨rfl, hb1⟩
      have hbW1 := ext_trans HBR.out hb1
      have hfc1 := block_up hb1 HFC.out
      generalize hcb : (firstS m inputs).contains (-1) = cb at HRL HFIT
      clear hcb HCON
      cases cb with
      | true =>
        have HL0 : Hid (L.length = 0) := by (have h : L.length = 0 := by (rw [HRL.out]; rfl)); exact h
        clear HY HRL
        gi_wp2
        refine ⟨fun _ h => (by cases h), ?_⟩
        gi_wp2
        refine bodyPost_ret (results_none rfl _ _ _) rfl ?_
        exact ⟨⟨_, rfl⟩, _, .inl (by rw [HL0.out]; exact HJ.out _ _ _ _ _ H0.out hbW1 (Wid.refl _ _ _))⟩
      | false =>
        have HL : Hid (L = runFrom m 0 (firstS m inputs) word) := by (have h : L = runFrom m 0 (firstS m inputs) word := by (rw [HRL.out]; rfl)); exact h
        have hfit := HFIT.out rfl
        have HL0 : Hid (L[0]? = some (firstS m inputs)) := by (have h : L[0]? = some (firstS m inputs) := by (rw [HL.out]; exact runFrom_head _ _ _ _)); exact h
        clear HRL HFIT
        have hl0 : 0 < L.length := (List.getElem?_eq_some_iff.1 HL0.out).1
        obtain ⟨fn, tmps, assign, body, hy, hR⟩ := HY.out 0 (fun x => (x < wd.heap.size ∨ x = Bm ∨ x = Bi ∨ x = Bw) ∨ x = W.heap.size) w1 #[.slice (some ⟨W.heap.size, 0, none⟩) n n] hl0 ⟨_, rfl, .inr rfl, hwW, by rw [List.getD_eq_getElem?_getD, HL0.out]; exact hfc1⟩ (HJ.out _ _ _ _ _ H0.out hbW1 ⟨fun x hx => .inl hx, fun x hx => by
          rcases hx with hx | hx
          · exact .inl hx
          · have := block_lt hfc1; exact .inr (by omega)⟩)
        have HR := Lib.hid hR
        have HFC1 := Lib.hid hfc1
        have HFITS := Lib.hid hfit
        clear hR hfc1 hfit
        gi_wp2
        refine ⟨rfl, HR.out.mono ?_⟩
        rintro e W3 ⟨hs3, hk3, (⟨rfl, hJ3⟩ | ⟨rfl, hJx3⟩)⟩
        case inr =>
          clear HY
          gi_wp2
          refine bodyPost_ret (results_none rfl _ _ _) rfl ?_
          exact ⟨⟨_, rfl⟩, _, .inr ⟨_, by omega, hJx3⟩⟩
        have hm3 := (hk3 Bm (.inl (.inr (.inl rfl)))).trans (block_up hbW1 HM1.out)
        have hw3 := (hk3 Bw (.inl (.inr (.inr (.inr rfl))))).trans (block_up hbW1 HBW.out)
        have hn3 := (hk3 W.heap.size (.inr rfl)).trans HFC1.out
        have hkd3 : Keep wd.heap.size wd W3 := fun k hk => by
          rw [hk3 k (.inl (.inl hk))]
          exact (ext_trans hbW hbW1).block k hk
        have t3 := cell_block hm3
        have HJ3 := Lib.hid hJ3
        have HM3 := Lib.hid hm3
        have HN3 := Lib.hid hn3
        have HKD3 := Lib.hid hkd3
        have HW3 := Lib.hid hw3
        clear hm3 hw3 hn3 hkd3 hJ3 hk3 hs3 HR HFC1 hb1 HL0 H0
        have hst := HT.out.ck up_step HKD3.out.ck
        have HST := Lib.hid (steps_any m pf m.first.length cf py m.syms.length cy (.slice pt m.steps.length ct) po m.out.length co W3 hst HG.out.diff HG.out.len)
        gi_wp2
        refine ⟨trivial, rfl, callsIn_wide.2 (HST.out.mono ?_)⟩
        rintro e w4 ⟨bs, rfl, hmap, hbs, hb4⟩
        have hw4 := block_up hb4 HW3.out
        have cw4 := cell_block hw4 0
        simp at cw4
        have hRI : RI m n w.heap.size wd (fun x => x < wd.heap.size ∨ x = Bm ∨ x = Bi ∨ x = Bw) Bm (macC m (.slice pf m.first.length cf) (.slice py m.syms.length cy) (.slice pt m.steps.length ct) (.slice po m.out.length co)) L J 0 (firstS m inputs) W.heap.size bs (fun x => ((x < wd.heap.size ∨ x = Bm ∨ x = Bi ∨ x = Bw) ∨ x = W.heap.size) ∨ x = bs) w4 :=
          ⟨fun x hx => .inl (.inl hx), HKD3.out.trans (fun k hk => hb4.block k (by have h1 : wd.heap[k]? = some wd.heap[k] := Array.getElem?_eq_getElem hk; exact block_lt ((HKD3.out k hk).trans h1))), block_up hb4 HM3.out, .inl (.inr rfl), hwW, block_up hb4 HN3.out, .inr rfl, hmap,
            by rw [HL.out]; exact runFrom_head _ _ _ _, HFITS.out, HJ.out _ _ _ _ _ HJ3.out hb4 ⟨fun x hx => .inl hx, fun x hx => by
              rcases hx with hx | hx
              · exact .inl hx
              · have := hmap.lt; exact .inr (by omega)⟩⟩
        have HRI := Lib.hid hRI
        clear hRI hmap hbs t3 hst hw4 HJ3 HM3 HN3 HKD3 HW3 HFITS hb4 HST
        gi_wp2
        clear cw4
        obtain ⟨W5, hW5⟩ : ∃ W5 : World, W5 = w4 := ⟨_, rfl⟩
        rw [← hW5] at HRI ⊢
        clear hW5 hy hbW1 hbr HBR HFC hs
        clear w4 W3 w1 wr
        gi_loopw [5, 49] (fun v i wr => ∃ (k : Nat) (now : List Int) (Bn : Nat) (T : Nat → Prop), k ≤ word.length ∧ i = .int .i64 k ∧ v = .slice (some ⟨Bn, 0, none⟩) n n ∧ RI m n w.heap.size wd (fun x => x < wd.heap.size ∨ x = Bm ∨ x = Bi ∨ x = Bw) Bm (macC m (.slice pf m.first.length cf) (.slice py m.syms.length cy) (.slice pt m.steps.length ct) (.slice po m.out.length co)) L J k now Bn bs T wr) (fun _ i _ => word.length - (intOf i).toNat)
        case atStart => exact ⟨0, _, _, _, by omega, rfl, rfl, HRI.out⟩
        case round =>
          clear HRI W5
          obtain ⟨k, now, Bn, T, hk, rfl, rfl, hri⟩ := hrel
          have HRI := Lib.hid hri
          clear hri
          have HSTEP := Lib.hid (fun (hk : k < word.length) => runFrom_step m 0 (firstS m inputs) word k now (by rw [← HL.out]; exact HRI.out.lat) hk)
          rw [← HL.out, Nat.zero_add] at HSTEP
          by_cases hlt : k < word.length
          · obtain ⟨b1, o1, rfl, ⟨c0, _⟩, ⟨c1, _⟩, ⟨c2, _⟩, ⟨c3, _⟩, ⟨c4, _⟩, ⟨c5, _⟩, ⟨c6, _⟩⟩ := EW.out k hlt
            have d0 := HRI.out.keep.cell c0
            have d1 := HRI.out.keep.cell c1
            have d2 := HRI.out.keep.cell c2
            have d3 := HRI.out.keep.cell c3
            have d4 := HRI.out.keep.cell c4
            have d5 := HRI.out.keep.cell c5
            have d6 := HRI.out.keep.cell c6
            clear c0 c1 c2 c3 c4 c5 c6
            have hstep := HSTEP.out hlt
            generalize word[k] = rd at d0 d1 d2 d3 d4 d5 d6 hstep
            have HS2 := Lib.hid hstep
            clear hstep HSTEP
            obtain ⟨f2, hf2⟩ : ∃ f2 : Nat → Int, f2 = fun p => (nextP m k now rd p).getD 0 := ⟨_, rfl⟩
            have HF2 := Lib.hid hf2
            clear hf2
            have hmk : ∀ w, (Instr.makeSlice 36 (.int .i64 m.n) (.int .i64 m.n)).run Tryz.prog w = .ok (.slice (some ⟨w.heap.size, 0, none⟩) n n) (w.alloc (.cells (fC n f2 0) 3)) := fun w => by rw [HG.out.hn]; exact make_ints f2 n (by omega) w
            have t1 := cell_block HRI.out.mb
            have hlm := block_lt HRI.out.mb
            have hlm' : Bm < wr.heap.size + 1 := by omega
            gi_wp2
            clear hmk t1 d0 d1 d2 d3 d4 d5 d6 hlm'
            obtain ⟨W6, hW6⟩ : ∃ W6 : World, W6 = (wr.alloc (.cells rd.c 64)).alloc (.cells (fC n f2 0) 3) := ⟨_, rfl⟩
            rw [← hW6]
            have HW6 : Hid (Below wr.heap.size wr W6 ∧ W6.heap[wr.heap.size]? = some (.cells rd.c 64) ∧ W6.heap[wr.heap.size + 1]? = some (.cells (fC n f2 0) 3)) := by
              (have h : Below wr.heap.size wr W6 ∧ W6.heap[wr.heap.size]? = some (.cells rd.c 64) ∧ W6.heap[wr.heap.size + 1]? = some (.cells (fC n f2 0) 3) := by (rw [hW6]; exact ⟨by go_grown, alloc_old _ (alloc_new _ _), alloc2_new _ _ _⟩)); exact h
            clear hW6
            obtain ⟨V0, hV0⟩ : ∃ V0 : World, V0 = wr := ⟨_, rfl⟩
            rw [← hV0] at HRI HW6 hlm ⊢
            clear hV0
            clear wr
            gi_loopw [59] (fun i wr => ∃ p : Nat, p ≤ n ∧ i = .int .i64 p ∧ Below V0.heap.size V0 wr ∧ wr.heap[V0.heap.size]? = some (.cells rd.c 64) ∧ wr.heap[V0.heap.size + 1]? = some (.cells (fC n f2 p) 3) ∧ ∀ j, j < p → (nextP m k now rd j).isNone = false) (fun i _ => n - (intOf i).toNat)
            case atStart => exact ⟨0, by omega, rfl, HW6.out.1, HW6.out.2.1, HW6.out.2.2, by simp⟩
            case round =>
              clear HW6 W6
              obtain ⟨p, hp, rfl, hbr, hrd, hnx, hsome⟩ := hrel
              have HBR := Lib.hid hbr
              have HRD := Lib.hid hrd
              have HNX := Lib.hid hnx
              have HSOME := Lib.hid hsome
              clear hbr hrd hnx hsome
              by_cases hpn : p < n
              · have hear := hear_cellR rd p (by omega) wr V0.heap.size _ HRD.out
                have hkr : k < r := by have := HWL.out; omega
                have hnow : IsInts wr (.slice (some ⟨Bn, 0, none⟩) n n) now := now_ints HRI.out.fits.1 (by omega) (block_up HBR.out HRI.out.nw) (fits_in HRI.out.fits (fun q hq => v3_len HO.out k q (by rw [HG.out.ol]; omega) (by rw [HG.out.ok k (by omega)]; exact hq)))
                have hsyms : IsV4 wr (.slice py m.syms.length cy) m.syms := (HY'.out.ck up_v3 HRI.out.keep.ck).up up_v3 HBR.out
                have HCALL := Lib.hid (show ∀ x : ExtW wr, Calls Tryz.prog 123 #[.agg (macC m (.slice pf m.first.length cf) (.slice py m.syms.length cy) (.slice pt m.steps.length ct) (.slice po m.out.length co)), .int .i64 k, .int .i64 p, .slice (some ⟨Bn, 0, none⟩) n n, .int .i64 (rd.g.hear p)] x.val fun e w'' => e = .returned (.agg #[.int .i64 (hearsF m k p now (rd.g.hear p) 0), .int .i64 (hearsF m k p now (rd.g.hear p) 1), .int .i64 (hearsF m k p now (rd.g.hear p) 2), .int .i64 (hearsF m k p now (rd.g.hear p) 3), .int .i64 (hearsF m k p now (rd.g.hear p) 4)]) ∧ ∃ q : ExtW wr, w'' = q.val from
                  fun x => Calls.ext_of (hears_any m pf m.first.length cf _ pt m.steps.length ct po m.out.length co k p n _ now (rd.g.hear p) x.val HG.out.hn hn5 hpn (by rw [HG.out.yl]; exact hkr) (HG.out.yk k hkr) (fun q hq => HG.out.yp k q hkr hq) HRI.out.fits.1
                    (fun q hq hne => by
                      have h1 := HRI.out.fits.2 q hq
                      have h2 := HG.out.yq k q p hkr hq hpn
                      rw [if_neg hne] at h2
                      omega) (hsyms.up up_v3 x.ext) (hnow.up up_int x.ext)))
                have hnp : Hid (nextP m k now rd p = stepTo m ⟨k, p, hearsF m k p now (rd.g.hear p) 0, hearsF m k p now (rd.g.hear p) 1, hearsF m k p now (rd.g.hear p) 2, hearsF m k p now (rd.g.hear p) 3, hearsF m k p now (rd.g.hear p) 4⟩) := by exact rfl
                have hmapr := HRI.out.map.up HBR.out
                generalize hearsF m k p now (rd.g.hear p) 0 = h0 at HCALL hnp
                generalize hearsF m k p now (rd.g.hear p) 1 = h1 at HCALL hnp
                generalize hearsF m k p now (rd.g.hear p) 2 = h2 at HCALL hnp
                generalize hearsF m k p now (rd.g.hear p) 3 = h3 at HCALL hnp
                generalize hearsF m k p now (rd.g.hear p) 4 = h4 at HCALL hnp
                have hlook : ∀ x : ExtW wr, (Instr.lookup 179 (.map (some bs)) (.agg #[.int .i64 k, .int .i64 p, .int .i64 h0, .int .i64 h1, .int .i64 h2, .int .i64 h3, .int .i64 h4]) true).run Tryz.prog x.val = .ok (.tuple #[.int .i64 ((nextP m k now rd p).getD 0), .bool (nextP m k now rd p).isSome]) x.val := fun x => by
                  have := gLookup2 kit_pl (mt := 179) (vt := 3) (z := .int .i64 0) Tryz.underlying179 (fun w => by kernel_rfl) (hmapr.up x.ext) ⟨k, p, h0, h1, h2, h3, h4⟩
                  rw [stepsF_get, ← hnp.out] at this
                  cases hh : nextP m k now rd p with
                  | none => rw [hh] at this; exact this
                  | some t => rw [hh] at this; exact this
                have q1 : ∀ x : ExtW wr, ∀ o, x.val.cell? ⟨Bm, o, none⟩ = _ := fun x => cell_block (block_up (ext_trans HBR.out x.ext) HRI.out.mb)
                have q2 : ∀ x : ExtW wr, x.val.cell? ⟨V0.heap.size, 1 + p, none⟩ = _ := fun x => x.cell hear
                have hp5 : p < 5 := by omega
                generalize rd.g.hear p = hv at HCALL q2
                clear hear hnow hsyms hnp hmapr
                gi_wp2
                refine wpIn_wide.2 ?_
                refine wp_region_quiet_ext (by kernel_rfl) (by kernel_rfl) ?_
                repeat (go_big_quiet_step ((go_at_call 123; with_reducible exact HCALL.out _)))
                refine wpQuiet_nil ?_
                intro _ hw'
                obtain ⟨xq, hw''⟩ := hw'
                subst hw''
                clear q1 q2 hlook HCALL
                have hbx := ext_trans HBR.out xq.ext
                have HRD2 := Lib.hid (block_up xq.ext HRD.out)
                have HNX2 := Lib.hid (block_up xq.ext HNX.out)
                cases hnp : nextP m k now rd p with
                | none =>
                  have HLEN : Hid (L.length = k + 1) := by (have h : L.length = k + 1 := HS2.out.2 (by unfold nextS; rw [if_pos]; rw [HG.out.hn, Int.toNat_natCast]; exact anyLt_at hpn (by rw [hnp]; rfl))); exact h
                  clear hnp
                  gi_wp2
                  refine bodyPost_ret (results_none rfl _ _ _) rfl ?_
                  exact ⟨⟨_, rfl⟩, T, .inl (by rw [HLEN.out]; exact HJ.out _ _ _ _ _ HRI.out.j hbx (Wid.refl _ _ _))⟩
                | some tt =>
                  have HFT : Hid (f2 p = tt) := by (have h : f2 p = tt := by (rw [HF2.out]; dsimp only; rw [hnp]; rfl)); exact h
                  have HSM : Hid ((nextP m k now rd p).isNone = false) := by (have h : (nextP m k now rd p).isNone = false := by (rw [hnp]; rfl)); exact h
                  clear hnp
                  have cq := cell_block HNX2.out p
                  rw [fC_get _ _ _ _ hpn, if_neg (by omega)] at cq
                  have fq := frozen_block HNX2.out p
                  have hsz := hbx.size
                  gi_wp2
                  go_roundw
                  case rel => exact ⟨p + 1, by omega, by go_num, hbx.setCell (p := ⟨V0.heap.size + 1, p, none⟩) (by simp) _, setCell_other HRD2.out (by omega) _ _, by rw [setCell_same HNX2.out, ← HFT.out, fC_set n f2 p hpn], below_succ HSOME.out HSM.out⟩
                  case measure => simp [intOf]; omega
              · obtain rfl : n = p := by omega
                have hnext : nextS m k now rd = some ((List.range n).map f2) := by
                  unfold nextS
                  rw [HG.out.hn, Int.toNat_natCast, if_neg (by rw [anyLt_none HSOME.out]; simp), HF2.out]
                have hlat := HS2.out.1 _ hnext
                have hfit := nextS_fits HG.out hnext
                have hnx := HNX.out
                rw [fC_all] at hnx
                generalize (List.range n).map f2 = next at hnx hlat hfit
                have hlen := (List.getElem?_eq_some_iff.1 hlat).1
                have hsz := block_lt hnx
                have hnb : w.heap.size ≤ V0.heap.size + 1 := by have h1 := HRI.out.nb; have h2 := block_lt HRI.out.nw; omega
                obtain ⟨fn, tmps, assign, body, hy, hR⟩ := HY.out (k + 1) (fun x => T x ∨ x = V0.heap.size + 1) wr #[.slice (some ⟨V0.heap.size + 1, 0, none⟩) n n] hlen ⟨_, rfl, .inr rfl, hnb, by rw [List.getD_eq_getElem?_getD, hlat]; exact hnx⟩ (HJ.out _ _ _ _ _ HRI.out.j HBR.out ⟨fun x hx => .inl hx, fun x hx => by
                  rcases hx with hx | hx
                  · exact .inl hx
                  · exact .inr (by omega)⟩)
                have HR := Lib.hid hR
                have HNXT := Lib.hid (And.intro hnx (And.intro hlat hfit))
                clear hR hnx hlat hfit hnext
                gi_wp2
                refine ⟨rfl, HR.out.mono ?_⟩
                rintro e W3 ⟨hs3, hk3, (⟨rfl, hJ3⟩ | ⟨rfl, hJx3⟩)⟩
                · have hold : ∀ x o, T x → V0.heap[x]? = some o → W3.heap[x]? = some o := fun x o hx ho => (hk3 x (.inl hx)).trans (block_up HBR.out ho)
                  have hri : RI m n w.heap.size wd (fun x => x < wd.heap.size ∨ x = Bm ∨ x = Bi ∨ x = Bw) Bm (macC m (.slice pf m.first.length cf) (.slice py m.syms.length cy) (.slice pt m.steps.length ct) (.slice po m.out.length co)) L J (k + 1) next (V0.heap.size + 1) bs (fun x => T x ∨ x = V0.heap.size + 1) W3 := by
                    refine ⟨fun x hx => .inl (HRI.out.sub x hx), fun x hx => ?_, hold _ _ (HRI.out.sub _ (.inr (.inl rfl))) HRI.out.mb, .inr rfl, hnb, (hk3 _ (.inr rfl)).trans HNXT.out.1, .inl HRI.out.ts, HRI.out.map.kept ?_, HNXT.out.2.1, HNXT.out.2.2, hJ3⟩
                    · have h1 : wd.heap[x]? = some wd.heap[x] := Array.getElem?_eq_getElem hx
                      rw [h1]
                      exact hold x _ (HRI.out.sub x (.inl hx)) ((HRI.out.keep x hx).trans h1)
                    · obtain ⟨es, ck, h1, _⟩ := HRI.out.map
                      rw [h1]; exact hold _ _ HRI.out.ts h1
                  have HRN := Lib.hid hri
                  clear hri hold hk3 hs3 hJ3 HR HNXT
                  gi_wp2
                  go_roundw
                  case rel => exact ⟨k + 1, next, _, _, by omega, by go_num, rfl, HRN.out⟩
                  case measure => simp [intOf]; omega
                · clear HR
                  gi_wp2
                  refine bodyPost_ret (results_none rfl _ _ _) rfl ?_
                  exact ⟨⟨_, rfl⟩, _, .inr ⟨_, by omega, hJx3⟩⟩
          · obtain rfl : k = word.length := by omega
            have HN : Hid (L.length = word.length + 1) := by (have h : L.length = word.length + 1 := by (have h1 := runFrom_le m 0 (firstS m inputs) word; rw [← HL.out] at h1; have h2 := (List.getElem?_eq_some_iff.1 HRI.out.lat).1; omega)); exact h
            gi_wp2
            go_end0
            exact ⟨⟨_, rfl⟩, T, .inl (by rw [HN.out]; exact HRI.out.j)⟩
end Go.Proofs.YtjmejfgkogjpaaaGreat

namespace Go.Proofs.YtjmejfgkogjpaaaGreat
open Go.RowKit Go Go.Shelf
attribute [local go_sem] Oper.semAt_some

theorem Tryz.infoMsg : (Tryz.prog.info? 58).map (fun i => (i.zero, i.size, i.bytes)) = some (some (.agg #[.int .i64 0, .int .i64 0, .int .i64 0, .string ⟨#[]⟩]), 4, 40) := by kernel_rfl
abbrev Msg.c (m : Msg) : Array Value := #[.int .i64 m.rd, .int .i64 m.fr, .int .i64 m.to, .string m.bs]
def flatM (xs : List Msg) : List Value := xs.flatMap fun m => m.c.toList
theorem flatM_snoc (xs : List Msg) (k : Nat) (hk : k < xs.length) : flatM (xs.take (k + 1)) = flatM (xs.take k) ++ (xs.getD k default).c.toList := by
  unfold flatM
  rw [List.take_succ_eq_append_getElem hk, List.flatMap_append, getD_of_lt default hk]
  simp
/-- Between two rounds of the caller. -/
structure CI (w : World) (B2 : Nat) (xs : List Msg) (i : Nat) (T : Nat → Prop) (W : World) : Prop where
  old : Below w.heap.size w W
  lt : ∀ k, T k → k < W.heap.size
  notB : ¬ T B2
  row : ∃ v, W.heap[B2]? = some (.cells #[v] 38) ∧ OwnT W w.heap.size 58 4 v i (flatM (xs.take i)) ∧ ∀ g, v.ownBlock = some g → ¬ T g
theorem CI.next {w : World} {B2 : Nat} {xs : List Msg} {i B : Nat} {T T' : Nat → Prop} {A A' : World} (h : CI w B2 xs i T A) (hB : w.heap.size ≤ B) (hc : Chg B A A') (hw : Wid A A' T T') : CI w B2 xs i T' A' := by
  obtain ⟨v, h1, h2, h3⟩ := h.row
  have hn : ∀ g, g < A.heap.size → ¬ T g → ¬ T' g := fun g hg h ht => by
    rcases hw.2 g ht with h4 | h4
    · exact h h4
    · omega
  exact ⟨hc.below hB h.old.size h.old, fun k hk => by
    rcases hw.2 k hk with h4 | h4
    · exact Nat.lt_of_lt_of_le (h.lt k h4) hc.size
    · exact h4.2, hn _ (block_lt h1) h.notB, v, hc.ck _ _ h1 rfl, h2.ck hc.ck, fun g hg => hn _ (h2.lt g hg).2 (h3 g hg)⟩

set_option maxRecDepth 100000 in
set_option maxHeartbeats 4000000 in
theorem appendSeqM_any (gf : Nat) (lb : Array Value) (eg : ∀ args w, (callFunc gf args).run Tryz.prog w = .ok (.enter gf args) w) (xs : List Msg) (hn : xs.length ≤ 1048576) (S : Nat → Prop) (w : World)
    (hseq : SeqMk Tryz.prog gf lb (fun i args _ _ => args = #[.agg (xs.getD i default).c]) xs.length S w) (hS : ∀ k, S k → k < w.heap.size) :
    Calls Tryz.prog 111 #[.slice none 0 0, .func (.func gf) #[] lb] w fun e w' => ∃ v, e = .returned v ∧ OwnT w' w.heap.size 58 4 v xs.length (flatM xs) ∧ Below w.heap.size w w' := by
  obtain ⟨i0, hi0, hz0, hz1, hz2⟩ := info_parts Tryz.infoMsg
  refine calls_marks Tryz.func111 rfl ?_
  simp only [Tryz.ntmps111, List.size_toArray, List.length_cons, List.length_nil, Nat.reduceAdd, Nat.reduceSub, Array.replicate_succ, Array.replicate_zero, List.push_toArray, List.append_toArray, List.nil_append, List.cons_append]
  go_wp2_with fail
  refine wp_gen (fun W => Below w.heap.size w W ∧ W.heap[w.heap.size]? = some (.cells #[.slice none 0 0] 38)) ⟨by go_grown, alloc_new _ _⟩ (fun W0 hW0 => ?_)
  obtain ⟨hb0, hB0⟩ := hW0
  have hsz := block_lt hB0
  refine wp_rangeMk (gf := gf) (lb := lb) rfl eg hseq hb0 (fun k hk => Nat.lt_of_lt_of_le (hS k hk) hb0.size) (fun i args _ _ h => by rw [h]; rfl)
    (CI w w.heap.size xs) (fun _ _ _ _ => False)
    (fun i T T' A A' h hc hw => h.next (Nat.le_of_lt hsz) hc hw) (fun _ _ _ _ _ _ h _ _ => h)
    ⟨hb0, fun k hk => Nat.lt_of_lt_of_le (hS k hk) hb0.size, fun h => Nat.lt_irrefl _ (hS _ h), _, hB0, ⟨by simp [flatM], .inl ⟨rfl, rfl⟩⟩, fun g hg => by cases hg⟩ ?round ?done ?stop
  case round =>
    rintro l i T W args hi hl hlW hTl rfl hI
    have HFL := Lib.hid (flatM_snoc xs i hi)
    generalize xs.getD i default = m at HFL
    have HI := Lib.hid hI
    have hsW := hI.old.size
    clear hI hseq
    gi_wp2
    refine ⟨Bod.of_below (fun k hk => HI.out.lt k hk) (by go_grown), fun W' => CI w w.heap.size xs i T W' ∧ W'.heap[W.heap.size]? = some (.cells m.c 58), fun A A' hc h => ⟨h.1.next (Nat.le_of_lt hsz) hc (Wid.refl _ _ _), hc.ck _ _ h.2 rfl⟩, ⟨HI.out.next (Nat.le_of_lt hsz) (Chg.of_below (by go_grown)) (Wid.refl _ _ _), alloc_new _ _⟩, fun W2 h2 => ?_⟩
    intros
    obtain ⟨hc2, hm2⟩ := h2
    have HC2 := Lib.hid hc2
    obtain ⟨v, hv, hown, hTv⟩ := hc2.row
    have c1 := cell_block hv 0
    have f1 := frozen_block hv 0
    simp at c1
    have t1 := cell_block hm2
    have hA : Below W2.heap.size W2 (W2.alloc (.cells m.c 58)) := by go_grown
    have HOWN := Lib.hid (hown.up hA)
    have hnews : ∀ j u', m.c.toList[j]? = some u' → (W2.alloc (.cells m.c 58)).cell? (Addr.add ⟨W2.heap.size, 0, none⟩ j) = some u' := fun j u' hj => by
      have e1 : (Addr.add ⟨W2.heap.size, 0, none⟩ j) = ⟨W2.heap.size, j, none⟩ := by unfold Addr.add; split <;> simp_all
      rw [e1, cell_block (alloc_new W2 _)]
      simpa using hj
    have HNEWS := Lib.hid hnews
    have HV := Lib.hid hv
    have HTV := Lib.hid hTv
    have hs2 := hc2.old.size
    obtain ⟨av, cv, rfl⟩ := hown.slice
    have hne : ∀ g, (Value.slice av i cv).ownBlock = some g → g ≠ w.heap.size := hown.ne hv (by decide)
    have HNE := Lib.hid hne
    clear hc2 hm2 hv hown hnews hTv HI hne
    gi_wp2_with (gi_at_builtin; (refine wpListIn_append_T _ rfl (.tmp 8) (.tmp 10) 38 rfl w.heap.size 58 i0 _ 4 40 Tryz.underlying38 hi0 hz0 hz1 hz2 rfl (by decide) _ i _ rfl HOWN.out ⟨W2.heap.size, 0, none⟩ 1 1 m.c.toList rfl rfl HNEWS.out (by simp [Value.oneCell']) (by unfold maxLen; omega) (by omega) (by simp; omega) ?_; intro v' w3 hown3 hgrow3 hwh3; obtain ⟨av', cv', rfl⟩ := hown3.slice; have hB3 := (hgrow3.block _ (block_lt (alloc_old _ HV.out)) (fun e => HNE.out _ e.symm rfl)).trans (alloc_old _ HV.out); have c3 := cell_block hB3 0; have f3 := frozen_block hB3 0; simp at c3))
    have hb3 : Below w.heap.size w w3 := Below.grown (HC2.out.old.alloc hs2 _) hgrow3 (by simp; omega) (fun g hg => (HOWN.out.lt g hg).1)
    have hs3 := hgrow3.size
    simp only [World.size_alloc] at hs3
    have hT3 : ∀ k, T k → w3.heap[k]? = W2.heap[k]? := fun k hk => by
      have h1 := HC2.out.lt k hk
      rw [hgrow3.block k (by simp; omega) (fun e => HTV.out k e.symm hk)]
      exact Below.heap_alloc W2 _ k h1
    refine ⟨⟨by simp; omega, fun k hk => ?_, fun k o hB hk ho => ?_⟩, ⟨hb3.setCell (p := ⟨w.heap.size, 0, none⟩) (by simp) _, fun k hk => ?_, HC2.out.notB, ?_⟩⟩
    · rw [Below.heap_setCell _ _ _ _ (fun e => HC2.out.notB (by dsimp only at e; rw [← e]; exact hk))]
      exact hT3 k hk
    · have hne : some k ≠ (Value.slice av i cv).ownBlock := HOWN.out.isCells (alloc_old _ hk) ho
      refine setCell_other (B := w.heap.size) ?_ (by omega) _ _
      exact (hgrow3.block k (by have := block_lt hk; simp; omega) hne).trans (alloc_old _ hk)
    · have := HC2.out.lt k hk
      simp; omega
    · refine ⟨_, by rw [setCell_same hB3]; rfl, ?_, ?_⟩
      · rw [HFL.out]
        exact hown3.put (hown3.ne hB3 (by decide)) _ _
      · intro g hg hTg
        rcases hwh3 with h1 | h1
        · exact HTV.out g (h1 ▸ hg) hTg
        · have := HC2.out.lt g hTg
          rw [h1] at hg
          simp at hg; omega
  case done =>
    intro D T W hD hI hK
    obtain ⟨v, hv, hown, _⟩ := hI.row
    have c1 := cell_block hv 0
    simp at c1
    obtain ⟨av, cv, rfl⟩ := hown.slice
    have HOWN := Lib.hid hown
    have HOLD := Lib.hid hI.old
    clear hI hv hown hseq
    go_wp2_with fail
    refine marks_ret hK (results_tmp rfl _ _ _) ?_
    refine ⟨_, rfl, ?_, below_put (by omega) HOLD.out⟩
    rw [List.take_of_length_le (Nat.le_refl _)] at HOWN
    exact HOWN.out.ck (fun k o hk ho => (World.putObj_heap_other (fun e => by subst e; rw [hK] at hk; cases hk; cases ho)).trans hk)
  case stop =>
    intro D c i T W _ _ h
    exact h.elim

set_option maxHeartbeats 1000000 in
theorem collectM_any (gf : Nat) (lb : Array Value) (eg : ∀ args w, (callFunc gf args).run Tryz.prog w = .ok (.enter gf args) w) (xs : List Msg) (hn : xs.length ≤ 1048576) (S : Nat → Prop) (w : World)
    (hseq : SeqMk Tryz.prog gf lb (fun i args _ _ => args = #[.agg (xs.getD i default).c]) xs.length S w) (hS : ∀ k, S k → k < w.heap.size) :
    Calls Tryz.prog 83 #[.func (.func gf) #[] lb] w fun e w' => ∃ v, e = .returned v ∧ OwnT w' w.heap.size 58 4 v xs.length (flatM xs) ∧ Below w.heap.size w w' := by
  have HC := Lib.hid (appendSeqM_any gf lb eg xs hn S w hseq hS)
  clear hseq eg
  go_enter Tryz.func83, Tryz.ntmps83
  go_wp2_with fail
  refine HC.out.mono ?_
  rintro e w1 ⟨v, rfl, hv, hb⟩
  have HV := Lib.hid hv
  obtain ⟨av, cv, rfl⟩ := hv.slice
  clear hv
  go_wp2_with fail
  go_ret
  exact ⟨_, rfl, HV.out, hb⟩
end Go.Proofs.YtjmejfgkogjpaaaGreat

namespace Go.Proofs.YtjmejfgkogjpaaaGreat
open Go.RowKit Go Go.Shelf
attribute [local go_sem] Oper.semAt_some

abbrev slV (n b : Nat) : Value := .slice (some ⟨b, 0, none⟩) n n
/-- Between two rounds of the caller. -/
structure CV (w : World) (B2 n : Nat) (L : List (List Int)) (i : Nat) (T : Nat → Prop) (W : World) : Prop where
  old : Below w.heap.size w W
  lt : ∀ k, T k → k < W.heap.size
  notB : ¬ T B2
  row : ∃ (v : Value) (bs : List Nat), W.heap[B2]? = some (.cells #[v] 30) ∧ OwnT W w.heap.size 36 1 v i (bs.map (slV n)) ∧ (∀ g, v.ownBlock = some g → ¬ T g) ∧ bs.length = i ∧ ∀ j (hj : j < bs.length), T bs[j] ∧ W.heap[bs[j]]? = some (.cells (intsC (L.getD j [])) 3)
theorem CV.next {w : World} {B2 n : Nat} {L : List (List Int)} {i B : Nat} {T T' : Nat → Prop} {A A' : World} (h : CV w B2 n L i T A) (hB : w.heap.size ≤ B) (hc : Chg B A A') (hw : Wid A A' T T') : CV w B2 n L i T' A' := by
  obtain ⟨v, bs, h1, h2, h3, h4, h5⟩ := h.row
  have hn : ∀ g, g < A.heap.size → ¬ T g → ¬ T' g := fun g hg h ht => by
    rcases hw.2 g ht with h4 | h4
    · exact h h4
    · omega
  exact ⟨hc.below hB h.old.size h.old, fun k hk => by
    rcases hw.2 k hk with h4 | h4
    · exact Nat.lt_of_lt_of_le (h.lt k h4) hc.size
    · exact h4.2, hn _ (block_lt h1) h.notB, v, bs, hc.ck _ _ h1 rfl, h2.ck hc.ck, fun g hg => hn _ (h2.lt g hg).2 (h3 g hg), h4, fun j hj => ⟨hw.1 _ (h5 j hj).1, hc.ck _ _ (h5 j hj).2 rfl⟩⟩

set_option maxRecDepth 100000 in
set_option maxHeartbeats 4000000 in
theorem appendSeqV_any (gf : Nat) (lb : Array Value) (eg : ∀ args w, (callFunc gf args).run Tryz.prog w = .ok (.enter gf args) w) (L : List (List Int)) (n n0 : Nat) (hn : L.length ≤ 1048576) (S : Nat → Prop) (w : World)
    (hseq : SeqMk Tryz.prog gf lb (EN L n n0) L.length S w) (hS : ∀ k, S k → k < w.heap.size) :
    Calls Tryz.prog 119 #[.slice none 0 0, .func (.func gf) #[] lb] w fun e w' => ∃ (v : Value) (bs : List Nat), e = .returned v ∧ OwnT w' w.heap.size 36 1 v L.length (bs.map (slV n)) ∧ bs.length = L.length ∧ (∀ j (hj : j < bs.length), w'.heap[bs[j]]? = some (.cells (intsC (L.getD j [])) 3)) ∧ Below w.heap.size w w' := by
  obtain ⟨i0, hi0, hz0, hz1, hz2⟩ := info_parts Tryz.infoInts
  refine calls_marks Tryz.func119 rfl ?_
  simp only [Tryz.ntmps119, List.size_toArray, List.length_cons, List.length_nil, Nat.reduceAdd, Nat.reduceSub, Array.replicate_succ, Array.replicate_zero, List.push_toArray, List.append_toArray, List.nil_append, List.cons_append]
  go_wp2_with fail
  refine wp_gen (fun W => Below w.heap.size w W ∧ W.heap[w.heap.size]? = some (.cells #[.slice none 0 0] 30)) ⟨by go_grown, alloc_new _ _⟩ (fun W0 hW0 => ?_)
  obtain ⟨hb0, hB0⟩ := hW0
  have hsz := block_lt hB0
  refine wp_rangeMk (gf := gf) (lb := lb) rfl eg hseq hb0 (fun k hk => Nat.lt_of_lt_of_le (hS k hk) hb0.size) (fun i args _ _ h => by obtain ⟨b, h, _⟩ := h; rw [h]; rfl)
    (CV w w.heap.size n L) (fun _ _ _ _ => False)
    (fun i T T' A A' h hc hw => h.next (Nat.le_of_lt hsz) hc hw) (fun _ _ _ _ _ _ h _ _ => h)
    ⟨hb0, fun k hk => Nat.lt_of_lt_of_le (hS k hk) hb0.size, fun h => Nat.lt_irrefl _ (hS _ h), _, [], hB0, OwnT.nil _ _ _ _, (fun g hg => by cases hg), rfl, (fun j hj => by simp at hj)⟩ ?round ?done ?stop
  case round =>
    rintro l i T W args hi hl hlW hTl ⟨b, rfl, hTb, _, hb⟩ hI
    have HI := Lib.hid hI
    have hsW := hI.old.size
    have HB := Lib.hid hb
    clear hI hseq hb
    gi_wp2
    refine ⟨Bod.refl _ _ _, fun W' => CV w w.heap.size n L i T W' ∧ W'.heap[b]? = some (.cells (intsC (L.getD i [])) 3), fun A A' hc h => ⟨h.1.next (Nat.le_of_lt hsz) hc (Wid.refl _ _ _), hc.ck _ _ h.2 rfl⟩, ⟨HI.out, HB.out⟩, fun W2 h2 => ?_⟩
    intros
    obtain ⟨hc2, hm2⟩ := h2
    have HC2 := Lib.hid hc2
    have HM2 := Lib.hid hm2
    obtain ⟨v, bs, hv, hown, hTv, hbl, hbs⟩ := hc2.row
    have c1 := cell_block hv 0
    have f1 := frozen_block hv 0
    simp at c1
    have hA : Below W2.heap.size W2 (W2.alloc (.cells #[slV n b] 36)) := by go_grown
    have HOWN := Lib.hid (hown.up hA)
    have hnews : ∀ j u', [slV n b][j]? = some u' → (W2.alloc (.cells #[slV n b] 36)).cell? (Addr.add ⟨W2.heap.size, 0, none⟩ j) = some u' := fun j u' hj => by
      have e1 : (Addr.add ⟨W2.heap.size, 0, none⟩ j) = ⟨W2.heap.size, j, none⟩ := by unfold Addr.add; split <;> simp_all
      rw [e1, cell_block (alloc_new W2 _)]
      simpa using hj
    have HNEWS := Lib.hid hnews
    have HV := Lib.hid hv
    have HTV := Lib.hid hTv
    have HBS := Lib.hid hbs
    have HBL := Lib.hid hbl
    have hs2 := hc2.old.size
    obtain ⟨av, cv, rfl⟩ := hown.slice
    have hne : ∀ g, (Value.slice av i cv).ownBlock = some g → g ≠ w.heap.size := hown.ne hv (by decide)
    have HNE := Lib.hid hne
    clear hc2 hm2 hv hown hnews hTv HI hne hbl hbs
    gi_wp2_with (gi_at_builtin; (refine wpListIn_append_T _ rfl (.tmp 8) (.tmp 10) 30 rfl w.heap.size 36 i0 _ 1 24 Tryz.underlying30 hi0 hz0 hz1 hz2 rfl (by decide) _ i _ rfl HOWN.out ⟨W2.heap.size, 0, none⟩ 1 1 [slV n b] rfl rfl HNEWS.out (by simp [Value.oneCell']) (by unfold maxLen; omega) (by omega) (by simp; omega) ?_; intro v' w3 hown3 hgrow3 hwh3; obtain ⟨av', cv', rfl⟩ := hown3.slice; have hB3 := (hgrow3.block _ (block_lt (alloc_old _ HV.out)) (fun e => HNE.out _ e.symm rfl)).trans (alloc_old _ HV.out); have c3 := cell_block hB3 0; have f3 := frozen_block hB3 0; simp at c3))
    have hb3 : Below w.heap.size w w3 := Below.grown (HC2.out.old.alloc hs2 _) hgrow3 (by simp; omega) (fun g hg => (HOWN.out.lt g hg).1)
    have hs3 := hgrow3.size
    simp only [World.size_alloc] at hs3
    have hT3 : ∀ k, T k → w3.heap[k]? = W2.heap[k]? := fun k hk => by
      have h1 := HC2.out.lt k hk
      rw [hgrow3.block k (by simp; omega) (fun e => HTV.out k e.symm hk)]
      exact Below.heap_alloc W2 _ k h1
    have hT4 : ∀ k, T k → (w3.setCell ⟨w.heap.size, 0, none⟩ (.slice av' (i + 1) cv')).heap[k]? = W2.heap[k]? := fun k hk => by
      rw [Below.heap_setCell _ _ _ _ (fun e => HC2.out.notB (by dsimp only at e; rw [← e]; exact hk))]
      exact hT3 k hk
    refine ⟨⟨by simp; omega, hT4, fun k o hB hk ho => ?_⟩, ⟨hb3.setCell (p := ⟨w.heap.size, 0, none⟩) (by simp) _, fun k hk => ?_, HC2.out.notB, ?_⟩⟩
    · have hne : some k ≠ (Value.slice av i cv).ownBlock := HOWN.out.isCells (alloc_old _ hk) ho
      refine setCell_other (B := w.heap.size) ?_ (by omega) _ _
      exact (hgrow3.block k (by have := block_lt hk; simp; omega) hne).trans (alloc_old _ hk)
    · have := HC2.out.lt k hk
      simp; omega
    · refine ⟨_, bs ++ [b], by rw [setCell_same hB3]; rfl, ?_, ?_, by rw [List.length_append, HBL.out]; rfl, ?_⟩
      · rw [List.map_append]
        exact hown3.put (hown3.ne hB3 (by decide)) _ _
      · intro g hg hTg
        rcases hwh3 with h1 | h1
        · exact HTV.out g (h1 ▸ hg) hTg
        · have := HC2.out.lt g hTg
          rw [h1] at hg
          simp at hg; omega
      · intro j hj
        by_cases hji : j < bs.length
        · rw [List.getElem_append_left hji]
          exact ⟨(HBS.out j hji).1, (hT4 _ (HBS.out j hji).1).trans (HBS.out j hji).2⟩
        · have hjl : j = bs.length := by simp at hj; omega
          subst hjl
          rw [List.getElem_append_right (Nat.le_refl _)]
          simp only [Nat.sub_self, List.getElem_cons_zero]
          exact ⟨hTb, (hT4 _ hTb).trans (by rw [HBL.out]; exact HM2.out)⟩
  case done =>
    intro D T W hD hI hK
    obtain ⟨v, bs, hv, hown, _, hbl, hbs⟩ := hI.row
    have c1 := cell_block hv 0
    simp at c1
    obtain ⟨av, cv, rfl⟩ := hown.slice
    have HOWN := Lib.hid hown
    have HOLD := Lib.hid hI.old
    have HBS := Lib.hid hbs
    have HBL := Lib.hid hbl
    clear hI hv hown hseq hbl hbs
    go_wp2_with fail
    refine marks_ret hK (results_tmp rfl _ _ _) ?_
    have hck : CK W (W.putObj D (.deferred none)) := fun k o hk ho => (World.putObj_heap_other (fun e => by subst e; rw [hK] at hk; cases hk; cases ho)).trans hk
    exact ⟨_, bs, rfl, HOWN.out.ck hck, HBL.out, fun j hj => hck _ _ (HBS.out j hj).2 rfl, below_put (by omega) HOLD.out⟩
  case stop =>
    intro D c i T W _ _ h
    exact h.elim

theorem own_vecs {w : World} {base n : Nat} {v : Value} {L : List (List Int)} {bs : List Nat} (h : OwnT w base 36 1 v L.length (bs.map (slV n))) (hl : bs.length = L.length) (hb : ∀ j (hj : j < bs.length), w.heap[bs[j]]? = some (.cells (intsC (L.getD j [])) 3))
    (hx : ∀ x ∈ L, x.length = n ∧ ∀ i, i < x.length → InR (x.getD i 0)) (hn : L.length ≤ 17592186044416) (hn2 : n ≤ 256) : IsVecs w v L := by
  have hall : ∀ i (hi : i < L.length), ∃ g c, v = .slice (some ⟨g, 0, none⟩) L.length c ∧ w.cell? ⟨g, i, none⟩ = some (slV n (bs[i]'(by omega))) := fun i hi => h.cell i _ (by rw [List.getElem?_map, List.getElem?_eq_getElem (by omega)]; rfl)
  have hat : ∀ i (hi : i < L.length), IsInts w (slV n (bs[i]'(by omega))) L[i] := fun i hi => by
    have h1 := hb i (by omega)
    have h2 := hx L[i] (List.getElem_mem hi)
    rw [getD_of_lt [] hi] at h1
    exact now_ints h2.1 hn2 h1 h2.2
  rcases h.2 with ⟨rfl, hz⟩ | ⟨g, cap, cur, fz, rfl, _, hg, _, hc1, hc2, _, _⟩
  · refine ⟨none, 0, by rw [hz], ⟨by omega, by omega, fun _ => rfl⟩, hn, fun i x hi => ?_⟩
    have := (List.getElem?_eq_some_iff.1 hi).1
    omega
  · refine ⟨some ⟨g, 0, none⟩, cap, rfl, ⟨hc1, by simp only [maxLen] at hc2; omega, fun e => by cases e⟩, hn, fun i x hi => ⟨g, 0, rfl, ?_⟩⟩
    obtain ⟨hil, rfl⟩ := List.getElem?_eq_some_iff.1 hi
    obtain ⟨g', c', e1, e2⟩ := hall i hil
    have : g = g' := by simp at e1; exact e1.1
    subst this
    exact ⟨_, by rw [Nat.zero_add, Nat.mul_one]; exact e2, hat i hil⟩

set_option maxHeartbeats 1000000 in
theorem collectV_any (gf : Nat) (lb : Array Value) (eg : ∀ args w, (callFunc gf args).run Tryz.prog w = .ok (.enter gf args) w) (L : List (List Int)) (n n0 : Nat) (hn : L.length ≤ 1048576) (S : Nat → Prop) (w : World)
    (hseq : SeqMk Tryz.prog gf lb (EN L n n0) L.length S w) (hS : ∀ k, S k → k < w.heap.size) (hx : ∀ x ∈ L, x.length = n ∧ ∀ i, i < x.length → InR (x.getD i 0)) (hn2 : n ≤ 256) :
    Calls Tryz.prog 88 #[.func (.func gf) #[] lb] w fun e w' => ∃ v, e = .returned v ∧ IsVecs w' v L ∧ Below w.heap.size w w' := by
  have HC := Lib.hid (appendSeqV_any gf lb eg L n n0 hn S w hseq hS)
  have HX := Lib.hid hx
  clear hseq eg hx
  go_enter Tryz.func88, Tryz.ntmps88
  go_wp2_with fail
  refine HC.out.mono ?_
  rintro e w1 ⟨v, bs, rfl, hv, hl, hbs, hb⟩
  have HV := Lib.hid (own_vecs hv hl hbs HX.out (by omega) hn2)
  obtain ⟨av, cv, rfl⟩ := hv.slice
  clear hv hl hbs
  go_wp2_with fail
  go_ret
  exact ⟨_, rfl, HV.out, hb⟩
end Go.Proofs.YtjmejfgkogjpaaaGreat

namespace Go.Proofs.YtjmejfgkogjpaaaGreat
open Go.RowKit Go Go.Shelf

theorem runL_fits {m : Mac} {n r : Nat} (g : Good m n r) {inputs : List Int} {word : List Rd} (hl : inputs.length = n) (hi : ∀ p, p < n → 0 ≤ inputs.getD p 0 ∧ inputs.getD p 0 < m.ins) : ∀ (k : Nat) (x : List Int), (runL m inputs word)[k]? = some x → Fits m n k x := by
  intro k
  by_cases hc : (firstS m inputs).contains (-1) = true
  · intro x hx; unfold runL at hx; rw [if_pos hc] at hx; simp at hx
  · have hrl : runL m inputs word = runFrom m 0 (firstS m inputs) word := by unfold runL; rw [if_neg hc]
    rw [hrl]
    induction k with
    | zero =>
      intro x hx
      rw [runFrom_head] at hx
      cases hx
      exact firstS_fits g hl hi (eq_false_of_ne_true hc)
    | succ k ih =>
      intro x hx
      have hlt := (List.getElem?_eq_some_iff.1 hx).1
      have hle := runFrom_le m 0 (firstS m inputs) word
      have hk : k < word.length := by omega
      obtain ⟨y, hy⟩ : ∃ y, (runFrom m 0 (firstS m inputs) word)[k]? = some y := ⟨_, List.getElem?_eq_getElem (by omega)⟩
      have hs := runFrom_step m 0 (firstS m inputs) word k y hy hk
      rw [Nat.zero_add] at hs
      cases hn : nextS m k y word[k] with
      | none => have := hs.2 hn; omega
      | some z =>
        have := hs.1 z hn
        rw [hx] at this
        cases this
        exact nextS_fits g hn
theorem ret_tup {v : Value} {a b : Int} (h : a = b) : Ending.returned (.tuple #[v, .int .i64 a]) = .returned (.tuple #[v, .int .i64 b]) := by rw [h]
theorem allB_true {l : List Int} {lo hi : Int} (h : allB l lo hi = true) : ∀ p, p < l.length → lo ≤ l.getD p 0 ∧ l.getD p 0 ≤ hi := fun p hp => allB_iff h p hp

set_option maxRecDepth 100000 in
set_option maxHeartbeats 8000000 in
theorem play_any (m : Mac) (vf vy vt vo vi vw : Value) (inputs : List Int) (word : List Rd) (w : World) (hf : IsVecs w vf m.first) (hy : IsV4 w vy m.syms) (ht : IsSteps w vt m.steps) (ho : IsV3 w vo m.out) (hi : IsInts w vi inputs) (hw : IsWord w vw word) :
    Calls Tryz.prog 53 #[.agg (macC m vf vy vt vo), vi, vw] w fun e w' => ∃ v, e = .returned (.tuple #[v, .int .i64 (playE m inputs word)]) ∧ (playE m inputs word = 0 → IsVecs w' v (runL m inputs word)) ∧ (playE m inputs word ≠ 0 → v = .slice none 0 0) ∧ Below w.heap.size w w' := by
  have HF := Lib.hid hf
  have HY := Lib.hid hy
  have HT := Lib.hid ht
  have HO := Lib.hid ho
  have HI := Lib.hid hi
  have HW := Lib.hid hw
  have HCK := Lib.hid (fun W (hb : Below w.heap.size w W) => macCheck_any m vf vy vt vo W (hf.up up_ints hb) (hy.up up_v3 hb) (ht.up up_step hb) (ho.up up_vecs hb))
  obtain ⟨pf, cf, rfl, _⟩ := hf.at
  obtain ⟨py, cy, rfl, _⟩ := hy.at
  obtain ⟨pt, ct, rfl, _⟩ := ht.at
  obtain ⟨po, co, rfl, _⟩ := ho.at
  obtain ⟨pi, ci, rfl, li1, li2, _⟩ := hi.at
  obtain ⟨pw, cw, rfl, lw1, lw2, _⟩ := hw.at
  clear hf hy ht ho hi hw
  have HV : Hid (playE m inputs word = if checkE m ≠ 0 then checkE m else if (inputs.length : Int) ≠ m.n then 15 else if !allB inputs 0 (m.ins - 1) then 2 else if wordE m.n word ≠ 0 then wordE m.n word else if (word.length : Int) ≠ m.rounds then 15 else if ((runL m inputs word).length : Int) ≠ m.rounds + 1 then 20 else 0) := by exact rfl
  generalize hpe : playE m inputs word = pe at HV
  clear hpe
  go_enter Tryz.func53, Tryz.ntmps53
  go_wp2_with fail
  refine calls_gen (fun W => Below w.heap.size w W ∧ W.heap[w.heap.size]? = some (.cells (macC m (.slice pf m.first.length cf) (.slice py m.syms.length cy) (.slice pt m.steps.length ct) (.slice po m.out.length co)) 35)) ⟨by go_grown, alloc_new _ _⟩ (fun W0 hW0 => ?_)
  obtain ⟨hb0, hM0⟩ := hW0
  have HM0 := Lib.hid hM0
  clear hM0
  refine (HCK.out W0 hb0).mono ?_
  rintro e w1 ⟨rfl, hb1⟩
  have hbw1 := ext_trans hb0 hb1
  have HM1 := Lib.hid (block_up hb1 HM0.out)
  by_cases hck : checkE m = 0
  case neg =>
    have HP : Hid (pe = checkE m) := by (have h : pe = checkE m := by (rw [HV.out, if_pos hck])); exact h
    have hck' : (checkE m != 0) = true := by simpa using hck
    have HCK0 := Lib.hid hck
    clear hck
    go_wp2_with fail
    go_ret2
    exact ⟨_, ret_tup HP.out.symm, fun h => absurd (HP.out ▸ h) HCK0.out, fun _ => rfl, hbw1⟩
  obtain ⟨n, r, g⟩ := checkE_good hck
  have HG := Lib.hid g
  rw [hck]
  rw [hck] at HV
  clear g hck
  have t1 := cell_block HM1.out
  by_cases hil : (inputs.length : Int) = m.n
  case neg =>
    have HP : Hid (pe = 15) := by (have h : pe = 15 := by (rw [HV.out, if_neg (by simp), if_pos hil])); exact h
    have hil' : ((inputs.length : Int) != m.n) = true := by simpa using hil
    clear hil
    go_wp2_with fail
    go_ret2
    exact ⟨_, ret_tup HP.out.symm, fun h => absurd (HP.out ▸ h) (by decide), fun _ => rfl, hbw1⟩
  have hil' : ((inputs.length : Int) != m.n) = false := by simpa using hil
  have HIL := Lib.hid hil
  clear hil
  have hins := HG.out.ins
  go_wp2_with fail
  refine (all_any _ inputs 0 (m.ins - 1) w1 (HI.out.up up_int hbw1)).mono ?_
  rintro e w2 ⟨rfl, hb2⟩
  have hbw2 := ext_trans hbw1 hb2
  have HM2 := Lib.hid (block_up hb2 HM1.out)
  clear t1
  cases hall : allB inputs 0 (m.ins - 1) with
  | false =>
    have HP : Hid (pe = 2) := by (have h : pe = 2 := by (rw [HV.out, if_neg (by simp), if_neg (by simpa using HIL.out), hall]; rfl)); exact h
    clear hall
    go_wp2_with fail
    go_ret2
    exact ⟨_, ret_tup HP.out.symm, fun h => absurd (HP.out ▸ h) (by decide), fun _ => rfl, hbw2⟩
  | true =>
    have HV2 : Hid (pe = if wordE m.n word ≠ 0 then wordE m.n word else if (word.length : Int) ≠ m.rounds then 15 else if ((runL m inputs word).length : Int) ≠ m.rounds + 1 then 20 else 0) := by
      (have h : pe = if wordE m.n word ≠ 0 then wordE m.n word else if (word.length : Int) ≠ m.rounds then 15 else if ((runL m inputs word).length : Int) ≠ m.rounds + 1 then 20 else 0 := by (rw [HV.out, if_neg (by simp), if_neg (by simpa using HIL.out), hall]; rfl)); exact h
    have HALL := Lib.hid hall
    clear hall HV
    have t1 := cell_block HM2.out
    go_wp2_with fail
    refine (word_any m.n _ word w2 (HW.out.up up_round hbw2)).mono ?_
    rintro e w3 ⟨rfl, hb3⟩
    have hbw3 := ext_trans hbw2 hb3
    have HM3 := Lib.hid (block_up hb3 HM2.out)
    clear t1
    by_cases hwe : wordE m.n word = 0
    case neg =>
      have HP : Hid (pe = wordE m.n word) := by (have h : pe = wordE m.n word := by (rw [HV2.out, if_pos hwe])); exact h
      have hwe' : (wordE m.n word != 0) = true := by simpa using hwe
      have HWE := Lib.hid hwe
      clear hwe
      go_wp2_with fail
      go_ret2
      exact ⟨_, ret_tup HP.out.symm, fun h => absurd (HP.out ▸ h) HWE.out, fun _ => rfl, hbw3⟩
    have HWE := Lib.hid hwe
    rw [hwe]
    rw [hwe] at HV2
    clear hwe
    have t1 := cell_block HM3.out
    by_cases hwl : (word.length : Int) = m.rounds
    case neg =>
      have HP : Hid (pe = 15) := by (have h : pe = 15 := by (rw [HV2.out, if_neg (by simp), if_pos hwl])); exact h
      have hwl' : ((word.length : Int) != m.rounds) = true := by simpa using hwl
      clear hwl
      go_wp2_with fail
      go_ret2
      exact ⟨_, ret_tup HP.out.symm, fun h => absurd (HP.out ▸ h) (by decide), fun _ => rfl, hbw3⟩
    have HV3 : Hid (pe = if ((runL m inputs word).length : Int) ≠ m.rounds + 1 then 20 else 0) := by
      (have h : pe = if ((runL m inputs word).length : Int) ≠ m.rounds + 1 then 20 else 0 := by (rw [HV2.out, if_neg (by simp), if_neg (by simpa using hwl)])); exact h
    have hwl' : ((word.length : Int) != m.rounds) = false := by simpa using hwl
    have HWL := Lib.hid hwl
    clear hwl HV2
    go_wp2_with fail
    refine (run_any m _ _ _ _ _ _ _ _ _ _ _ _ _ _ _ _ _ _ _).mono ?_
    rintro e w4 ⟨rfl, rfl⟩
    clear t1 hwl' hil'
    go_wp2_with fail
    refine calls_gen (fun W => Below w3.heap.size w3 W ∧ W.heap[w3.heap.size]? = some (.cells (macC m (.slice pf m.first.length cf) (.slice py m.syms.length cy) (.slice pt m.steps.length ct) (.slice po m.out.length co)) 35) ∧ W.heap[w3.heap.size + 1]? = some (.cells #[.slice pi inputs.length ci] 36) ∧ W.heap[w3.heap.size + 1 + 1]? = some (.cells #[.slice pw word.length cw] 37))
      ⟨by go_grown, alloc_old _ (alloc_old _ (alloc_new _ _)), alloc_old _ (alloc2_new _ _ _), alloc3_new _ _ _ _⟩ (fun W4 hW4 => ?_)
    obtain ⟨hb4, hA, hB, hC⟩ := hW4
    have hbw4 := ext_trans hbw3 hb4
    have hilN : inputs.length = n := by have h1 := HIL.out; have h2 := HG.out.hn; omega
    have hir : ∀ p, p < n → 0 ≤ inputs.getD p 0 ∧ inputs.getD p 0 < m.ins := fun p hp => by have := allB_true HALL.out p (by omega); omega
    have hwlr : word.length = r := by have h1 := HWL.out; have h2 := HG.out.hr; omega
    have hweN : wordE n word = 0 := by have h1 := HWE.out; rw [HG.out.hn] at h1; exact h1
    have hseq := run1_seq m n r HG.out _ _ _ _ _ _ inputs word w HF.out HY.out HT.out HO.out HI.out HW.out hilN hir hweN hwlr W4 hbw4 w3.heap.size (w3.heap.size + 1) (w3.heap.size + 1 + 1) hA hB hC
    have hfits := runL_fits HG.out (word := word) hilN hir
    have hlen : (runL m inputs word).length ≤ 7 := by
      have h1 := HG.out.r6
      unfold runL
      split
      · simp
      · have := runFrom_le m 0 (firstS m inputs) word; omega
    have hszC := block_lt hC
    have hbs := hbw4.size
    have hn5 := HG.out.n5
    have HCOL := Lib.hid (collectV_any 120 _ (enters_of Tryz.func120 (by kernel_rfl) rfl) (runL m inputs word) n _ (by omega) _ W4 hseq (fun k hk => by rcases hk with hk | hk | hk | hk <;> omega) (fun x hx => by
      obtain ⟨k, hk, rfl⟩ := List.getElem_of_mem hx
      have hf := hfits k _ (List.getElem?_eq_getElem hk)
      have hkr : k < r + 1 := by
        have : (runL m inputs word).length ≤ word.length + 1 := by
          unfold runL
          split
          · simp
          · exact runFrom_le _ _ _ _
        omega
      exact ⟨hf.1, fits_in hf (fun q hq => v3_len HO.out k q (by rw [HG.out.ol]; exact hkr) (by rw [HG.out.ok k hkr]; exact hq))⟩) (by omega))
    clear hseq hfits hA hB hC hlen hilN hir hwlr hweN
    refine HCOL.out.mono ?_
    rintro e w5 ⟨v, rfl, hv, hb5⟩
    have hbw5 := ext_trans hbw4 hb5
    have HM5 := Lib.hid (block_up (ext_trans hb4 hb5) HM3.out)
    have HVV := Lib.hid hv
    obtain ⟨pv, cv, rfl, lv1, lv2, _⟩ := hv.at
    clear hv HCOL
    have t1 := cell_block HM5.out
    have hr6 := HG.out.r6
    have HRR := Lib.hid HG.out.hr
    generalize hLL : runL m inputs word = L at HV3 HVV lv1 lv2
    have HLL := Lib.hid hLL
    clear hLL
    have hrr : 0 ≤ m.rounds ∧ m.rounds ≤ 6 := by have := HG.out.hr; omega
    by_cases hL : (L.length : Int) = m.rounds + 1
    · have HP : Hid (pe = 0) := by (have h : pe = 0 := by (rw [HV3.out, if_neg (by simpa using hL)])); exact h
      have hL' : ((L.length : Int) != m.rounds + 1) = false := by simpa using hL
      clear hL
      go_wp2_with fail
      go_ret2
      exact ⟨.slice pv L.length cv, ret_tup HP.out.symm, fun _ => by rw [HLL.out]; exact HVV.out, fun h => absurd HP.out h, hbw5⟩
    · have HP : Hid (pe = 20) := by (have h : pe = 20 := by (rw [HV3.out, if_pos hL])); exact h
      have hL' : ((L.length : Int) != m.rounds + 1) = true := by simpa using hL
      clear hL
      go_wp2_with fail
      go_ret2
      exact ⟨_, ret_tup HP.out.symm, fun h => absurd (HP.out ▸ h) (by decide), fun _ => rfl, hbw5⟩
end Go.Proofs.YtjmejfgkogjpaaaGreat

namespace Go.Proofs.YtjmejfgkogjpaaaGreat
open Go.RowKit Go Go.Shelf

theorem below_drew_alloc (w : World) (o : Obj) : Below w.heap.size w (w.drew.alloc o) := ((Below.refl _ w).drew).alloc (by simp) o
/-- '[]byte(s)' -/
theorem conv_bytes (b : ByteArray) (hb : b.size ≤ 140737488351232) (w : World) : ∃ cap W', (convert 9 171 (.string b)).run Tryz.prog w = .ok (.slice (some ⟨w.heap.size, 0, none⟩) b.size cap) W' ∧ Below w.heap.size w W' ∧ b.size ≤ cap ∧ cap ≤ maxLen ∧
    W'.heap[w.heap.size]? = some (.cells (bytesRow b cap) 5 ((bytesRow b cap).size, (bytesRow b cap).size + 1)) :=
  ⟨_, _, run_bytes_of_string w _ _ 5 b Tryz.underlying9 Tryz.underlying171 Tryz.underlying5, below_drew_alloc _ _, grownCap_ge _ _ _ _, grownCap_le_maxLen _ _ _ _ (by simp only [maxLen]; omega), heap_alloc_new w.drew _⟩
theorem ck_cast (m s k x : Nat) : ((s : Int) + ((k : Int) + 1) % (m : Int) * (x : Int)) % (m : Int) = (((s + (k + 1) % m * x) % m : Nat) : Int) := by push_cast; rfl
theorem byte_lt (x : UInt8) : x.toNat < 256 := x.toNat_lt
theorem bytes_get (b : ByteArray) (k : Nat) (hk : k < b.size) : b.data[k]'hk = b.data.toList.getD k 0 := by
  have h : k < b.data.toList.length := by simpa using hk
  rw [List.getD_eq_getElem?_getD, List.getElem?_eq_getElem h]; simp

set_option maxRecDepth 100000 in
set_option maxHeartbeats 1000000 in
theorem checksum_any (b : ByteArray) (hb : b.size ≤ 140737488351232) (w : World) :
    Calls Tryz.prog 84 #[.string b] w fun e w' => e = .returned (.int .i64 (ckS b.data.toList)) ∧ Below w.heap.size w w' := by
  obtain ⟨cap, W1, hc, hb1, h1, h2, h3⟩ := conv_bytes b hb w
  have h2' : cap ≤ 9223372036854775807 := by simp only [maxLen] at h2; omega
  have H3 := Lib.hid h3
  clear h3 h2
  have HK : Hid (ckS b.data.toList = ckAt b.data.toList b.size b.size) := by (have h : ckS b.data.toList = ckAt b.data.toList b.size b.size := by (unfold ckS; simp)); exact h
  go_enter Tryz.func84, Tryz.ntmps84
  go_wp2
  go_loop [3, 12] (fun s i => ∃ k : Nat, k ≤ b.size ∧ i = .int .i64 k ∧ s = .int .i64 (ckAt b.data.toList b.size k)) (fun _ i => b.size - (intOf i).toNat)
  case atStart => exact ⟨0, by omega, rfl, by simp [ckAt]⟩
  case round =>
    obtain ⟨k, hk, rfl, rfl⟩ := hrel
    by_cases hlt : k < b.size
    · have cx : W1.cell? ⟨w.heap.size, k, none⟩ = some (.int .u8 ((b.data.toList.getD k 0).toNat : Int)) := by
        rw [cell_block H3.out, bytesRow_at b cap k hlt, bytes_get b k hlt]
      have hs := ckAt_lt b.data.toList b.size k
      have HS : Hid (ckAt b.data.toList b.size (k + 1) = (ckAt b.data.toList b.size k + (k + 1) % 65521 * (b.data.toList.getD k 0).toNat) % 65521) := by exact rfl
      have hx := byte_lt (b.data.toList.getD k 0)
      generalize (b.data.toList.getD k 0).toNat = x at cx hx HS
      generalize ckAt b.data.toList b.size k = s at hs HS
      have hm : ((k : Int) + 1) % 65521 * (x : Int) ≤ 65520 * 255 := Int.mul_le_mul (by omega) (by omega) (by omega) (by omega)
      have hm0 : 0 ≤ ((k : Int) + 1) % 65521 * (x : Int) := Int.mul_nonneg (by omega) (by omega)
      have hw1 : IntKind.i64.wrap (((k : Int) + 1) % 65521 * (x : Int)) = ((k : Int) + 1) % 65521 * (x : Int) := IntWalk.i64_in _ (by omega)
      have hw2 : IntKind.i64.wrap ((s : Int) + ((k : Int) + 1) % 65521 * (x : Int)) = (s : Int) + ((k : Int) + 1) % 65521 * (x : Int) := IntWalk.i64_in _ (by omega)
      have HM := Lib.hid (And.intro hm hm0)
      clear hm hm0
      go_wp2
      go_round
      case rel => exact ⟨k + 1, by omega, by go_num, by rw [HS.out, ← ck_cast 65521]; rfl⟩
      case measure => simp [intOf]; omega
    · obtain rfl : k = b.size := by omega
      go_wp2
      go_ret
      exact ⟨ret_int (by rw [HK.out]), hb1⟩
end Go.Proofs.YtjmejfgkogjpaaaGreat

namespace Go.Proofs.YtjmejfgkogjpaaaGreat
open Go.RowKit Go Go.Shelf

abbrev byteV (b : UInt8) : Value := .int .u8 (b.toNat : Int)
theorem Tryz.infoByte : (Tryz.prog.info? 5).map (fun i => (i.zero, i.size, i.bytes)) = some (some (.int .u8 0), 1, 1) := by kernel_rfl
theorem and127 (y : Nat) (hy : y < 9223372036854775808) : bits .and .i64 (y : Int) 127 = ((y % 128 : Nat) : Int) := by
  have := i64_and_nat y 127 hy (by omega)
  rw [show ((127 : Nat) : Int) = 127 by rfl] at this
  rw [this, show (127 : Nat) = 2 ^ 7 - 1 by rfl, Nat.and_two_pow_sub_one_eq_mod]
theorem or128 (y : Nat) (hy : y < 128) : bits .or .i64 (y : Int) 128 = ((y + 128 : Nat) : Int) := by
  have key : ∀ a : Fin 128, bits .or .i64 ((a.val : Nat) : Int) 128 = ((a.val + 128 : Nat) : Int) := by decide +kernel
  exact key ⟨y, hy⟩
theorem u8wrap (y : Nat) (hy : y < 256) : IntKind.u8.wrap (y : Int) = (y : Int) := by
  have key : ∀ a : Fin 256, IntKind.u8.wrap ((a.val : Nat) : Int) = ((a.val : Nat) : Int) := by decide +kernel
  exact key ⟨y, hy⟩
theorem byteV_ofNat (y : Nat) (hy : y < 256) : byteV (UInt8.ofNat y) = .int .u8 (y : Int) := by
  simp [UInt8.toNat_ofNat, Nat.mod_eq_of_lt hy]
theorem vint_big (y : Nat) (h : 127 < y) : vint y = UInt8.ofNat (y % 128 + 128) :: vint (y / 128) := by rw [vint, if_neg (by omega)]
theorem vint_small (y : Nat) (h : y ≤ 127) : vint y = [UInt8.ofNat y] := by rw [vint, if_pos h]
theorem vint_len (y : Nat) (h : y < 18446744073709551616) : (vint y).length ≤ 64 := by
  have key : ∀ d, ∀ y, y < 128 ^ (d + 1) → (vint y).length ≤ d + 1 := by
    intro d
    induction d with
    | zero => intro y hy; rw [vint_small y (by omega)]; simp
    | succ d ih =>
      intro y hy
      by_cases hs : y ≤ 127
      · rw [vint_small y hs]; simp
      · rw [vint_big y (by omega)]
        have := ih (y / 128) (by rw [Nat.pow_succ] at hy; omega)
        simp; omega
  exact Nat.le_trans (key 9 y (by omega)) (by omega)

set_option maxRecDepth 100000 in
set_option maxHeartbeats 1000000 in
theorem writer_any (b : ByteArray) (hb : b.size ≤ 17592186044416) (w : World) :
    Calls Tryz.prog 124 #[.string b] w fun e w' => ∃ B u, e = .returned (.tuple #[.func (.func 139) #[] #[.pointer (some ⟨B, 0, none⟩)], .func (.func 140) #[] #[.pointer (some ⟨B, 0, none⟩)]]) ∧ w'.heap[B]? = some (.cells #[u] 171) ∧ OwnT w' w.heap.size 5 1 u b.size (b.data.toList.map byteV) ∧ w.heap.size ≤ B ∧ Below w.heap.size w w' := by
  obtain ⟨cap, W1, hc, hb1, h1, h2, h3⟩ := conv_bytes b (by omega) w
  have hown : OwnT W1 w.heap.size 5 1 (.slice (some ⟨w.heap.size, 0, none⟩) b.size cap) b.size (b.data.toList.map byteV) := by
    have hbs : b.data.size = b.size := rfl
    have hcs : (bytesRow b cap).size = cap := by simp [bytesRow]; omega
    refine ⟨by simp, .inr ⟨w.heap.size, cap, _, _, rfl, Nat.le_refl _, h3, fun i hi h => ?_, h1, h2, by rw [hcs]; omega, ?_⟩⟩
    · have := h.1; omega
    · rw [Nat.mul_one]
      unfold bytesRow
      rw [Array.toList_append, List.take_append_of_le_length (by simp), List.take_of_length_le (by simp)]
      simp
  have HOWN := Lib.hid hown
  have hz := hb1.size
  have hzz := block_lt h3
  clear h1 h2 h3 hown
  go_enter Tryz.func124, Tryz.ntmps124
  go_wp2
  go_ret2
  exact ⟨_, _, rfl, alloc_new _ _, HOWN.out.up (by go_grown), by omega, ext_trans hb1 (by go_grown)⟩

set_option maxHeartbeats 400000 in
theorem writer2_any (B : Nat) (u : Value) (w : World) (hu : ∃ a n c, u = .slice a n c) (hB : w.heap[B]? = some (.cells #[u] 171)) :
    Calls Tryz.prog 140 #[.pointer (some ⟨B, 0, none⟩)] w fun e w' => e = .returned u ∧ w = w' := by
  obtain ⟨a, n, c, rfl⟩ := hu
  have c1 := cell_block hB 0
  simp at c1
  clear hB
  go_enter Tryz.func140, Tryz.ntmps140
  go_wp2
  go_ret
  exact ⟨rfl, rfl⟩

set_option maxRecDepth 100000 in
set_option maxHeartbeats 4000000 in
theorem writer1_any (sym : Nat) (hsym : sym < 1099511627776) (Bl B base : Nat) (u : Value) (bs : List UInt8) (hbs : bs.length ≤ 1048576) (W : World) (hL : W.heap[Bl]? = some (.cells #[.int .i64 (sym : Int)] 3)) (hB : W.heap[B]? = some (.cells #[u] 171)) (hu : OwnT W base 5 1 u bs.length (bs.map byteV)) (hbB : base ≤ B) (hbW : base ≤ W.heap.size) :
    Calls Tryz.prog 139 #[.int .i64 0, .slice (some ⟨Bl, 0, none⟩) 1 1, .pointer (some ⟨B, 0, none⟩)] W fun e W' => (∃ x, e = .returned x) ∧ ∃ u', W'.heap[B]? = some (.cells #[u'] 171) ∧ OwnT W' base 5 1 u' (bs ++ vint sym).length ((bs ++ vint sym).map byteV) ∧ Below base W W' := by
  obtain ⟨i0, hi0, hz0, hz1, hz2⟩ := info_parts Tryz.infoByte
  have HL0 := Lib.hid hL
  have HB0 := Lib.hid hB
  have HU0 := Lib.hid hu
  have hvl : (vint sym).length ≤ 64 := vint_len sym (by omega)
  have hBl : Bl < W.heap.size := block_lt hL
  have t0 := cell_block hL 0
  simp at t0
  clear hL hB hu
  go_enter Tryz.func139, Tryz.ntmps139
  go_wp2_with fail
  clear t0
  go_loopw [9] (fun i wr => Below base W wr ∧ wr.heap[Bl]? = some (.cells #[.int .i64 (sym : Int)] 3) ∧ ∃ (u' : Value) (l : List UInt8), ((i = .int .i64 0 ∧ l = bs) ∨ (i = .int .i64 1 ∧ l = bs ++ vint sym)) ∧ wr.heap[B]? = some (.cells #[u'] 171) ∧ OwnT wr base 5 1 u' l.length (l.map byteV)) (fun i _ => 1 - (intOf i).toNat)
  case atStart => exact ⟨Below.refl _ _, HL0.out, u, bs, .inl ⟨rfl, rfl⟩, HB0.out, HU0.out⟩
  case round =>
    clear HB0 HU0 HL0
    obtain ⟨hbr, hbl, u', l, hcase, hv, hown⟩ := hrel
    have t0 := cell_block hbl 0
    simp at t0
    rcases hcase with ⟨rfl, rfl⟩ | ⟨rfl, rfl⟩
    · have HI0 := Lib.hid (And.intro hbr (And.intro hbl (And.intro hv hown)))
      clear hbr hbl hv hown
      go_wp2_with fail
      clear t0
      obtain ⟨V0, hV0⟩ : ∃ V0 : World, V0 = wr := ⟨_, rfl⟩
      rw [← hV0] at HI0 ⊢
      clear hV0 wr
      go_loopw [6] (fun i wr => Below base W wr ∧ wr.heap[Bl]? = some (.cells #[.int .i64 (sym : Int)] 3) ∧ ∃ (y : Nat) (u' : Value) (l' : List UInt8), i = .int .i64 y ∧ y ≤ sym ∧ l' ++ vint y = l ++ vint sym ∧ wr.heap[B]? = some (.cells #[u'] 171) ∧ OwnT wr base 5 1 u' l'.length (l'.map byteV)) (fun i _ => (intOf i).toNat)
      case atStart => exact ⟨HI0.out.1, HI0.out.2.1, sym, u', l, rfl, Nat.le_refl _, rfl, HI0.out.2.2.1, HI0.out.2.2.2⟩
      case round =>
        clear HI0 V0
        obtain ⟨hbr, hbl, y, u', l', rfl, hy, htot, hv, hown⟩ := hrel
        have hll : l'.length ≤ 1048640 := by have := congrArg List.length htot; simp at this; omega
        by_cases hbig : 127 < y
        · have hand := and127 y (by omega)
          have hv2 := vint_big y hbig
          have hr0l : y % 128 < 128 := by omega
          generalize y % 128 = r0 at hand hv2 hr0l
          have hor := or128 r0 hr0l
          obtain ⟨z, hz⟩ : ∃ z, z = r0 + 128 := ⟨_, rfl⟩
          rw [← hz] at hor hv2
          have hzl : z < 256 := by omega
          have hu8 := u8wrap z hzl
          clear hz hr0l
          obtain ⟨bb, hbb⟩ : ∃ bb : UInt8, bb = UInt8.ofNat z := ⟨_, rfl⟩
          have hbv : Value.int .u8 ((z : Nat) : Int) = byteV bb := by rw [hbb, byteV_ofNat _ (by omega)]
          have hA : Below wr.heap.size wr (wr.alloc (.cells #[byteV bb] 5)) := by go_grown
          have HOWN := Lib.hid (hown.up hA)
          have hnews : ∀ j u', [byteV bb][j]? = some u' → (wr.alloc (.cells #[byteV bb] 5)).cell? (Addr.add ⟨wr.heap.size, 0, none⟩ j) = some u' := fun j u' hj => by
            have e1 : (Addr.add ⟨wr.heap.size, 0, none⟩ j) = ⟨wr.heap.size, j, none⟩ := by unfold Addr.add; split <;> simp_all
            rw [e1, cell_block (alloc_new wr _)]
            simpa using hj
          have HNEWS := Lib.hid hnews
          have HV := Lib.hid hv
          have HBL := Lib.hid hbl
          have HBR := Lib.hid hbr
          have HBB := Lib.hid hbb
          have c1 := cell_block hv 0
          have f1 := frozen_block hv 0
          simp at c1
          have hsB := block_lt hv
          have hsL := block_lt hbl
          obtain ⟨av, cv, rfl⟩ := hown.slice
          have hne : ∀ g, (Value.slice av l'.length cv).ownBlock = some g → g ≠ B := hown.ne hv (by decide)
          have hne2 : ∀ g, (Value.slice av l'.length cv).ownBlock = some g → g ≠ Bl := hown.ne hbl (by decide)
          have HNE := Lib.hid hne
          have HNE2 := Lib.hid hne2
          have hsz := hbr.size
          have HTOT := Lib.hid htot
          clear hne hne2 hown hnews hv hbl hbb hA htot
          have HV2 := Lib.hid hv2
          clear hv2
          go_wp2_with (at_builtin; (refine wpList_append_T _ rfl (.tmp 20) (.tmp 25) 171 rfl base 5 i0 _ 1 1 Tryz.underlying171 hi0 hz0 hz1 hz2 rfl (by decide) _ l'.length _ rfl HOWN.out ⟨wr.heap.size, 0, none⟩ 1 1 [byteV bb] rfl rfl HNEWS.out (by simp [Value.oneCell']) (by unfold maxLen; omega) (by omega) (by simp; omega) ?_; intro v' w3 hown3 hgrow3 hwh3; obtain ⟨av', cv', rfl⟩ := hown3.slice; have hB3 := (hgrow3.block _ (block_lt (alloc_old _ HV.out)) (fun e => HNE.out _ e.symm rfl)).trans (alloc_old _ HV.out); have c3 := cell_block hB3 0; have f3 := frozen_block hB3 0; simp at c3))
          have hb3 : Below base W w3 := Below.grown (HBR.out.alloc (by omega) _) hgrow3 (by simp; omega) (fun g hg => (HOWN.out.lt g hg).1)
          have hL3 := (hgrow3.block _ (block_lt (alloc_old _ HBL.out)) (fun e => HNE2.out _ e.symm rfl)).trans (alloc_old _ HBL.out)
          have hown4 := hown3.put (hown3.ne hB3 (by decide)) 0 (.slice av' (l'.length + 1) cv')
          have hlen4 : (l' ++ [bb]).length = l'.length + 1 := by simp
          have hneL : Bl ≠ B := fun e => by have h1 := HV.out; have h2 := HBL.out; rw [e, h1] at h2; cases h2
          go_roundw
          case rel => exact ⟨hb3.setCell (p := ⟨B, 0, none⟩) (by dsimp only; omega) _, setCell_other hL3 hneL _ _, y / 128, _, l' ++ [bb], by go_num, by omega, by rw [← HTOT.out, HV2.out, HBB.out]; simp, by rw [setCell_same hB3]; rfl, by rw [hlen4, List.map_append]; exact hown4⟩
          case measure => simp [intOf]; omega
        · have hu8 := u8wrap y (by omega)
          have hv2 := vint_small y (by omega)
          rw [hv2] at htot
          obtain ⟨bb, hbb⟩ : ∃ bb : UInt8, bb = UInt8.ofNat y := ⟨_, rfl⟩
          have hbv : Value.int .u8 ((y : Nat) : Int) = byteV bb := by rw [hbb, byteV_ofNat _ (by omega)]
          have hA : Below wr.heap.size wr (wr.alloc (.cells #[byteV bb] 5)) := by go_grown
          have HOWN := Lib.hid (hown.up hA)
          have hnews : ∀ j u', [byteV bb][j]? = some u' → (wr.alloc (.cells #[byteV bb] 5)).cell? (Addr.add ⟨wr.heap.size, 0, none⟩ j) = some u' := fun j u' hj => by
            have e1 : (Addr.add ⟨wr.heap.size, 0, none⟩ j) = ⟨wr.heap.size, j, none⟩ := by unfold Addr.add; split <;> simp_all
            rw [e1, cell_block (alloc_new wr _)]
            simpa using hj
          have HNEWS := Lib.hid hnews
          have HV := Lib.hid hv
          have HBL := Lib.hid hbl
          have HBR := Lib.hid hbr
          have HBB := Lib.hid hbb
          have c1 := cell_block hv 0
          have f1 := frozen_block hv 0
          simp at c1
          have hsB := block_lt hv
          have hsL := block_lt hbl
          obtain ⟨av, cv, rfl⟩ := hown.slice
          have hne : ∀ g, (Value.slice av l'.length cv).ownBlock = some g → g ≠ B := hown.ne hv (by decide)
          have hne2 : ∀ g, (Value.slice av l'.length cv).ownBlock = some g → g ≠ Bl := hown.ne hbl (by decide)
          have HNE := Lib.hid hne
          have HNE2 := Lib.hid hne2
          have hsz := hbr.size
          have HTOT := Lib.hid htot
          clear hne hne2 hown hnews hv hbl hbb hA htot
          clear hv2
          go_wp2_with (at_builtin; (refine wpList_append_T _ rfl (.tmp 27) (.tmp 30) 171 rfl base 5 i0 _ 1 1 Tryz.underlying171 hi0 hz0 hz1 hz2 rfl (by decide) _ l'.length _ rfl HOWN.out ⟨wr.heap.size, 0, none⟩ 1 1 [byteV bb] rfl rfl HNEWS.out (by simp [Value.oneCell']) (by unfold maxLen; omega) (by omega) (by simp; omega) ?_; intro v' w3 hown3 hgrow3 hwh3; obtain ⟨av', cv', rfl⟩ := hown3.slice; have hB3 := (hgrow3.block _ (block_lt (alloc_old _ HV.out)) (fun e => HNE.out _ e.symm rfl)).trans (alloc_old _ HV.out); have c3 := cell_block hB3 0; have f3 := frozen_block hB3 0; simp at c3))
          have hb3 : Below base W w3 := Below.grown (HBR.out.alloc (by omega) _) hgrow3 (by simp; omega) (fun g hg => (HOWN.out.lt g hg).1)
          have hL3 := (hgrow3.block _ (block_lt (alloc_old _ HBL.out)) (fun e => HNE2.out _ e.symm rfl)).trans (alloc_old _ HBL.out)
          have hown4 := hown3.put (hown3.ne hB3 (by decide)) 0 (.slice av' (l'.length + 1) cv')
          have hlen4 : (l' ++ [bb]).length = l'.length + 1 := by simp
          have hneL : Bl ≠ B := fun e => by have h1 := HV.out; have h2 := HBL.out; rw [e, h1] at h2; cases h2
          go_roundw
          case rel => exact ⟨hb3.setCell (p := ⟨B, 0, none⟩) (by dsimp only; omega) _, setCell_other hL3 hneL _ _, _, l' ++ [bb], .inr ⟨by go_num, by rw [← HTOT.out, HBB.out]⟩, by rw [setCell_same hB3]; rfl, by rw [hlen4, List.map_append]; exact hown4⟩
          case measure => simp [intOf]
    · have HI0 := Lib.hid (And.intro hbr (And.intro hv hown))
      clear hbr hbl hv hown t0
      go_wp2_with fail
      go_end0
      exact ⟨⟨_, rfl⟩, _, HI0.out.2.1, HI0.out.2.2, HI0.out.1⟩
end Go.Proofs.YtjmejfgkogjpaaaGreat
