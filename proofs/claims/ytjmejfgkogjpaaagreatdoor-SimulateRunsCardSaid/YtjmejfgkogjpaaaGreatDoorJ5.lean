/-
  Parts of the proof, in order. Contracts of the library's slices.AppendSeq and slices.Collect at lists of numbers, over an iterator that makes them between its rounds. Conditions: the iterator's contract; it hands out at most 2^20 lists. Contract of the program's machine.Play. Conditions: the arguments read as a machine, inputs and a word. Contract of the program's wire.Checksum. Conditions: the bytes are fewer than 2^47. Contracts of the program's wire: writer and its two functions. Conditions: one number is written, which is not negative and below 2^40. Contracts of the program's wire: (place).check, symbols. Conditions: the arguments read as a machine. Contracts of the program's wire: sealed, (place).message, (place).check, Encode. Conditions: the arguments read as a machine, a place and a state. Contracts of the program's wire: (place).message, (place).check, Encode, at places that a machine has. Conditions: the arguments read as a machine without errors, a place and a state. Contract of the library's slices.Clone at rounds. Conditions: the argument reads as a word of fewer than 2^20 rounds. Contract of the program's simulate.checkMessages. Conditions: the argument reads as a trace of at most five processes and six rounds. Regions that draw their order, inside a round of a loop over an iterator: the walks of the plain calculus serve there too. It proves nothing of the program.
-/
import Derived.Laws.IdiomStrings
import Derived.WalkSpells
import Derived.StillTailTactics
import Derived.OrdersIn
import Derived.Test.YtjmejfgkogjpaaaGreatDoorJ4
namespace Go.Proofs.YtjmejfgkogjpaaaGreatDoor
open Go.RowKit Go Go.Shelf
attribute [local go_sem] Oper.semAt_some

abbrev slV (n b : Nat) : Value := .slice (some ⟨b, 0, none⟩) n n
/-- Between two rounds of the caller. -/
structure CV (w : World) (B2 n : Nat) (L : List (List Int)) (i : Nat) (T : Nat → Prop) (W : World) : Prop where
  old : Below w.heap.size w W
  lt : ∀ k, T k → k < W.heap.size
  notB : ¬ T B2
  row : ∃ (v : Value) (bs : List Nat), W.heap[B2]? = some (.cells #[v] 22) ∧ OwnT W w.heap.size 28 1 v i (bs.map (slV n)) ∧ (∀ g, v.ownBlock = some g → ¬ T g) ∧ bs.length = i ∧ ∀ j (hj : j < bs.length), T bs[j] ∧ W.heap[bs[j]]? = some (.cells (intsC (L.getD j [])) 3)
theorem CV.next {w : World} {B2 n : Nat} {L : List (List Int)} {i B : Nat} {T T' : Nat → Prop} {A A' : World} (h : CV w B2 n L i T A) (hB : w.heap.size ≤ B) (hc : Chg B A A') (hw : Wid A A' T T') : CV w B2 n L i T' A' := by
  obtain ⟨v, bs, h1, h2, h3, h4, h5⟩ := h.row
  have hn : ∀ g, g < A.heap.size → ¬ T g → ¬ T' g := fun g hg h ht => by
    rcases hw.2 g ht with h4 | h4
    · exact h h4
    · omega
  exact ⟨hc.below hB h.old.size h.old, fun k hk => by
    rcases hw.2 k hk with h4 | h4
    · exact Nat.lt_of_lt_of_le (h.lt k h4) hc.size
    · exact h4.2, hn _ (block_lt h1) h.notB, v, bs, hc.ck _ _ h1 rfl, h2.ck hc.ck, fun g hg => hn _ (h2.lt g hg).2 (h3 g hg), h4, fun j hj => ⟨hw.1 _ (h5 j hj).1, hc.ck _ _ (h5 j hj).2 rfl⟩⟩

set_option maxRecDepth 100000 in
set_option maxHeartbeats 4000000 in
theorem appendSeqV_any (gf : Nat) (lb : Array Value) (eg : ∀ args w, (callFunc gf args).run Tryz.prog w = .ok (.enter gf args) w) (L : List (List Int)) (n n0 : Nat) (hn : L.length ≤ 1048576) (S : Nat → Prop) (w : World)
    (hseq : SeqMk Tryz.prog gf lb (EN L n n0) L.length S w) (hS : ∀ k, S k → k < w.heap.size) :
    Calls Tryz.prog 80 #[.slice none 0 0, .func (.func gf) #[] lb] w fun e w' => ∃ (v : Value) (bs : List Nat), e = .returned v ∧ OwnT w' w.heap.size 28 1 v L.length (bs.map (slV n)) ∧ bs.length = L.length ∧ (∀ j (hj : j < bs.length), w'.heap[bs[j]]? = some (.cells (intsC (L.getD j [])) 3)) ∧ Below w.heap.size w w' := by
  obtain ⟨i0, hi0, hz0, hz1, hz2⟩ := info_parts Tryz.infoInts
  refine calls_marks Tryz.func80 rfl ?_
  simp only [Tryz.ntmps80, List.size_toArray, List.length_cons, List.length_nil, Nat.reduceAdd, Nat.reduceSub, Array.replicate_succ, Array.replicate_zero, List.push_toArray, List.append_toArray, List.nil_append, List.cons_append]
  go_wp2_with fail
  refine wp_gen (fun W => Below w.heap.size w W ∧ W.heap[w.heap.size]? = some (.cells #[.slice none 0 0] 22)) ⟨by go_grown, alloc_new _ _⟩ (fun W0 hW0 => ?_)
  obtain ⟨hb0, hB0⟩ := hW0
  have hsz := block_lt hB0
  refine wp_rangeMk (gf := gf) (lb := lb) rfl eg hseq hb0 (fun k hk => Nat.lt_of_lt_of_le (hS k hk) hb0.size) (fun i args _ _ h => by obtain ⟨b, h, _⟩ := h; rw [h]; rfl)
    (CV w w.heap.size n L) (fun _ _ _ _ => False)
    (fun i T T' A A' h hc hw => h.next (Nat.le_of_lt hsz) hc hw) (fun _ _ _ _ _ _ h _ _ => h)
    ⟨hb0, fun k hk => Nat.lt_of_lt_of_le (hS k hk) hb0.size, fun h => Nat.lt_irrefl _ (hS _ h), _, [], hB0, OwnT.nil _ _ _ _, (fun g hg => by cases hg), rfl, (fun j hj => by simp at hj)⟩ ?round ?done ?stop
  case round =>
    rintro l i T W args hi hl hlW hTl ⟨b, rfl, hTb, _, hb⟩ hI
    have HI := Lib.hid hI
    have hsW := hI.old.size
    have HB := Lib.hid hb
    clear hI hseq hb
    gi_wp2
    refine ⟨Bod.refl _ _ _, fun W' => CV w w.heap.size n L i T W' ∧ W'.heap[b]? = some (.cells (intsC (L.getD i [])) 3), fun A A' hc h => ⟨h.1.next (Nat.le_of_lt hsz) hc (Wid.refl _ _ _), hc.ck _ _ h.2 rfl⟩, ⟨HI.out, HB.out⟩, fun W2 h2 => ?_⟩
    intros
    obtain ⟨hc2, hm2⟩ := h2
    have HC2 := Lib.hid hc2
    have HM2 := Lib.hid hm2
    obtain ⟨v, bs, hv, hown, hTv, hbl, hbs⟩ := hc2.row
    have c1 := cell_block hv 0
    have f1 := frozen_block hv 0
    simp at c1
    have hA : Below W2.heap.size W2 (W2.alloc (.cells #[slV n b] 28)) := by go_grown
    have HOWN := Lib.hid (hown.up hA)
    have hnews : ∀ j u', [slV n b][j]? = some u' → (W2.alloc (.cells #[slV n b] 28)).cell? (Addr.add ⟨W2.heap.size, 0, none⟩ j) = some u' := fun j u' hj => by
      have e1 : (Addr.add ⟨W2.heap.size, 0, none⟩ j) = ⟨W2.heap.size, j, none⟩ := by unfold Addr.add; split <;> simp_all
      rw [e1, cell_block (alloc_new W2 _)]
      simpa using hj
    have HNEWS := Lib.hid hnews
    have HV := Lib.hid hv
    have HTV := Lib.hid hTv
    have HBS := Lib.hid hbs
    have HBL := Lib.hid hbl
    have hs2 := hc2.old.size
    obtain ⟨av, cv, rfl⟩ := hown.slice
    have hne : ∀ g, (Value.slice av i cv).ownBlock = some g → g ≠ w.heap.size := hown.ne hv (by decide)
    have HNE := Lib.hid hne
    clear hc2 hm2 hv hown hnews hTv HI hne hbl hbs
    gi_wp2_with (gi_at_builtin; (refine wpListIn_append_T _ rfl (.tmp 8) (.tmp 10) 22 rfl w.heap.size 28 i0 _ 1 24 Tryz.underlying22 hi0 hz0 hz1 hz2 rfl (by decide) _ i _ rfl HOWN.out ⟨W2.heap.size, 0, none⟩ 1 1 [slV n b] rfl rfl HNEWS.out (by simp [Value.oneCell']) (by unfold maxLen; omega) (by omega) (by simp; omega) ?_; intro v' w3 hown3 hgrow3 hwh3; obtain ⟨av', cv', rfl⟩ := hown3.slice; have hB3 := (hgrow3.block _ (block_lt (alloc_old _ HV.out)) (fun e => HNE.out _ e.symm rfl)).trans (alloc_old _ HV.out); have c3 := cell_block hB3 0; have f3 := frozen_block hB3 0; simp at c3))
    have hb3 : Below w.heap.size w w3 := Below.grown (HC2.out.old.alloc hs2 _) hgrow3 (by simp; omega) (fun g hg => (HOWN.out.lt g hg).1)
    have hs3 := hgrow3.size
    simp only [World.size_alloc] at hs3
    have hT3 : ∀ k, T k → w3.heap[k]? = W2.heap[k]? := fun k hk => by
      have h1 := HC2.out.lt k hk
      rw [hgrow3.block k (by simp; omega) (fun e => HTV.out k e.symm hk)]
      exact Below.heap_alloc W2 _ k h1
    have hT4 : ∀ k, T k → (w3.setCell ⟨w.heap.size, 0, none⟩ (.slice av' (i + 1) cv')).heap[k]? = W2.heap[k]? := fun k hk => by
      rw [Below.heap_setCell _ _ _ _ (fun e => HC2.out.notB (by dsimp only at e; rw [← e]; exact hk))]
      exact hT3 k hk
    refine ⟨⟨by simp; omega, hT4, fun k o hB hk ho => ?_⟩, ⟨hb3.setCell (p := ⟨w.heap.size, 0, none⟩) (by simp) _, fun k hk => ?_, HC2.out.notB, ?_⟩⟩
    · have hne : some k ≠ (Value.slice av i cv).ownBlock := HOWN.out.isCells (alloc_old _ hk) ho
      refine setCell_other (B := w.heap.size) ?_ (by omega) _ _
      exact (hgrow3.block k (by have := block_lt hk; simp; omega) hne).trans (alloc_old _ hk)
    · have := HC2.out.lt k hk
      simp; omega
    · refine ⟨_, bs ++ [b], by rw [setCell_same hB3]; rfl, ?_, ?_, by rw [List.length_append, HBL.out]; rfl, ?_⟩
      · rw [List.map_append]
        exact hown3.put (hown3.ne hB3 (by decide)) _ _
      · intro g hg hTg
        rcases hwh3 with h1 | h1
        · exact HTV.out g (h1 ▸ hg) hTg
        · have := HC2.out.lt g hTg
          rw [h1] at hg
          simp at hg; omega
      · intro j hj
        by_cases hji : j < bs.length
        · rw [List.getElem_append_left hji]
          exact ⟨(HBS.out j hji).1, (hT4 _ (HBS.out j hji).1).trans (HBS.out j hji).2⟩
        · have hjl : j = bs.length := by simp at hj; omega
          subst hjl
          rw [List.getElem_append_right (Nat.le_refl _)]
          simp only [Nat.sub_self, List.getElem_cons_zero]
          exact ⟨hTb, (hT4 _ hTb).trans (by rw [HBL.out]; exact HM2.out)⟩
  case done =>
    intro D T W hD hI hK
    obtain ⟨v, bs, hv, hown, _, hbl, hbs⟩ := hI.row
    have c1 := cell_block hv 0
    simp at c1
    obtain ⟨av, cv, rfl⟩ := hown.slice
    have HOWN := Lib.hid hown
    have HOLD := Lib.hid hI.old
    have HBS := Lib.hid hbs
    have HBL := Lib.hid hbl
    clear hI hv hown hseq hbl hbs
    go_wp2_with fail
    refine marks_ret hK (results_tmp rfl _ _ _) ?_
    have hck : CK W (W.putObj D (.deferred none)) := fun k o hk ho => (World.putObj_heap_other (fun e => by subst e; rw [hK] at hk; cases hk; cases ho)).trans hk
    exact ⟨_, bs, rfl, HOWN.out.ck hck, HBL.out, fun j hj => hck _ _ (HBS.out j hj).2 rfl, below_put (by omega) HOLD.out⟩
  case stop =>
    intro D c i T W _ _ h
    exact h.elim

theorem own_vecs {w : World} {base n : Nat} {v : Value} {L : List (List Int)} {bs : List Nat} (h : OwnT w base 28 1 v L.length (bs.map (slV n))) (hl : bs.length = L.length) (hb : ∀ j (hj : j < bs.length), w.heap[bs[j]]? = some (.cells (intsC (L.getD j [])) 3))
    (hx : ∀ x ∈ L, x.length = n ∧ ∀ i, i < x.length → InR (x.getD i 0)) (hn : L.length ≤ 17592186044416) (hn2 : n ≤ 256) : IsVecs w v L := by
  have hall : ∀ i (hi : i < L.length), ∃ g c, v = .slice (some ⟨g, 0, none⟩) L.length c ∧ w.cell? ⟨g, i, none⟩ = some (slV n (bs[i]'(by omega))) := fun i hi => h.cell i _ (by rw [List.getElem?_map, List.getElem?_eq_getElem (by omega)]; rfl)
  have hat : ∀ i (hi : i < L.length), IsInts w (slV n (bs[i]'(by omega))) L[i] := fun i hi => by
    have h1 := hb i (by omega)
    have h2 := hx L[i] (List.getElem_mem hi)
    rw [getD_of_lt [] hi] at h1
    exact now_ints h2.1 hn2 h1 h2.2
  rcases h.2 with ⟨rfl, hz⟩ | ⟨g, cap, cur, fz, rfl, _, hg, _, hc1, hc2, _, _⟩
  · refine ⟨none, 0, by rw [hz], ⟨by omega, by omega, fun _ => rfl⟩, hn, fun i x hi => ?_⟩
    have := (List.getElem?_eq_some_iff.1 hi).1
    omega
  · refine ⟨some ⟨g, 0, none⟩, cap, rfl, ⟨hc1, by simp only [maxLen] at hc2; omega, fun e => by cases e⟩, hn, fun i x hi => ⟨g, 0, rfl, ?_⟩⟩
    obtain ⟨hil, rfl⟩ := List.getElem?_eq_some_iff.1 hi
    obtain ⟨g', c', e1, e2⟩ := hall i hil
    have : g = g' := by simp at e1; exact e1.1
    subst this
    exact ⟨_, by rw [Nat.zero_add, Nat.mul_one]; exact e2, hat i hil⟩

set_option maxHeartbeats 1000000 in
theorem collectV_any (gf : Nat) (lb : Array Value) (eg : ∀ args w, (callFunc gf args).run Tryz.prog w = .ok (.enter gf args) w) (L : List (List Int)) (n n0 : Nat) (hn : L.length ≤ 1048576) (S : Nat → Prop) (w : World)
    (hseq : SeqMk Tryz.prog gf lb (EN L n n0) L.length S w) (hS : ∀ k, S k → k < w.heap.size) (hx : ∀ x ∈ L, x.length = n ∧ ∀ i, i < x.length → InR (x.getD i 0)) (hn2 : n ≤ 256) :
    Calls Tryz.prog 43 #[.func (.func gf) #[] lb] w fun e w' => ∃ v, e = .returned v ∧ IsVecs w' v L ∧ Below w.heap.size w w' := by
  have HC := Lib.hid (appendSeqV_any gf lb eg L n n0 hn S w hseq hS)
  have HX := Lib.hid hx
  clear hseq eg hx
  go_enter Tryz.func43, Tryz.ntmps43
  go_wp2_with fail
  refine HC.out.mono ?_
  rintro e w1 ⟨v, bs, rfl, hv, hl, hbs, hb⟩
  have HV := Lib.hid (own_vecs hv hl hbs HX.out (by omega) hn2)
  obtain ⟨av, cv, rfl⟩ := hv.slice
  clear hv hl hbs
  go_wp2_with fail
  go_ret
  exact ⟨_, rfl, HV.out, hb⟩
end Go.Proofs.YtjmejfgkogjpaaaGreatDoor

namespace Go.Proofs.YtjmejfgkogjpaaaGreatDoor
open Go.RowKit Go Go.Shelf

theorem runL_fits {m : Mac} {n r : Nat} (g : Good m n r) {inputs : List Int} {word : List Rd} (hl : inputs.length = n) (hi : ∀ p, p < n → 0 ≤ inputs.getD p 0 ∧ inputs.getD p 0 < m.ins) : ∀ (k : Nat) (x : List Int), (runL m inputs word)[k]? = some x → Fits m n k x := by
  intro k
  by_cases hc : (firstS m inputs).contains (-1) = true
  · intro x hx; unfold runL at hx; rw [if_pos hc] at hx; simp at hx
  · have hrl : runL m inputs word = runFrom m 0 (firstS m inputs) word := by unfold runL; rw [if_neg hc]
    rw [hrl]
    induction k with
    | zero =>
      intro x hx
      rw [runFrom_head] at hx
      cases hx
      exact firstS_fits g hl hi (eq_false_of_ne_true hc)
    | succ k ih =>
      intro x hx
      have hlt := (List.getElem?_eq_some_iff.1 hx).1
      have hle := runFrom_le m 0 (firstS m inputs) word
      have hk : k < word.length := by omega
      obtain ⟨y, hy⟩ : ∃ y, (runFrom m 0 (firstS m inputs) word)[k]? = some y := ⟨_, List.getElem?_eq_getElem (by omega)⟩
      have hs := runFrom_step m 0 (firstS m inputs) word k y hy hk
      rw [Nat.zero_add] at hs
      cases hn : nextS m k y word[k] with
      | none => have := hs.2 hn; omega
      | some z =>
        have := hs.1 z hn
        rw [hx] at this
        cases this
        exact nextS_fits g hn
theorem ret_tup {v : Value} {a b : Int} (h : a = b) : Ending.returned (.tuple #[v, .int .i64 a]) = .returned (.tuple #[v, .int .i64 b]) := by rw [h]
theorem allB_true {l : List Int} {lo hi : Int} (h : allB l lo hi = true) : ∀ p, p < l.length → lo ≤ l.getD p 0 ∧ l.getD p 0 ≤ hi := fun p hp => allB_iff h p hp

set_option maxRecDepth 100000 in
set_option maxHeartbeats 8000000 in
theorem play_any (m : Mac) (vf vy vt vo vi vw : Value) (inputs : List Int) (word : List Rd) (w : World) (hf : IsVecs w vf m.first) (hy : IsV4 w vy m.syms) (ht : IsSteps w vt m.steps) (ho : IsV3 w vo m.out) (hi : IsInts w vi inputs) (hw : IsWord w vw word) :
    Calls Tryz.prog 17 #[.agg (macC m vf vy vt vo), vi, vw] w fun e w' => ∃ v, e = .returned (.tuple #[v, .int .i64 (playE m inputs word)]) ∧ (playE m inputs word = 0 → IsVecs w' v (runL m inputs word)) ∧ (playE m inputs word ≠ 0 → v = .slice none 0 0) ∧ Below w.heap.size w w' := by
  have HF := Lib.hid hf
  have HY := Lib.hid hy
  have HT := Lib.hid ht
  have HO := Lib.hid ho
  have HI := Lib.hid hi
  have HW := Lib.hid hw
  have HCK := Lib.hid (fun W (hb : Below w.heap.size w W) => macCheck_any m vf vy vt vo W (hf.up up_ints hb) (hy.up up_v3 hb) (ht.up up_step hb) (ho.up up_vecs hb))
  obtain ⟨pf, cf, rfl, _⟩ := hf.at
  obtain ⟨py, cy, rfl, _⟩ := hy.at
  obtain ⟨pt, ct, rfl, _⟩ := ht.at
  obtain ⟨po, co, rfl, _⟩ := ho.at
  obtain ⟨pi, ci, rfl, li1, li2, _⟩ := hi.at
  obtain ⟨pw, cw, rfl, lw1, lw2, _⟩ := hw.at
  clear hf hy ht ho hi hw
  have HV : Hid (playE m inputs word = if checkE m ≠ 0 then checkE m else if (inputs.length : Int) ≠ m.n then 15 else if !allB inputs 0 (m.ins - 1) then 2 else if wordE m.n word ≠ 0 then wordE m.n word else if (word.length : Int) ≠ m.rounds then 15 else if ((runL m inputs word).length : Int) ≠ m.rounds + 1 then 20 else 0) := by exact rfl
  generalize hpe : playE m inputs word = pe at HV
  clear hpe
  go_enter Tryz.func17, Tryz.ntmps17
  go_wp2_with fail
  refine calls_gen (fun W => Below w.heap.size w W ∧ W.heap[w.heap.size]? = some (.cells (macC m (.slice pf m.first.length cf) (.slice py m.syms.length cy) (.slice pt m.steps.length ct) (.slice po m.out.length co)) 27)) ⟨by go_grown, alloc_new _ _⟩ (fun W0 hW0 => ?_)
  obtain ⟨hb0, hM0⟩ := hW0
  have HM0 := Lib.hid hM0
  clear hM0
  refine (HCK.out W0 hb0).mono ?_
  rintro e w1 ⟨rfl, hb1⟩
  have hbw1 := ext_trans hb0 hb1
  have HM1 := Lib.hid (block_up hb1 HM0.out)
  by_cases hck : checkE m = 0
  case neg =>
    have HP : Hid (pe = checkE m) := by (have h : pe = checkE m := by (rw [HV.out, if_pos hck])); exact h
    have hck' : (checkE m != 0) = true := by simpa using hck
    have HCK0 := Lib.hid hck
    clear hck
    go_wp2_with fail
    go_ret2
    exact ⟨_, ret_tup HP.out.symm, fun h => absurd (HP.out ▸ h) HCK0.out, fun _ => rfl, hbw1⟩
  obtain ⟨n, r, g⟩ := checkE_good hck
  have HG := Lib.hid g
  rw [hck]
  rw [hck] at HV
  clear g hck
  have t1 := cell_block HM1.out
  by_cases hil : (inputs.length : Int) = m.n
  case neg =>
    have HP : Hid (pe = 15) := by (have h : pe = 15 := by (rw [HV.out, if_neg (by simp), if_pos hil])); exact h
    have hil' : ((inputs.length : Int) != m.n) = true := by simpa using hil
    clear hil
    go_wp2_with fail
    go_ret2
    exact ⟨_, ret_tup HP.out.symm, fun h => absurd (HP.out ▸ h) (by decide), fun _ => rfl, hbw1⟩
  have hil' : ((inputs.length : Int) != m.n) = false := by simpa using hil
  have HIL := Lib.hid hil
  clear hil
  have hins := HG.out.ins
  go_wp2_with fail
  refine (all_any _ inputs 0 (m.ins - 1) w1 (HI.out.up up_int hbw1)).mono ?_
  rintro e w2 ⟨rfl, hb2⟩
  have hbw2 := ext_trans hbw1 hb2
  have HM2 := Lib.hid (block_up hb2 HM1.out)
  clear t1
  cases hall : allB inputs 0 (m.ins - 1) with
  | false =>
    have HP : Hid (pe = 2) := by (have h : pe = 2 := by (rw [HV.out, if_neg (by simp), if_neg (by simpa using HIL.out), hall]; rfl)); exact h
    clear hall
    go_wp2_with fail
    go_ret2
    exact ⟨_, ret_tup HP.out.symm, fun h => absurd (HP.out ▸ h) (by decide), fun _ => rfl, hbw2⟩
  | true =>
    have HV2 : Hid (pe = if wordE m.n word ≠ 0 then wordE m.n word else if (word.length : Int) ≠ m.rounds then 15 else if ((runL m inputs word).length : Int) ≠ m.rounds + 1 then 20 else 0) := by
      (have h : pe = if wordE m.n word ≠ 0 then wordE m.n word else if (word.length : Int) ≠ m.rounds then 15 else if ((runL m inputs word).length : Int) ≠ m.rounds + 1 then 20 else 0 := by (rw [HV.out, if_neg (by simp), if_neg (by simpa using HIL.out), hall]; rfl)); exact h
    have HALL := Lib.hid hall
    clear hall HV
    have t1 := cell_block HM2.out
    go_wp2_with fail
    refine (word_any m.n _ word w2 (HW.out.up up_round hbw2)).mono ?_
    rintro e w3 ⟨rfl, hb3⟩
    have hbw3 := ext_trans hbw2 hb3
    have HM3 := Lib.hid (block_up hb3 HM2.out)
    clear t1
    by_cases hwe : wordE m.n word = 0
    case neg =>
      have HP : Hid (pe = wordE m.n word) := by (have h : pe = wordE m.n word := by (rw [HV2.out, if_pos hwe])); exact h
      have hwe' : (wordE m.n word != 0) = true := by simpa using hwe
      have HWE := Lib.hid hwe
      clear hwe
      go_wp2_with fail
      go_ret2
      exact ⟨_, ret_tup HP.out.symm, fun h => absurd (HP.out ▸ h) HWE.out, fun _ => rfl, hbw3⟩
    have HWE := Lib.hid hwe
    rw [hwe]
    rw [hwe] at HV2
    clear hwe
    have t1 := cell_block HM3.out
    by_cases hwl : (word.length : Int) = m.rounds
    case neg =>
      have HP : Hid (pe = 15) := by (have h : pe = 15 := by (rw [HV2.out, if_neg (by simp), if_pos hwl])); exact h
      have hwl' : ((word.length : Int) != m.rounds) = true := by simpa using hwl
      clear hwl
      go_wp2_with fail
      go_ret2
      exact ⟨_, ret_tup HP.out.symm, fun h => absurd (HP.out ▸ h) (by decide), fun _ => rfl, hbw3⟩
    have HV3 : Hid (pe = if ((runL m inputs word).length : Int) ≠ m.rounds + 1 then 20 else 0) := by
      (have h : pe = if ((runL m inputs word).length : Int) ≠ m.rounds + 1 then 20 else 0 := by (rw [HV2.out, if_neg (by simp), if_neg (by simpa using hwl)])); exact h
    have hwl' : ((word.length : Int) != m.rounds) = false := by simpa using hwl
    have HWL := Lib.hid hwl
    clear hwl HV2
    go_wp2_with fail
    refine (run_any m _ _ _ _ _ _ _ _ _ _ _ _ _ _ _ _ _ _ _).mono ?_
    rintro e w4 ⟨rfl, rfl⟩
    clear t1 hwl' hil'
    go_wp2_with fail
    refine calls_gen (fun W => Below w3.heap.size w3 W ∧ W.heap[w3.heap.size]? = some (.cells (macC m (.slice pf m.first.length cf) (.slice py m.syms.length cy) (.slice pt m.steps.length ct) (.slice po m.out.length co)) 27) ∧ W.heap[w3.heap.size + 1]? = some (.cells #[.slice pi inputs.length ci] 28) ∧ W.heap[w3.heap.size + 1 + 1]? = some (.cells #[.slice pw word.length cw] 29))
      ⟨by go_grown, alloc_old _ (alloc_old _ (alloc_new _ _)), alloc_old _ (alloc2_new _ _ _), alloc3_new _ _ _ _⟩ (fun W4 hW4 => ?_)
    obtain ⟨hb4, hA, hB, hC⟩ := hW4
    have hbw4 := ext_trans hbw3 hb4
    have hilN : inputs.length = n := by have h1 := HIL.out; have h2 := HG.out.hn; omega
    have hir : ∀ p, p < n → 0 ≤ inputs.getD p 0 ∧ inputs.getD p 0 < m.ins := fun p hp => by have := allB_true HALL.out p (by omega); omega
    have hwlr : word.length = r := by have h1 := HWL.out; have h2 := HG.out.hr; omega
    have hweN : wordE n word = 0 := by have h1 := HWE.out; rw [HG.out.hn] at h1; exact h1
    have hseq := run1_seq m n r HG.out _ _ _ _ _ _ inputs word w HF.out HY.out HT.out HO.out HI.out HW.out hilN hir hweN hwlr W4 hbw4 w3.heap.size (w3.heap.size + 1) (w3.heap.size + 1 + 1) hA hB hC
    have hfits := runL_fits HG.out (word := word) hilN hir
    have hlen : (runL m inputs word).length ≤ 7 := by
      have h1 := HG.out.r6
      unfold runL
      split
      · simp
      · have := runFrom_le m 0 (firstS m inputs) word; omega
    have hszC := block_lt hC
    have hbs := hbw4.size
    have hn5 := HG.out.n5
    have HCOL := Lib.hid (collectV_any 81 _ (enters_of Tryz.func81 (by kernel_rfl) rfl) (runL m inputs word) n _ (by omega) _ W4 hseq (fun k hk => by rcases hk with hk | hk | hk | hk <;> omega) (fun x hx => by
      obtain ⟨k, hk, rfl⟩ := List.getElem_of_mem hx
      have hf := hfits k _ (List.getElem?_eq_getElem hk)
      have hkr : k < r + 1 := by
        have : (runL m inputs word).length ≤ word.length + 1 := by
          unfold runL
          split
          · simp
          · exact runFrom_le _ _ _ _
        omega
      exact ⟨hf.1, fits_in hf (fun q hq => v3_len HO.out k q (by rw [HG.out.ol]; exact hkr) (by rw [HG.out.ok k hkr]; exact hq))⟩) (by omega))
    clear hseq hfits hA hB hC hlen hilN hir hwlr hweN
    refine HCOL.out.mono ?_
    rintro e w5 ⟨v, rfl, hv, hb5⟩
    have hbw5 := ext_trans hbw4 hb5
    have HM5 := Lib.hid (block_up (ext_trans hb4 hb5) HM3.out)
    have HVV := Lib.hid hv
    obtain ⟨pv, cv, rfl, lv1, lv2, _⟩ := hv.at
    clear hv HCOL
    have t1 := cell_block HM5.out
    have hr6 := HG.out.r6
    have HRR := Lib.hid HG.out.hr
    generalize hLL : runL m inputs word = L at HV3 HVV lv1 lv2
    have HLL := Lib.hid hLL
    clear hLL
    have hrr : 0 ≤ m.rounds ∧ m.rounds ≤ 6 := by have := HG.out.hr; omega
    by_cases hL : (L.length : Int) = m.rounds + 1
    · have HP : Hid (pe = 0) := by (have h : pe = 0 := by (rw [HV3.out, if_neg (by simpa using hL)])); exact h
      have hL' : ((L.length : Int) != m.rounds + 1) = false := by simpa using hL
      clear hL
      go_wp2_with fail
      go_ret2
      exact ⟨.slice pv L.length cv, ret_tup HP.out.symm, fun _ => by rw [HLL.out]; exact HVV.out, fun h => absurd HP.out h, hbw5⟩
    · have HP : Hid (pe = 20) := by (have h : pe = 20 := by (rw [HV3.out, if_pos hL])); exact h
      have hL' : ((L.length : Int) != m.rounds + 1) = true := by simpa using hL
      clear hL
      go_wp2_with fail
      go_ret2
      exact ⟨_, ret_tup HP.out.symm, fun h => absurd (HP.out ▸ h) (by decide), fun _ => rfl, hbw5⟩
end Go.Proofs.YtjmejfgkogjpaaaGreatDoor

namespace Go.Proofs.YtjmejfgkogjpaaaGreatDoor
open Go.RowKit Go Go.Shelf

theorem below_drew_alloc (w : World) (o : Obj) : Below w.heap.size w (w.drew.alloc o) := ((Below.refl _ w).drew).alloc (by simp) o
/-- '[]byte(s)' -/
theorem conv_bytes (b : ByteArray) (hb : b.size ≤ 140737488351232) (w : World) : ∃ cap W', (convert 9 75 (.string b)).run Tryz.prog w = .ok (.slice (some ⟨w.heap.size, 0, none⟩) b.size cap) W' ∧ Below w.heap.size w W' ∧ b.size ≤ cap ∧ cap ≤ maxLen ∧
    W'.heap[w.heap.size]? = some (.cells (bytesRow b cap) 5 ((bytesRow b cap).size, (bytesRow b cap).size + 1)) :=
  ⟨_, _, run_bytes_of_string w _ _ 5 b Tryz.underlying9 Tryz.underlying75 Tryz.underlying5, below_drew_alloc _ _, grownCap_ge _ _ _ _, grownCap_le_maxLen _ _ _ _ (by simp only [maxLen]; omega), heap_alloc_new w.drew _⟩
theorem ck_cast (m s k x : Nat) : ((s : Int) + ((k : Int) + 1) % (m : Int) * (x : Int)) % (m : Int) = (((s + (k + 1) % m * x) % m : Nat) : Int) := by push_cast; rfl
theorem byte_lt (x : UInt8) : x.toNat < 256 := x.toNat_lt
theorem bytes_get (b : ByteArray) (k : Nat) (hk : k < b.size) : b.data[k]'hk = b.data.toList.getD k 0 := by
  have h : k < b.data.toList.length := by simpa using hk
  rw [List.getD_eq_getElem?_getD, List.getElem?_eq_getElem h]; simp

set_option maxRecDepth 100000 in
set_option maxHeartbeats 1000000 in
theorem checksum_any (b : ByteArray) (hb : b.size ≤ 140737488351232) (w : World) :
    Calls Tryz.prog 68 #[.string b] w fun e w' => e = .returned (.int .i64 (ckS b.data.toList)) ∧ Below w.heap.size w w' := by
  obtain ⟨cap, W1, hc, hb1, h1, h2, h3⟩ := conv_bytes b hb w
  have h2' : cap ≤ 9223372036854775807 := by simp only [maxLen] at h2; omega
  have H3 := Lib.hid h3
  clear h3 h2
  have HK : Hid (ckS b.data.toList = ckAt b.data.toList b.size b.size) := by (have h : ckS b.data.toList = ckAt b.data.toList b.size b.size := by (unfold ckS; simp)); exact h
  go_enter Tryz.func68, Tryz.ntmps68
  go_wp2
  go_loop [3, 12] (fun s i => ∃ k : Nat, k ≤ b.size ∧ i = .int .i64 k ∧ s = .int .i64 (ckAt b.data.toList b.size k)) (fun _ i => b.size - (intOf i).toNat)
  case atStart => exact ⟨0, by omega, rfl, by simp [ckAt]⟩
  case round =>
    obtain ⟨k, hk, rfl, rfl⟩ := hrel
    by_cases hlt : k < b.size
    · have cx : W1.cell? ⟨w.heap.size, k, none⟩ = some (.int .u8 ((b.data.toList.getD k 0).toNat : Int)) := by
        rw [cell_block H3.out, bytesRow_at b cap k hlt, bytes_get b k hlt]
      have hs := ckAt_lt b.data.toList b.size k
      have HS : Hid (ckAt b.data.toList b.size (k + 1) = (ckAt b.data.toList b.size k + (k + 1) % 65521 * (b.data.toList.getD k 0).toNat) % 65521) := by exact rfl
      have hx := byte_lt (b.data.toList.getD k 0)
      generalize (b.data.toList.getD k 0).toNat = x at cx hx HS
      generalize ckAt b.data.toList b.size k = s at hs HS
      have hm : ((k : Int) + 1) % 65521 * (x : Int) ≤ 65520 * 255 := Int.mul_le_mul (by omega) (by omega) (by omega) (by omega)
      have hm0 : 0 ≤ ((k : Int) + 1) % 65521 * (x : Int) := Int.mul_nonneg (by omega) (by omega)
      have hw1 : IntKind.i64.wrap (((k : Int) + 1) % 65521 * (x : Int)) = ((k : Int) + 1) % 65521 * (x : Int) := IntWalk.i64_in _ (by omega)
      have hw2 : IntKind.i64.wrap ((s : Int) + ((k : Int) + 1) % 65521 * (x : Int)) = (s : Int) + ((k : Int) + 1) % 65521 * (x : Int) := IntWalk.i64_in _ (by omega)
      have HM := Lib.hid (And.intro hm hm0)
      clear hm hm0
      go_wp2
      go_round
      case rel => exact ⟨k + 1, by omega, by go_num, by rw [HS.out, ← ck_cast 65521]; rfl⟩
      case measure => simp [intOf]; omega
    · obtain rfl : k = b.size := by omega
      go_wp2
      go_ret
      exact ⟨ret_int (by rw [HK.out]), hb1⟩
end Go.Proofs.YtjmejfgkogjpaaaGreatDoor

namespace Go.Proofs.YtjmejfgkogjpaaaGreatDoor
open Go.RowKit Go Go.Shelf

abbrev byteV (b : UInt8) : Value := .int .u8 (b.toNat : Int)
theorem Tryz.infoByte : (Tryz.prog.info? 5).map (fun i => (i.zero, i.size, i.bytes)) = some (some (.int .u8 0), 1, 1) := by kernel_rfl
theorem and127 (y : Nat) (hy : y < 9223372036854775808) : bits .and .i64 (y : Int) 127 = ((y % 128 : Nat) : Int) := by
  have := i64_and_nat y 127 hy (by omega)
  rw [show ((127 : Nat) : Int) = 127 by rfl] at this
  rw [this, show (127 : Nat) = 2 ^ 7 - 1 by rfl, Nat.and_two_pow_sub_one_eq_mod]
theorem or128 (y : Nat) (hy : y < 128) : bits .or .i64 (y : Int) 128 = ((y + 128 : Nat) : Int) := by
  have key : ∀ a : Fin 128, bits .or .i64 ((a.val : Nat) : Int) 128 = ((a.val + 128 : Nat) : Int) := by decide +kernel
  exact key ⟨y, hy⟩
theorem u8wrap (y : Nat) (hy : y < 256) : IntKind.u8.wrap (y : Int) = (y : Int) := by
  have key : ∀ a : Fin 256, IntKind.u8.wrap ((a.val : Nat) : Int) = ((a.val : Nat) : Int) := by decide +kernel
  exact key ⟨y, hy⟩
theorem byteV_ofNat (y : Nat) (hy : y < 256) : byteV (UInt8.ofNat y) = .int .u8 (y : Int) := by
  simp [UInt8.toNat_ofNat, Nat.mod_eq_of_lt hy]
theorem vint_big (y : Nat) (h : 127 < y) : vint y = UInt8.ofNat (y % 128 + 128) :: vint (y / 128) := by rw [vint, if_neg (by omega)]
theorem vint_small (y : Nat) (h : y ≤ 127) : vint y = [UInt8.ofNat y] := by rw [vint, if_pos h]
theorem vint_len (y : Nat) (h : y < 18446744073709551616) : (vint y).length ≤ 64 := by
  have key : ∀ d, ∀ y, y < 128 ^ (d + 1) → (vint y).length ≤ d + 1 := by
    intro d
    induction d with
    | zero => intro y hy; rw [vint_small y (by omega)]; simp
    | succ d ih =>
      intro y hy
      by_cases hs : y ≤ 127
      · rw [vint_small y hs]; simp
      · rw [vint_big y (by omega)]
        have := ih (y / 128) (by rw [Nat.pow_succ] at hy; omega)
        simp; omega
  exact Nat.le_trans (key 9 y (by omega)) (by omega)

set_option maxRecDepth 100000 in
set_option maxHeartbeats 1000000 in
theorem writer_any (b : ByteArray) (hb : b.size ≤ 17592186044416) (w : World) :
    Calls Tryz.prog 85 #[.string b] w fun e w' => ∃ B u, e = .returned (.tuple #[.func (.func 116) #[] #[.pointer (some ⟨B, 0, none⟩)], .func (.func 117) #[] #[.pointer (some ⟨B, 0, none⟩)]]) ∧ w'.heap[B]? = some (.cells #[u] 75) ∧ OwnT w' w.heap.size 5 1 u b.size (b.data.toList.map byteV) ∧ w.heap.size ≤ B ∧ Below w.heap.size w w' := by
  obtain ⟨cap, W1, hc, hb1, h1, h2, h3⟩ := conv_bytes b (by omega) w
  have hown : OwnT W1 w.heap.size 5 1 (.slice (some ⟨w.heap.size, 0, none⟩) b.size cap) b.size (b.data.toList.map byteV) := by
    have hbs : b.data.size = b.size := rfl
    have hcs : (bytesRow b cap).size = cap := by simp [bytesRow]; omega
    refine ⟨by simp, .inr ⟨w.heap.size, cap, _, _, rfl, Nat.le_refl _, h3, fun i hi h => ?_, h1, h2, by rw [hcs]; omega, ?_⟩⟩
    · have := h.1; omega
    · rw [Nat.mul_one]
      unfold bytesRow
      rw [Array.toList_append, List.take_append_of_le_length (by simp), List.take_of_length_le (by simp)]
      simp
  have HOWN := Lib.hid hown
  have hz := hb1.size
  have hzz := block_lt h3
  clear h1 h2 h3 hown
  go_enter Tryz.func85, Tryz.ntmps85
  go_wp2
  go_ret2
  exact ⟨_, _, rfl, alloc_new _ _, HOWN.out.up (by go_grown), by omega, ext_trans hb1 (by go_grown)⟩

set_option maxHeartbeats 400000 in
theorem writer2_any (B : Nat) (u : Value) (w : World) (hu : ∃ a n c, u = .slice a n c) (hB : w.heap[B]? = some (.cells #[u] 75)) :
    Calls Tryz.prog 117 #[.pointer (some ⟨B, 0, none⟩)] w fun e w' => e = .returned u ∧ w = w' := by
  obtain ⟨a, n, c, rfl⟩ := hu
  have c1 := cell_block hB 0
  simp at c1
  clear hB
  go_enter Tryz.func117, Tryz.ntmps117
  go_wp2
  go_ret
  exact ⟨rfl, rfl⟩

set_option maxRecDepth 100000 in
set_option maxHeartbeats 4000000 in
theorem writer1_any (sym : Nat) (hsym : sym < 1099511627776) (Bl B base : Nat) (u : Value) (bs : List UInt8) (hbs : bs.length ≤ 1048576) (W : World) (hL : W.heap[Bl]? = some (.cells #[.int .i64 (sym : Int)] 3)) (hB : W.heap[B]? = some (.cells #[u] 75)) (hu : OwnT W base 5 1 u bs.length (bs.map byteV)) (hbB : base ≤ B) (hbW : base ≤ W.heap.size) :
    Calls Tryz.prog 116 #[.int .i64 0, .slice (some ⟨Bl, 0, none⟩) 1 1, .pointer (some ⟨B, 0, none⟩)] W fun e W' => (∃ x, e = .returned x) ∧ ∃ u', W'.heap[B]? = some (.cells #[u'] 75) ∧ OwnT W' base 5 1 u' (bs ++ vint sym).length ((bs ++ vint sym).map byteV) ∧ Below base W W' := by
  obtain ⟨i0, hi0, hz0, hz1, hz2⟩ := info_parts Tryz.infoByte
  have HL0 := Lib.hid hL
  have HB0 := Lib.hid hB
  have HU0 := Lib.hid hu
  have hvl : (vint sym).length ≤ 64 := vint_len sym (by omega)
  have hBl : Bl < W.heap.size := block_lt hL
  have t0 := cell_block hL 0
  simp at t0
  clear hL hB hu
  go_enter Tryz.func116, Tryz.ntmps116
  go_wp2_with fail
  clear t0
  go_loopw [9] (fun i wr => Below base W wr ∧ wr.heap[Bl]? = some (.cells #[.int .i64 (sym : Int)] 3) ∧ ∃ (u' : Value) (l : List UInt8), ((i = .int .i64 0 ∧ l = bs) ∨ (i = .int .i64 1 ∧ l = bs ++ vint sym)) ∧ wr.heap[B]? = some (.cells #[u'] 75) ∧ OwnT wr base 5 1 u' l.length (l.map byteV)) (fun i _ => 1 - (intOf i).toNat)
  case atStart => exact ⟨Below.refl _ _, HL0.out, u, bs, .inl ⟨rfl, rfl⟩, HB0.out, HU0.out⟩
  case round =>
    clear HB0 HU0 HL0
    obtain ⟨hbr, hbl, u', l, hcase, hv, hown⟩ := hrel
    have t0 := cell_block hbl 0
    simp at t0
    rcases hcase with ⟨rfl, rfl⟩ | ⟨rfl, rfl⟩
    · have HI0 := Lib.hid (And.intro hbr (And.intro hbl (And.intro hv hown)))
      clear hbr hbl hv hown
      go_wp2_with fail
      clear t0
      obtain ⟨V0, hV0⟩ : ∃ V0 : World, V0 = wr := ⟨_, rfl⟩
      rw [← hV0] at HI0 ⊢
      clear hV0 wr
      go_loopw [6] (fun i wr => Below base W wr ∧ wr.heap[Bl]? = some (.cells #[.int .i64 (sym : Int)] 3) ∧ ∃ (y : Nat) (u' : Value) (l' : List UInt8), i = .int .i64 y ∧ y ≤ sym ∧ l' ++ vint y = l ++ vint sym ∧ wr.heap[B]? = some (.cells #[u'] 75) ∧ OwnT wr base 5 1 u' l'.length (l'.map byteV)) (fun i _ => (intOf i).toNat)
      case atStart => exact ⟨HI0.out.1, HI0.out.2.1, sym, u', l, rfl, Nat.le_refl _, rfl, HI0.out.2.2.1, HI0.out.2.2.2⟩
      case round =>
        clear HI0 V0
        obtain ⟨hbr, hbl, y, u', l', rfl, hy, htot, hv, hown⟩ := hrel
        have hll : l'.length ≤ 1048640 := by have := congrArg List.length htot; simp at this; omega
        by_cases hbig : 127 < y
        · have hand := and127 y (by omega)
          have hv2 := vint_big y hbig
          have hr0l : y % 128 < 128 := by omega
          generalize y % 128 = r0 at hand hv2 hr0l
          have hor := or128 r0 hr0l
          obtain ⟨z, hz⟩ : ∃ z, z = r0 + 128 := ⟨_, rfl⟩
          rw [← hz] at hor hv2
          have hzl : z < 256 := by omega
          have hu8 := u8wrap z hzl
          clear hz hr0l
          obtain ⟨bb, hbb⟩ : ∃ bb : UInt8, bb = UInt8.ofNat z := ⟨_, rfl⟩
          have hbv : Value.int .u8 ((z : Nat) : Int) = byteV bb := by rw [hbb, byteV_ofNat _ (by omega)]
          have hA : Below wr.heap.size wr (wr.alloc (.cells #[byteV bb] 5)) := by go_grown
          have HOWN := Lib.hid (hown.up hA)
          have hnews : ∀ j u', [byteV bb][j]? = some u' → (wr.alloc (.cells #[byteV bb] 5)).cell? (Addr.add ⟨wr.heap.size, 0, none⟩ j) = some u' := fun j u' hj => by
            have e1 : (Addr.add ⟨wr.heap.size, 0, none⟩ j) = ⟨wr.heap.size, j, none⟩ := by unfold Addr.add; split <;> simp_all
            rw [e1, cell_block (alloc_new wr _)]
            simpa using hj
          have HNEWS := Lib.hid hnews
          have HV := Lib.hid hv
          have HBL := Lib.hid hbl
          have HBR := Lib.hid hbr
          have HBB := Lib.hid hbb
          have c1 := cell_block hv 0
          have f1 := frozen_block hv 0
          simp at c1
          have hsB := block_lt hv
          have hsL := block_lt hbl
          obtain ⟨av, cv, rfl⟩ := hown.slice
          have hne : ∀ g, (Value.slice av l'.length cv).ownBlock = some g → g ≠ B := hown.ne hv (by decide)
          have hne2 : ∀ g, (Value.slice av l'.length cv).ownBlock = some g → g ≠ Bl := hown.ne hbl (by decide)
          have HNE := Lib.hid hne
          have HNE2 := Lib.hid hne2
          have hsz := hbr.size
          have HTOT := Lib.hid htot
          clear hne hne2 hown hnews hv hbl hbb hA htot
          have HV2 := Lib.hid hv2
          clear hv2
          go_wp2_with (at_builtin; (refine wpList_append_T _ rfl (.tmp 20) (.tmp 25) 75 rfl base 5 i0 _ 1 1 Tryz.underlying75 hi0 hz0 hz1 hz2 rfl (by decide) _ l'.length _ rfl HOWN.out ⟨wr.heap.size, 0, none⟩ 1 1 [byteV bb] rfl rfl HNEWS.out (by simp [Value.oneCell']) (by unfold maxLen; omega) (by omega) (by simp; omega) ?_; intro v' w3 hown3 hgrow3 hwh3; obtain ⟨av', cv', rfl⟩ := hown3.slice; have hB3 := (hgrow3.block _ (block_lt (alloc_old _ HV.out)) (fun e => HNE.out _ e.symm rfl)).trans (alloc_old _ HV.out); have c3 := cell_block hB3 0; have f3 := frozen_block hB3 0; simp at c3))
          have hb3 : Below base W w3 := Below.grown (HBR.out.alloc (by omega) _) hgrow3 (by simp; omega) (fun g hg => (HOWN.out.lt g hg).1)
          have hL3 := (hgrow3.block _ (block_lt (alloc_old _ HBL.out)) (fun e => HNE2.out _ e.symm rfl)).trans (alloc_old _ HBL.out)
          have hown4 := hown3.put (hown3.ne hB3 (by decide)) 0 (.slice av' (l'.length + 1) cv')
          have hlen4 : (l' ++ [bb]).length = l'.length + 1 := by simp
          have hneL : Bl ≠ B := fun e => by have h1 := HV.out; have h2 := HBL.out; rw [e, h1] at h2; cases h2
          go_roundw
          case rel => exact ⟨hb3.setCell (p := ⟨B, 0, none⟩) (by dsimp only; omega) _, setCell_other hL3 hneL _ _, y / 128, _, l' ++ [bb], by go_num, by omega, by rw [← HTOT.out, HV2.out, HBB.out]; simp, by rw [setCell_same hB3]; rfl, by rw [hlen4, List.map_append]; exact hown4⟩
          case measure => simp [intOf]; omega
        · have hu8 := u8wrap y (by omega)
          have hv2 := vint_small y (by omega)
          rw [hv2] at htot
          obtain ⟨bb, hbb⟩ : ∃ bb : UInt8, bb = UInt8.ofNat y := ⟨_, rfl⟩
          have hbv : Value.int .u8 ((y : Nat) : Int) = byteV bb := by rw [hbb, byteV_ofNat _ (by omega)]
          have hA : Below wr.heap.size wr (wr.alloc (.cells #[byteV bb] 5)) := by go_grown
          have HOWN := Lib.hid (hown.up hA)
          have hnews : ∀ j u', [byteV bb][j]? = some u' → (wr.alloc (.cells #[byteV bb] 5)).cell? (Addr.add ⟨wr.heap.size, 0, none⟩ j) = some u' := fun j u' hj => by
            have e1 : (Addr.add ⟨wr.heap.size, 0, none⟩ j) = ⟨wr.heap.size, j, none⟩ := by unfold Addr.add; split <;> simp_all
            rw [e1, cell_block (alloc_new wr _)]
            simpa using hj
          have HNEWS := Lib.hid hnews
          have HV := Lib.hid hv
          have HBL := Lib.hid hbl
          have HBR := Lib.hid hbr
          have HBB := Lib.hid hbb
          have c1 := cell_block hv 0
          have f1 := frozen_block hv 0
          simp at c1
          have hsB := block_lt hv
          have hsL := block_lt hbl
          obtain ⟨av, cv, rfl⟩ := hown.slice
          have hne : ∀ g, (Value.slice av l'.length cv).ownBlock = some g → g ≠ B := hown.ne hv (by decide)
          have hne2 : ∀ g, (Value.slice av l'.length cv).ownBlock = some g → g ≠ Bl := hown.ne hbl (by decide)
          have HNE := Lib.hid hne
          have HNE2 := Lib.hid hne2
          have hsz := hbr.size
          have HTOT := Lib.hid htot
          clear hne hne2 hown hnews hv hbl hbb hA htot
          clear hv2
          go_wp2_with (at_builtin; (refine wpList_append_T _ rfl (.tmp 27) (.tmp 30) 75 rfl base 5 i0 _ 1 1 Tryz.underlying75 hi0 hz0 hz1 hz2 rfl (by decide) _ l'.length _ rfl HOWN.out ⟨wr.heap.size, 0, none⟩ 1 1 [byteV bb] rfl rfl HNEWS.out (by simp [Value.oneCell']) (by unfold maxLen; omega) (by omega) (by simp; omega) ?_; intro v' w3 hown3 hgrow3 hwh3; obtain ⟨av', cv', rfl⟩ := hown3.slice; have hB3 := (hgrow3.block _ (block_lt (alloc_old _ HV.out)) (fun e => HNE.out _ e.symm rfl)).trans (alloc_old _ HV.out); have c3 := cell_block hB3 0; have f3 := frozen_block hB3 0; simp at c3))
          have hb3 : Below base W w3 := Below.grown (HBR.out.alloc (by omega) _) hgrow3 (by simp; omega) (fun g hg => (HOWN.out.lt g hg).1)
          have hL3 := (hgrow3.block _ (block_lt (alloc_old _ HBL.out)) (fun e => HNE2.out _ e.symm rfl)).trans (alloc_old _ HBL.out)
          have hown4 := hown3.put (hown3.ne hB3 (by decide)) 0 (.slice av' (l'.length + 1) cv')
          have hlen4 : (l' ++ [bb]).length = l'.length + 1 := by simp
          have hneL : Bl ≠ B := fun e => by have h1 := HV.out; have h2 := HBL.out; rw [e, h1] at h2; cases h2
          go_roundw
          case rel => exact ⟨hb3.setCell (p := ⟨B, 0, none⟩) (by dsimp only; omega) _, setCell_other hL3 hneL _ _, _, l' ++ [bb], .inr ⟨by go_num, by rw [← HTOT.out, HBB.out]⟩, by rw [setCell_same hB3]; rfl, by rw [hlen4, List.map_append]; exact hown4⟩
          case measure => simp [intOf]
    · have HI0 := Lib.hid (And.intro hbr (And.intro hv hown))
      clear hbr hbl hv hown t0
      go_wp2_with fail
      go_end0
      exact ⟨⟨_, rfl⟩, _, HI0.out.2.1, HI0.out.2.2, HI0.out.1⟩
end Go.Proofs.YtjmejfgkogjpaaaGreatDoor

namespace Go.Proofs.YtjmejfgkogjpaaaGreatDoor
open Go.RowKit Go Go.Shelf

structure Pw where
  rd : Int
  fr : Int
  to : Int
instance : DecidableEq Pw := fun a b => decidable_of_iff (a.rd = b.rd ∧ a.fr = b.fr ∧ a.to = b.to) (by cases a; cases b; simp)
abbrev Pw.c (x : Pw) : Array Value := #[.int .i64 x.rd, .int .i64 x.fr, .int .i64 x.to]
abbrev Pw.v (x : Pw) : Value := .agg x.c
theorem eqIn_pw (d : Nat) (a b : Pw) (w : World) : (Op.equalIn (d + 2) 107 a.v b.v).run Tryz.prog w = .ok (decide (a = b)) w := by
  have hS : Tryz.prog.underlying 107 = some (.struct (Tryz.prog.fieldsOf 107)) := by kernel_rfl
  have hp : Tryz.prog.stoodInHeld 107 = false := by kernel_rfl
  rw [run_equalIn_struct w (d + 1) 107 _ _ hS hp]
  have ag := Tryz.isAgg3
  have u3 := Tryz.underlying3
  simp only [Program.fieldsOf, Tryz.underlying107]
  simp [Op.eqFields, part, ag, run_equalIn_int w d 3 _ .i64 _ _ u3]
  obtain ⟨n, k, h0⟩ := a
  obtain ⟨m, l, g0⟩ := b
  by_cases hn : n = m
  case neg => simp [hn]
  by_cases hk : k = l
  case neg => simp [hn, hk]
  by_cases hh : h0 = g0 <;> simp [hn, hk, hh]
theorem kit_pw : KeyKit Tryz.prog 107 Pw.v :=
  ⟨fun a b w => eqIn_pw 9998 a b w, fun em a w => by kernel_rfl, ⟨_, Tryz.underlying107⟩⟩

/-- the value that a slice holds at a place -/
def ldAt (w : World) (v : Value) (i : Nat) : Value := match v with | .slice (some a) _ _ => (w.cell? ⟨a.block, a.off + i, none⟩).getD undef | _ => undef
theorem ldAt_eq {w : World} {b o l c i : Nat} {x : Value} (h : w.cell? ⟨b, o + i, none⟩ = some x) : ldAt w (.slice (some ⟨b, o, none⟩) l c) i = x := by simp [ldAt, h]
def symV (w : World) (vy : Value) (k p q : Nat) : Value := ldAt w (ldAt w (ldAt w vy k) p) q
def entAt (w : World) (vy : Value) (n : Nat) (j : Nat) : Option (Pw × Value) := if j / 5 % 5 < n ∧ j % 5 < n then some (⟨(j / 25 : Nat), (j / 5 % 5 : Nat), (j % 5 : Nat)⟩, symV w vy (j / 25) (j / 5 % 5) (j % 5)) else none
def entTo (w : World) (vy : Value) (n : Nat) (j : Nat) : List (Pw × Value) := filtR (entAt w vy n) j
theorem entAt_eq (w : World) (vy : Value) (n k p q : Nat) (hp : p < 5) (hq : q < 5) : entAt w vy n (k * 25 + p * 5 + q) = if p < n ∧ q < n then some (⟨k, p, q⟩, symV w vy k p q) else none := by
  unfold entAt
  rw [show (k * 25 + p * 5 + q) / 25 = k by omega, show (k * 25 + p * 5 + q) / 5 % 5 = p by omega, show (k * 25 + p * 5 + q) % 5 = q by omega]
theorem ent_q (w : World) (vy : Value) (n k p : Nat) (hp : p < 5) (hn : n ≤ 5) : entTo w vy n (k * 25 + p * 5 + n) = entTo w vy n (k * 25 + (p + 1) * 5) := by
  unfold entTo
  refine (filtR_skip (by omega) fun j h1 h2 => ?_).symm
  obtain ⟨q, rfl⟩ : ∃ q, j = k * 25 + p * 5 + q := ⟨j - (k * 25 + p * 5), by omega⟩
  rw [entAt_eq w vy n k p q hp (by omega), if_neg (by omega)]
theorem ent_p (w : World) (vy : Value) (n k : Nat) (hn : n ≤ 5) : entTo w vy n (k * 25 + n * 5) = entTo w vy n ((k + 1) * 25) := by
  unfold entTo
  refine (filtR_skip (by omega) fun j h1 h2 => ?_).symm
  obtain ⟨p, q, hq, rfl⟩ : ∃ p q, q < 5 ∧ j = k * 25 + p * 5 + q := ⟨(j - k * 25) / 5, (j - k * 25) % 5, by omega, by omega⟩
  rw [entAt_eq w vy n k p q (by omega) hq, if_neg (by omega)]
theorem ent_hit (w : World) (vy : Value) {n k p q : Nat} (hn : n ≤ 5) (hp : p < n) (hq : q < n) : entTo w vy n (k * 25 + p * 5 + (q + 1)) = entTo w vy n (k * 25 + p * 5 + q) ++ [(⟨k, p, q⟩, symV w vy k p q)] := by
  unfold entTo
  rw [show k * 25 + p * 5 + (q + 1) = k * 25 + p * 5 + q + 1 by omega]
  refine filtR_some ?_
  rw [entAt_eq w vy n k p q (by omega) (by omega), if_pos ⟨hp, hq⟩]
theorem ent_none (w : World) (vy : Value) {n k p q : Nat} (hn : n ≤ 5) (hp : p < n) (hq : q < n) : gGet (entTo w vy n (k * 25 + p * 5 + q)) ⟨k, p, q⟩ = none := by
  refine gGet_none fun x hx e => ?_
  unfold entTo filtR at hx
  rw [List.mem_filterMap] at hx
  obtain ⟨j, hj, hx⟩ := hx
  rw [List.mem_range] at hj
  unfold entAt at hx
  split at hx
  · cases hx
    dsimp only at e
    injection e with e1 e2 e3
    omega
  · cases hx
theorem gGet_append {K : Type} [DecidableEq K] {f g : List (K × Value)} {r : K} {x : Value} (h : gGet f r = some x) : gGet (f ++ g) r = some x := by
  unfold gGet at h ⊢
  rw [List.find?_append]
  rw [Option.map_eq_some_iff] at h
  obtain ⟨p, hp, rfl⟩ := h
  rw [hp]; rfl
theorem gGet_snoc {K : Type} [DecidableEq K] {f : List (K × Value)} {r : K} {x : Value} (h : gGet f r = none) : gGet (f ++ [(r, x)]) r = some x := by
  unfold gGet at h ⊢
  rw [List.find?_append]
  rw [Option.map_eq_none_iff] at h
  rw [h]; simp
theorem ent_get (w : World) (vy : Value) {n k p q J : Nat} (hn : n ≤ 5) (hp : p < n) (hq : q < n) (hJ : k * 25 + p * 5 + q < J) : gGet (entTo w vy n J) ⟨k, p, q⟩ = some (symV w vy k p q) := by
  obtain ⟨t, ht⟩ := filtR_prefix (entAt w vy n) (show k * 25 + p * 5 + q + 1 ≤ J by omega)
  unfold entTo
  rw [← ht]
  refine gGet_append ?_
  have := ent_hit w vy (k := k) hn hp hq
  unfold entTo at this
  rw [show k * 25 + p * 5 + (q + 1) = k * 25 + p * 5 + q + 1 by omega] at this
  rw [this]
  exact gGet_snoc (ent_none w vy hn hp hq)
/-- what a slice of slices of slices of numbers holds -/
theorem symV_ints {w : World} {vy : Value} {l : List (List (List (List Int)))} (h : IsV4 w vy l) (k p q : Nat) (hk : k < l.length) (hp : p < (l.getD k []).length) (hq : q < ((l.getD k []).getD p []).length) : IsInts w (symV w vy k p q) (((l.getD k []).getD p []).getD q []) := by
  obtain ⟨a, c, rfl, _, _, e⟩ := h.at
  obtain ⟨b1, o1, rfl, x1, c1, h1⟩ := e k hk
  rw [getD_of_lt [] hk] at hp hq ⊢
  obtain ⟨a, c, rfl, _, _, e⟩ := h1.at
  obtain ⟨b2, o2, rfl, x2, c2, h2⟩ := e p hp
  rw [getD_of_lt [] hp] at hq ⊢
  obtain ⟨a, c, rfl, _, _, e⟩ := h2.at
  obtain ⟨b3, o3, rfl, x3, c3, h3⟩ := e q hq
  rw [getD_of_lt [] hq]
  rw [Nat.mul_one] at c1 c2 c3
  unfold symV
  rw [ldAt_eq c1, ldAt_eq c2, ldAt_eq c3]
  exact h3

set_option maxRecDepth 100000 in
set_option maxHeartbeats 4000000 in
theorem symbols_any (m : Mac) (n r : Nat) (g : Good m n r) (pf : Option Addr) (nf cf : Nat) (vy : Value) (pt : Option Addr) (nt ct : Nat) (po : Option Addr) (no co : Nat) (k p q : Nat) (hk : k < r) (hp : p < n) (hq : q < n) (w : World) (hy : IsV4 w vy m.syms) :
    Calls Tryz.prog 47 #[.agg (macC m (.slice pf nf cf) vy (.slice pt nt ct) (.slice po no co)), .agg #[.int .i64 k, .int .i64 p, .int .i64 q]] w fun e w' => ∃ v, e = .returned v ∧ IsInts w' v (((m.syms.getD k []).getD p []).getD q []) ∧ Below w.heap.size w w' := by
  have hIS := symV_ints hy k p q (by rw [g.yl]; exact hk) (by rw [g.yk k hk]; exact hp) (by rw [g.yp k p hk hp]; exact hq)
  have HIS := Lib.hid hIS
  have HG := Lib.hid g
  have hn5 := g.n5
  have HR := Lib.hid g.yl
  clear g
  generalize hE : entTo w vy n = E
  have HE : Hid (E = entTo w vy n) := by (have h : E = entTo w vy n := hE.symm); exact h
  have HGET : Hid (gGet (E (m.syms.length * 25)) ⟨k, p, q⟩ = some (symV w vy k p q)) := by (have h : gGet (E (m.syms.length * 25)) ⟨k, p, q⟩ = some (symV w vy k p q) := by (rw [← hE]; exact ent_get w vy hn5 hp hq (by rw [HR.out]; omega))); exact h
  clear hE
  obtain ⟨py, cy, hvy, ly1, ly2, ey⟩ := hy.at
  have HSV : Hid (∀ k' p' q', symV w vy k' p' q' = ldAt w (ldAt w (ldAt w (.slice py m.syms.length cy) k') p') q') := by (have h : ∀ k' p' q', symV w vy k' p' q' = ldAt w (ldAt w (ldAt w (.slice py m.syms.length cy) k') p') q' := fun _ _ _ => by (rw [hvy]; rfl)); exact h
  have EY := Lib.hid ey
  rw [hvy]
  have HVY := Lib.hid hvy
  clear hy ey hIS hvy
  have hmm := fun w => mkMap Tryz.prog 146 w
  go_enter Tryz.func47, Tryz.ntmps47
  go_wp2_with fail
  clear hmm
  refine wp_gen (fun W => Below w.heap.size w W ∧ W.heap[w.heap.size + 1]? = some (.cells #[.int .i64 k, .int .i64 p, .int .i64 q] 107) ∧ GMapIs Pw.v W (w.heap.size + 1 + 1) []) ⟨by go_grown, alloc_old _ (alloc2_new _ _ _), ⟨#[], 0, alloc3_new _ _ _ _, rfl⟩⟩ (fun W0 hW0 => ?_)
  obtain ⟨hb0, hP0, hG0⟩ := hW0
  have hst : ∀ wr : World, Below w.heap.size w wr → w.heap.size + 1 + 1 < wr.heap.size → True := fun _ _ _ => trivial
  clear hst
  go_loopw [16] (fun i wr => ∃ a : Nat, a ≤ m.syms.length ∧ i = .int .i64 a ∧ Below w.heap.size w wr ∧ wr.heap[w.heap.size + 1]? = some (.cells #[.int .i64 k, .int .i64 p, .int .i64 q] 107) ∧ GMapIs Pw.v wr (w.heap.size + 1 + 1) (E (a * 25))) (fun i _ => m.syms.length - (intOf i).toNat)
  case atStart => exact ⟨0, by omega, rfl, hb0, hP0, by rw [HE.out]; exact hG0⟩
  case round =>
    clear hb0 hP0 hG0
    obtain ⟨a, ha, rfl, hbr, hP, hG⟩ := hrel
    have HINV := Lib.hid (And.intro hbr (And.intro hP hG))
    have t2 := cell_block hP
    clear hP hG
    by_cases hlt : a < m.syms.length
    · obtain ⟨b1, o1, rfl, x1, c1, h1⟩ := EY.out a hlt
      have hal : (m.syms[a]).length = n := by have := HG.out.yk a (by rw [← HR.out]; exact hlt); rwa [getD_of_lt [] hlt] at this
      have hap : ∀ p', p' < n → (m.syms[a].getD p' []).length = n := fun p' hp' => by have := HG.out.yp a p' (by rw [← HR.out]; exact hlt) hp'; rwa [getD_of_lt [] hlt] at this
      rw [Nat.mul_one] at c1
      have d1 := cell_up hbr c1
      obtain ⟨p1, q1, rfl, l11, l12, e1⟩ := h1.at
      have HS1 : Hid (ldAt w (.slice (some ⟨b1, o1, none⟩) m.syms.length cy) a = .slice p1 m.syms[a].length q1) := by (have h : ldAt w (.slice (some ⟨b1, o1, none⟩) m.syms.length cy) a = .slice p1 m.syms[a].length q1 := ldAt_eq c1); exact h
      have E1 := Lib.hid e1
      have HAP := Lib.hid hap
      have HAL := Lib.hid hal
      clear c1 h1 e1 hap t2 hal
      generalize m.syms[a] = l1 at d1 l11 l12 E1 HAP HAL HS1
      go_wp2_with fail
      clear d1
      obtain ⟨V0, hV0⟩ : ∃ V0 : World, V0 = wr := ⟨_, rfl⟩
      rw [← hV0] at HINV ⊢
      clear hV0 hbr wr
      go_loopw [23] (fun i wr => ∃ c : Nat, c ≤ l1.length ∧ i = .int .i64 c ∧ Below w.heap.size w wr ∧ wr.heap[w.heap.size + 1]? = some (.cells #[.int .i64 k, .int .i64 p, .int .i64 q] 107) ∧ GMapIs Pw.v wr (w.heap.size + 1 + 1) (E (a * 25 + c * 5))) (fun i _ => l1.length - (intOf i).toNat)
      case atStart => exact ⟨0, by omega, rfl, HINV.out.1, HINV.out.2.1, HINV.out.2.2⟩
      case round =>
        clear HINV V0
        obtain ⟨c, hc, rfl, hbr, hP, hG⟩ := hrel
        have HINV := Lib.hid (And.intro hbr (And.intro hP hG))
        clear hP hG
        by_cases hcl : c < l1.length
        · have hcn : c < n := by have := HAL.out; omega
          obtain ⟨b2, o2, rfl, x2, c2, h2⟩ := E1.out c hcl
          have hcq : l1[c].length = n := by have := HAP.out c hcn; rwa [getD_of_lt [] hcl] at this
          rw [Nat.mul_one] at c2
          have d2 := cell_up hbr c2
          obtain ⟨p2, q2, rfl, l21, l22, e2⟩ := h2.at
          have HS2 : Hid (ldAt w (.slice (some ⟨b2, o2, none⟩) l1.length q1) c = .slice p2 l1[c].length q2) := by (have h : ldAt w (.slice (some ⟨b2, o2, none⟩) l1.length q1) c = .slice p2 l1[c].length q2 := ldAt_eq c2); exact h
          have E2 := Lib.hid e2
          have HCQ := Lib.hid hcq
          clear c2 h2 e2 hcq
          generalize l1[c] = l2 at d2 l21 l22 E2 HCQ HS2
          go_wp2_with fail
          clear d2
          obtain ⟨V1, hV1⟩ : ∃ V1 : World, V1 = wr := ⟨_, rfl⟩
          rw [← hV1] at HINV ⊢
          clear hV1 hbr wr
          go_loopw [30] (fun i wr => ∃ d : Nat, d ≤ l2.length ∧ i = .int .i64 d ∧ Below w.heap.size w wr ∧ wr.heap[w.heap.size + 1]? = some (.cells #[.int .i64 k, .int .i64 p, .int .i64 q] 107) ∧ GMapIs Pw.v wr (w.heap.size + 1 + 1) (E (a * 25 + c * 5 + d))) (fun i _ => l2.length - (intOf i).toNat)
          case atStart => exact ⟨0, by omega, rfl, HINV.out.1, HINV.out.2.1, HINV.out.2.2⟩
          case round =>
            clear HINV V1
            obtain ⟨d, hd, rfl, hbr, hP, hG⟩ := hrel
            have hsb := hG.lt
            by_cases hdl : d < l2.length
            · have hdn : d < n := by have := HCQ.out; omega
              obtain ⟨b3, o3, rfl, x3, c3, h3⟩ := E2.out d hdl
              rw [Nat.mul_one] at c3
              have d3 := cell_up hbr c3
              have hsv : symV w vy a c d = x3 := by rw [HSV.out, HS1.out, HS2.out, ldAt_eq c3]
              obtain ⟨p3, q3, rfl, l31, l32, _⟩ := h3.at
              have hnone := ent_none w vy (k := a) hn5 hcn hdn
              have hhit := ent_hit w vy (k := a) hn5 hcn hdn
              rw [hsv] at hhit
              rw [← HE.out] at hnone hhit
              obtain ⟨o, hup, hG2⟩ := gUpdate kit_pw (mt := 146) (vt := 28) Tryz.underlying146 hG ⟨a, c, d⟩ (.slice p3 l2[d].length q3) hnone
              rw [← hhit] at hG2
              have HG2 := Lib.hid hG2
              have HP2 := Lib.hid hP
              have HBR := Lib.hid hbr
              clear hG hG2 hnone hhit hsv h3 c3 hP
              generalize l2[d].length = l3 at d3 l31 l32 hup
              go_wp2_with fail
              go_roundw
              case rel => exact ⟨d + 1, by omega, by go_num, below_put (by omega) HBR.out, (World.putObj_heap_other (by omega)).trans HP2.out, HG2.out⟩
              case measure => simp [intOf]; omega
            · have hdn : d = n := by have := HCQ.out; omega
              have HINV := Lib.hid (And.intro hbr (And.intro hP hG))
              have HEQ : Hid (E (a * 25 + c * 5 + d) = E (a * 25 + (c + 1) * 5)) := by (have h : E (a * 25 + c * 5 + d) = E (a * 25 + (c + 1) * 5) := by (rw [HE.out, hdn]; exact ent_q w vy n a c (by omega) hn5)); exact h
              clear hP hG hdn
              go_wp2_with fail
              go_roundw
              case rel => exact ⟨c + 1, by omega, by go_num, HINV.out.1, HINV.out.2.1, by rw [← HEQ.out]; exact HINV.out.2.2⟩
              case measure => simp [intOf]; omega
        · have hcn : c = n := by have := HAL.out; omega
          have HEQ : Hid (E (a * 25 + c * 5) = E ((a + 1) * 25)) := by (have h : E (a * 25 + c * 5) = E ((a + 1) * 25) := by (rw [HE.out, hcn]; exact ent_p w vy n a hn5)); exact h
          clear hcn
          go_wp2_with fail
          go_roundw
          case rel => exact ⟨a + 1, by omega, by go_num, HINV.out.1, HINV.out.2.1, by rw [← HEQ.out]; exact HINV.out.2.2⟩
          case measure => simp [intOf]; omega
    · obtain rfl : a = m.syms.length := by omega
      have hlook := gLookup1 kit_pw (mt := 146) (vt := 28) (z := .slice none 0 0) Tryz.underlying146 (fun w => by kernel_rfl) HINV.out.2.2 ⟨k, p, q⟩
      rw [HGET.out] at hlook
      obtain ⟨pv, cv, hv, _⟩ := (HIS.out).at
      have HISV := HIS.out
      rw [hv] at hlook HISV
      have HIS2 := Lib.hid HISV
      clear HISV hv
      generalize (((m.syms.getD k []).getD p []).getD q []).length = ll at hlook HIS2
      go_wp2_with fail
      go_ret
      exact ⟨_, rfl, HIS2.out.up up_int HINV.out.1, HINV.out.1⟩
end Go.Proofs.YtjmejfgkogjpaaaGreatDoor

namespace Go.Proofs.YtjmejfgkogjpaaaGreatDoor
open Go.RowKit Go Go.Shelf

theorem conv_back {w : World} {base : Nat} {v : Value} {l : List UInt8} (h : OwnT w base 5 1 v l.length (l.map byteV)) (hl : 0 < l.length) : ∃ g c, v = .slice (some ⟨g, 0, none⟩) l.length c ∧ (convert 75 9 v).run Tryz.prog w = .ok (.string (bytesOf l)) w := by
  rcases h.2 with ⟨_, hz⟩ | ⟨g, cap, cur, fz, rfl, _, hg, _, hc1, _, _, _⟩
  · omega
  · refine ⟨g, cap, rfl, ?_⟩
    exact run_convert_bytes_back w _ _ 5 ⟨g, 0, none⟩ cap l Tryz.underlying75 Tryz.underlying5 Tryz.underlying9 (fun j hj => by
      obtain ⟨g', c', e1, e2⟩ := h.cell j (byteV l[j]) (by rw [List.getElem?_map, List.getElem?_eq_getElem hj]; rfl)
      have : g = g' := by simp at e1; exact e1.1
      subst this
      rw [← e2]
      congr 1
      unfold Addr.add; split <;> simp_all)

set_option maxRecDepth 100000 in
set_option maxHeartbeats 2000000 in
theorem sealed_any (u : Value) (bs : List UInt8) (base : Nat) (w : World) (hu : OwnT w base 5 1 u bs.length (bs.map byteV)) (h0 : 0 < bs.length) (h1 : bs.length ≤ 1048576) (hb : base ≤ w.heap.size) :
    Calls Tryz.prog 86 #[u] w fun e w' => e = .returned (.string (bytesOf (sealL bs))) ∧ Below base w w' := by
  obtain ⟨i0, hi0, hz0, hz1, hz2⟩ := info_parts Tryz.infoByte
  obtain ⟨g, c, rfl, hconv⟩ := conv_back hu h0
  have HU := Lib.hid hu
  have hck := ckS_lt bs
  have HCK := Lib.hid (checksum_any (bytesOf bs) (by show bs.toArray.size ≤ _; simp; omega) w)
  have hdl : (bytesOf bs).data.toList = bs := by simp [bytesOf]
  rw [hdl] at HCK
  have HSL : Hid (sealL bs = bs ++ [UInt8.ofNat (ckS bs / 256), UInt8.ofNat (ckS bs % 256)]) := by exact rfl
  generalize ckS bs = ck at hck HCK HSL
  obtain ⟨z1, hz1'⟩ : ∃ z1, z1 = ck / 256 := ⟨_, rfl⟩
  obtain ⟨z2, hz2'⟩ : ∃ z2, z2 = ck % 256 := ⟨_, rfl⟩
  rw [← hz1', ← hz2'] at HSL
  have hw1 : IntKind.u8.wrap ((ck : Int) / 256) = (z1 : Int) := by rw [IntKind.wrap_u8]; omega
  have hw2 : IntKind.u8.wrap (ck : Int) = (z2 : Int) := by rw [IntKind.wrap_u8]; omega
  have HB1 := Lib.hid (byteV_ofNat z1 (by omega))
  have HB2 := Lib.hid (byteV_ofNat z2 (by omega))
  clear hu hdl hz1' hz2'
  go_enter Tryz.func86, Tryz.ntmps86
  go_wp2_with fail
  refine HCK.out.mono ?_
  rintro e w1 ⟨rfl, hb1⟩
  have hA : Below w1.heap.size w1 (w1.alloc (.cells #[.int .u8 (z1 : Int), .int .u8 (z2 : Int)] 5)) := by go_grown
  have HOWN := Lib.hid ((HU.out.up hb1).up hA)
  have hnews : ∀ j u', [Value.int .u8 (z1 : Int), .int .u8 (z2 : Int)][j]? = some u' → (w1.alloc (.cells #[.int .u8 (z1 : Int), .int .u8 (z2 : Int)] 5)).cell? (Addr.add ⟨w1.heap.size, 0, none⟩ j) = some u' := fun j u' hj => by
    have e1 : (Addr.add ⟨w1.heap.size, 0, none⟩ j) = ⟨w1.heap.size, j, none⟩ := by unfold Addr.add; split <;> simp_all
    rw [e1, cell_block (alloc_new w1 _)]
    simpa using hj
  have HNEWS := Lib.hid hnews
  have HB1' := Lib.hid hb1
  have hs1 := hb1.size
  clear hnews hA hconv
  go_wp2_with (at_builtin; (refine wpList_append_T _ rfl (.tmp 7) (.tmp 13) 75 rfl base 5 i0 _ 1 1 Tryz.underlying75 hi0 hz0 hz1 hz2 rfl (by decide) _ bs.length _ rfl HOWN.out ⟨w1.heap.size, 0, none⟩ 2 2 [.int .u8 (z1 : Int), .int .u8 (z2 : Int)] rfl rfl HNEWS.out (by simp [Value.oneCell']) (by unfold maxLen; omega) (by omega) (by simp; omega) ?_; intro v' w3 hown3 hgrow3 hwh3; rw [← HB1.out, ← HB2.out] at hown3; obtain ⟨g', c', rfl, hcb⟩ := conv_back (l := sealL bs) (by rw [HSL.out]; simpa using hown3) (by rw [HSL.out]; simp); clear hown3))
  go_ret
  refine ⟨rfl, ?_⟩
  exact Below.grown ((HB1'.out.mono hb).alloc (by omega) _) hgrow3 (by simp; omega) (fun g hg => (HOWN.out.lt g hg).1)
end Go.Proofs.YtjmejfgkogjpaaaGreatDoor

namespace Go.Proofs.YtjmejfgkogjpaaaGreatDoor
open Go.RowKit Go Go.Shelf

theorem conv_new (w : World) (g : Nat) (l : List UInt8) (t : TypeId) (h : w.heap[g]? = some (.cells (l.map byteV).toArray t)) : (convert 75 9 (.slice (some ⟨g, 0, none⟩) l.length l.length)).run Tryz.prog w = .ok (.string (bytesOf l)) w :=
  run_convert_bytes_back w _ _ 5 ⟨g, 0, none⟩ l.length l Tryz.underlying75 Tryz.underlying5 Tryz.underlying9 (fun j hj => by
    have e1 : (Addr.add ⟨g, 0, none⟩ j) = ⟨g, j, none⟩ := by unfold Addr.add; split <;> simp_all
    rw [e1, cell_block h]
    simp [hj])

set_option maxRecDepth 100000 in
set_option maxHeartbeats 4000000 in
theorem message_any (k p q sym : Nat) (hk : k < 256) (hp : p < 256) (hq : q < 256) (hs : sym < 1099511627776) (w : World) :
    Calls Tryz.prog 48 #[.agg #[.int .i64 (k : Int), .int .i64 (p : Int), .int .i64 (q : Int)], .int .i64 (sym : Int)] w fun e w' => e = .returned (.string (bytesOf (msgL k p q sym))) ∧ Below w.heap.size w w' := by
  have HM : Hid (msgL k p q sym = sealL ([UInt8.ofNat k, UInt8.ofNat p, UInt8.ofNat q] ++ vint sym)) := by exact rfl
  have e1 := byteV_ofNat k hk
  have e2 := byteV_ofNat p hp
  have e3 := byteV_ofNat q hq
  have hw1 := u8wrap k hk
  have hw2 := u8wrap p hp
  have hw3 := u8wrap q hq
  generalize UInt8.ofNat k = bk at e1 HM
  generalize UInt8.ofNat p = bp at e2 HM
  generalize UInt8.ofNat q = bq at e3 HM
  have hconv : (convert 75 9 (.slice (some ⟨w.heap.size + 1, 0, none⟩) 3 3)).run Tryz.prog ((w.alloc (.cells #[.int .i64 (k : Int), .int .i64 (p : Int), .int .i64 (q : Int)] 107)).alloc (.cells #[.int .u8 (k : Int), .int .u8 (p : Int), .int .u8 (q : Int)] 5)) = .ok (.string (bytesOf [bk, bp, bq])) ((w.alloc (.cells #[.int .i64 (k : Int), .int .i64 (p : Int), .int .i64 (q : Int)] 107)).alloc (.cells #[.int .u8 (k : Int), .int .u8 (p : Int), .int .u8 (q : Int)] 5)) := by
    refine conv_new _ (w.heap.size + 1) [bk, bp, bq] 5 ?_
    have : ([bk, bp, bq].map byteV).toArray = #[.int .u8 (k : Int), .int .u8 (p : Int), .int .u8 (q : Int)] := by rw [← e1, ← e2, ← e3]; rfl
    rw [this]
    exact alloc2_new _ _ _
  have g1 := enters_of Tryz.func116 (P := Tryz.prog) (by kernel_rfl) rfl
  have g2 := enters_of Tryz.func117 (P := Tryz.prog) (by kernel_rfl) rfl
  clear e1 e2 e3
  go_enter Tryz.func48, Tryz.ntmps48
  go_wp2_with fail
  clear hconv hw1 hw2 hw3
  refine calls_gen (fun W => Below w.heap.size w W) (by go_grown) (fun W0 hb0 => ?_)
  refine (writer_any (bytesOf [bk, bp, bq]) (by show (#[bk, bp, bq] : Array UInt8).size ≤ _; simp) W0).mono ?_
  rintro e w1 ⟨B, u, rfl, hB, hu, hbB, hb1⟩
  have hu' : OwnT w1 W0.heap.size 5 1 u [bk, bp, bq].length ([bk, bp, bq].map byteV) := hu
  have HB := Lib.hid hB
  have HU := Lib.hid hu'
  clear hB hu hu'
  have hbw1 := ext_trans hb0 hb1
  have hs1 := hb1.size
  go_wp2_with fail
  refine calls_gen (fun V => Below w1.heap.size w1 V ∧ V.heap[w1.heap.size]? = some (.cells #[.int .i64 (sym : Int)] 3)) ⟨by go_grown, alloc_new _ _⟩ (fun V hV => ?_)
  obtain ⟨hbV, hL⟩ := hV
  refine (writer1_any sym hs w1.heap.size B W0.heap.size u [bk, bp, bq] (by simp) V hL (block_up hbV HB.out) (HU.out.up hbV) hbB (by have := hbV.size; omega)).mono ?_
  rintro e w2 ⟨⟨x, rfl⟩, u', hB2, hu2, hb2⟩
  have HU2 := Lib.hid hu2
  have hbw2 : Below W0.heap.size W0 w2 := (hb1.trans (hbV.mono hs1)).trans hb2
  obtain ⟨au, cu, rfl⟩ := hu2.slice
  have hw2 := writer2_any B _ w2 ⟨_, _, _, rfl⟩ hB2
  have HW2 := Lib.hid hw2
  clear hw2 hu2 hB2 hL
  go_wp2_with fail
  refine HW2.out.mono ?_
  rintro e w3 ⟨rfl, rfl⟩
  go_wp2_with fail
  refine (sealed_any _ _ W0.heap.size w2 HU2.out (by simp) (by have := vint_len sym (by omega); simp; omega) hbw2.size).mono ?_
  rintro e w4 ⟨rfl, hb4⟩
  go_wp2_with fail
  go_ret
  exact ⟨by rw [HM.out]; rfl, ext_trans hb0 (hbw2.trans hb4)⟩

set_option maxRecDepth 100000 in
set_option maxHeartbeats 4000000 in
theorem placeCheck_any (m : Mac) (n r : Nat) (g : Good m n r) (hc : checkE m = 0) (vf vy vt vo : Value) (k p q : Nat) (hk : k < r) (hp : p < n) (hq : q < n) (hpq : p ≠ q) (w : World) (hf : IsVecs w vf m.first) (hy : IsV4 w vy m.syms) (ht : IsSteps w vt m.steps) (ho : IsV3 w vo m.out) :
    Calls Tryz.prog 46 #[.agg #[.int .i64 (k : Int), .int .i64 (p : Int), .int .i64 (q : Int)], .agg (macC m vf vy vt vo)] w fun e w' => e = .returned (.int .i64 0) ∧ Below w.heap.size w w' := by
  have HCK := Lib.hid (fun W (hb : Below w.heap.size w W) => macCheck_any m vf vy vt vo W (hf.up up_ints hb) (hy.up up_v3 hb) (ht.up up_step hb) (ho.up up_vecs hb))
  rw [hc] at HCK
  obtain ⟨pf, cf, rfl, _⟩ := hf.at
  obtain ⟨py, cy, rfl, _⟩ := hy.at
  obtain ⟨pt, ct, rfl, _⟩ := ht.at
  obtain ⟨po, co, rfl, _⟩ := ho.at
  have hr1 : ¬ m.rounds ≤ (k : Int) := by rw [g.hr]; omega
  have hn1 : ¬ m.n ≤ (p : Int) := by rw [g.hn]; omega
  have hn2 : ¬ m.n ≤ (q : Int) := by rw [g.hn]; omega
  have hpq1 : ¬ (p : Int) = (q : Int) := by omega
  have hpq2 : ((p : Int) == (q : Int)) = false := by simpa using hpq1
  clear hf hy ht ho g hc
  go_enter Tryz.func46, Tryz.ntmps46
  go_wp2_with fail
  refine calls_gen (fun W => Below w.heap.size w W ∧ W.heap[w.heap.size]? = some (.cells #[.int .i64 (k : Int), .int .i64 (p : Int), .int .i64 (q : Int)] 107) ∧ W.heap[w.heap.size + 1]? = some (.cells (macC m (.slice pf m.first.length cf) (.slice py m.syms.length cy) (.slice pt m.steps.length ct) (.slice po m.out.length co)) 27)) ⟨by go_grown, alloc_old _ (alloc_new _ _), alloc2_new _ _ _⟩ (fun W0 hW0 => ?_)
  obtain ⟨hb0, hP, hM⟩ := hW0
  refine (HCK.out W0 hb0).mono ?_
  rintro e w1 ⟨rfl, hb1⟩
  have t1 := cell_block (block_up hb1 hP)
  have t2 := cell_block (block_up hb1 hM)
  clear hP hM
  go_wp2_with fail
  go_ret
  exact ⟨rfl, ext_trans hb0 hb1⟩

set_option maxRecDepth 100000 in
set_option maxHeartbeats 4000000 in
theorem encode_any (m : Mac) (n r : Nat) (g : Good m n r) (hc : checkE m = 0) (vf vy vt vo : Value) (k p q s : Nat) (hk : k < r) (hp : p < n) (hq : q < n) (hpq : p ≠ q) (hs : s < (((m.syms.getD k []).getD p []).getD q []).length) (w : World) (hf : IsVecs w vf m.first) (hy : IsV4 w vy m.syms) (ht : IsSteps w vt m.steps) (ho : IsV3 w vo m.out) :
    Calls Tryz.prog 21 #[.agg (macC m vf vy vt vo), .int .i64 (k : Int), .int .i64 (p : Int), .int .i64 (q : Int), .int .i64 (s : Int)] w fun e w' => e = .returned (.tuple #[.string (bytesOf (msgL k p q (symS m k p q s).toNat)), .int .i64 0]) ∧ Below w.heap.size w w' := by
  have HCK := Lib.hid (fun W (hb : Below w.heap.size w W) => placeCheck_any m n r g hc vf vy vt vo k p q hk hp hq hpq W (hf.up up_ints hb) (hy.up up_v3 hb) (ht.up up_step hb) (ho.up up_vecs hb))
  have hsr := g.symr k p q s hk hp hq hs
  have hn5 := g.n5
  have hr6 := g.r6
  obtain ⟨pf, cf, rfl, _⟩ := hf.at
  obtain ⟨pt, ct, rfl, _⟩ := ht.at
  obtain ⟨po, co, rfl, _⟩ := ho.at
  have HSY := Lib.hid (fun W (hb : Below w.heap.size w W) => symbols_any m n r g pf m.first.length cf vy pt m.steps.length ct po m.out.length co k p q hk hp hq W (hy.up up_v3 hb))
  obtain ⟨py, cy, rfl, _⟩ := hy.at
  have HSS : Hid (symS m k p q s = (((m.syms.getD k []).getD p []).getD q []).getD s 0) := by (have h : symS m k p q s = (((m.syms.getD k []).getD p []).getD q []).getD s 0 := by (unfold symS; rw [Int.toNat_natCast])); exact h
  generalize ((m.syms.getD k []).getD p []).getD q [] = l at hs hsr HSY HSS
  clear hf hy ht ho g hc
  go_enter Tryz.func21, Tryz.ntmps21
  go_wp2_with fail
  refine calls_gen (fun W => Below w.heap.size w W ∧ W.heap[w.heap.size]? = some (.cells (macC m (.slice pf m.first.length cf) (.slice py m.syms.length cy) (.slice pt m.steps.length ct) (.slice po m.out.length co)) 27) ∧ W.heap[w.heap.size + 1]? = some (.cells #[.int .i64 (k : Int), .int .i64 (p : Int), .int .i64 (q : Int)] 107)) ⟨by go_grown, alloc_old _ (alloc_new _ _), alloc2_new _ _ _⟩ (fun W0 hW0 => ?_)
  obtain ⟨hb0, hM, hP⟩ := hW0
  have HM := Lib.hid hM
  have HP := Lib.hid hP
  clear hM hP
  refine (HCK.out W0 hb0).mono ?_
  rintro e w1 ⟨rfl, hb1⟩
  have t1 := cell_block (block_up hb1 HM.out)
  have t2 := cell_block (block_up hb1 HP.out)
  have hbw1 := ext_trans hb0 hb1
  go_wp2_with fail
  refine (HSY.out w1 hbw1).mono ?_
  rintro e w2 ⟨v, rfl, hv, hb2⟩
  have hbw2 := ext_trans hbw1 hb2
  clear t1 t2
  obtain ⟨pv, cv, rfl, lv1, lv2, ev⟩ := hv.at
  obtain ⟨b1, o1, rfl, c1, _⟩ := ev s hs
  rw [Nat.mul_one] at c1
  have HG := Lib.hid (getD_of_lt 0 hs)
  rw [getD_of_lt 0 hs] at hsr
  obtain ⟨sy, hsy⟩ : ∃ sy : Nat, l[s] = sy := ⟨l[s].toNat, by omega⟩
  have HSY2 : Hid ((symS m k p q s).toNat = sy) := by (have h : (symS m k p q s).toNat = sy := by (rw [HSS.out, HG.out, hsy, Int.toNat_natCast])); exact h
  rw [hsy] at c1 hsr
  have q1 : ∀ y : ExtW w2, ∀ o, y.val.cell? ⟨w.heap.size + 1, o, none⟩ = _ := fun y => cell_block (block_up (ext_trans (ext_trans hb1 hb2) y.ext) HP.out)
  have q2 : ∀ y : ExtW w2, y.val.cell? ⟨b1, o1 + s, none⟩ = _ := fun y => y.cell c1
  have HCALL := Lib.hid (show ∀ y : ExtW w2, Calls Tryz.prog 48 #[.agg #[.int .i64 (k : Int), .int .i64 (p : Int), .int .i64 (q : Int)], .int .i64 (sy : Int)] y.val fun e w'' => e = .returned (.string (bytesOf (msgL k p q sy))) ∧ ∃ z : ExtW w2, w'' = z.val from fun y => Calls.ext_of (message_any k p q sy (by omega) (by omega) (by omega) (by omega) _))
  clear hv ev c1 hsy HG
  go_wp2_with fail
  refine wp_region_quiet_ext (by kernel_rfl) (by kernel_rfl) ?_
  repeat (go_big_quiet_step ((go_at_call 48; with_reducible exact HCALL.out _)))
  refine wpQuiet_nil ?_
  intro _ hw'
  obtain ⟨xq, hw''⟩ := hw'
  subst hw''
  clear q1 q2
  go_wp2_with fail
  go_ret2
  exact ⟨by rw [HSY2.out]; rfl, ext_trans hbw2 xq.ext⟩
end Go.Proofs.YtjmejfgkogjpaaaGreatDoor

namespace Go.Proofs.YtjmejfgkogjpaaaGreatDoor
open Go.RowKit Go Go.Shelf

theorem flat_at {α : Type} (c : α → Array Value) (k : Nat) (hc : ∀ x, (c x).size = k) (xs : List α) (i j : Nat) (hi : i < xs.length) (hj : j < k) : (xs.flatMap fun x => (c x).toList)[i * k + j]? = (c xs[i])[j]? := by
  induction xs generalizing i with
  | nil => simp at hi
  | cons x r ih =>
    rw [List.flatMap_cons]
    have hx : (c x).toList.length = k := by rw [Array.length_toList, hc]
    cases i with
    | zero =>
      rw [List.getElem?_append_left (by omega)]
      simp
    | succ i =>
      rw [List.getElem?_append_right (by rw [hx, Nat.succ_mul]; omega)]
      have := ih i (by simpa using hi)
      simp only [List.getElem_cons_succ]
      rw [← this, hx]
      congr 1
      rw [Nat.succ_mul]; omega
def flatR (xs : List Rd) : List Value := xs.flatMap fun r => r.c.toList
theorem flatR_len (xs : List Rd) : (flatR xs).length = xs.length * 7 := by
  unfold flatR
  induction xs with
  | nil => rfl
  | cons x r ih => rw [List.flatMap_cons, List.length_append, ih]; simp; omega
theorem flatR_one (xs : List Rd) : ∀ u ∈ flatR xs, u.oneCell' = true := by
  intro u hu
  unfold flatR at hu
  rw [List.mem_flatMap] at hu
  obtain ⟨r, _, hr⟩ := hu
  simp at hr
  rcases hr with rfl | rfl | rfl | rfl | rfl | rfl | rfl <;> rfl
theorem word_cell {w : World} {v : Value} {l : List Rd} (h : IsWord w v l) (j : Nat) (u : Value) (hu : (flatR l)[j]? = some u) : ∃ b o c, v = .slice (some ⟨b, o, none⟩) l.length c ∧ w.cell? ⟨b, o + j, none⟩ = some u := by
  have hj := (List.getElem?_eq_some_iff.1 hu).1
  rw [flatR_len] at hj
  obtain ⟨i, s, hs, rfl⟩ : ∃ i s, s < 7 ∧ j = i * 7 + s := ⟨j / 7, j % 7, by omega, by omega⟩
  have hi : i < l.length := by omega
  unfold flatR at hu
  rw [flat_at Rd.c 7 (fun _ => rfl) l i s hi hs] at hu
  obtain ⟨a, cap, rfl, _, _, e⟩ := h.at
  obtain ⟨b, o, rfl, ⟨c0, _⟩, ⟨c1, _⟩, ⟨c2, _⟩, ⟨c3, _⟩, ⟨c4, _⟩, ⟨c5, _⟩, ⟨c6, _⟩⟩ := e i hi
  refine ⟨b, o, cap, rfl, ?_⟩
  rw [← Nat.add_assoc]
  rcases (show s = 0 ∨ s = 1 ∨ s = 2 ∨ s = 3 ∨ s = 4 ∨ s = 5 ∨ s = 6 by omega) with rfl | rfl | rfl | rfl | rfl | rfl | rfl <;> (simp at hu; subst hu; first | exact c0 | exact c1 | exact c2 | exact c3 | exact c4 | exact c5 | exact c6)
theorem word_in {w : World} {v : Value} {l : List Rd} (h : IsWord w v l) (i : Nat) (hi : i < l.length) : InR l[i].g.n ∧ InR l[i].g.h0 ∧ InR l[i].g.h1 ∧ InR l[i].g.h2 ∧ InR l[i].g.h3 ∧ InR l[i].g.h4 ∧ InR l[i].f := by
  obtain ⟨a, cap, rfl, _, _, e⟩ := h.at
  obtain ⟨b, o, rfl, ⟨_, c0⟩, ⟨_, c1⟩, ⟨_, c2⟩, ⟨_, c3⟩, ⟨_, c4⟩, ⟨_, c5⟩, ⟨_, c6⟩⟩ := e i hi
  exact ⟨c0, c1, c2, c3, c4, c5, c6⟩
theorem own_word {w : World} {base : Nat} {v : Value} {l : List Rd} (h : OwnT w base 49 7 v l.length (flatR l)) (hx : ∀ i (hi : i < l.length), InR l[i].g.n ∧ InR l[i].g.h0 ∧ InR l[i].g.h1 ∧ InR l[i].g.h2 ∧ InR l[i].g.h3 ∧ InR l[i].g.h4 ∧ InR l[i].f) (hn : l.length ≤ 17592186044416) : IsWord w v l := by
  have hall := fun i (hi : i < l.length) j (u : Value) (hj : j < 7) (hu : l[i].c[j]? = some u) => h.cell (i * 7 + j) u (by unfold flatR; rw [flat_at Rd.c 7 (fun _ => rfl) l i j hi hj]; exact hu)
  rcases h.2 with ⟨rfl, hz⟩ | ⟨g, cap, cur, fz, rfl, _, hg, _, hc1, hc2, _, _⟩
  · refine ⟨none, 0, by rw [hz], ⟨by omega, by omega, fun _ => rfl⟩, hn, fun i x hi => ?_⟩
    have := (List.getElem?_eq_some_iff.1 hi).1
    omega
  · refine ⟨some ⟨g, 0, none⟩, cap, rfl, ⟨hc1, by simp only [maxLen] at hc2; omega, fun e => by cases e⟩, hn, fun i x hi => ⟨g, 0, rfl, ?_⟩⟩
    obtain ⟨hil, rfl⟩ := List.getElem?_eq_some_iff.1 hi
    obtain ⟨r0, r1, r2, r3, r4, r5, r6⟩ := hx i hil
    have key : ∀ j u, j < 7 → l[i].c[j]? = some u → w.cell? ⟨g, 0 + i * 7 + j, none⟩ = some u := fun j u hj hu => by
      obtain ⟨g', c', e1, e2⟩ := hall i hil j u hj hu
      have : g = g' := by simp at e1; exact e1.1
      rw [this, Nat.zero_add]; exact e2
    exact ⟨⟨key 0 _ (by omega) rfl, r0⟩, ⟨key 1 _ (by omega) rfl, r1⟩, ⟨key 2 _ (by omega) rfl, r2⟩, ⟨key 3 _ (by omega) rfl, r3⟩, ⟨key 4 _ (by omega) rfl, r4⟩, ⟨key 5 _ (by omega) rfl, r5⟩, ⟨key 6 _ (by omega) rfl, r6⟩⟩
theorem Tryz.infoRound : (Tryz.prog.info? 49).map (fun i => (i.zero, i.size, i.bytes)) = some (some (.agg #[.int .i64 0, .int .i64 0, .int .i64 0, .int .i64 0, .int .i64 0, .int .i64 0, .int .i64 0]), 7, 56) := by kernel_rfl

set_option maxRecDepth 100000 in
set_option maxHeartbeats 1000000 in
theorem cloneWord_any (v : Value) (l : List Rd) (w : World) (hv : IsWord w v l) (hn : l.length ≤ 1048576) :
    Calls Tryz.prog 19 #[v] w fun e w' => ∃ u, e = .returned u ∧ IsWord w' u l ∧ Below w.heap.size w w' := by
  obtain ⟨i0, hi, hz0, hz1, hz2⟩ := info_parts Tryz.infoRound
  have HW := Lib.hid (word_cell hv)
  have HIN := Lib.hid (word_in hv)
  have heq := fun w => Lib.run_eql_slice_nil (P := Tryz.prog) w 29
  obtain ⟨a, cap, rfl, ⟨_, _, hnil⟩, _, _⟩ := hv
  cases a with
  | none =>
    have hl : l.length = 0 := by have := hnil rfl; omega
    obtain rfl : l = [] := List.eq_nil_of_length_eq_zero hl
    obtain rfl := hnil rfl
    go_enter Tryz.func19, Tryz.ntmps19
    go_wp2_with fail
    go_ret
    exact ⟨_, rfl, ⟨none, 0, rfl, ⟨by simp, by omega, fun _ => rfl⟩, by simp, fun i x hx => by simp at hx⟩, Below.refl _ _⟩
  | some ad =>
    have hnews : ∀ j u, (flatR l)[j]? = some u → (w.alloc (.cells #[] 49)).cell? (ad.add j) = some u := fun j u hj => by
      obtain ⟨b, o, c, e, hcell⟩ := HW.out j u hj
      have : ad = ⟨b, o, none⟩ := by simp at e; exact e.1
      subst this
      have : (Addr.add ⟨b, o, none⟩ j) = ⟨b, o + j, none⟩ := by unfold Addr.add; split <;> simp_all
      rw [this]; exact cell_up (by go_grown) hcell
    have hown : OwnT (w.alloc (.cells #[] 49)) w.heap.size 49 7 (.slice (some ⟨w.heap.size, 0, none⟩) 0 0) 0 [] := ⟨by simp, .inr ⟨w.heap.size, 0, #[], (0, 0), rfl, Nat.le_refl _, alloc_new _ _, fun i hi => by simp at hi, by omega, by simp [maxLen], by simp, by simp⟩⟩
    have HNEWS := Lib.hid hnews
    have HOWN := Lib.hid hown
    clear hnews hown hnil
    go_enter Tryz.func19, Tryz.ntmps19
    go_wp2_with (at_builtin; (refine wpList_append_T _ rfl (.tmp 5) (.tmp 6) 29 rfl w.heap.size 49 i0 _ 7 56 Tryz.underlying29 hi hz0 hz1 hz2 rfl (by decide) _ 0 [] rfl HOWN.out ad l.length cap (flatR l) rfl (flatR_len l) HNEWS.out (flatR_one l) (by unfold maxLen; omega) (by omega) (by simp) ?_; intro v' w1 hown1 hgrow1 _; obtain ⟨av', cv', rfl⟩ := hown1.slice))
    go_ret
    rw [Nat.zero_add, List.nil_append] at hown1
    refine ⟨_, rfl, own_word (by simpa using hown1) HIN.out (by omega), Below.grown (w := w.alloc (.cells #[] 49)) (by go_grown) hgrow1 (by simp) (fun k hk => ?_)⟩
    cases hk; exact Nat.le_refl _
end Go.Proofs.YtjmejfgkogjpaaaGreatDoor

namespace Go.Proofs.YtjmejfgkogjpaaaGreatDoor
open Go.RowKit Go Go.Shelf
attribute [local go_sem] Oper.semAt_some

theorem SeqMk.conv {P : Program} {g : Nat} {lb : Array Value} {E E' : Nat → Array Value → (Nat → Prop) → World → Prop} {N : Nat} {S : Nat → Prop} {w : World} (h : SeqMk P g lb E N S w) (hE : ∀ i args T W, i < N → E i args T W → E' i args T W) : SeqMk P g lb E' N S w := by
  intro l J Jx W hW hl hJ hJx hY h0
  exact h l J Jx W hW hl hJ hJx (fun i T W1 args hi he hj => hY i T W1 args hi (hE i args T W1 hi he) hj) h0
theorem SeqMk.later {P : Program} {g : Nat} {lb : Array Value} {E : Nat → Array Value → (Nat → Prop) → World → Prop} {N : Nat} {S : Nat → Prop} {w w' : World} (h : SeqMk P g lb E N S w) (hb : Below w.heap.size w w') : SeqMk P g lb E N S w' :=
  fun l J Jx W hW => h l J Jx W (ext_trans hb hW)
theorem flatM_at (xs : List Msg) (i j : Nat) (hi : i < xs.length) (hj : j < 4) : (flatM xs)[i * 4 + j]? = xs[i].c[j]? := by
  unfold flatM
  induction xs generalizing i with
  | nil => simp at hi
  | cons x r ih =>
    rw [List.flatMap_cons]
    cases i with
    | zero =>
      rw [List.getElem?_append_left (by simp; omega)]
      simp
    | succ i =>
      rw [List.getElem?_append_right (by simp; omega)]
      have := ih i (by simpa using hi)
      simp only [List.getElem_cons_succ]
      rw [← this]
      congr 1
      simp; omega
theorem own_msgs {w : World} {base : Nat} {v : Value} {xs : List Msg} (h : OwnT w base 65 4 v xs.length (flatM xs)) (hx : ∀ x ∈ xs, InR x.rd ∧ InR x.fr ∧ InR x.to ∧ x.bs.size ≤ 140737488351232) (hn : xs.length ≤ 17592186044416) : IsMsgs w v xs := by
  have hall := fun i (hi : i < xs.length) j (u : Value) (hj : j < 4) (hu : xs[i].c[j]? = some u) => h.cell (i * 4 + j) u (by rw [flatM_at xs i j hi hj]; exact hu)
  rcases h.2 with ⟨rfl, hz⟩ | ⟨g, cap, cur, fz, rfl, _, hg, _, hc1, hc2, _, _⟩
  · refine ⟨none, 0, by rw [hz], ⟨by omega, by omega, fun _ => rfl⟩, hn, fun i x hi => ?_⟩
    have := (List.getElem?_eq_some_iff.1 hi).1
    omega
  · refine ⟨some ⟨g, 0, none⟩, cap, rfl, ⟨hc1, by simp only [maxLen] at hc2; omega, fun e => by cases e⟩, hn, fun i x hi => ⟨g, 0, rfl, ?_⟩⟩
    obtain ⟨hil, rfl⟩ := List.getElem?_eq_some_iff.1 hi
    obtain ⟨r1, r2, r3, r4⟩ := hx _ (List.getElem_mem hil)
    have key : ∀ j u, j < 4 → xs[i].c[j]? = some u → w.cell? ⟨g, 0 + i * 4 + j, none⟩ = some u := fun j u hj hu => by
      obtain ⟨g', c', e1, e2⟩ := hall i hil j u hj hu
      have : g = g' := by simp at e1; exact e1.1
      rw [this, Nat.zero_add]; exact e2
    exact ⟨⟨key 0 _ (by omega) rfl, r1⟩, ⟨key 1 _ (by omega) rfl, r2⟩, ⟨key 2 _ (by omega) rfl, r3⟩, key 3 _ (by omega) rfl, r4⟩
def plM (x : Nat × Nat × Nat) : Msg := ⟨x.1, x.2.1, x.2.2, ⟨#[]⟩⟩
theorem placesL_mem {n : Nat} {word : List Rd} {x : Nat × Nat × Nat} (h : x ∈ placesL n word) : x.1 < word.length ∧ x.2.1 < n ∧ x.2.2 < n := by
  unfold placesL placesTo filtR at h
  rw [List.mem_filterMap] at h
  obtain ⟨j, hj, hx⟩ := h
  rw [List.mem_range] at hj
  unfold placeAt at hx
  split at hx
  · rename_i hc
    cases hx
    exact ⟨by dsimp only; omega, hc.1, hc.2.1⟩
  · cases hx
theorem placesL_len (n : Nat) (word : List Rd) : (placesL n word).length ≤ word.length * 25 := by
  unfold placesL placesTo filtR
  exact Nat.le_trans (List.length_filterMap_le _ _) (by simp)

theorem byteI_lt (b : ByteArray) (i : Nat) : 0 ≤ byteI b i ∧ byteI b i < 256 := by
  unfold byteI
  have := byte_lt (b.data.toList.getD i 0)
  omega
theorem extract_list (b : ByteArray) (q : Nat) (h : q ≤ b.size) : (b.extract 0 q).data.toList = b.data.toList.take q := by
  simp [ByteArray.extract, ByteArray.copySlice]
theorem extract_size (b : ByteArray) (q : Nat) (h : q ≤ b.size) : (b.extract 0 q).size = q := by
  have := congrArg List.length (extract_list b q h)
  simp only [Array.length_toList, List.length_take] at this
  have h2 : b.data.size = b.size := rfl
  show (b.extract 0 q).data.size = q
  omega
theorem index_run (b : ByteArray) (i : Nat) (hi : i < b.size) (w : World) : (Instr.index 9 (.string b) (.int .i64 (i : Int))).run Tryz.prog w = .ok (.int .u8 (byteI b i)) w := by
  rw [run_index_string w _ b _ _ Tryz.underlying9, dif_pos (by omega)]
  congr 2
  unfold byteI
  have := bytes_get b i hi
  rw [← this]
  simp
  rfl
theorem slice_run (b : ByteArray) (q : Nat) (hq : q ≤ b.size) (w : World) : (Instr.slice 9 (.string b) none (some (.int .i64 (q : Int))) none).run Tryz.prog w = .ok (.string (b.extract 0 q)) w := by
  have := run_slice_string_h w 9 b Tryz.underlying9 .i64 (q : Int) (by omega) (by omega)
  simpa using this
theorem corrupt_eq (b : ByteArray) (q : Nat) (hq : b.size = q + 2) (h4 : 4 ≤ q) : corruptB b = decide ((ckS (b.data.toList.take q) : Int) ≠ byteI b q * 256 + byteI b (q + 1)) := by
  unfold corruptB
  rw [hq, show decide (q + 2 < 6) = false by simp; omega]
  simp

set_option maxRecDepth 100000 in
set_option maxHeartbeats 8000000 in
theorem checkMessages_any (t : Tr) (vi vw vs vm vd vt : Value) (w : World) (ht : IsTr w t vi vw vs vm vd vt) (h5 : t.inp.length ≤ 5) (h6 : t.word.length ≤ 6) :
    Calls Tryz.prog 38 #[.agg (trC vi vw vs vm vd vt)] w fun e w' => e = .returned (.int .i64 (messagesE t)) ∧ Below w.heap.size w w' := by
  have HT := Lib.hid ht
  obtain ⟨hi, hw, hs, hm, hd, htt⟩ := ht
  obtain ⟨pi, ci, rfl, li1, li2, _⟩ := hi.at
  obtain ⟨pw, cw, rfl, lw1, lw2, _⟩ := hw.at
  obtain ⟨ps, cs, rfl, ls1, ls2, _⟩ := hs.at
  obtain ⟨pm, cm, rfl, lm1, lm2, em⟩ := hm.at
  obtain ⟨pd, cd, rfl, _⟩ := hd.at
  obtain ⟨pt, ct, rfl, _⟩ := htt.at
  have EM := Lib.hid em
  clear hi hw hs hm hd htt em
  obtain ⟨L, hL⟩ : ∃ L, L = placesL t.inp.length t.word := ⟨_, rfl⟩
  have HV : Hid (messagesE t = if L.length ≠ t.msgs.length then 15 else firstNZ t.msgs.length (messE t)) := by (have h : messagesE t = if L.length ≠ t.msgs.length then 15 else firstNZ t.msgs.length (messE t) := by (rw [hL]; rfl)); exact h
  have hLl : L.length ≤ 150 := by rw [hL]; have := placesL_len t.inp.length t.word; omega
  have HLM : Hid (∀ x ∈ L, x.1 < 6 ∧ x.2.1 < 5 ∧ x.2.2 < 5) := by (have h : ∀ x ∈ L, x.1 < 6 ∧ x.2.1 < 5 ∧ x.2.2 < 5 := fun x hx => by (rw [hL] at hx; have := placesL_mem hx; omega)); exact h
  have HL := Lib.hid hL; clear hL
  go_enter Tryz.func38, Tryz.ntmps38
  go_wp2_with fail
  refine (places_any _ _ _ _ _).mono ?_
  rintro e w1 ⟨rfl, rfl⟩
  go_wp2_with fail
  refine calls_gen (fun W => Below w.heap.size w W ∧ W.heap[w.heap.size]? = some (.cells (trC (.slice pi t.inp.length ci) (.slice pw t.word.length cw) (.slice ps t.states.length cs) (.slice pm t.msgs.length cm) (.slice pd t.dec.length cd) (.slice pt t.times.length ct)) 35) ∧ W.heap[w.heap.size + 1]? = some (.cells #[.int .i64 t.inp.length] 3) ∧ W.heap[w.heap.size + 1 + 1]? = some (.cells #[.slice pw t.word.length cw] 29))
    ⟨by go_grown, alloc_old _ (alloc_old _ (alloc_new _ _)), alloc_old _ (alloc2_new _ _ _), alloc3_new _ _ _ _⟩ (fun W0 hW0 => ?_)
  obtain ⟨hb0, hT0, hN0, hX0⟩ := hW0
  have hsz := block_lt hX0
  have hseq := (places1_seq w _ t.word HT.out.word t.inp.length h5 W0 hb0 (w.heap.size + 1 + 1) (w.heap.size + 1) (by simp [cell_block hX0]) hN0).conv (E' := fun i args _ _ => args = #[.agg ((L.map plM).getD i default).c]) (fun i args _ _ hi h => by
    rw [h, HL.out, List.getD_eq_getElem?_getD, List.getD_eq_getElem?_getD, List.getElem?_map, List.getElem?_eq_getElem hi]; rfl)
  have hlenL : (placesL t.inp.length t.word).length = (L.map plM).length := by rw [List.length_map, HL.out]
  rw [hlenL] at hseq
  refine (collectM_any 45 _ (enters_of Tryz.func45 (by kernel_rfl) rfl) (L.map plM) (by rw [List.length_map]; omega) _ W0 hseq (fun k hk => by rcases hk with hk | hk; have := hb0.size; omega; omega)).mono ?_
  rintro e w1 ⟨v, rfl, hv, hb1⟩
  have hdue := own_msgs hv (fun x hx => by
    obtain ⟨y, hy, rfl⟩ := List.mem_map.1 hx
    have := HLM.out y hy
    refine ⟨?_, ?_, ?_, ?_⟩ <;> simp [plM, InR, ByteArray.size] <;> omega) (by rw [List.length_map]; omega)
  obtain ⟨pv, cv, rfl, lv1, lv2, ev⟩ := hdue.at
  rw [List.length_map] at *
  have EV := Lib.hid ev
  have HT0 := Lib.hid (block_up hb1 hT0)
  have hb01 := ext_trans hb0 hb1
  clear hlenL hdue hv hseq hT0 hN0 hX0 ev
  have t1 := cell_block HT0.out
  by_cases hlen : L.length = t.msgs.length
  case neg =>
    have HV1 : Hid (messagesE t = 15) := by (have h : messagesE t = 15 := by (rw [HV.out, if_pos hlen])); exact h
    have d1 : ((L.length : Int) != (t.msgs.length : Int)) = true := by simp; omega
    go_wp2_with fail
    go_ret
    exact ⟨ret_int HV1.out.symm, hb01⟩
  have HV1 : Hid (messagesE t = firstNZ t.msgs.length (messE t)) := by (have h : messagesE t = firstNZ t.msgs.length (messE t) := by (rw [HV.out, if_neg (by omega)])); exact h
  have d1 : ((L.length : Int) != (t.msgs.length : Int)) = false := by simp; omega
  have HLEN := Lib.hid hlen
  clear hlen HV
  go_wp2_with fail
  clear t1 d1
  go_loopw [23] (fun i wr => Below w1.heap.size w1 wr ∧ ∃ k : Nat, k ≤ t.msgs.length ∧ i = .int .i64 k ∧ ∀ j, j < k → messE t j = 0) (fun i _ => t.msgs.length - (intOf i).toNat)
  case atStart => exact ⟨Below.refl _ _, 0, by omega, rfl, by simp⟩
  case round =>
    obtain ⟨hbr, k, hk, rfl, hinv⟩ := hrel
    have H := Lib.hid hinv; clear hinv
    have hbW := ext_trans hb01 hbr
    by_cases hlt : k < t.msgs.length
    · have hltL : k < L.length := by have := HLEN.out; omega
      obtain ⟨b1, o1, rfl, ⟨c0, _⟩, ⟨c1, _⟩, ⟨c2, _⟩, c3, hbs⟩ := EM.out k hlt
      obtain ⟨b2, o2, rfl, ⟨e0, _⟩, ⟨e1, _⟩, ⟨e2, _⟩, e3, _⟩ := EV.out k (by rw [List.length_map]; exact hltL)
      rw [List.getElem_map] at e0 e1 e2 e3
      have HE : Hid (messE t k = if t.msgs[k].rd ≠ L[k].1 ∨ t.msgs[k].fr ≠ L[k].2.1 ∨ t.msgs[k].to ≠ L[k].2.2 then 14 else if corruptB t.msgs[k].bs then 24 else if byteI t.msgs[k].bs 0 ≠ t.msgs[k].rd ∨ byteI t.msgs[k].bs 1 ≠ t.msgs[k].fr ∨ byteI t.msgs[k].bs 2 ≠ t.msgs[k].to then 22 else 0) := by
        (have h : messE t k = if t.msgs[k].rd ≠ L[k].1 ∨ t.msgs[k].fr ≠ L[k].2.1 ∨ t.msgs[k].to ≠ L[k].2.2 then 14 else if corruptB t.msgs[k].bs then 24 else if byteI t.msgs[k].bs 0 ≠ t.msgs[k].rd ∨ byteI t.msgs[k].bs 1 ≠ t.msgs[k].fr ∨ byteI t.msgs[k].bs 2 ≠ t.msgs[k].to then 22 else 0 := by (unfold messE; rw [← HL.out, getD_of_lt default hlt, getD_of_lt (0, 0, 0) hltL])); exact h
      have d0 := cell_up hbW c0
      have d1 := cell_up hbW c1
      have d2 := cell_up hbW c2
      have d3 := cell_up hbW c3
      have HE0 := Lib.hid (cell_up hbr e0)
      have HE1 := Lib.hid (cell_up hbr e1)
      have HE2 := Lib.hid (cell_up hbr e2)
      clear c0 c1 c2 c3 e0 e1 e2 e3
      generalize t.msgs[k] = m at d0 d1 d2 d3 hbs HE
      generalize L[k] = x at HE0 HE1 HE2 HE
      obtain ⟨x1, x2, x3⟩ := x
      obtain ⟨mrd, mfr, mto, bs⟩ := m
      dsimp only [plM] at HE0 HE1 HE2 HE d0 d1 d2 d3 hbs
      have hsz := block_lt (block_up hbr HT0.out)
      go_wp2_with fail
      refine wp_gen (fun W => Below wr.heap.size wr W ∧ W.heap[wr.heap.size]? = some (.cells (Msg.c ⟨mrd, mfr, mto, bs⟩) 65)) ⟨by go_grown, alloc_new _ _⟩ (fun V hV => ?_)
      obtain ⟨hbV, hmV⟩ := hV
      have HM := Lib.hid hmV
      have hWV := ext_trans hbW hbV
      clear hmV d0 d1 d2 d3 hsz
      have hltv : k < L.length := hltL
      by_cases h1 : mrd = (x1 : Int)
      case neg =>
        have h1' : (mrd != (x1 : Int)) = true := by simpa using h1
        have q1 : ∀ y : ExtW V, ∀ o, y.val.cell? ⟨wr.heap.size, o, none⟩ = _ := fun y => cell_block (block_up y.ext HM.out)
        have q2 : ∀ y : ExtW V, y.val.cell? ⟨b2, o2 + k * 4, none⟩ = some (.int .i64 (x1 : Int)) := fun y => y.cell (cell_up hbV HE0.out)
        have q3 : ∀ y : ExtW V, y.val.cell? ⟨b2, o2 + k * 4 + 1, none⟩ = some (.int .i64 (x2 : Int)) := fun y => y.cell (cell_up hbV HE1.out)
        have q4 : ∀ y : ExtW V, y.val.cell? ⟨b2, o2 + k * 4 + 2, none⟩ = some (.int .i64 (x3 : Int)) := fun y => y.cell (cell_up hbV HE2.out)
        refine wp_region_quiet_ext (by kernel_rfl) (by kernel_rfl) ?_
        repeat (go_big_quiet_step (fail))
        refine wpQuiet_nil ?_
        intro _ hw'
        obtain ⟨xq, hw''⟩ := hw'
        subst hw''
        clear q1 q2 q3 q4
        have HX : Hid (messE t k = 14) := by (have h : messE t k = 14 := by (rw [HE.out, if_pos (Or.inl h1)])); exact h
        go_wp2_with fail
        go_ret
        exact ⟨ret_int (by rw [HV1.out, ← firstNZ_hit k 14 hlt H.out HX.out (by decide)]), ext_trans hWV xq.ext⟩
      subst h1
      by_cases h2 : mfr = (x2 : Int)
      case neg =>
        have h2' : (mfr != (x2 : Int)) = true := by simpa using h2
        have q1 : ∀ y : ExtW V, ∀ o, y.val.cell? ⟨wr.heap.size, o, none⟩ = _ := fun y => cell_block (block_up y.ext HM.out)
        have q2 : ∀ y : ExtW V, y.val.cell? ⟨b2, o2 + k * 4, none⟩ = some (.int .i64 (x1 : Int)) := fun y => y.cell (cell_up hbV HE0.out)
        have q3 : ∀ y : ExtW V, y.val.cell? ⟨b2, o2 + k * 4 + 1, none⟩ = some (.int .i64 (x2 : Int)) := fun y => y.cell (cell_up hbV HE1.out)
        have q4 : ∀ y : ExtW V, y.val.cell? ⟨b2, o2 + k * 4 + 2, none⟩ = some (.int .i64 (x3 : Int)) := fun y => y.cell (cell_up hbV HE2.out)
        refine wp_region_quiet_ext (by kernel_rfl) (by kernel_rfl) ?_
        repeat (go_big_quiet_step (fail))
        refine wpQuiet_nil ?_
        intro _ hw'
        obtain ⟨xq, hw''⟩ := hw'
        subst hw''
        clear q1 q2 q3 q4
        have HX : Hid (messE t k = 14) := by (have h : messE t k = 14 := by (rw [HE.out, if_pos (Or.inr (Or.inl h2))])); exact h
        go_wp2_with fail
        go_ret
        exact ⟨ret_int (by rw [HV1.out, ← firstNZ_hit k 14 hlt H.out HX.out (by decide)]), ext_trans hWV xq.ext⟩
      subst h2
      by_cases h3 : mto = (x3 : Int)
      case neg =>
        have h3' : (mto != (x3 : Int)) = true := by simpa using h3
        have q1 : ∀ y : ExtW V, ∀ o, y.val.cell? ⟨wr.heap.size, o, none⟩ = _ := fun y => cell_block (block_up y.ext HM.out)
        have q2 : ∀ y : ExtW V, y.val.cell? ⟨b2, o2 + k * 4, none⟩ = some (.int .i64 (x1 : Int)) := fun y => y.cell (cell_up hbV HE0.out)
        have q3 : ∀ y : ExtW V, y.val.cell? ⟨b2, o2 + k * 4 + 1, none⟩ = some (.int .i64 (x2 : Int)) := fun y => y.cell (cell_up hbV HE1.out)
        have q4 : ∀ y : ExtW V, y.val.cell? ⟨b2, o2 + k * 4 + 2, none⟩ = some (.int .i64 (x3 : Int)) := fun y => y.cell (cell_up hbV HE2.out)
        refine wp_region_quiet_ext (by kernel_rfl) (by kernel_rfl) ?_
        repeat (go_big_quiet_step (fail))
        refine wpQuiet_nil ?_
        intro _ hw'
        obtain ⟨xq, hw''⟩ := hw'
        subst hw''
        clear q1 q2 q3 q4
        have HX : Hid (messE t k = 14) := by (have h : messE t k = 14 := by (rw [HE.out, if_pos (Or.inr (Or.inr h3))])); exact h
        go_wp2_with fail
        go_ret
        exact ⟨ret_int (by rw [HV1.out, ← firstNZ_hit k 14 hlt H.out HX.out (by decide)]), ext_trans hWV xq.ext⟩
      subst h3
      have HE5 : Hid (messE t k = if corruptB bs then 24 else if byteI bs 0 ≠ x1 ∨ byteI bs 1 ≠ x2 ∨ byteI bs 2 ≠ x3 then 22 else 0) := by (have h : messE t k = if corruptB bs then 24 else if byteI bs 0 ≠ x1 ∨ byteI bs 1 ≠ x2 ∨ byteI bs 2 ≠ x3 then 22 else 0 := by (rw [HE.out, if_neg (by simp)])); exact h
      clear HE
      have q1 : ∀ y : ExtW V, ∀ o, y.val.cell? ⟨wr.heap.size, o, none⟩ = _ := fun y => cell_block (block_up y.ext HM.out)
      have q2 : ∀ y : ExtW V, y.val.cell? ⟨b2, o2 + k * 4, none⟩ = some (.int .i64 (x1 : Int)) := fun y => y.cell (cell_up hbV HE0.out)
      have q3 : ∀ y : ExtW V, y.val.cell? ⟨b2, o2 + k * 4 + 1, none⟩ = some (.int .i64 (x2 : Int)) := fun y => y.cell (cell_up hbV HE1.out)
      have q4 : ∀ y : ExtW V, y.val.cell? ⟨b2, o2 + k * 4 + 2, none⟩ = some (.int .i64 (x3 : Int)) := fun y => y.cell (cell_up hbV HE2.out)
      refine wp_region_quiet_ext (by kernel_rfl) (by kernel_rfl) ?_
      repeat (go_big_quiet_step (fail))
      refine wpQuiet_nil ?_
      intro _ hw'
      obtain ⟨xq, hw''⟩ := hw'
      subst hw''
      clear q1 q2 q3 q4
      have hM2 := block_up xq.ext HM.out
      have hWX := ext_trans hWV xq.ext
      obtain ⟨V2, hV2⟩ : ∃ V2, V2 = xq.val := ⟨_, rfl⟩
      rw [← hV2] at hM2 hWX ⊢
      have HBX : Hid (Below wr.heap.size wr V2) := by (have h : Below wr.heap.size wr V2 := by (rw [hV2]; exact ext_trans hbV xq.ext)); exact h
      have HM2 := Lib.hid hM2
      clear hV2 hM2 HM hbV hWV xq V
      go_wp2_with fail
      by_cases h6' : bs.size < 6
      · have hd1 : decide ((bs.size : Int) - 2 < 4) = true := by simp; omega
        have hd2 : (bs.size : Int) - 2 < 4 := by omega
        have HX : Hid (messE t k = 24) := by (have h : messE t k = 24 := by (rw [HE5.out, show corruptB bs = true by unfold corruptB; simp [h6']]; rfl)); exact h
        refine wp_region_quiet_ext (by kernel_rfl) (by kernel_rfl) ?_
        repeat (go_big_quiet_step (fail))
        refine wpQuiet_nil ?_
        intro _ hw'
        obtain ⟨xq, hw''⟩ := hw'
        subst hw''
        go_wp2_with fail
        go_ret
        exact ⟨ret_int (by rw [HV1.out, ← firstNZ_hit k 24 hlt H.out HX.out (by decide)]), ext_trans hWX xq.ext⟩
      · obtain ⟨q, hq⟩ : ∃ q, bs.size = q + 2 := ⟨bs.size - 2, by omega⟩
        have hq4 : 4 ≤ q := by omega
        have hqq : (bs.size : Int) - 2 = (q : Int) := by omega
        rw [hqq]
        have hd1 : ¬ ((q : Int) < 4) := by omega
        have hd2 : decide ((q : Int) < 4) = false := by simp; omega
        have hcor := corrupt_eq bs q hq hq4
        have hix := index_run bs
        have hsl := slice_run bs q (by omega)
        have hx1 := hix q (by omega)
        have hx2 : ∀ w, (Instr.index 9 (.string bs) (.int .i64 ((q : Int) + 1))).run Tryz.prog w = .ok (.int .u8 (byteI bs (q + 1))) w := hix (q + 1) (by omega)
        have hqb : q ≤ 140737488351232 := by omega
        have HI0 := Lib.hid (show ∀ w, (Instr.index 9 (.string bs) (.int .i64 0)).run Tryz.prog w = .ok (.int .u8 (byteI bs 0)) w from hix 0 (by omega))
        have HI1 := Lib.hid (show ∀ w, (Instr.index 9 (.string bs) (.int .i64 1)).run Tryz.prog w = .ok (.int .u8 (byteI bs 1)) w from hix 1 (by omega))
        have HI2 := Lib.hid (show ∀ w, (Instr.index 9 (.string bs) (.int .i64 2)).run Tryz.prog w = .ok (.int .u8 (byteI bs 2)) w from hix 2 (by omega))
        have hy1 := byteI_lt bs q
        have hy2 := byteI_lt bs (q + 1)
        have HCK := Lib.hid (show ∀ y : ExtW V2, Calls Tryz.prog 68 #[.string (bs.extract 0 q)] y.val fun e w'' => e = .returned (.int .i64 (ckS (bs.data.toList.take q))) ∧ ∃ p : ExtW V2, w'' = p.val from fun y => Calls.ext_of (by rw [← extract_list bs q (by omega)]; exact checksum_any _ (by rw [extract_size bs q (by omega)]; omega) _))
        clear hix hq hqq
        generalize ckS (bs.data.toList.take q) = ck at HCK hcor
        generalize byteI bs q = y1 at hx1 hy1 hcor
        generalize byteI bs (q + 1) = y2 at hx2 hy2 hcor
        have hw1 : IntKind.i64.wrap (y1 * 256) = y1 * 256 := IntWalk.i64_in _ (by omega)
        have hw2 : IntKind.i64.wrap (y1 * 256 + y2) = y1 * 256 + y2 := IntWalk.i64_in _ (by omega)
        have hw3 : IntKind.i64.wrap y1 = y1 := IntWalk.i64_in _ (by omega)
        have hw4 : IntKind.i64.wrap y2 = y2 := IntWalk.i64_in _ (by omega)
        have q1 : ∀ y : ExtW V2, ∀ o, y.val.cell? ⟨wr.heap.size, o, none⟩ = _ := fun y => cell_block (block_up y.ext HM2.out)
        by_cases hck : (ck : Int) = y1 * 256 + y2
        case neg =>
          have hck' : ((ck : Int) != y1 * 256 + y2) = true := by simpa using hck
          have HX : Hid (messE t k = 24) := by (have h : messE t k = 24 := by (rw [HE5.out, hcor]; simp [hck])); exact h
          clear hcor
          refine wp_region_quiet_ext (by kernel_rfl) (by kernel_rfl) ?_
          repeat (go_big_quiet_step ((go_at_call 68; exact HCK.out _)))
          refine wpQuiet_nil ?_
          intro _ hw'
          obtain ⟨xq, hw''⟩ := hw'
          subst hw''
          clear q1
          go_wp2_with fail
          go_ret
          exact ⟨ret_int (by rw [HV1.out, ← firstNZ_hit k 24 hlt H.out HX.out (by decide)]), ext_trans hWX xq.ext⟩
        have hck' : ((ck : Int) != y1 * 256 + y2) = false := by simpa using hck
        have HE6 : Hid (messE t k = if byteI bs 0 ≠ x1 ∨ byteI bs 1 ≠ x2 ∨ byteI bs 2 ≠ x3 then 22 else 0) := by (have h : messE t k = if byteI bs 0 ≠ x1 ∨ byteI bs 1 ≠ x2 ∨ byteI bs 2 ≠ x3 then 22 else 0 := by (rw [HE5.out, hcor]; simp [hck])); exact h
        clear hcor hck HE5
        refine wp_region_quiet_ext (by kernel_rfl) (by kernel_rfl) ?_
        repeat (go_big_quiet_step ((go_at_call 68; exact HCK.out _)))
        refine wpQuiet_nil ?_
        intro _ hw'
        obtain ⟨xq, hw''⟩ := hw'
        subst hw''
        clear q1 hx1 hx2 hy1 hy2 hw1 hw2 hw3 hw4 hck' hsl hd1 hd2
        have hM3 := block_up xq.ext HM2.out
        have hWX3 := ext_trans hWX xq.ext
        obtain ⟨V3, hV3⟩ : ∃ V3, V3 = xq.val := ⟨_, rfl⟩
        rw [← hV3] at hM3 hWX3 ⊢
        have HBX3 : Hid (Below wr.heap.size wr V3) := by (have h : Below wr.heap.size wr V3 := by (rw [hV3]; exact ext_trans HBX.out xq.ext)); exact h
        have HM3 := Lib.hid hM3
        clear hV3 hM3 HM2 HBX hWX HCK xq V2
        go_wp2_with fail
        have hz0 := byteI_lt bs 0
        have hz1 := byteI_lt bs 1
        have hz2 := byteI_lt bs 2
        have g0 := HI0.out
        have g1 := HI1.out
        have g2 := HI2.out
        generalize byteI bs 0 = z0 at hz0 g0 HE6
        generalize byteI bs 1 = z1 at hz1 g1 HE6
        generalize byteI bs 2 = z2 at hz2 g2 HE6
        have hw3 : IntKind.i64.wrap z0 = z0 := IntWalk.i64_in _ (by omega)
        have hw4 : IntKind.i64.wrap z1 = z1 := IntWalk.i64_in _ (by omega)
        have hw5 : IntKind.i64.wrap z2 = z2 := IntWalk.i64_in _ (by omega)
        have q1 : ∀ y : ExtW V3, ∀ o, y.val.cell? ⟨wr.heap.size, o, none⟩ = _ := fun y => cell_block (block_up y.ext HM3.out)
        clear HI0 HI1 HI2
        by_cases h1 : z0 = (x1 : Int)
        case neg =>
          have h1' : (z0 != (x1 : Int)) = true := by simpa using h1
          refine wp_region_quiet_ext (by kernel_rfl) (by kernel_rfl) ?_
          repeat (go_big_quiet_step (fail))
          refine wpQuiet_nil ?_
          intro _ hw'
          obtain ⟨xq, hw''⟩ := hw'
          subst hw''
          clear q1
          have HX : Hid (messE t k = 22) := by (have h : messE t k = 22 := by (rw [HE6.out, if_pos (Or.inl h1)])); exact h
          go_wp2_with fail
          go_ret
          exact ⟨ret_int (by rw [HV1.out, ← firstNZ_hit k 22 hlt H.out HX.out (by decide)]), ext_trans hWX3 xq.ext⟩
        have h1' : (z0 != (x1 : Int)) = false := by simpa using h1
        by_cases h2 : z1 = (x2 : Int)
        case neg =>
          have h2' : (z1 != (x2 : Int)) = true := by simpa using h2
          refine wp_region_quiet_ext (by kernel_rfl) (by kernel_rfl) ?_
          repeat (go_big_quiet_step (fail))
          refine wpQuiet_nil ?_
          intro _ hw'
          obtain ⟨xq, hw''⟩ := hw'
          subst hw''
          clear q1
          have HX : Hid (messE t k = 22) := by (have h : messE t k = 22 := by (rw [HE6.out, if_pos (Or.inr (Or.inl h2))])); exact h
          go_wp2_with fail
          go_ret
          exact ⟨ret_int (by rw [HV1.out, ← firstNZ_hit k 22 hlt H.out HX.out (by decide)]), ext_trans hWX3 xq.ext⟩
        have h2' : (z1 != (x2 : Int)) = false := by simpa using h2
        by_cases h3 : z2 = (x3 : Int)
        case neg =>
          have h3' : (z2 != (x3 : Int)) = true := by simpa using h3
          refine wp_region_quiet_ext (by kernel_rfl) (by kernel_rfl) ?_
          repeat (go_big_quiet_step (fail))
          refine wpQuiet_nil ?_
          intro _ hw'
          obtain ⟨xq, hw''⟩ := hw'
          subst hw''
          clear q1
          have HX : Hid (messE t k = 22) := by (have h : messE t k = 22 := by (rw [HE6.out, if_pos (Or.inr (Or.inr h3))])); exact h
          go_wp2_with fail
          go_ret
          exact ⟨ret_int (by rw [HV1.out, ← firstNZ_hit k 22 hlt H.out HX.out (by decide)]), ext_trans hWX3 xq.ext⟩
        have h3' : (z2 != (x3 : Int)) = false := by simpa using h3
        have HX : Hid (messE t k = 0) := by (have h : messE t k = 0 := by (rw [HE6.out, if_neg (by omega)])); exact h
        clear h1 h2 h3
        refine wp_region_quiet_ext (by kernel_rfl) (by kernel_rfl) ?_
        repeat (go_big_quiet_step (fail))
        refine wpQuiet_nil ?_
        intro _ hw'
        obtain ⟨xq, hw''⟩ := hw'
        subst hw''
        clear q1 g0 g1 g2
        go_wp2_with fail
        go_roundw
        case rel => exact ⟨ext_trans hbr (ext_trans HBX3.out xq.ext), k + 1, by omega, by go_num, below_succ H.out HX.out⟩
        case measure => simp [intOf]; omega
    · go_wp2_with fail
      go_ret
      exact ⟨ret_int (by rw [HV1.out, firstNZ_zero]; intro j hj; exact H.out j (by omega)), hbW⟩
end Go.Proofs.YtjmejfgkogjpaaaGreatDoor

namespace Go.Proofs.YtjmejfgkogjpaaaGreatDoor
open Go.RowKit Go Go.Shelf

def noDefer (ops : Array Oper) : Bool := ops.all fun o => match o.op with | .defer _ => false | _ => true
theorem noDefer_spec {ops : Array Oper} (h : noDefer ops = true) {i : Nat} {o : Oper} (ho : ops[i]? = some o) : ∀ c, o.op ≠ .defer c := by
  intro c hc
  have h1 := Array.all_eq_true'.1 h o (Array.mem_of_getElem? ho)
  rw [hc] at h1
  cases h1

theorem operIn_of {P : Program} {yl n : Nat} {o : Oper} {a : Act} {w : World} {K K' : Act → World → Prop} {Q : Exit → Act → World → Prop} (hd : ∀ c, o.op ≠ .defer c) (_hQ : ¬ LetsOut Q) (hK : ∀ a w, K a w → K' a w)
    (h : o.wp P a w K Q) : o.wpIn (Fence.wide.inRound yl) n P a w K' Q := by
  refine ⟨fun _ _ => trivial, ?_⟩
  rw [Oper.semAt_eq _ _ _ hd]
  unfold Oper.wp at h
  generalize (execOp a.eval o).run P w = r at h
  cases r with
  | ok x w' =>
    cases x with
    | value v => exact hK _ _ h
    | skip => exact hK _ _ h
    | defer d => exact hK _ _ h
    | enter f args =>
      refine ⟨fun h' => (by simp [Fence.wide, Fence.inRound] at h'), CallsIn.inRound yl ((callsIn_wide (n := n - 1)).2 ?_)⟩
      refine Calls.mono h ?_
      rintro e w'' he
      cases e with
      | returned v => exact hK _ _ he
      | panicked ch => exact he
      | outgrown => exact he
    | row r args =>
      refine ⟨fun h' => (by simp [Fence.wide, Fence.inRound] at h'), fun c cs _ => ?_⟩
      obtain ⟨v, w'', hv, hs⟩ := h c cs
      exact ⟨v, w'', hK _ _ hv, stepsIn_wide.2 hs⟩
    | _ => exact h.elim
  | halt x w' =>
    cases x with
    | panic v => exact h
    | _ => exact h.elim

theorem anyIn_of {P : Program} {yl n : Nat} {ops : Array Oper} {md : Region.Mode} {Q : Exit → Act → World → Prop} (hd : noDefer ops = true) (hQ : ¬ LetsOut Q) :
    ∀ (fuel : Nat) (listed : Array Bool) (a : Act) (w : World), wpAny P md ops Q fuel listed a w → wpAnyIn (Fence.wide.inRound yl) n P md ops Q fuel listed a w
  | 0, _, _, _, h => h
  | fuel + 1, listed, a, w, h => ⟨h.1, fun i hi => by
    have h2 := h.2 i hi
    unfold wpOp at h2
    unfold wpOpIn
    cases ho : ops[i]? with
    | none => rw [ho] at h2; exact anyIn_of hd hQ fuel _ _ _ h2
    | some o =>
      rw [ho] at h2
      dsimp only at h2 ⊢
      split
      · rename_i hw
        rw [if_pos hw] at h2
        rcases h2 with h2 | h2
        · exact operIn_of (noDefer_spec hd ho) hQ (fun a w h => anyIn_of hd hQ fuel _ a w h) h2
        · exact absurd h2.2 hQ
      · rename_i hw
        rw [if_neg hw] at h2
        exact ⟨fun _ _ => trivial, anyIn_of hd hQ fuel _ _ _ h2⟩⟩

theorem round_region_quiet {P : Program} {yl n : Nat} {id : Nat} {Q : Exit → Act → World → Prop} {a : Act} {w : World} {l : List Oper} (hQ : ¬ LetsOut Q) (hm : P.follows .mixedOrders = true) (hB : Region.lexB .any l.toArray = true) (hd : noDefer l.toArray = true)
    (h : wpQuiet P l.toArray (fun w' => ∃ x : ExtW w, w' = x.val) (fun a' => ∀ w', (∃ x : ExtW w, w' = x.val) → Q .normal a' w') l a) : (Code.region id l.toArray true).wpIn (Fence.wide.inRound yl) n P Q a w := by
  simp only [Region.lexB, Bool.and_eq_true] at hB
  refine wpIn_region_any hm (anyIn_of hd hQ _ _ _ _ (wpAny_of_quiet (C := fun w' => ∃ x : ExtW w, w' = x.val) (Q := fun a' => ∀ w', (∃ x : ExtW w, w' = x.val) → Q .normal a' w') (fun _ w' hw' h => h w' hw') _ _ _ _ ⟨⟨w.drew, (Below.refl _ _).drew⟩, rfl⟩ ?_))
  have := wpAnyQ_lex (C := fun w' => ∃ x : ExtW w, w' = x.val) (md := .any) hB.1 l 0 (Array.replicate l.toArray.size false) a (by simp) (by simpa using hB.2) h
  simpa using this

theorem round_region_tail {P : Program} {yl m : Nat} {id : Nat} {Q : Exit → Act → World → Prop} {a : Act} {w : World} {l : List Oper} (n : Nat) (hQ : ¬ LetsOut Q) (hm : P.follows .mixedOrders = true) (hB : Region.lexTailB .any l.toArray n = true) (hd : noDefer l.toArray = true)
    (h : wpStill P l.toArray w.drew (fun a' => wpList P l.toArray Q (l.drop n) a' w.drew) (l.take n) a) : (Code.region id l.toArray true).wpIn (Fence.wide.inRound yl) m P Q a w := by
  simp only [Region.lexTailB, Bool.and_eq_true, decide_eq_true_eq] at hB
  obtain ⟨⟨⟨⟨hsel, hn⟩, hs⟩, hc⟩, hlex⟩ := hB
  have hn' : n < l.length := by simpa using hn
  have htl : (l.take n).length = n := by simp; omega
  have hdl : (l.drop n).length = l.toArray.size - n := by simp
  have inv0 : HeadInv .any l.toArray n (Array.replicate l.toArray.size false) :=
    ⟨by simp, fun j oj _ hl => (by rw [getD_replicate_false] at hl; cases hl), fun t _ ht => getD_in (by simpa using ht) (getD_replicate_false _ _)⟩
  have H := wpAnyL_lex (md := .any) (g := l.toArray.size - n) hsel hs hc hn (l.take n) 0 _ a (fun j hj => by
    have hj' : j < n := by rw [htl] at hj; exact hj
    simp [hj']) (by simpa using htl) inv0 (by rw [htl]; exact hlex) h
  refine wpIn_region_any hm (anyIn_of hd hQ _ _ _ _ ?_)
  have := wpAny_of_head (Q' := Q) (g := l.toArray.size - n) (fun listed a' hL => by
    have := wpAny_of_seq (md := .any) (Q' := Q) (l.drop n) n listed a' w.drew (fun j => by simp [List.getElem?_drop]) (by rw [hdl]; exact hL.1) hL.2
    rwa [hdl] at this) _ _ _ H
  rw [htl, show n + (l.toArray.size - n) = l.toArray.size by omega] at this
  exact this

/-- .. with what follows behind a name -/
theorem round_region_tail' {P : Program} {yl m : Nat} {id : Nat} {Q : Exit → Act → World → Prop} {a : Act} {w : World} {l : List Oper} (n : Nat) (hQ : ¬ LetsOut Q) (hm : P.follows .mixedOrders = true) (hB : Region.lexTailB .any l.toArray n = true) (hd : noDefer l.toArray = true)
    (h : ∀ (ops : Array Oper) (Lq : Act → Prop), ops = l.toArray → (∀ a', wpList P l.toArray Q (l.drop n) a' w.drew → Lq a') → wpStill P ops w.drew Lq (l.take n) a) : (Code.region id l.toArray true).wpIn (Fence.wide.inRound yl) m P Q a w :=
  round_region_tail n hQ hm hB hd (h _ _ rfl (fun _ h => h))
end Go.Proofs.YtjmejfgkogjpaaaGreatDoor
