/-
  Parts of the proof, in order. What stands while region 22 of simulate.Run is drawn. It proves nothing of the program.
-/
import Derived.Test.YtjmejfgkogjpaaaGreatJ13
namespace Go.Proofs.YtjmejfgkogjpaaaGreat
open Go.RowKit Go Go.Shelf

structure C22 (w Wd Wr : World) (Bt : Nat) (a0 a1 a2 a3 vd vt : Value) (p : Nat) (ds ts : List Value) (d t : Value) (D : Nat → Bool) (x : Nat → Value) (W : World) : Prop where
  old : Below w.heap.size w W
  size : Wr.heap.size ≤ W.heap.size
  kept : ∀ (k : Nat) (o : Obj), Wr.heap[k]? = some o → k ≠ Bt → vd.ownBlock ≠ some k → vt.ownBlock ≠ some k → W.heap[k]? = some o
  rd : OwnT W Wd.heap.size 3 1 (bif D 4 then x 4 else vd) (bif D 4 then p + 1 else p) (bif D 4 then ds ++ [d] else ds)
  rt : OwnT W Wd.heap.size 3 1 (bif D 9 then x 9 else vt) (bif D 9 then p + 1 else p) (bif D 9 then ts ++ [t] else ts)
  ne : ∀ g, (bif D 4 then x 4 else vd).ownBlock = some g → (bif D 9 then x 9 else vt).ownBlock ≠ some g
  box : W.heap[Bt]? = some (.cells (trC a0 a1 a2 a3 (bif D 11 then x 4 else vd) (bif D 13 then x 9 else vt)) 40)
  s3 : D 3 = true → D 4 = false → ∃ g, x 3 = .slice (some ⟨g, 0, none⟩) 1 1 ∧ W.heap[g]? = some (.cells #[d] 3) ∧ vd.ownBlock ≠ some g ∧ (bif D 9 then x 9 else vt).ownBlock ≠ some g
  s8 : D 8 = true → D 9 = false → ∃ g, x 8 = .slice (some ⟨g, 0, none⟩) 1 1 ∧ W.heap[g]? = some (.cells #[t] 3) ∧ (bif D 4 then x 4 else vd).ownBlock ≠ some g ∧ vt.ownBlock ≠ some g
  o11 : D 11 = true → D 1 = true ∧ D 4 = true ∧ D 6 = true ∧ D 9 = true
  o13 : D 13 = true → D 11 = true
theorem C22.grow {w Wd Wr : World} {Bt : Nat} {a0 a1 a2 a3 vd vt : Value} {p : Nat} {ds ts : List Value} {d t : Value} {D : Nat → Bool} {x : Nat → Value} {W W' : World} (h : C22 w Wd Wr Bt a0 a1 a2 a3 vd vt p ds ts d t D x W) (hb : Below W.heap.size W W') : C22 w Wd Wr Bt a0 a1 a2 a3 vd vt p ds ts d t D x W' :=
  ⟨ext_trans h.old hb, Nat.le_trans h.size hb.size, fun k o h1 h2 h3 h4 => block_up hb (h.kept k o h1 h2 h3 h4), h.rd.up hb, h.rt.up hb, h.ne, block_up hb h.box,
    fun h1 h2 => by obtain ⟨g, e, q1, q2⟩ := h.s3 h1 h2; exact ⟨g, e, block_up hb q1, q2⟩, fun h1 h2 => by obtain ⟨g, e, q1, q2⟩ := h.s8 h1 h2; exact ⟨g, e, block_up hb q1, q2⟩, h.o11, h.o13⟩
theorem C22.app4 {w Wd Wr : World} {Bt : Nat} {a0 a1 a2 a3 vd vt : Value} {p : Nat} {ds ts : List Value} {d t : Value} {D : Nat → Bool} {x : Nat → Value} {W : World} (h : C22 w Wd Wr Bt a0 a1 a2 a3 vd vt p ds ts d t D x W) (h4 : D 4 = false) {v' : Value} {w3 : World} (ho : OwnT w3 Wd.heap.size 3 1 v' (p + 1) (ds ++ [d])) (hg : W.grownBy w3 vd.ownBlock) (hw : v'.ownBlock = vd.ownBlock ∨ v'.ownBlock = some W.heap.size) (hd : w.heap.size ≤ Wd.heap.size) :
    C22 w Wd Wr Bt a0 a1 a2 a3 vd vt p ds ts d t (upd D 4) (updV x 4 v') w3 := by
  have h11 : D 11 = false := by
    cases e : D 11 with
    | false => rfl
    | true => exact absurd (h.o11 e).2.1 (by rw [h4]; decide)
  have h13 : D 13 = false := by
    cases e : D 13 with
    | false => rfl
    | true => exact absurd (h.o13 e) (by rw [h11]; decide)
  have rd := h.rd
  rw [h4] at rd
  have ne := h.ne
  rw [h4] at ne
  have hst : ∀ (k : Nat) (o : Obj), W.heap[k]? = some o → vd.ownBlock ≠ some k → w3.heap[k]? = some o := fun k o hk hn => (hg.block k (block_lt hk) (fun e => hn e.symm)).trans hk
  have hne' : ∀ g, v'.ownBlock = some g → (bif D 9 then x 9 else vt).ownBlock ≠ some g := fun g hgv => by
    rcases hw with e | e
    · exact ne g (e ▸ hgv)
    · intro e2
      have := (h.rt.lt g e2).2
      rw [e] at hgv
      cases hgv
      omega
  refine ⟨Below.grown h.old hg h.old.size (fun g hgv => Nat.le_trans hd (rd.lt g hgv).1), Nat.le_trans h.size hg.size, fun k o h1 h2 h3 h5 => hst k o (h.kept k o h1 h2 h3 h5) h3, ho, h.rt.keep (fun g o hgv hk => hst g o hk (fun e => ne g e hgv)), hne', ?_, fun _ e => by simp [upd] at e, fun h8 h9 => ?_, fun e => absurd (h11.symm.trans e) (by decide), fun e => absurd (h13.symm.trans e) (by decide)⟩
  · have hb := h.box
    have : w3.heap[Bt]? = _ := hst Bt _ hb (fun e => rd.ne hb (by decide) Bt e rfl)
    rw [h11, h13] at this
    show w3.heap[Bt]? = some (.cells (trC a0 a1 a2 a3 (bif D 11 then v' else vd) (bif D 13 then x 9 else vt)) 40)
    rw [h11, h13]
    exact this
  · obtain ⟨g, e, q1, q2, q3⟩ := h.s8 h8 h9
    rw [h4] at q2
    refine ⟨g, e, hst g _ q1 q2, ?_, q3⟩
    show v'.ownBlock ≠ some g
    rcases hw with e | e
    · rw [e]; exact q2
    · rw [e]
      intro e2
      cases e2
      have := block_lt q1
      omega
theorem C22.app9 {w Wd Wr : World} {Bt : Nat} {a0 a1 a2 a3 vd vt : Value} {p : Nat} {ds ts : List Value} {d t : Value} {D : Nat → Bool} {x : Nat → Value} {W : World} (h : C22 w Wd Wr Bt a0 a1 a2 a3 vd vt p ds ts d t D x W) (h4 : D 4 = true) (h9 : D 9 = false) {v' : Value} {w3 : World} (ho : OwnT w3 Wd.heap.size 3 1 v' (p + 1) (ts ++ [t])) (hg : W.grownBy w3 vt.ownBlock) (hw : v'.ownBlock = vt.ownBlock ∨ v'.ownBlock = some W.heap.size) (hd : w.heap.size ≤ Wd.heap.size) :
    C22 w Wd Wr Bt a0 a1 a2 a3 vd vt p ds ts d t (upd D 9) (updV x 9 v') w3 := by
  have h11 : D 11 = false := by
    cases e : D 11 with
    | false => rfl
    | true => exact absurd (h.o11 e).2.2.2 (by rw [h9]; decide)
  have h13 : D 13 = false := by
    cases e : D 13 with
    | false => rfl
    | true => exact absurd (h.o13 e) (by rw [h11]; decide)
  have rt := h.rt
  rw [h9] at rt
  have ne := h.ne
  rw [h9] at ne
  have hst : ∀ (k : Nat) (o : Obj), W.heap[k]? = some o → vt.ownBlock ≠ some k → w3.heap[k]? = some o := fun k o hk hn => (hg.block k (block_lt hk) (fun e => hn e.symm)).trans hk
  have hne' : ∀ g, (bif D 4 then x 4 else vd).ownBlock = some g → v'.ownBlock ≠ some g := fun g hgv => by
    rcases hw with e | e
    · rw [e]; exact ne g hgv
    · rw [e]
      intro e2
      cases e2
      have := (h.rd.lt _ hgv).2
      omega
  refine ⟨Below.grown h.old hg h.old.size (fun g hgv => Nat.le_trans hd (rt.lt g hgv).1), Nat.le_trans h.size hg.size, fun k o h1 h2 h3 h5 => hst k o (h.kept k o h1 h2 h3 h5) h5, h.rd.keep (fun g o hgv hk => hst g o hk (ne g hgv)), ho, hne', ?_, fun _ e => absurd (h4.symm.trans e) (by decide), fun _ e => by simp [upd] at e, fun e => absurd (h11.symm.trans e) (by decide), fun e => absurd (h13.symm.trans e) (by decide)⟩
  have hb := h.box
  have : w3.heap[Bt]? = _ := hst Bt _ hb (fun e => rt.ne hb (by decide) Bt e rfl)
  rw [h11, h13] at this
  show w3.heap[Bt]? = some (.cells (trC a0 a1 a2 a3 (bif D 11 then x 4 else vd) (bif D 13 then v' else vt)) 40)
  rw [h11, h13]
  exact this
theorem C22.build3 {w Wd Wr : World} {Bt : Nat} {a0 a1 a2 a3 vd vt : Value} {p : Nat} {ds ts : List Value} {d t : Value} {D : Nat → Bool} {x : Nat → Value} {W : World} (h : C22 w Wd Wr Bt a0 a1 a2 a3 vd vt p ds ts d t D x W) : C22 w Wd Wr Bt a0 a1 a2 a3 vd vt p ds ts d t (upd D 3) (updV x 3 (.slice (some ⟨W.heap.size, 0, none⟩) 1 1)) (W.alloc (.cells #[d] 3)) := by
  have g := h.grow (W' := W.alloc (.cells #[d] 3)) (by go_grown)
  refine ⟨g.old, g.size, g.kept, g.rd, g.rt, g.ne, g.box, fun _ h4 => ⟨W.heap.size, rfl, alloc_new _ _, fun e => ?_, fun e => ?_⟩, g.s8, g.o11, g.o13⟩
  · have h4' : D 4 = false := h4
    have r := h.rd
    rw [h4'] at r
    have := (r.lt _ e).2
    omega
  · have := (h.rt.lt _ e).2
    omega
theorem C22.build8 {w Wd Wr : World} {Bt : Nat} {a0 a1 a2 a3 vd vt : Value} {p : Nat} {ds ts : List Value} {d t : Value} {D : Nat → Bool} {x : Nat → Value} {W : World} (h : C22 w Wd Wr Bt a0 a1 a2 a3 vd vt p ds ts d t D x W) : C22 w Wd Wr Bt a0 a1 a2 a3 vd vt p ds ts d t (upd D 8) (updV x 8 (.slice (some ⟨W.heap.size, 0, none⟩) 1 1)) (W.alloc (.cells #[t] 3)) := by
  have g := h.grow (W' := W.alloc (.cells #[t] 3)) (by go_grown)
  refine ⟨g.old, g.size, g.kept, g.rd, g.rt, g.ne, g.box, g.s3, fun _ h9 => ⟨W.heap.size, rfl, alloc_new _ _, fun e => ?_, fun e => ?_⟩, g.o11, g.o13⟩
  · have := (h.rd.lt _ e).2
    omega
  · have h9' : D 9 = false := h9
    have r := h.rt
    rw [h9'] at r
    have := (r.lt _ e).2
    omega
theorem C22.put {w Wd Wr : World} {Bt : Nat} {a0 a1 a2 a3 vd vt : Value} {p : Nat} {ds ts : List Value} {d t : Value} {D : Nat → Bool} {x : Nat → Value} {W : World} (h : C22 w Wd Wr Bt a0 a1 a2 a3 vd vt p ds ts d t D x W) (h4 : D 4 = true) (h9 : D 9 = true) (hd : w.heap.size ≤ Bt) {D' : Nat → Bool} {x' : Nat → Value} (hD : ∀ j, j ≠ 11 → j ≠ 13 → D' j = D j) (hx4 : x' 4 = x 4) (hx9 : x' 9 = x 9) (o : Nat) (v : Value)
    (hbox : (trC a0 a1 a2 a3 (bif D 11 then x 4 else vd) (bif D 13 then x 9 else vt)).setIfInBounds o v = trC a0 a1 a2 a3 (bif D' 11 then x' 4 else vd) (bif D' 13 then x' 9 else vt)) (h1 : D 1 = true) (h6 : D 6 = true) (h13 : D' 13 = true → D' 11 = true) :
    C22 w Wd Wr Bt a0 a1 a2 a3 vd vt p ds ts d t D' x' (W.setCell ⟨Bt, o, none⟩ v) := by
  have e4 := (hD 4 (by decide) (by decide)).trans h4
  have e9 := (hD 9 (by decide) (by decide)).trans h9
  have rd := h.rd
  have rt := h.rt
  have ne := h.ne
  rw [h4] at rd ne
  rw [h9] at rt ne
  have hb := h.box
  refine ⟨h.old.setCell (p := ⟨Bt, o, none⟩) hd _, by simp; exact h.size, fun k ob h1 h2 h3 h5 => setCell_other (h.kept k ob h1 h2 h3 h5) h2 _ _, ?_, ?_, ?_, ?_, fun _ e => absurd (e4.symm.trans e) (by decide), fun _ e => absurd (e9.symm.trans e) (by decide), fun _ => ⟨(hD 1 (by decide) (by decide)).trans h1, e4, (hD 6 (by decide) (by decide)).trans h6, e9⟩, h13⟩
  · rw [e4, hx4]
    exact rd.put (rd.ne hb (by decide)) _ _
  · rw [e9, hx9]
    exact rt.put (rt.ne hb (by decide)) _ _
  · rw [e4, e9, hx4, hx9]
    exact ne
  · rw [setCell_same hb, hbox]
theorem tk_snoc {f : Nat → Int} {n p : Nat} {ds : List Int} {d : Int} (h : (List.range n).map f = ds) (hp : p < n) (hd : f p = d) : (ds.take (p + 1)).map (Value.int .i64) = (ds.take p).map (Value.int .i64) ++ [.int .i64 d] := by
  have h1 : ds[p]? = some d := by
    rw [← h, ← hd]
    simp [hp]
  rw [List.take_add_one, h1]
  simp
theorem when_at {m : Mac} {L : List (List Int)} {p q : Nat} {y : Int} (hq : q < L.length) (h : ∀ j, j < q → outS m j p ((L.getD j []).getD p 0) = -1) (ho : outS m q p ((L.getD q []).getD p 0) = y) (hy : y ≠ -1) : whenS m L p = q ∧ decS m L p = y := by
  have h1 : whenS m L p = q := firstIx_at _ _ _ hq (fun j hj => by (rw [h j hj]; rfl)) (by rw [ho]; simpa using hy)
  refine ⟨h1, ?_⟩
  unfold decS
  rw [h1, if_neg (by omega), Int.toNat_natCast, ho]
theorem when_none {m : Mac} {L : List (List Int)} {p : Nat} (h : ∀ j, j < L.length → outS m j p ((L.getD j []).getD p 0) = -1) : whenS m L p = -1 ∧ decS m L p = -1 := by
  have h1 : whenS m L p = -1 := firstIx_none _ _ (fun j hj => by (rw [h j hj]; rfl))
  refine ⟨h1, ?_⟩
  unfold decS
  rw [h1]
  rfl
end Go.Proofs.YtjmejfgkogjpaaaGreat
