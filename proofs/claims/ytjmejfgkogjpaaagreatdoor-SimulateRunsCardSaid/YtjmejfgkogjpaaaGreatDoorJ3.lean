/-
  Parts of the proof, in order. The plain specification of messages and traces. Numbers, bytes and lists alone, no program. It proves nothing of the program. What a trace is in memory; contracts of the program's simulate.outside, checkStates, checkDecisions. Conditions: the arguments read as a trace. A machine and a trace that came in, opened to lists. It proves nothing of the program's functions. Maps whose keys are structs, in general: what a look-up gives, and a store at a key that is not there yet. Conditions: the block is such a map; the keys compare as the premise says. It proves nothing of the program. Laws for 'for .. := range f' over an iterator whose rounds are counted: the caller's side and the shape of an iterator's contract. It proves nothing of the program. Contracts of the program's package adversary: moves (an iterator), sized, state, Check. Conditions: the arguments read as an adversary; all its moves together are fewer than 2^40. A law for 'append' to a row of the caller's own, which may bear the mark of bytes that came of a string; it tells in which block the row lies. It proves nothing of the program. The contract of the program's adversary.state. Conditions: the arguments read as an adversary and a list of moves. The contract of the program's adversary.Check. Conditions: the argument reads as an adversary; all its moves together are fewer than 2^40. Contract of the program's machine.steps (a map of places); how places are compared as keys. Conditions: the argument reads as a machine whose steps have different places. Contract of the program's machine.hears. Conditions: the arguments read as a machine of the right shape, a place and the states of its processes. What follows for a machine whose check finds nothing. Plain: no program. It proves nothing of the program.
-/
import Derived.OwnWalkIn
import Derived.TacticsInMore
import Derived.LoopNIn
import Derived.LoopIn
import Derived.ArgAppend
import Derived.Laws.IdiomStrings
import Derived.Test.YtjmejfgkogjpaaaGreatDoorJ2
namespace Go.Proofs.YtjmejfgkogjpaaaGreatDoor

structure Msg where
  rd : Int
  fr : Int
  to : Int
  bs : ByteArray
structure Tr where
  inp : List Int
  word : List Rd
  states : List (List Int)
  msgs : List Msg
  dec : List Int
  times : List Int
instance : Inhabited Msg := ⟨⟨0, 0, 0, ByteArray.empty⟩⟩
instance : DecidableEq Msg := fun a b => decidable_of_iff (a.rd = b.rd ∧ a.fr = b.fr ∧ a.to = b.to ∧ a.bs = b.bs) (by cases a; cases b; simp)

/-! ### bytes -/
/-- the checksum of the first k bytes of a list of n -/
def ckAt (l : List UInt8) (n : Nat) : Nat → Nat
  | 0 => n % 65521
  | k + 1 => (ckAt l n k + (k + 1) % 65521 * (l.getD k 0).toNat) % 65521
def ckS (l : List UInt8) : Nat := ckAt l l.length l.length
theorem ckAt_lt (l : List UInt8) (n k : Nat) : ckAt l n k < 65521 := by
  cases k with
  | zero => exact Nat.mod_lt _ (by omega)
  | succ k => exact Nat.mod_lt _ (by omega)
theorem ckS_lt (l : List UInt8) : ckS l < 65521 := ckAt_lt _ _ _
/-- a number in groups of seven bits -/
def vint (n : Nat) : List UInt8 := if n ≤ 127 then [UInt8.ofNat n] else UInt8.ofNat (n % 128 + 128) :: vint (n / 128)
termination_by n
decreasing_by omega
def sealL (l : List UInt8) : List UInt8 := l ++ [UInt8.ofNat (ckS l / 256), UInt8.ofNat (ckS l % 256)]
def msgL (k p q sym : Nat) : List UInt8 := sealL ([UInt8.ofNat k, UInt8.ofNat p, UInt8.ofNat q] ++ vint sym)
def bytesOf (l : List UInt8) : ByteArray := ⟨l.toArray⟩

/-! ### what is found among the first numbers -/
def filtR {α : Type} (f : Nat → Option α) (n : Nat) : List α := (List.range n).filterMap f
theorem filtR_succ {α : Type} (f : Nat → Option α) (n : Nat) : filtR f (n + 1) = filtR f n ++ (f n).toList := by
  unfold filtR
  rw [List.range_succ, List.filterMap_append]
  cases h : f n <;> simp [h]
theorem filtR_none {α : Type} {f : Nat → Option α} {n : Nat} (h : f n = none) : filtR f (n + 1) = filtR f n := by rw [filtR_succ, h]; simp
theorem filtR_some {α : Type} {f : Nat → Option α} {n : Nat} {x : α} (h : f n = some x) : filtR f (n + 1) = filtR f n ++ [x] := by rw [filtR_succ, h]; rfl
theorem filtR_skip {α : Type} {f : Nat → Option α} {a b : Nat} (hab : a ≤ b) (h : ∀ j, a ≤ j → j < b → f j = none) : filtR f b = filtR f a := by
  induction b with
  | zero => rw [show a = 0 by omega]
  | succ b ih =>
    by_cases e : a = b + 1
    · rw [e]
    · rw [filtR_none (h b (by omega) (by omega)), ih (by omega) fun j h1 h2 => h j h1 (by omega)]
theorem filtR_prefix {α : Type} (f : Nat → Option α) {a b : Nat} (hab : a ≤ b) : filtR f a <+: filtR f b := by
  induction b with
  | zero => rw [show a = 0 by omega]; exact List.prefix_refl _
  | succ b ih =>
    by_cases e : a = b + 1
    · rw [e]; exact List.prefix_refl _
    · rw [filtR_succ]; exact (ih (by omega)).trans (List.prefix_append _ _)
theorem filtR_at {α : Type} {f : Nat → Option α} {j n : Nat} {x : α} (hj : j < n) (h : f j = some x) : (filtR f n)[(filtR f j).length]? = some x := by
  obtain ⟨t, ht⟩ := filtR_prefix f (show j + 1 ≤ n by omega)
  rw [← ht, filtR_some h, List.append_assoc, List.getElem?_append_right (Nat.le_refl _)]
  simp

/-! ### places of messages -/
def placeAt (n : Nat) (word : List Rd) (j : Nat) : Option (Nat × Nat × Nat) :=
  if j / 5 % 5 < n ∧ j % 5 < n ∧ j / 5 % 5 ≠ j % 5 ∧ hasB ((word.getD (j / 25) default).g.hear (j % 5)) (j / 5 % 5) = true then some (j / 25, j / 5 % 5, j % 5) else none
def placesTo (n : Nat) (word : List Rd) (j : Nat) : List (Nat × Nat × Nat) := filtR (placeAt n word) j
def placesL (n : Nat) (word : List Rd) : List (Nat × Nat × Nat) := placesTo n word (word.length * 25)

/-! ### checks of traces -/
def statesE (t : Tr) : Int :=
  if t.states.length ≠ t.word.length + 1 then 15 else if anyLt t.states.length (fun i => decide ((t.states.getD i []).length ≠ t.inp.length)) then 15
  else if anyLt t.states.length (fun i => anyLt (t.states.getD i []).length fun j => !inB ((t.states.getD i []).getD j 0) 0 1048576) then 2 else 0
def byteI (b : ByteArray) (i : Nat) : Int := ((b.data.toList.getD i 0).toNat : Int)
def corruptB (b : ByteArray) : Bool :=
  decide (b.size < 6) || decide ((ckS (b.data.toList.take (b.size - 2)) : Int) ≠ byteI b (b.size - 2) * 256 + byteI b (b.size - 1))
def messE (t : Tr) (i : Nat) : Int :=
  let x := t.msgs.getD i default
  let d := (placesL t.inp.length t.word).getD i (0, 0, 0)
  if x.rd ≠ d.1 ∨ x.fr ≠ d.2.1 ∨ x.to ≠ d.2.2 then 14 else if corruptB x.bs then 24
  else if byteI x.bs 0 ≠ x.rd ∨ byteI x.bs 1 ≠ x.fr ∨ byteI x.bs 2 ≠ x.to then 22 else 0
def messagesE (t : Tr) : Int := if (placesL t.inp.length t.word).length ≠ t.msgs.length then 15 else firstNZ t.msgs.length (messE t)
def deciE (t : Tr) (p : Nat) : Int :=
  if !inB (t.times.getD p 0) (-1) t.word.length || !inB (t.dec.getD p 0) (-1) 7 then 2 else if decide (t.dec.getD p 0 = -1) != decide (t.times.getD p 0 = -1) then 3 else 0
def decisionsE (t : Tr) : Int := if t.dec.length ≠ t.inp.length ∨ t.times.length ≠ t.inp.length then 15 else firstNZ t.dec.length (deciE t)
def traceE (t : Tr) : Int :=
  if t.inp.length < 1 ∨ 5 < t.inp.length then 2 else if anyLt t.inp.length (fun i => !inB (t.inp.getD i 0) 0 7) then 2
  else if wordE t.inp.length t.word ≠ 0 then wordE t.inp.length t.word else if 6 < t.word.length then 5
  else if statesE t ≠ 0 then statesE t else if messagesE t ≠ 0 then messagesE t else decisionsE t

/-! ### the trace of a machine -/
def outS (m : Mac) (k p : Nat) (s : Int) : Int := ((m.out.getD k []).getD p []).getD s.toNat 0
def whenS (m : Mac) (states : List (List Int)) (p : Nat) : Int := firstIx states.length fun k => decide (outS m k p ((states.getD k []).getD p 0) ≠ -1)
def decS (m : Mac) (states : List (List Int)) (p : Nat) : Int :=
  if whenS m states p < 0 then -1 else outS m (whenS m states p).toNat p ((states.getD (whenS m states p).toNat []).getD p 0)
def msgS (m : Mac) (states : List (List Int)) (x : Nat × Nat × Nat) : Msg :=
  ⟨x.1, x.2.1, x.2.2, bytesOf (msgL x.1 x.2.1 x.2.2 (symS m x.1 x.2.1 x.2.2 ((states.getD x.1 []).getD x.2.1 0)).toNat)⟩
def madeT (m : Mac) (inputs : List Int) (word : List Rd) : Tr :=
  let s := runL m inputs word
  ⟨inputs, word, s, (placesL m.n.toNat word).map (msgS m s), (List.range m.n.toNat).map (decS m s), (List.range m.n.toNat).map (whenS m s)⟩
def sameT (a b : Tr) : Bool :=
  eqV a.inp b.inp && decide (a.word = b.word) && decide (a.states = b.states) && decide (a.msgs = b.msgs) && eqV a.dec b.dec && eqV a.times b.times
def replayE (m : Mac) (t : Tr) : Int :=
  if checkE m ≠ 0 then checkE m else if traceE t ≠ 0 then traceE t else if playE m t.inp t.word ≠ 0 then playE m t.inp t.word else if sameT (madeT m t.inp t.word) t then 0 else 18
end Go.Proofs.YtjmejfgkogjpaaaGreatDoor

namespace Go.Proofs.YtjmejfgkogjpaaaGreatDoor
open Go.RowKit Go Go.Shelf

def MsgAt (w : World) (b o : Nat) (x : Msg) : Prop := IntAt w b o x.rd ∧ IntAt w b (o + 1) x.fr ∧ IntAt w b (o + 2) x.to ∧ w.cell? ⟨b, o + 3, none⟩ = some (.string x.bs) ∧ x.bs.size ≤ 140737488351232
theorem up_msg : Up MsgAt := fun _ _ _ _ _ hb ⟨h0, h1, h2, h3, h4⟩ => ⟨up_int _ _ _ _ _ hb h0, up_int _ _ _ _ _ hb h1, up_int _ _ _ _ _ hb h2, hb.cell h3, h4⟩
abbrev IsMsgs := IsSl 4 MsgAt
abbrev trC (vi vw vs vm vd vt : Value) : Array Value := #[vi, vw, vs, vm, vd, vt]
structure IsTr (w : World) (t : Tr) (vi vw vs vm vd vt : Value) : Prop where
  inp : IsInts w vi t.inp
  word : IsWord w vw t.word
  states : IsVecs w vs t.states
  msgs : IsMsgs w vm t.msgs
  dec : IsInts w vd t.dec
  times : IsInts w vt t.times
theorem IsTr.up {w w' : World} {t : Tr} {vi vw vs vm vd vt : Value} (h : IsTr w t vi vw vs vm vd vt) (hb : Below w.heap.size w w') : IsTr w' t vi vw vs vm vd vt :=
  ⟨h.inp.up up_int hb, h.word.up up_round hb, h.states.up up_ints hb, h.msgs.up up_msg hb, h.dec.up up_int hb, h.times.up up_int hb⟩

/-- the value of simulate.outside -/
def OutF (lo hi : Int) (v : Value) (W : World) : Prop := ∃ b c, v = .func (.func 60) #[] #[.pointer (some ⟨b, 0, none⟩), .pointer (some ⟨c, 0, none⟩)] ∧ W.heap[b]? = some (.cells #[.int .i64 lo] 3) ∧ W.heap[c]? = some (.cells #[.int .i64 hi] 3)
theorem OutF.up {lo hi : Int} {v : Value} {W W' : World} (h : OutF lo hi v W) (hb : Below W.heap.size W W') : OutF lo hi v W' := by
  obtain ⟨b, c, rfl, h1, h2⟩ := h
  exact ⟨b, c, rfl, block_up hb h1, block_up hb h2⟩
def MP.outF (lo hi : Int) : MP := ⟨OutF lo hi, fun _ _ _ h hb => h.up hb⟩

set_option maxHeartbeats 400000 in
theorem outside_any (lo hi : Int) (w : World) :
    Calls Tryz.prog 35 #[.int .i64 lo, .int .i64 hi] w fun e w' => ∃ v, e = .returned v ∧ OutF lo hi v w' ∧ Below w.heap.size w w' := by
  go_enter Tryz.func35, Tryz.ntmps35
  go_wp2
  go_ret
  exact ⟨_, rfl, ⟨_, _, rfl, alloc_old _ (alloc_new _ _), by simpa using alloc_new (w.alloc _) _⟩, by go_grown⟩

set_option maxHeartbeats 400000 in
theorem outside1_any (n lo hi : Int) (B C : Nat) (W : World) (h1 : W.heap[B]? = some (.cells #[.int .i64 lo] 3)) (h2 : W.heap[C]? = some (.cells #[.int .i64 hi] 3)) :
    Calls Tryz.prog 60 #[.int .i64 n, .pointer (some ⟨B, 0, none⟩), .pointer (some ⟨C, 0, none⟩)] W fun e W' => e = .returned (.bool (!inB n lo hi)) ∧ W = W' := by
  have c1 := cell_block h1 0
  have c2 := cell_block h2 0
  simp at c1 c2
  clear h1 h2
  by_cases h1 : n < lo
  · have HR : Hid ((!inB n lo hi) = true) := by (have h : (!inB n lo hi) = true := by (unfold inB; simp; omega)); exact h
    go_enter Tryz.func60, Tryz.ntmps60
    go_wp2
    go_ret
    exact ⟨ret_bool HR.out.symm, rfl⟩
  · have HR : Hid ((!inB n lo hi) = decide (hi < n)) := by (have h : (!inB n lo hi) = decide (hi < n) := by (unfold inB; rw [show decide (lo ≤ n) = true by simp; omega]; simp; by_cases h : hi < n <;> simp [h] <;> omega)); exact h
    go_enter Tryz.func60, Tryz.ntmps60
    go_wp2
    go_ret
    exact ⟨ret_bool HR.out.symm, rfl⟩

theorem containsOut_any (lo hi : Int) (f v : Value) (l : List Int) (w : World) (hf : OutF lo hi f w) (hv : IsInts w v l) :
    Calls Tryz.prog 34 #[v, f] w fun e w' => e = .returned (.bool (anyLt l.length fun i => !inB (l.getD i 0) lo hi)) ∧ Below w.heap.size w w' := by
  obtain ⟨b, c, rfl, h1, h2⟩ := hf
  refine containsFuncInts_any 60 _ (enters_of Tryz.func60 (by kernel_rfl) rfl) v l _ w hv fun i hi' W hW => ?_
  rw [getD_of_lt 0 hi']
  exact (outside1_any _ _ _ b c W (block_up hW h1) (block_up hW h2)).mono fun e w' h => ⟨h.1, by rw [← h.2]; exact Below.refl _ _⟩

set_option maxHeartbeats 400000 in
theorem checkStates1_any (x : Value) (l : List Int) (inp : List Int) (pi : Option Addr) (ci : Nat) (vw vs vm vd vt : Value) (B : Nat) (W : World) (hx : IsInts W x l) (hl : inp.length ≤ 17592186044416) (hB : W.heap[B]? = some (.cells (trC (.slice pi inp.length ci) vw vs vm vd vt) 35)) :
    Calls Tryz.prog 65 #[x, .pointer (some ⟨B, 0, none⟩)] W fun e W' => e = .returned (.bool (decide (l.length ≠ inp.length))) ∧ Below W.heap.size W W' := by
  obtain ⟨px, cx, rfl, _, l2, _⟩ := hx.at
  clear hx
  have t1 := cell_block hB
  clear hB
  have HR : Hid (decide (l.length ≠ inp.length) = ((l.length : Int) != (inp.length : Int))) := by (have h : decide (l.length ≠ inp.length) = ((l.length : Int) != (inp.length : Int)) := by (by_cases h : l.length = inp.length <;> simp [h] <;> omega)); exact h
  go_enter Tryz.func65, Tryz.ntmps65
  go_wp2
  go_ret
  exact ⟨ret_bool HR.out.symm, Below.refl _ _⟩

set_option maxHeartbeats 400000 in
theorem checkStates2_any (x : Value) (l : List Int) (W : World) (hx : IsInts W x l) :
    Calls Tryz.prog 66 #[x] W fun e W' => e = .returned (.bool (anyLt l.length fun j => !inB (l.getD j 0) 0 1048576)) ∧ Below W.heap.size W W' := by
  have HX := Lib.hid hx
  obtain ⟨px, cx, rfl, _, l2, _⟩ := hx.at
  clear hx
  go_enter Tryz.func66, Tryz.ntmps66
  go_wp2_with fail
  refine (outside_any _ _ _).mono ?_
  rintro e w1 ⟨v, rfl, hv, hb1⟩
  have HC := Lib.hid (containsOut_any _ _ _ _ _ w1 hv (HX.out.up up_int hb1))
  obtain ⟨b, c, rfl, _⟩ := hv
  go_wp2_with fail
  refine HC.out.mono ?_
  rintro e w2 ⟨rfl, hb2⟩
  go_wp2_with fail
  go_ret
  exact ⟨rfl, ext_trans hb1 hb2⟩

set_option maxHeartbeats 1000000 in
theorem checkStates_any (t : Tr) (vi vw vs vm vd vt : Value) (w : World) (ht : IsTr w t vi vw vs vm vd vt) :
    Calls Tryz.prog 37 #[.agg (trC vi vw vs vm vd vt)] w fun e w' => e = .returned (.int .i64 (statesE t)) ∧ Below w.heap.size w w' := by
  have HT := Lib.hid ht
  obtain ⟨hi, hw, hs, hm, hd, htt⟩ := ht
  obtain ⟨pi, ci, rfl, li1, li2, _⟩ := hi.at
  obtain ⟨pw, cw, rfl, lw1, lw2, _⟩ := hw.at
  obtain ⟨ps, cs, rfl, ls1, ls2, _⟩ := hs.at
  obtain ⟨pm, cm, rfl, _⟩ := hm.at
  obtain ⟨pd, cd, rfl, _⟩ := hd.at
  obtain ⟨pt, ct, rfl, _⟩ := htt.at
  clear hi hw hs hm hd htt
  have HV : Hid (statesE t = if t.states.length ≠ t.word.length + 1 then 15 else if anyLt t.states.length (fun i => decide ((t.states.getD i []).length ≠ t.inp.length)) then 15 else if anyLt t.states.length (fun i => anyLt (t.states.getD i []).length fun j => !inB ((t.states.getD i []).getD j 0) 0 1048576) then 2 else 0) := by exact rfl
  have e1 := enters_of Tryz.func65 (P := Tryz.prog) (by kernel_rfl) rfl
  have e2 := enters_of Tryz.func66 (P := Tryz.prog) (by kernel_rfl) rfl
  have E1 := Lib.hid e1
  have E2 := Lib.hid e2
  clear e1 e2
  by_cases hl : t.states.length = t.word.length + 1
  case neg =>
    have d1 : ((t.states.length : Int) != (t.word.length : Int) + 1) = true := by simp; omega
    have HV1 : Hid (statesE t = 15) := by (have h : statesE t = 15 := by (rw [HV.out, if_pos hl])); exact h
    go_enter Tryz.func37, Tryz.ntmps37
    go_wp2_with fail
    go_ret
    exact ⟨ret_int HV1.out.symm, by go_grown⟩
  have d1 : ((t.states.length : Int) != (t.word.length : Int) + 1) = false := by simp; omega
  have HL := Lib.hid hl
  clear hl
  go_enter Tryz.func37, Tryz.ntmps37
  go_wp2_with fail
  refine calls_gen (fun W => Below w.heap.size w W ∧ W.heap[w.heap.size]? = some (.cells (trC (.slice pi t.inp.length ci) (.slice pw t.word.length cw) (.slice ps t.states.length cs) (.slice pm t.msgs.length cm) (.slice pd t.dec.length cd) (.slice pt t.times.length ct)) 35)) ⟨by go_grown, alloc_new _ _⟩ (fun W0 hW0 => ?_)
  obtain ⟨hb0, hT0⟩ := hW0
  refine (containsFuncVecs_any 65 _ E1.out _ t.states (fun i => decide ((t.states.getD i []).length ≠ t.inp.length)) W0 (HT.out.states.up up_ints hb0) (fun i hi x hx W hW => ?_)).mono ?_
  · rw [getD_of_lt [] hi]
    exact checkStates1_any x _ t.inp _ _ _ _ _ _ _ w.heap.size W (hx.up up_int hW) li2 (block_up hW hT0)
  rintro e w1 ⟨rfl, hb1⟩
  have HV2 : Hid (statesE t = if anyLt t.states.length (fun i => decide ((t.states.getD i []).length ≠ t.inp.length)) then 15 else if anyLt t.states.length (fun i => anyLt (t.states.getD i []).length fun j => !inB ((t.states.getD i []).getD j 0) 0 1048576) then 2 else 0) := by
    (have h : statesE t = if anyLt t.states.length (fun i => decide ((t.states.getD i []).length ≠ t.inp.length)) then 15 else if anyLt t.states.length (fun i => anyLt (t.states.getD i []).length fun j => !inB ((t.states.getD i []).getD j 0) 0 1048576) then 2 else 0 := by (rw [HV.out, if_neg (fun h => h HL.out)])); exact h
  have hb01 := ext_trans hb0 hb1
  have HC := Lib.hid (containsFuncVecs_any 66 #[] E2.out _ t.states (fun i => anyLt (t.states.getD i []).length fun j => !inB ((t.states.getD i []).getD j 0) 0 1048576) w1 (HT.out.states.up up_ints hb01) (fun i hi x hx W hW => by
    rw [getD_of_lt [] hi]
    exact checkStates2_any x _ W (hx.up up_int hW)))
  generalize anyLt t.states.length (fun i => decide ((t.states.getD i []).length ≠ t.inp.length)) = r1 at HV2
  generalize anyLt t.states.length (fun i => anyLt (t.states.getD i []).length fun j => !inB ((t.states.getD i []).getD j 0) 0 1048576) = r2 at HV2 HC
  have t1 := cell_block (block_up hb1 hT0)
  clear hT0 HV
  cases r1 with
  | true =>
    go_wp2_with fail
    go_ret
    exact ⟨ret_int (by rw [HV2.out]; rfl), hb01⟩
  | false =>
    go_wp2_with fail
    refine HC.out.mono ?_
    rintro e w2 ⟨rfl, hb2⟩
    cases r2 with
    | true =>
      go_wp2_with fail
      go_ret
      exact ⟨ret_int (by rw [HV2.out]; rfl), ext_trans hb01 hb2⟩
    | false =>
      go_wp2_with fail
      go_ret
      exact ⟨ret_int (by rw [HV2.out]; rfl), ext_trans hb01 hb2⟩
end Go.Proofs.YtjmejfgkogjpaaaGreatDoor

namespace Go.Proofs.YtjmejfgkogjpaaaGreatDoor
open Go.ChangeShapes Go.WideShapes Go.ChangeAt Go.RowKit Go

theorem Tryz.own : ownKnob Tryz.prog.godebug = none := by kernel_rfl
theorem Tryz.laidOut : laidOutB Tryz.prog = true := by kernel_rfl
section
variable {H : Type} {enc : TypeId × Value → H} {w : World}
theorem list4 {l : List Value} (h : l.length = 4) : ∃ c0 c1 c2 c3, l = [c0, c1, c2, c3] := by
  match l, h with
  | [c0, c1, c2, c3], _ => exact ⟨c0, c1, c2, c3, rfl⟩
theorem list6 {l : List Value} (h : l.length = 6) : ∃ c0 c1 c2 c3 c4 c5, l = [c0, c1, c2, c3, c4, c5] := by
  match l, h with
  | [c0, c1, c2, c3, c4, c5], _ => exact ⟨c0, c1, c2, c3, c4, c5, rfl⟩
theorem list8 {l : List Value} (h : l.length = 8) : ∃ c0 c1 c2 c3 c4 c5 c6 c7, l = [c0, c1, c2, c3, c4, c5, c6, c7] := by
  match l, h with
  | [c0, c1, c2, c3, c4, c5, c6, c7], _ => exact ⟨c0, c1, c2, c3, c4, c5, c6, c7, rfl⟩
theorem Tryz.cWord : Tryz.prog.cellsOf 29 = 1 := by kernel_rfl
theorem Tryz.cV3 : Tryz.prog.cellsOf 25 = 1 := by kernel_rfl
theorem Tryz.cV4 : Tryz.prog.cellsOf 23 = 1 := by kernel_rfl
theorem Tryz.cStep : Tryz.prog.cellsOf 73 = 8 := by kernel_rfl
theorem Tryz.cSteps : Tryz.prog.cellsOf 24 = 1 := by kernel_rfl
theorem Tryz.cMach : Tryz.prog.cellsOf 27 = 8 := by kernel_rfl
theorem Tryz.cMsg : Tryz.prog.cellsOf 65 = 4 := by kernel_rfl
theorem Tryz.cMsgs : Tryz.prog.cellsOf 33 = 1 := by kernel_rfl
theorem Tryz.cTrace : Tryz.prog.cellsOf 35 = 6 := by kernel_rfl
theorem Tryz.cArr : Tryz.prog.cellsOf 45 = 5 := by kernel_rfl
theorem Tryz.cStr : Tryz.prog.cellsOf 9 = 1 := by kernel_rfl
theorem opn_v3 : Opn enc w 25 1 V3At := opn_slice Tryz.underlying25 Tryz.cVecs (by omega) (of_decide_eq_true (by kernel_rfl)) opn_vecs
theorem opn_step : Opn enc w 73 8 StepAt := fun fuel cs x b off h hz hc => by
  obtain ⟨hl, n, hf⟩ := rdg_struct Tryz.underlying73 h hz
  rw [Tryz.cStep] at hl
  obtain ⟨c0, c1, c2, c3, c4, c5, c6, c7, rfl⟩ := list8 hl
  obtain ⟨y0, r0, _⟩ := hf 0 _ rfl
  obtain ⟨y1, r1, _⟩ := hf 1 _ rfl
  obtain ⟨y2, r2, _⟩ := hf 2 _ rfl
  obtain ⟨y3, r3, _⟩ := hf 3 _ rfl
  change Rdg enc w n 3 (([c0, c1, c2, c3, c4, c5, c6, c7].drop 0).take (Tryz.prog.cellsOf 3)) y0 at r0
  change Rdg enc w n 3 (([c0, c1, c2, c3, c4, c5, c6, c7].drop 1).take (Tryz.prog.cellsOf 3)) y1 at r1
  change Rdg enc w n 45 (([c0, c1, c2, c3, c4, c5, c6, c7].drop 2).take (Tryz.prog.cellsOf 45)) y2 at r2
  change Rdg enc w n 3 (([c0, c1, c2, c3, c4, c5, c6, c7].drop 7).take (Tryz.prog.cellsOf 3)) y3 at r3
  rw [Tryz.cInt] at r0 r1 r3
  rw [Tryz.cArr] at r2
  obtain ⟨m0, e0, _, w0⟩ := DataW.trod_int Tryz.underlying3 r0
  obtain ⟨m1, e1, _, w1⟩ := DataW.trod_int Tryz.underlying3 r1
  obtain ⟨m7, e7, _, w7⟩ := DataW.trod_int Tryz.underlying3 r3
  have ha := (allInt_array (enc := enc) (w := w) Tryz.underlying45 Tryz.underlying3 Tryz.cInt Tryz.cArr _ _ _ r2).2
  obtain ⟨m2, e2, w2⟩ := ha 0 (by omega)
  obtain ⟨m3, e3, w3⟩ := ha 1 (by omega)
  obtain ⟨m4, e4, w4⟩ := ha 2 (by omega)
  obtain ⟨m5, e5, w5⟩ := ha 3 (by omega)
  obtain ⟨m6, e6, w6⟩ := ha 4 (by omega)
  simp at e0 e1 e2 e3 e4 e5 e6 e7
  subst e0 e1 e2 e3 e4 e5 e6 e7
  exact ⟨⟨m0, m1, m2, m3, m4, m5, m6, m7⟩, ⟨hc 0 (by omega), inR_wf w0⟩, ⟨hc 1 (by omega), inR_wf w1⟩, ⟨hc 2 (by omega), w2⟩, ⟨hc 3 (by omega), w3⟩, ⟨hc 4 (by omega), w4⟩, ⟨hc 5 (by omega), w5⟩, ⟨hc 6 (by omega), w6⟩, hc 7 (by omega), inR_wf w7⟩
theorem opn_msg : Opn enc w 65 4 MsgAt := fun fuel cs x b off h hz hc => by
  obtain ⟨hl, n, hf⟩ := rdg_struct Tryz.underlying65 h hz
  rw [Tryz.cMsg] at hl
  obtain ⟨c0, c1, c2, c3, rfl⟩ := list4 hl
  obtain ⟨y0, r0, _⟩ := hf 0 _ rfl
  obtain ⟨y1, r1, _⟩ := hf 1 _ rfl
  obtain ⟨y2, r2, _⟩ := hf 2 _ rfl
  obtain ⟨y3, r3, z3⟩ := hf 3 _ rfl
  change Rdg enc w n 3 (([c0, c1, c2, c3].drop 0).take (Tryz.prog.cellsOf 3)) y0 at r0
  change Rdg enc w n 3 (([c0, c1, c2, c3].drop 1).take (Tryz.prog.cellsOf 3)) y1 at r1
  change Rdg enc w n 3 (([c0, c1, c2, c3].drop 2).take (Tryz.prog.cellsOf 3)) y2 at r2
  change Rdg enc w n 9 (([c0, c1, c2, c3].drop 3).take (Tryz.prog.cellsOf 9)) y3 at r3
  change Szd 9 y3.1 at z3
  rw [Tryz.cInt] at r0 r1 r2
  rw [Tryz.cStr] at r3
  obtain ⟨m0, e0, _, w0⟩ := DataW.trod_int Tryz.underlying3 r0
  obtain ⟨m1, e1, _, w1⟩ := DataW.trod_int Tryz.underlying3 r1
  obtain ⟨m2, e2, _, w2⟩ := DataW.trod_int Tryz.underlying3 r2
  obtain ⟨s, e3, e4, _⟩ := DataW.trod_string Tryz.underlying9 r3
  simp at e0 e1 e2 e3
  subst e0 e1 e2 e3
  have hs : s.data.toList.length ≤ reachBytes := z3 _ (by rw [e4]; simp [DataW.weights])
  have hs' : s.size ≤ 140737488351232 := by
    have h1 : s.data.toList.length = s.size := by simp
    unfold reachBytes at hs
    omega
  exact ⟨⟨m0, m1, m2, s⟩, ⟨hc 0 (by omega), inR_wf w0⟩, ⟨hc 1 (by omega), inR_wf w1⟩, ⟨hc 2 (by omega), inR_wf w2⟩, hc 3 (by omega), hs'⟩
/-- a machine -/
theorem open_mach {fuel : Nat} {cs : List Value} {x : DataW H × List MemPlace} (h : Rdg enc w fuel 27 cs x) (hz : Szd 27 x.1) :
    ∃ (m : Mac) (vf vy vt vo : Value), cs = [.int .i64 m.n, .int .i64 m.rounds, .int .i64 m.ins, .int .i64 m.outs, vf, vy, vt, vo] ∧ IsVecs w vf m.first ∧ IsV4 w vy m.syms ∧ IsSteps w vt m.steps ∧ IsV3 w vo m.out := by
  obtain ⟨hl, n, hf⟩ := rdg_struct Tryz.underlying27 h hz
  rw [Tryz.cMach] at hl
  obtain ⟨c0, c1, c2, c3, c4, c5, c6, c7, rfl⟩ := list8 hl
  obtain ⟨y0, r0, _⟩ := hf 0 _ rfl
  obtain ⟨y1, r1, _⟩ := hf 1 _ rfl
  obtain ⟨y2, r2, _⟩ := hf 2 _ rfl
  obtain ⟨y3, r3, _⟩ := hf 3 _ rfl
  obtain ⟨y4, r4, z4⟩ := hf 4 _ rfl
  obtain ⟨y5, r5, z5⟩ := hf 5 _ rfl
  obtain ⟨y6, r6, z6⟩ := hf 6 _ rfl
  obtain ⟨y7, r7, z7⟩ := hf 7 _ rfl
  change Rdg enc w n 3 (([c0, c1, c2, c3, c4, c5, c6, c7].drop 0).take (Tryz.prog.cellsOf 3)) y0 at r0
  change Rdg enc w n 3 (([c0, c1, c2, c3, c4, c5, c6, c7].drop 1).take (Tryz.prog.cellsOf 3)) y1 at r1
  change Rdg enc w n 3 (([c0, c1, c2, c3, c4, c5, c6, c7].drop 2).take (Tryz.prog.cellsOf 3)) y2 at r2
  change Rdg enc w n 3 (([c0, c1, c2, c3, c4, c5, c6, c7].drop 3).take (Tryz.prog.cellsOf 3)) y3 at r3
  change Rdg enc w n 22 (([c0, c1, c2, c3, c4, c5, c6, c7].drop 4).take (Tryz.prog.cellsOf 22)) y4 at r4
  change Rdg enc w n 23 (([c0, c1, c2, c3, c4, c5, c6, c7].drop 5).take (Tryz.prog.cellsOf 23)) y5 at r5
  change Rdg enc w n 24 (([c0, c1, c2, c3, c4, c5, c6, c7].drop 6).take (Tryz.prog.cellsOf 24)) y6 at r6
  change Rdg enc w n 25 (([c0, c1, c2, c3, c4, c5, c6, c7].drop 7).take (Tryz.prog.cellsOf 25)) y7 at r7
  change Szd 22 y4.1 at z4
  change Szd 23 y5.1 at z5
  change Szd 24 y6.1 at z6
  change Szd 25 y7.1 at z7
  rw [Tryz.cInt] at r0 r1 r2 r3
  rw [Tryz.cVecs] at r4
  rw [Tryz.cV4] at r5
  rw [Tryz.cSteps] at r6
  rw [Tryz.cV3] at r7
  obtain ⟨m0, e0, _, _⟩ := DataW.trod_int Tryz.underlying3 r0
  obtain ⟨m1, e1, _, _⟩ := DataW.trod_int Tryz.underlying3 r1
  obtain ⟨m2, e2, _, _⟩ := DataW.trod_int Tryz.underlying3 r2
  obtain ⟨m3, e3, _, _⟩ := DataW.trod_int Tryz.underlying3 r3
  obtain ⟨v4, l4, e4, g4⟩ := opn_val Tryz.underlying22 Tryz.cInts (by omega) (of_decide_eq_true (by kernel_rfl)) opn_ints r4 z4
  obtain ⟨v5, l5, e5, g5⟩ := opn_val Tryz.underlying23 Tryz.cV3 (by omega) (of_decide_eq_true (by kernel_rfl)) opn_v3 r5 z5
  obtain ⟨v6, l6, e6, g6⟩ := opn_val Tryz.underlying24 Tryz.cStep (by omega) (of_decide_eq_true (by kernel_rfl)) opn_step r6 z6
  obtain ⟨v7, l7, e7, g7⟩ := opn_val Tryz.underlying25 Tryz.cVecs (by omega) (of_decide_eq_true (by kernel_rfl)) opn_vecs r7 z7
  simp at e0 e1 e2 e3 e4 e5 e6 e7
  subst e0 e1 e2 e3 e4 e5 e6 e7
  exact ⟨⟨m0, m1, m2, m3, l4, l5, l6, l7⟩, _, _, _, _, rfl, g4, g5, g6, g7⟩
/-- a trace -/
theorem open_trace {fuel : Nat} {cs : List Value} {x : DataW H × List MemPlace} (h : Rdg enc w fuel 35 cs x) (hz : Szd 35 x.1) :
    ∃ (t : Tr) (vi vw vs vm vd vt : Value), cs = [vi, vw, vs, vm, vd, vt] ∧ IsTr w t vi vw vs vm vd vt := by
  obtain ⟨hl, n, hf⟩ := rdg_struct Tryz.underlying35 h hz
  rw [Tryz.cTrace] at hl
  obtain ⟨c0, c1, c2, c3, c4, c5, rfl⟩ := list6 hl
  obtain ⟨y0, r0, z0⟩ := hf 0 _ rfl
  obtain ⟨y1, r1, z1⟩ := hf 1 _ rfl
  obtain ⟨y2, r2, z2⟩ := hf 2 _ rfl
  obtain ⟨y3, r3, z3⟩ := hf 3 _ rfl
  obtain ⟨y4, r4, z4⟩ := hf 4 _ rfl
  obtain ⟨y5, r5, z5⟩ := hf 5 _ rfl
  change Rdg enc w n 28 (([c0, c1, c2, c3, c4, c5].drop 0).take (Tryz.prog.cellsOf 28)) y0 at r0
  change Rdg enc w n 29 (([c0, c1, c2, c3, c4, c5].drop 1).take (Tryz.prog.cellsOf 29)) y1 at r1
  change Rdg enc w n 22 (([c0, c1, c2, c3, c4, c5].drop 2).take (Tryz.prog.cellsOf 22)) y2 at r2
  change Rdg enc w n 33 (([c0, c1, c2, c3, c4, c5].drop 3).take (Tryz.prog.cellsOf 33)) y3 at r3
  change Rdg enc w n 28 (([c0, c1, c2, c3, c4, c5].drop 4).take (Tryz.prog.cellsOf 28)) y4 at r4
  change Rdg enc w n 28 (([c0, c1, c2, c3, c4, c5].drop 5).take (Tryz.prog.cellsOf 28)) y5 at r5
  change Szd 28 y0.1 at z0
  change Szd 29 y1.1 at z1
  change Szd 22 y2.1 at z2
  change Szd 33 y3.1 at z3
  change Szd 28 y4.1 at z4
  change Szd 28 y5.1 at z5
  rw [Tryz.cInts] at r0 r4 r5
  rw [Tryz.cWord] at r1
  rw [Tryz.cVecs] at r2
  rw [Tryz.cMsgs] at r3
  obtain ⟨v0, l0, e0, g0⟩ := opn_val Tryz.underlying28 Tryz.cInt (by omega) (of_decide_eq_true (by kernel_rfl)) opn_int r0 z0
  obtain ⟨v1, l1, e1, g1⟩ := opn_val Tryz.underlying29 Tryz.cRound (by omega) (of_decide_eq_true (by kernel_rfl)) opn_round r1 z1
  obtain ⟨v2, l2, e2, g2⟩ := opn_val Tryz.underlying22 Tryz.cInts (by omega) (of_decide_eq_true (by kernel_rfl)) opn_ints r2 z2
  obtain ⟨v3, l3, e3, g3⟩ := opn_val Tryz.underlying33 Tryz.cMsg (by omega) (of_decide_eq_true (by kernel_rfl)) opn_msg r3 z3
  obtain ⟨v4, l4, e4, g4⟩ := opn_val Tryz.underlying28 Tryz.cInt (by omega) (of_decide_eq_true (by kernel_rfl)) opn_int r4 z4
  obtain ⟨v5, l5, e5, g5⟩ := opn_val Tryz.underlying28 Tryz.cInt (by omega) (of_decide_eq_true (by kernel_rfl)) opn_int r5 z5
  simp at e0 e1 e2 e3 e4 e5
  subst e0 e1 e2 e3 e4 e5
  exact ⟨⟨l0, l1, l2, l3, l4, l5⟩, _, _, _, _, _, _, rfl, g0, g1, g2, g3, g4, g5⟩
end
end Go.Proofs.YtjmejfgkogjpaaaGreatDoor

namespace Go.Proofs.YtjmejfgkogjpaaaGreatDoor
open Go.RowKit Go Go.Shelf

/-- How keys of type kt are compared. -/
structure KeyKit {K : Type} [DecidableEq K] (P : Program) (kt : TypeId) (enc : K → Value) : Prop where
  eq : ∀ a b w, (Op.equal kt (enc a) (enc b)).run P w = .ok (decide (a = b)) w
  check : ∀ em a w, (Instr.checkKey em 10000 kt (enc a)).run P w = .ok () w
  und : ∃ fs, P.underlying kt = some (.struct fs)

/-- Block b is a map with these entries, in the order in which they came. -/
def GMapIs {K : Type} (enc : K → Value) (w : World) (b : Nat) (f : List (K × Value)) : Prop :=
  ∃ es clock, w.heap[b]? = some (.map es clock) ∧ es.toList.map (fun e => (e.key, e.val)) = f.map (fun p => (enc p.1, p.2))
def gGet {K : Type} [DecidableEq K] (f : List (K × Value)) (r : K) : Option Value := (f.find? fun p => decide (r = p.1)).map (·.2)
theorem GMapIs.kept {K : Type} {enc : K → Value} {A A' : World} {b : Nat} {f : List (K × Value)} (h : GMapIs enc A b f) (he : A'.heap[b]? = A.heap[b]?) : GMapIs enc A' b f := by
  obtain ⟨es, clock, h1, hf⟩ := h
  exact ⟨es, clock, he.trans h1, hf⟩
theorem GMapIs.up {K : Type} {enc : K → Value} {A A' : World} {b : Nat} {f : List (K × Value)} (h : GMapIs enc A b f) (hb : Below A.heap.size A A') : GMapIs enc A' b f := by
  obtain ⟨es, clock, h1, hf⟩ := h
  exact ⟨es, clock, block_up hb h1, hf⟩
theorem GMapIs.lt {K : Type} {enc : K → Value} {w : World} {b : Nat} {f : List (K × Value)} (h : GMapIs enc w b f) : b < w.heap.size := by
  obtain ⟨_, _, he, _⟩ := h
  exact block_lt he

theorem gFindAsking {K : Type} [DecidableEq K] {P : Program} {kt : TypeId} {enc : K → Value} (kit : KeyKit P kt enc) (r : K) (w : World) : ∀ (f : List (K × Value)) (es : List MapEntry) (i : Nat), es.map (fun e => (e.key, e.val)) = f.map (fun p => (enc p.1, p.2)) →
    (gGet f r = none → (Instr.findAsking kt (enc r) es i).run P w = .ok none w) ∧ (∀ x, gGet f r = some x → ∃ j, (Instr.findAsking kt (enc r) es i).run P w = .ok (some (j, x)) w)
  | [], es, i, h => by
    obtain rfl : es = [] := by simpa using h
    exact ⟨fun _ => rfl, fun x hx => by simp [gGet] at hx⟩
  | p :: f, es, i, h => by
    cases es with
    | nil => simp at h
    | cons e es =>
      simp only [List.map_cons, List.cons.injEq, Prod.mk.injEq] at h
      obtain ⟨⟨hk, hv⟩, h⟩ := h
      have ih := gFindAsking kit r w f es (i + 1) h
      unfold Instr.findAsking
      by_cases hr : r = p.1
      · subst hr
        refine ⟨fun hn => by simp [gGet] at hn, fun x hx => ?_⟩
        have hx' : p.2 = x := by simpa [gGet] using hx
        refine ⟨i, ?_⟩
        simp [Sem.run_bind, hk, kit.eq, hv, hx']
      · have e1 : gGet (p :: f) r = gGet f r := by simp [gGet, hr]
        rw [e1]
        refine ⟨fun hn => ?_, fun x hx => ?_⟩
        · simp [Sem.run_bind, hk, kit.eq, hr, ih.1 hn]
        · obtain ⟨j, hj⟩ := ih.2 x hx
          exact ⟨j, by simp [Sem.run_bind, hk, kit.eq, hr, hj]⟩

theorem gFindKey {K : Type} [DecidableEq K] {P : Program} {kt : TypeId} {enc : K → Value} (kit : KeyKit P kt enc) (r : K) (w : World) (f : List (K × Value)) (es : List MapEntry) (h : es.map (fun e => (e.key, e.val)) = f.map (fun p => (enc p.1, p.2))) :
    (gGet f r = none → (Instr.findKey kt (enc r) es).run P w = .ok none w) ∧ (∀ x, gGet f r = some x → ∃ j, (Instr.findKey kt (enc r) es).run P w = .ok (some (j, x)) w) := by
  have hA := gFindAsking kit r w f es 0 h
  obtain ⟨fs, hu⟩ := kit.und
  unfold Instr.findKey
  cases es with
  | nil =>
    obtain rfl : f = [] := by simpa using h.symm
    refine ⟨fun _ => ?_, fun x hx => by simp [gGet] at hx⟩
    simp [run_underlying hu, Instr.findNow]
  | cons e es =>
    have hn : Instr.findNow (.struct fs) (enc r) (e :: es) 0 = none := by simp [Instr.findNow, Instr.sameNow]
    simp only [Sem.run_bind, run_underlying hu, Result.andThen_ok, hn]
    exact hA

theorem gLookup2 {K : Type} [DecidableEq K] {P : Program} {kt mt vt : TypeId} {z : Value} {enc : K → Value} (kit : KeyKit P kt enc) (hm : P.underlying mt = some (.map kt vt)) (hz : ∀ w, (zeroValue vt).run P w = .ok z w) {w : World} {b : Nat} {f : List (K × Value)} (h : GMapIs enc w b f) (r : K) :
    (Instr.lookup mt (.map (some b)) (enc r) true).run P w = .ok (.tuple #[(gGet f r).getD z, .bool (gGet f r).isSome]) w := by
  obtain ⟨es, clock, hb, hes⟩ := h
  have hF := gFindKey kit r w f es.toList hes
  have hg : (getObj b).run P w = .ok (.map es clock) w := by simp [getObj, Sem.run, hb]
  unfold Instr.lookup
  cases hn : gGet f r with
  | none => simp [Sem.run_bind, run_underlying hm, hg, kit.check, hF.1 hn, hz]
  | some x =>
    obtain ⟨j, hj⟩ := hF.2 x hn
    simp [run_underlying hm, hg, kit.check, hj]
theorem gLookup1 {K : Type} [DecidableEq K] {P : Program} {kt mt vt : TypeId} {z : Value} {enc : K → Value} (kit : KeyKit P kt enc) (hm : P.underlying mt = some (.map kt vt)) (hz : ∀ w, (zeroValue vt).run P w = .ok z w) {w : World} {b : Nat} {f : List (K × Value)} (h : GMapIs enc w b f) (r : K) :
    (Instr.lookup mt (.map (some b)) (enc r) false).run P w = .ok ((gGet f r).getD z) w := by
  obtain ⟨es, clock, hb, hes⟩ := h
  have hF := gFindKey kit r w f es.toList hes
  have hg : (getObj b).run P w = .ok (.map es clock) w := by simp [getObj, Sem.run, hb]
  unfold Instr.lookup
  cases hn : gGet f r with
  | none => simp [Sem.run_bind, run_underlying hm, hg, kit.check, hF.1 hn, hz]
  | some x =>
    obtain ⟨j, hj⟩ := hF.2 x hn
    simp [run_underlying hm, hg, kit.check, hj]

theorem gUpdate {K : Type} [DecidableEq K] {P : Program} {kt mt vt : TypeId} {enc : K → Value} (kit : KeyKit P kt enc) (hm : P.underlying mt = some (.map kt vt)) {w : World} {b : Nat} {f : List (K × Value)} (h : GMapIs enc w b f) (r : K) (x : Value) (hn : gGet f r = none) :
    ∃ o, (Instr.mapUpdate mt (.map (some b)) (enc r) x).run P w = .ok () (w.putObj b o) ∧ GMapIs enc (w.putObj b o) b (f ++ [(r, x)]) := by
  obtain ⟨es, clock, hb, hes⟩ := h
  have hF := gFindKey kit r w f es.toList hes
  have hg : (getObj b).run P w = .ok (.map es clock) w := by simp [getObj, Sem.run, hb]
  have hs : ∀ o, (setObj b o).run P w = .ok () (w.putObj b o) := fun o => by simp [setObj, Sem.run, hb, World.putObj]
  refine ⟨_, ?_, es.push { key := enc r, val := x, born := clock }, clock + 1, World.putObj_heap_same (block_lt hb), ?_⟩
  · unfold Instr.mapUpdate
    simp [run_underlying hm, hg, kit.check, hF.1 hn, hs]
  · simp [hes]

end Go.Proofs.YtjmejfgkogjpaaaGreatDoor

namespace Go.Proofs.YtjmejfgkogjpaaaGreatDoor
open Go.RowKit Go Go.Shelf

/-- From A to A' every row of cells, and every block below B, lies as it lay. -/
structure Chg (B : Nat) (A A' : World) : Prop where
  os : A'.os = A.os
  tape : A'.tape = A.tape
  output : A'.output = A.output
  size : A.heap.size ≤ A'.heap.size
  same : ∀ (k : Nat) (o : Obj), A.heap[k]? = some o → (k < B ∨ o.isCells = true) → A'.heap[k]? = some o
theorem Chg.of_below {B : Nat} {A A' : World} (h : Below A.heap.size A A') : Chg B A A' := ⟨h.os, h.tape, h.output, h.size, fun _ _ hk _ => block_up h hk⟩
theorem Chg.ck {B : Nat} {A A' : World} (h : Chg B A A') : CK A A' := fun k o hk ho => h.same k o hk (.inr ho)
theorem Chg.put {B : Nat} {A : World} {l : Nat} {o : Obj} (o' : Obj) (hl : A.heap[l]? = some o) (hB : B ≤ l) (ho : o.isCells = false) : Chg B A (A.putObj l o') :=
  ⟨rfl, rfl, rfl, by simp, fun k x hk hx => by
    by_cases e : k = l
    · subst e; rw [hl] at hk; cases hk
      rcases hx with hx | hx
      · omega
      · rw [ho] at hx; cases hx
    · exact (World.putObj_heap_other e).trans hk⟩
theorem Chg.below {B n : Nat} {w A A' : World} (h : Chg B A A') (hn : n ≤ B) (hs : n ≤ A.heap.size) (hb : Below n w A) : Below n w A' :=
  ⟨h.os.trans hb.os, h.tape.trans hb.tape, h.output.trans hb.output, Nat.le_trans hb.size h.size, fun k hk => by
    have hlt : k < A.heap.size := by omega
    have h1 : A.heap[k]? = some A.heap[k] := Array.getElem?_eq_getElem hlt
    rw [h.same k _ h1 (.inl (by omega)), ← h1]; exact hb.block k hk⟩
/-- What a caller says of the world between two rounds minds no such change. -/
def Sta (B : Nat) (I : World → Prop) : Prop := ∀ A A', Chg B A A' → I A → I A'
theorem Sta.and {B : Nat} {I J : World → Prop} (h : Sta B I) (k : Sta B J) : Sta B (fun W => I W ∧ J W) := fun A A' c x => ⟨h A A' c x.1, k A A' c x.2⟩
theorem Sta.below {B : Nat} {w : World} (h : w.heap.size ≤ B) : Sta B (fun W => Below w.heap.size w W) := fun _ _ c x => c.below h x.size x
theorem Sta.belowN {B n : Nat} {w : World} (h : n ≤ B) (hn : n ≤ w.heap.size) : Sta B (fun W => Below n w W) := fun _ _ c x => c.below h (Nat.le_trans hn x.size) x
theorem Sta.cells {B b : Nat} {c : Array Value} {t : TypeId} {f : Nat × Nat} : Sta B (fun W => W.heap[b]? = some (.cells c t f)) := fun _ _ c x => c.same _ _ x (.inr rfl)
theorem Sta.pure {B : Nat} {p : Prop} : Sta B (fun _ => p) := fun _ _ _ x => x

/-- What a round owes the iterator: the blocks of S lie as they lay; and the loop: whatever is no cells, from B on, lies as it lay. -/
structure Bod (B : Nat) (S : Nat → Prop) (W W' : World) : Prop where
  size : W.heap.size ≤ W'.heap.size
  keep : ∀ k, S k → W'.heap[k]? = W.heap[k]?
  same : ∀ (k : Nat) (o : Obj), B ≤ k → W.heap[k]? = some o → o.isCells = false → W'.heap[k]? = some o
theorem Bod.refl (B : Nat) (S : Nat → Prop) (W : World) : Bod B S W W := ⟨Nat.le_refl _, fun _ _ => rfl, fun _ _ _ h _ => h⟩
theorem Bod.trans {B : Nat} {S : Nat → Prop} {X Y Z : World} (h : Bod B S X Y) (k : Bod B S Y Z) : Bod B S X Z :=
  ⟨Nat.le_trans h.size k.size, fun i hi => (k.keep i hi).trans (h.keep i hi), fun i o hB hi ho => k.same i o hB (h.same i o hB hi ho) ho⟩
theorem Bod.of_below {B : Nat} {S : Nat → Prop} {W W' : World} (hS : ∀ k, S k → k < W.heap.size) (h : Below W.heap.size W W') : Bod B S W W' :=
  ⟨h.size, fun k hk => h.block k (hS k hk), fun _ _ _ hk _ => block_up h hk⟩
theorem Bod.setCell {B : Nat} {S : Nat → Prop} (W : World) (p : Addr) (v : Value) (hp : ¬ S p.block) : Bod B S W (W.setCell p v) :=
  ⟨by simp, fun k hk => Below.heap_setCell _ _ _ _ (fun e => hp (e ▸ hk)), fun k o _ hk ho => (KeepsOthers.setCell W p v).same k o hk ho⟩
theorem Bod.put {S : Nat → Prop} (W : World) {l : Nat} (o' : Obj) (hS : ¬ S l) : Bod (l + 1) S W (W.putObj l o') :=
  ⟨by simp, fun k hk => World.putObj_heap_other (fun e => hS (e ▸ hk)), fun k x hk hx _ => (World.putObj_heap_other (by omega)).trans hx⟩
theorem Bod.mono {B C : Nat} {S : Nat → Prop} {W W' : World} (h : Bod B S W W') (hB : B ≤ C) : Bod C S W W' := ⟨h.size, h.keep, fun k o hk hx ho => h.same k o (Nat.le_trans hB hk) hx ho⟩

/-- An iterator value: called, it hands out encs 0, .., encs (N-1) in turn, till a round says 'no more'. Between two rounds it may make memory, and turns nothing; it leans on the blocks of S. -/
def SeqIx (P : Program) (g : Nat) (lb : Array Value) (encs : Nat → Array Value) (N : Nat) (S : Nat → Prop) (w : World) : Prop :=
  ∀ (l : Nat) (J Jx : Nat → World → Prop) (W : World), Below w.heap.size w W →
    (∀ i A A', J i A → Below A.heap.size A A' → J i A') → (∀ i A A', Jx i A → Below A.heap.size A A' → Jx i A') →
    (∀ i W1, i < N → J i W1 → YieldAt Fence.wide 0 P l (encs i) W1 fun e W' =>
      (e = .returned (.bool true) ∧ J (i + 1) W' ∧ W1.heap.size ≤ W'.heap.size ∧ ∀ k, S k → W'.heap[k]? = W1.heap[k]?) ∨ (e = .returned (.bool false) ∧ Jx (i + 1) W')) →
    J 0 W →
    Calls P g (#[.func (.yield l) #[] #[]] ++ lb) W fun e W' => (∃ v, e = .returned v) ∧ (J N W' ∨ ∃ i, i ≤ N ∧ Jx i W')

/-- How a round may be left. -/
def rpost (B : Nat) (S : Nat → Prop) (I : Nat → World → Prop) (Ix : Code → Nat → World → Prop) (i : Nat) (W : World) : Exit → Act → World → Prop
  | .normal, _, W' => Bod B S W W' ∧ I i W'
  | .ret, _, W' => Bod B S W W' ∧ Ix .ret i W'
  | .exit id, _, W' => Bod B S W W' ∧ Ix (.exit id) i W'
  | .goto t, _, W' => Bod B S W W' ∧ Ix (.goto t) i W'
  | .panic _, _, _ => False
  | .outgrown, _, _ => False

abbrev markOf (D : Nat) : Deferred := { target := .collected D, args := #[] }

/-- One round, from the walk of its two pieces of code. -/
theorem round_of {P : Program} {B : Nat} {S : Nat → Prop} {ps : Array Tmp} {assign body : Code} {tmps : Array Value} {l i : Nat} {I : Nat → World → Prop} {Ix : Code → Nat → World → Prop} {W : World} {args : Array Value} {r : Loop} (R : Ending → World → Prop)
    (hBl : B ≤ l) (hSl : ¬ S l) (hr : r.params = ps ∧ r.assign = assign ∧ r.body = body ∧ r.tmps = tmps ∧ r.state = .ready ∧ r.pending = none) (hl : W.heap[l]? = some (.loop r)) (hps : args.size = ps.size)
    (hround : assign.wpIn (Fence.wide.inRound l) 0 P (Exit.then (fun a1 W1 => Bod B S W W1 ∧ ∃ Ax : World → Prop, Sta B Ax ∧ Ax W1 ∧ ∀ W2, Ax W2 → (∃ r, W2.heap[l]? = some (.loop r)) → body.wpIn (Fence.wide.inRound l) 0 P (rpost B S I Ix (i + 1) W2) a1 W2) (fun _ _ _ => False))
      { tmps := (ps.zip args).foldl (fun t (p, v) => t.setIfInBounds p v) tmps, defers := [] } W)
    (hR1 : ∀ W3 W4, W.heap.size ≤ W3.heap.size → Bod (l + 1) S W W4 → W4.heap[l]? = some (.loop r) → Chg B W3 W4 → I (i + 1) W3 → (∀ k o, B ≤ k → k ≠ l → W.heap[k]? = some o → o.isCells = false → W4.heap[k]? = some o) → R (.returned (.bool true)) W4)
    (hR2 : ∀ c W3 W4, W.heap.size ≤ W3.heap.size → Bod (l + 1) S W W4 → W4.heap[l]? = some (.loop { r with state := .done, pending := some c }) → Chg B W3 W4 → Ix c (i + 1) W3 → (∀ k o, B ≤ k → k ≠ l → W.heap[k]? = some o → o.isCells = false → W4.heap[k]? = some o) → R (.returned (.bool false)) W4) :
    YieldAt Fence.wide 0 P l args W R := by
  obtain ⟨h1, h2, h3, h4, h5, h6⟩ := hr
  refine ⟨r.fn, _, r.assign, r.body, run_yield hl (by rw [h1]; exact hps), roundIn_of_wpIn trivial ?_⟩
  rw [h1, h2, h3, h4]
  refine wpIn_mono hround ?_
  rintro e a1 W1 hp
  cases e <;> first | exact hp.elim | skip
  obtain ⟨hbod, Ax, hAx, hax, hbody⟩ := hp
  have hl1 : W1.heap[l]? = some (.loop r) := hbod.same l _ hBl hl rfl
  have hl2 : (W1.putObj l (.loop { r with state := .busy })).heap[l]? = some (.loop { r with state := .busy }) := World.putObj_heap_same (block_lt hl1)
  have hb2 : Bod (l + 1) S W (W1.putObj l (.loop { r with state := .busy })) := (hbod.mono (by omega)).trans (Bod.put _ _ hSl)
  have hk2 : ∀ k o, B ≤ k → k ≠ l → W.heap[k]? = some o → o.isCells = false → (W1.putObj l (.loop { r with state := .busy })).heap[k]? = some o :=
    fun k o hk hne ho hc => (World.putObj_heap_other hne).trans (hbod.same k o hk ho hc)
  refine ⟨_, run_beginRound hl1 h5, wpIn_mono (hbody _ (hAx _ _ (Chg.put _ hl1 hBl rfl) hax) ⟨_, hl2⟩) ?_⟩
  generalize W1.putObj l (.loop { r with state := .busy }) = W2 at hl2 hb2 hk2
  rintro e a3 W3 hp
  have fin : ∀ (jump : Option Code), Bod B S W2 W3 → (Instr.endRound l jump).run P W3 = .ok (.bool jump.isNone) (W3.putObj l (.loop { r with state := if jump.isNone then .ready else .done, pending := jump })) ∧
      (W3.putObj l (.loop { r with state := if jump.isNone then .ready else .done, pending := jump })).heap[l]? = some (.loop { r with state := if jump.isNone then .ready else .done, pending := jump }) ∧
      Chg B W3 (W3.putObj l (.loop { r with state := if jump.isNone then .ready else .done, pending := jump })) ∧ Bod (l + 1) S W (W3.putObj l (.loop { r with state := if jump.isNone then .ready else .done, pending := jump })) ∧
      (∀ k o, B ≤ k → k ≠ l → W.heap[k]? = some o → o.isCells = false → (W3.putObj l (.loop { r with state := if jump.isNone then .ready else .done, pending := jump })).heap[k]? = some o) := fun jump hb3 => by
    have hl3 := hb3.same l _ hBl hl2 rfl
    exact ⟨run_endRound (r := { r with state := .busy }) jump hl3, World.putObj_heap_same (block_lt hl3), Chg.put _ hl3 hBl rfl, (hb2.trans (hb3.mono (by omega))).trans (Bod.put _ _ hSl),
      fun k o hk hne ho hc => (World.putObj_heap_other hne).trans (hb3.same k o hk (hk2 k o hk hne ho hc) hc)⟩
  cases e with
  | normal =>
    obtain ⟨hb3, hi⟩ := hp
    obtain ⟨f1, f2, f3, f4, f5⟩ := fin none hb3
    refine ⟨_, _, f1, hR1 W3 _ (Nat.le_trans hb2.size hb3.size) f4 ?_ f3 hi f5⟩
    rw [f2]; cases r; simp_all
  | ret =>
    obtain ⟨hb3, hi⟩ := hp
    obtain ⟨f1, f2, f3, f4, f5⟩ := fin (some .ret) hb3
    exact ⟨_, _, f1, hR2 .ret W3 _ (Nat.le_trans hb2.size hb3.size) f4 f2 f3 hi f5⟩
  | exit id =>
    obtain ⟨hb3, hi⟩ := hp
    obtain ⟨f1, f2, f3, f4, f5⟩ := fin (some (.exit id)) hb3
    exact ⟨_, _, f1, hR2 (.exit id) W3 _ (Nat.le_trans hb2.size hb3.size) f4 f2 f3 hi f5⟩
  | goto t =>
    obtain ⟨hb3, hi⟩ := hp
    obtain ⟨f1, f2, f3, f4, f5⟩ := fin (some (.goto t)) hb3
    exact ⟨_, _, f1, hR2 (.goto t) W3 _ (Nat.le_trans hb2.size hb3.size) f4 f2 f3 hi f5⟩
  | panic ch => exact hp.elim
  | outgrown => exact hp.elim

/-- 'for .. := range g { .. }' in a function's own body. -/
theorem wp_range {P : Program} {g : Operand} {ps : Array Tmp} {assign body : Code} {Q : Exit → Act → World → Prop} {a : Act} {w : World}
    {gf : Nat} {lb : Array Value} (hg : a.eval g = .func (.func gf) #[] lb) (eg : ∀ args w, (callFunc gf args).run P w = .ok (.enter gf args) w)
    {encs : Nat → Array Value} {N : Nat} {S : Nat → Prop} {w0 : World} (hseq : SeqIx P gf lb encs N S w0) (hb0 : Below w0.heap.size w0 w) (hS : ∀ k, S k → k < w.heap.size) (hps : ∀ i, (encs i).size = ps.size)
    (I : Nat → World → Prop) (Ix : Code → Nat → World → Prop) (hI : ∀ i, Sta w.heap.size (I i)) (hIx : ∀ c i, Sta w.heap.size (Ix c i)) (h0 : I 0 w)
    (hround : ∀ l i W, i < N → w.heap.size ≤ l → I i W →
      assign.wpIn (Fence.wide.inRound l) 0 P (Exit.then (fun a1 W1 => Bod w.heap.size S W W1 ∧ ∃ Ax : World → Prop, Sta w.heap.size Ax ∧ Ax W1 ∧ ∀ W2, Ax W2 → (∃ r, W2.heap[l]? = some (.loop r)) → body.wpIn (Fence.wide.inRound l) 0 P (rpost w.heap.size S I Ix (i + 1) W2) a1 W2) (fun _ _ _ => False))
        { tmps := (ps.zip (encs i)).foldl (fun t (p, v) => t.setIfInBounds p v) a.tmps, defers := [] } W)
    (hdone : ∀ D W, w.heap.size ≤ D → I N W → W.heap[D]? = some (.deferred (some [])) → Q .normal { a with defers := markOf D :: a.defers } W)
    (hstop : ∀ D c i W, w.heap.size ≤ D → i ≤ N → Ix c i W → W.heap[D]? = some (.deferred (some [])) → c.wp P Q { a with defers := markOf D :: a.defers } W) :
    (Code.rangeFunc g ps assign body).wp P Q a w := by
  refine (wpIn_wide (n := 0)).1 (wpIn_rangeFunc ?_)
  intro fn _
  obtain ⟨rec, hrec⟩ : ∃ rec : Loop, rec = { state := .ready, pending := none, fn, tmps := a.tmps, params := ps, assign, body, defers := w.heap.size } := ⟨_, rfl⟩
  obtain ⟨W1, hW1⟩ : ∃ W1, (w.alloc (.deferred (some []))).alloc (.loop rec) = W1 := ⟨_, rfl⟩
  have hL1 : W1.heap[w.heap.size + 1]? = some (.loop rec) := by
    rw [← hW1]; have := alloc_new (w.alloc (.deferred (some []))) (.loop rec); rwa [World.size_alloc] at this
  have hK1 : W1.heap[w.heap.size]? = some (.deferred (some [])) := by rw [← hW1]; exact alloc_old _ (alloc_new w _)
  have hwW1 : Below w.heap.size w W1 := by rw [← hW1]; exact ((Below.refl _ w).alloc (Nat.le_refl _) _).alloc (by simp) _
  have hS1 : ¬ S (w.heap.size + 1) := fun h => by have := hS _ h; omega
  refine ⟨w.heap.size + 1, [markOf w.heap.size], W1, { target := .fn (.func gf) lb, args := #[.func (.yield (w.heap.size + 1)) #[] #[]] }, W1, gf,
    #[.func (.yield (w.heap.size + 1)) #[] #[]] ++ lb, W1, ?_, ?_, fun _ _ => trivial, ?_, fun h => (by simp [Fence.wide] at h), ?_⟩
  · rw [← hW1, hrec]; exact run_enterLoop_outer _ _ _ _ _
  · simp only [resolve, hg]
    simp [go_sem]
  · simp [invoke, go_sem, eg]
  · refine (callsIn_wide (n := 0 - 1)).2 ?_
    refine (hseq (w.heap.size + 1)
      (fun i W => I i W ∧ W.heap[w.heap.size + 1]? = some (.loop rec) ∧ W.heap[w.heap.size]? = some (.deferred (some [])))
      (fun i W => ∃ c, Ix c i W ∧ W.heap[w.heap.size + 1]? = some (.loop { rec with state := .done, pending := some c }) ∧ W.heap[w.heap.size]? = some (.deferred (some [])))
      W1 (ext_trans hb0 hwW1)
      (fun i A A' h hb => ⟨hI i A A' (.of_below hb) h.1, block_up hb h.2.1, block_up hb h.2.2⟩)
      (fun i A A' h hb => by obtain ⟨c, h1, h2, h3⟩ := h; exact ⟨c, hIx c i A A' (.of_below hb) h1, block_up hb h2, block_up hb h3⟩)
      ?_ ⟨hI 0 _ _ (.of_below hwW1) h0, hL1, hK1⟩).mono ?_
    · rintro i W hi ⟨hii, hl, hk⟩
      refine round_of (B := w.heap.size) (S := S) (ps := ps) (assign := assign) (body := body) (tmps := a.tmps) (i := i) (I := I) (Ix := Ix) _ (by omega) hS1 (by rw [hrec]; simp) hl (hps i) (hround _ i W hi (by omega) hii) ?_ ?_
      · intro W3 W4 _ hb4 hl4 hc hi3 hoth
        exact .inl ⟨rfl, ⟨hI _ _ _ hc hi3, hl4, hoth _ _ (Nat.le_refl _) (by omega) hk rfl⟩, hb4.size, hb4.keep⟩
      · intro c W3 W4 _ _ hl4 hc hi3 hoth
        exact .inr ⟨rfl, c, hIx _ _ _ _ hc hi3, hl4, hoth _ _ (Nat.le_refl _) (by omega) hk rfl⟩
    · rintro e W2 ⟨⟨v, rfl⟩, (⟨hi, hl, hk⟩ | ⟨i, hin, c, hi, hl, hk⟩)⟩
      · exact ⟨none, _, by have := run_endLoop (P := P) hl (by rw [hrec]; simp); rw [this, hrec], hdone _ _ (Nat.le_refl _) (hI _ _ _ (Chg.put _ hl (by omega) rfl) hi) ((World.putObj_heap_other (by omega)).trans hk)⟩
      · exact ⟨some c, _, by have := run_endLoop (P := P) hl (by simp); rw [this], wpIn_wide.2 (hstop _ c i _ (Nat.le_refl _) hin (hIx _ _ _ _ (Chg.put _ hl (by omega) rfl) hi) ((World.putObj_heap_other (by omega)).trans hk))⟩

/-- A function that holds such a loop: its contract from its body. -/
theorem calls_marks {P : Program} {f : FuncId} {fn : Func} {c : Code} {args : Array Value} {w : World} {R : Ending → World → Prop}
    (hf : P.funcs[f]? = some fn) (hb : fn.body = some c)
    (h : c.wp P (bodyPostM Fence.wide 0 P fn R) { tmps := args ++ Array.replicate (fn.ntmps - args.size) undef, defers := [] } w) : Calls P f args w R :=
  callsIn_wide.1 (callsIn_of_wp_marks hf hb trivial (wpIn_wide.2 h))
/-- Such a function returns. -/
theorem marks_ret {P : Program} {fn : Func} {R : Ending → World → Prop} {tmps : Array Value} {D : Nat} {W : World} {v : Value} (hK : W.heap[D]? = some (.deferred (some [])))
    (hv : (results fn tmps).run P (W.putObj D (.deferred none)) = .ok v (W.putObj D (.deferred none))) (h : R (.returned v) (W.putObj D (.deferred none))) :
    bodyPostM Fence.wide 0 P fn R .ret { tmps := tmps, defers := [markOf D] } W :=
  ⟨by simp, .inl ⟨_, _, rfl, run_takeDeferred hK, ⟨v, hv, h⟩⟩⟩
theorem marks_end {P : Program} {fn : Func} {R : Ending → World → Prop} {tmps : Array Value} {D : Nat} {W : World} {v : Value} (hK : W.heap[D]? = some (.deferred (some [])))
    (hv : (results fn tmps).run P (W.putObj D (.deferred none)) = .ok v (W.putObj D (.deferred none))) (h : R (.returned v) (W.putObj D (.deferred none))) :
    bodyPostM Fence.wide 0 P fn R .normal { tmps := tmps, defers := [markOf D] } W :=
  ⟨by simp, .inl ⟨_, _, rfl, run_takeDeferred hK, ⟨v, hv, h⟩⟩⟩
/-- .. ahead of the loop -/
theorem marks_ret0 {P : Program} {fn : Func} {R : Ending → World → Prop} {tmps : Array Value} {W : World} {v : Value}
    (hv : (results fn tmps).run P W = .ok v W) (h : R (.returned v) W) : bodyPostM Fence.wide 0 P fn R .ret { tmps := tmps, defers := [] } W := ⟨v, hv, h⟩
theorem below_put {n : Nat} {w W : World} {D : Nat} {o : Obj} (hn : n ≤ D) (h : Below n w W) : Below n w (W.putObj D o) :=
  ⟨h.os, h.tape, h.output, by simpa using h.size, fun k hk => (World.putObj_heap_other (by omega)).trans (h.block k hk)⟩

end Go.Proofs.YtjmejfgkogjpaaaGreatDoor

namespace Go.Proofs.YtjmejfgkogjpaaaGreatDoor
open Go.RowKit Go Go.Shelf
attribute [local go_sem] Oper.semAt_some

theorem setCell_same {W : World} {B : Nat} {cs : Array Value} {t : TypeId} {f : Nat × Nat} (h : W.heap[B]? = some (.cells cs t f)) (o : Nat) (v : Value) : (W.setCell ⟨B, o, none⟩ v).heap[B]? = some (.cells (cs.setIfInBounds o v) t f) := by
  simp [World.setCell, Array.getElem?_modify, h]
theorem setCell_other {W : World} {B C : Nat} {x : Obj} (h : W.heap[C]? = some x) (hne : C ≠ B) (o : Nat) (v : Value) : (W.setCell ⟨B, o, none⟩ v).heap[C]? = some x :=
  (Below.heap_setCell W ⟨B, o, none⟩ v C hne).trans h
/-- Below n the worlds are alike. -/
def Keep (n : Nat) (w w' : World) : Prop := ∀ k, k < n → w'.heap[k]? = w.heap[k]?
theorem Keep.cell {w w' : World} (h : Keep w.heap.size w w') {a : Addr} {v : Value} (hc : w.cell? a = some v) : w'.cell? a = some v := by
  have := cell_lt hc
  rw [World.cell?_of_block (w := w) (h a.block this)]; exact hc
theorem Keep.ck {w w' : World} (h : Keep w.heap.size w w') : CK w w' := fun k _ hk _ => (h k (block_lt hk)).trans hk
theorem Keep.of_below {w w' : World} (h : Below w.heap.size w w') : Keep w.heap.size w w' := h.block
theorem Keep.alloc {w w' : World} (h : Keep w.heap.size w w') (o : Obj) : Keep w.heap.size w (w'.alloc o) := fun k hk => by
  have h1 : w.heap[k]? = some w.heap[k] := Array.getElem?_eq_getElem hk
  rw [h1]; exact alloc_old o ((h k hk).trans h1)
theorem Keep.trans {n : Nat} {a b c : World} (h : Keep n a b) (k : Keep n b c) : Keep n a c := fun i hi => (k i hi).trans (h i hi)

def encM (l : List (List Mv)) (i : Nat) : Array Value := #[.int .i64 (mvAt l i).1, (mvAt l i).2.v]

def sizedE (a : Adv) : Int := if a.states.length < 1 ∨ 256 < a.states.length ∨ 4096 < movesN a.states then 5 else 0

end Go.Proofs.YtjmejfgkogjpaaaGreatDoor

namespace Go.Proofs.YtjmejfgkogjpaaaGreatDoor
open Go.RowKit Go Go.Shelf

theorem setCells_other (g : Nat) : ∀ (vs : List Value) (o : Nat) (w : World), (∀ k, k ≠ g → (w.setCells g o vs).heap[k]? = w.heap[k]?) ∧ (w.setCells g o vs).os = w.os ∧ (w.setCells g o vs).tape = w.tape ∧ (w.setCells g o vs).output = w.output ∧ (w.setCells g o vs).heap.size = w.heap.size
  | [], o, w => ⟨fun _ _ => rfl, rfl, rfl, rfl, rfl⟩
  | v :: r, o, w => by
    obtain ⟨h1, h2, h3, h4, h5⟩ := setCells_other g r (o + 1) (w.setCell ⟨g, o, none⟩ v)
    exact ⟨fun k hk => (h1 k hk).trans (Below.heap_setCell w ⟨g, o, none⟩ v k hk), h2, h3, h4, h5.trans (by simp)⟩
theorem setCells_same (g : Nat) (e : TypeId) (fz : Nat × Nat) : ∀ (vs : List Value) (o : Nat) (w : World) (cur : Array Value), w.heap[g]? = some (.cells cur e fz) → o + vs.length ≤ cur.size →
    ∃ cur', (w.setCells g o vs).heap[g]? = some (.cells cur' e fz) ∧ cur'.size = cur.size ∧ cur'.toList.take (o + vs.length) = cur.toList.take o ++ vs
  | [], o, w, cur, hg, _ => ⟨cur, hg, rfl, by simp⟩
  | v :: r, o, w, cur, hg, hl => by
    simp only [List.length_cons] at hl
    obtain ⟨cur', h1, h2, h3⟩ := setCells_same g e fz r (o + 1) (w.setCell ⟨g, o, none⟩ v) (cur.setIfInBounds o v) (setCell_same hg o v) (by simp; omega)
    refine ⟨cur', h1, by simpa using h2, ?_⟩
    rw [show o + (v :: r).length = o + 1 + r.length by simp; omega, h3, Array.toList_setIfInBounds, List.take_succ_eq_append_getElem (by simp; omega), List.take_set_of_le (by omega), List.getElem_set_self]
    simp

/-- A row of one's own: a slice from its block's start; no cell of the block is frozen. -/
def OwnT (w : World) (base : Nat) (e : TypeId) (size : Nat) (v : Value) (n : Nat) (xs : List Value) : Prop :=
  xs.length = n * size ∧ ((v = .slice none 0 0 ∧ n = 0) ∨ ∃ g cap cur fz, v = .slice (some ⟨g, 0, none⟩) n cap ∧ base ≤ g ∧ w.heap[g]? = some (.cells cur e fz) ∧ (∀ i, i < cur.size → ¬ (fz.1 ≤ i ∧ i < fz.2)) ∧ n ≤ cap ∧ cap ≤ maxLen ∧ cur.size = cap * size ∧ cur.toList.take (n * size) = xs)
theorem OwnT.nil (w : World) (base : Nat) (e : TypeId) (size : Nat) : OwnT w base e size (.slice none 0 0) 0 [] := ⟨by simp, .inl ⟨rfl, rfl⟩⟩
theorem OwnT.of_owns {w : World} {base : Nat} {e : TypeId} {size : Nat} {v : Value} {n : Nat} {xs : List Value} (h : w.ownsRow base e size v n xs) : OwnT w base e size v n xs := by
  refine ⟨h.1, ?_⟩
  rcases h.2 with hn | ⟨g, cap, cur, hv, hb, hg, rest⟩
  · exact .inl hn
  · exact .inr ⟨g, cap, cur, (0, 0), hv, hb, hg, fun i _ h => by have := h.2; simp at this, rest⟩
theorem OwnT.slice {w : World} {base size : Nat} {e : TypeId} {v : Value} {n : Nat} {xs : List Value} (h : OwnT w base e size v n xs) : ∃ a c, v = .slice a n c := by
  rcases h.2 with ⟨rfl, rfl⟩ | ⟨g, cap, cur, fz, rfl, _⟩
  · exact ⟨_, _, rfl⟩
  · exact ⟨_, _, rfl⟩
theorem OwnT.ck {w w' : World} {base size : Nat} {e : TypeId} {v : Value} {n : Nat} {xs : List Value} (h : OwnT w base e size v n xs) (hb : CK w w') : OwnT w' base e size v n xs := by
  obtain ⟨hl, h⟩ := h
  refine ⟨hl, ?_⟩
  rcases h with h | ⟨g, cap, cur, fz, h1, h2, h3, h4⟩
  · exact .inl h
  · exact .inr ⟨g, cap, cur, fz, h1, h2, hb _ _ h3 rfl, h4⟩
theorem OwnT.up {w w' : World} {base size : Nat} {e : TypeId} {v : Value} {n : Nat} {xs : List Value} (h : OwnT w base e size v n xs) (hb : Below w.heap.size w w') : OwnT w' base e size v n xs := h.ck (.of_below hb)
theorem OwnT.lt {w : World} {base size : Nat} {e : TypeId} {v : Value} {n : Nat} {xs : List Value} (h : OwnT w base e size v n xs) : ∀ k, v.ownBlock = some k → base ≤ k ∧ k < w.heap.size := by
  intro k hk
  rcases h.2 with ⟨rfl, _⟩ | ⟨g, cap, cur, fz, rfl, hb, hg, _⟩
  · simp [Value.ownBlock] at hk
  · simp [Value.ownBlock] at hk
    subst hk
    exact ⟨hb, block_lt hg⟩
theorem OwnT.ne {w : World} {base sz : Nat} {e e' : TypeId} {v : Value} {n : Nat} {xs : List Value} {B : Nat} {cs : Array Value} {f : Nat × Nat} (h : OwnT w base e sz v n xs) (hB : w.heap[B]? = some (.cells cs e' f)) (hne : e ≠ e') : ∀ g, v.ownBlock = some g → g ≠ B := by
  intro g hg hgB
  rcases h.2 with ⟨rfl, _⟩ | ⟨g', cap, cur, fz, rfl, _, h3, _⟩
  · cases hg
  · have : g' = g := by simpa [Value.ownBlock] using hg
    rw [this, hgB, hB] at h3
    cases h3
    exact hne rfl
theorem OwnT.isCells {w : World} {base sz : Nat} {e : TypeId} {v : Value} {n : Nat} {xs : List Value} {B : Nat} {o : Obj} (h : OwnT w base e sz v n xs) (hB : w.heap[B]? = some o) (ho : o.isCells = false) : some B ≠ v.ownBlock := by
  intro hg
  rcases h.2 with ⟨rfl, _⟩ | ⟨g', cap, cur, fz, rfl, _, h3, _⟩
  · cases hg
  · have : B = g' := by simpa [Value.ownBlock] using hg
    rw [← this, hB] at h3
    cases h3; cases ho
theorem OwnT.put {w : World} {base sz : Nat} {e : TypeId} {v : Value} {n : Nat} {xs : List Value} {B : Nat} (h : OwnT w base e sz v n xs) (hne : ∀ g, v.ownBlock = some g → g ≠ B) (o : Nat) (x : Value) : OwnT (w.setCell ⟨B, o, none⟩ x) base e sz v n xs := by
  obtain ⟨hl, h⟩ := h
  refine ⟨hl, ?_⟩
  rcases h with h | ⟨g, cap, cur, fz, rfl, h2, h3, h4⟩
  · exact .inl h
  · exact .inr ⟨g, cap, cur, fz, rfl, h2, setCell_other h3 (hne g rfl) _ _, h4⟩
theorem OwnT.base {w : World} {base base' : Nat} {e : TypeId} {sz : Nat} {v : Value} {n : Nat} {xs : List Value} (h : OwnT w base e sz v n xs) (hb : base' ≤ base) : OwnT w base' e sz v n xs := by
  obtain ⟨hl, h⟩ := h
  refine ⟨hl, ?_⟩
  rcases h with h | ⟨g, cap, cur, fz, h1, h2, h3⟩
  · exact .inl h
  · exact .inr ⟨g, cap, cur, fz, h1, Nat.le_trans hb h2, h3⟩
theorem OwnT.cell {w : World} {base size : Nat} {e : TypeId} {v : Value} {n : Nat} {xs : List Value} (h : OwnT w base e size v n xs) (j : Nat) (u : Value) (hu : xs[j]? = some u) : ∃ g c, v = .slice (some ⟨g, 0, none⟩) n c ∧ w.cell? ⟨g, j, none⟩ = some u := by
  rcases h.2 with ⟨rfl, hn⟩ | ⟨g, cap, cur, fz, rfl, _, hg, _, _, _, _, ht⟩
  · subst hn
    have : xs = [] := List.eq_nil_of_length_eq_zero (by simpa using h.1)
    rw [this] at hu; simp at hu
  · refine ⟨g, cap, rfl, ?_⟩
    rw [cell_block hg]
    rw [← ht, List.getElem?_take] at hu
    split at hu
    · simpa using hu
    · cases hu

section
variable {P : Program} (w : World)
theorem run_append_T (base : Nat) (t ty e : TypeId) (i : TypeInfo) (z : Value) (size bytes : Nat) (ht : P.underlying t = some (.slice e)) (hi : P.info? e = some i) (hz : i.zero = some z)
    (hsize : i.size = size) (hby : i.bytes = bytes) (hzs : z.cells.size = size) (hsz : 0 < size)
    (v : Value) (n : Nat) (xs : List Value) (hown : OwnT w base e size v n xs)
    (a : Addr) (m c : Nat) (news : List Value) (hl : news.length = m * size) (hnews : ∀ j u, news[j]? = some u → w.cell? (a.add j) = some u) (h1 : ∀ u ∈ news, u.oneCell' = true)
    (h63 : n + m ≤ maxLen) (hbytes : (n + m) * bytes ≤ 140737488355328) (hbase : base ≤ w.heap.size) :
    ∃ v' w', (Builtin.append_ #[t, t] ty #[v, .slice (some a) m c]).run P w = .ok v' w' ∧ OwnT w' base e size v' (n + m) (xs ++ news) ∧ w.grownBy w' v.ownBlock ∧ (v'.ownBlock = v.ownBlock ∨ v'.ownBlock = some w.heap.size) := by
  rcases hown.2 with ⟨rfl, rfl⟩ | ⟨g, cap, cur, fz, rfl, hbg, hg, hfz, hnc, hcm, hcs, htake⟩
  · have hx : xs = [] := List.eq_nil_of_length_eq_zero (by simpa using hown.1)
    subst hx
    by_cases hm : m = 0
    · obtain ⟨v', w', q1, q2, q3, q4⟩ := run_append_own (P := P) w base t ty e i z size bytes ht hi hz hsize hby hzs hsz (.slice none 0 0) 0 [] (World.ownsRow_nil w base e size) a m c news hl hnews h1 h63 hbytes hbase
      have := q4.2 ⟨rfl, hm⟩
      exact ⟨v', w', q1, .of_owns q2, q3, .inl (by rw [this])⟩
    · obtain ⟨v', w', q1, q2, q3, q4⟩ := run_append_own (P := P) w w.heap.size t ty e i z size bytes ht hi hz hsize hby hzs hsz (.slice none 0 0) 0 [] (World.ownsRow_nil w _ e size) a m c news hl hnews h1 h63 hbytes (Nat.le_refl _)
      subst hsize hby
      have hr := run_append_nil (P := P) w t ty e i z ht hi hz a m c news hl hnews (by omega) (by simp only [maxLen] at h63; omega) (by have hb := hbytes; simp only [Nat.zero_add] at hb; omega)
      have e1 := hr.symm.trans q1
      injection e1 with e1 e2
      subst e1 e2
      exact ⟨_, _, hr, (OwnT.of_owns q2).base hbase, q3, .inr rfl⟩
  · subst hsize
    have hlen : (xs ++ news).length = (n + m) * i.size := by rw [List.length_append, hown.1, hl, Nat.add_mul]
    by_cases hroom : n + m ≤ cap
    · have hfit : n * i.size + news.length ≤ cur.size := by rw [hl, hcs, ← Nat.add_mul]; exact Nat.mul_le_mul_right _ hroom
      have hr := run_append_room_cells (P := P) w t ty e i ht hi g 0 n cap a m c news hl hnews h1 hroom (fun j hj => by rw [Nat.zero_add, cell_block hg]; simp; omega)
        (fun j hj => by
          simp only [World.frozen?, hg, Nat.zero_add]
          have := hfz (n * i.size + j) (by omega)
          simpa using this)
      rw [Nat.zero_add] at hr
      obtain ⟨cur', g1, g2, g3⟩ := setCells_same g e fz news (n * i.size) w cur hg hfit
      obtain ⟨o1, o2, o3, o4, o5⟩ := setCells_other g news (n * i.size) w
      refine ⟨_, _, hr, ⟨hlen, .inr ⟨g, cap, cur', fz, rfl, hbg, g1, fun k hk => hfz k (by omega), hroom, hcm, by omega, ?_⟩⟩, ⟨o2, o3, o4, by omega, fun k _ hk => o1 k (fun e => hk (by rw [e]; rfl))⟩, .inl rfl⟩
      rw [Nat.add_mul, ← hl, g3, htake]
    · subst hby
      have holds : ∀ j u, xs[j]? = some u → w.cell? ((⟨g, 0, none⟩ : Addr).add j) = some u := fun j u hu => by
        obtain ⟨g', c', e1, hc⟩ := hown.cell j u hu
        have : g' = g := by simp at e1; exact e1.1.symm
        subst this
        rw [← hc]
        congr 1
        unfold Addr.add; split <;> simp_all
      have hr := run_append_grow (P := P) w t ty e i z ht hi hz ⟨g, 0, none⟩ n cap xs hown.1 holds a m c news hl hnews (by omega) (by simp only [maxLen] at h63; omega) (growslice_fits (by omega) hbytes)
      obtain ⟨v', w', q1, q2, q3⟩ := run_append_arg_grows (P := P) w t ty e i z i.size i.bytes ht hi hz rfl rfl hzs hsz ⟨g, 0, none⟩ n cap xs hown.1 holds a m c news hl hnews (by omega) h63 hbytes
      have e1 := hr.symm.trans q1
      injection e1 with e1 e2
      subst e1 e2
      exact ⟨_, _, hr, (OwnT.of_owns q2).base hbase, ⟨q3.os, q3.tape, q3.output, q3.size, fun k hk _ => q3.block k hk (by simp)⟩, .inr rfl⟩

theorem wpList_append_T {ops : Array Oper} {rest : List Oper} {o : Oper} {a : Act} {Q : Exit → Act → World → Prop} (hgd : o.guard = none) (s x : Operand) (t : TypeId)
    (ho : o.op = .call { callee := .builtin .append, args := #[s, x], argTypes := #[t, t] })
    (base : Nat) (e : TypeId) (i : TypeInfo) (z : Value) (size bytes : Nat) (ht : P.underlying t = some (.slice e)) (hi : P.info? e = some i) (hz : i.zero = some z)
    (hsize : i.size = size) (hby : i.bytes = bytes) (hzs : z.cells.size = size) (hsz : 0 < size)
    (v : Value) (n : Nat) (xs : List Value) (hs : a.eval s = v) (hown : OwnT w base e size v n xs)
    (ad : Addr) (m c : Nat) (news : List Value) (hx : a.eval x = .slice (some ad) m c) (hl : news.length = m * size) (hnews : ∀ j u, news[j]? = some u → w.cell? (ad.add j) = some u) (h1 : ∀ u ∈ news, u.oneCell' = true)
    (h63 : n + m ≤ maxLen) (hbytes : (n + m) * bytes ≤ 140737488355328) (hbase : base ≤ w.heap.size)
    (h : ∀ v' w', OwnT w' base e size v' (n + m) (xs ++ news) → w.grownBy w' v.ownBlock → (v'.ownBlock = v.ownBlock ∨ v'.ownBlock = some w.heap.size) → wpList P ops Q rest (a.put o.dst v') w') : wpList P ops Q (o :: rest) a w := by
  refine wpList_plain hgd fun _ hK => ?_
  obtain ⟨v', w', hr, h2, h3, h4⟩ := run_append_T (P := P) w base t o.type e i z size bytes ht hi hz hsize hby hzs hsz v n xs hown ad m c news hl hnews h1 h63 hbytes hbase
  unfold Oper.wp execOp
  simp only [ho, resolve, invoke, builtin, Sem.run_bind, Sem.run_pure, Result.andThen_ok, List.map_toArray, List.map_cons, List.map_nil, hs, hx, hr]
  exact hK _ _ (h v' w' h2 h3 h4)

theorem wpListIn_append_T {F : Fence} {d : Nat} {ops : Array Oper} {rest : List Oper} {o : Oper} {a : Act} {Q : Exit → Act → World → Prop} (hgd : o.guard = none) (s x : Operand) (t : TypeId)
    (ho : o.op = .call { callee := .builtin .append, args := #[s, x], argTypes := #[t, t] })
    (base : Nat) (e : TypeId) (i : TypeInfo) (z : Value) (size bytes : Nat) (ht : P.underlying t = some (.slice e)) (hi : P.info? e = some i) (hz : i.zero = some z)
    (hsize : i.size = size) (hby : i.bytes = bytes) (hzs : z.cells.size = size) (hsz : 0 < size)
    (v : Value) (n : Nat) (xs : List Value) (hs : a.eval s = v) (hown : OwnT w base e size v n xs)
    (ad : Addr) (m c : Nat) (news : List Value) (hx : a.eval x = .slice (some ad) m c) (hl : news.length = m * size) (hnews : ∀ j u, news[j]? = some u → w.cell? (ad.add j) = some u) (h1 : ∀ u ∈ news, u.oneCell' = true)
    (h63 : n + m ≤ maxLen) (hbytes : (n + m) * bytes ≤ 140737488355328) (hbase : base ≤ w.heap.size)
    (h : ∀ v' w', OwnT w' base e size v' (n + m) (xs ++ news) → w.grownBy w' v.ownBlock → (v'.ownBlock = v.ownBlock ∨ v'.ownBlock = some w.heap.size) → wpListIn F d P ops Q rest (a.put o.dst v') w') : wpListIn F d P ops Q (o :: rest) a w := by
  refine wpListIn_plain hgd fun K hK' => ?_
  obtain ⟨v', w', hrun, r1, r2, r3⟩ := run_append_T (P := P) w base t o.type e i z size bytes ht hi hz hsize hby hzs hsz v n xs hown ad m c news hl hnews h1 h63 hbytes hbase
  unfold Oper.wpIn
  refine ⟨?_, ?_⟩
  · simp [Oper.about, ho, resolve, Target.leads, Sem.run_pure]
  · rw [Oper.semAt_plain F _ _ (by rw [ho]; intro c hc'; cases hc')]
    simp [execOp, ho, resolve, invoke, builtin, hs, hx, hrun, Result.andThen]
    exact hK' _ _ (h v' w' r1 r2 r3)
end
end Go.Proofs.YtjmejfgkogjpaaaGreatDoor

namespace Go.Proofs.YtjmejfgkogjpaaaGreatDoor
open Go.RowKit Go Go.Shelf

end Go.Proofs.YtjmejfgkogjpaaaGreatDoor

namespace Go.Proofs.YtjmejfgkogjpaaaGreatDoor
open Go.RowKit Go Go.Shelf
attribute [local go_sem] Oper.semAt_some

theorem alloc2_new (w : World) (a b : Obj) : ((w.alloc a).alloc b).heap[w.heap.size + 1]? = some b := by simpa using alloc_new (w.alloc a) b
theorem alloc3_new (w : World) (a b c : Obj) : (((w.alloc a).alloc b).alloc c).heap[w.heap.size + 1 + 1]? = some c := by simpa using alloc_new ((w.alloc a).alloc b) c

end Go.Proofs.YtjmejfgkogjpaaaGreatDoor

namespace Go.Proofs.YtjmejfgkogjpaaaGreatDoor
open Go.RowKit Go Go.Shelf

theorem mkMap (P : Program) (t : TypeId) (w : World) : (Instr.makeMap t none).run P w = .ok (.map (some w.heap.size)) (w.alloc (.map #[] 0)) := rfl
abbrev Pl.v (x : Pl) : Value := .agg #[.int .i64 x.rd, .int .i64 x.pr, .int .i64 x.h0, .int .i64 x.h1, .int .i64 x.h2, .int .i64 x.h3, .int .i64 x.h4]
theorem eqIn_pl (d : Nat) (a b : Pl) (w : World) : (Op.equalIn (d + 3) 145 a.v b.v).run Tryz.prog w = .ok (decide (a = b)) w := by
  have hS : Tryz.prog.underlying 145 = some (.struct (Tryz.prog.fieldsOf 145)) := by kernel_rfl
  have hp : Tryz.prog.stoodInHeld 145 = false := by kernel_rfl
  rw [run_equalIn_struct w (d + 2) 145 _ _ hS hp]
  have ag := Tryz.isAgg3
  have ah := Tryz.isAgg45
  have zh := Tryz.sizeOf45
  have u3 := Tryz.underlying3
  simp only [Program.fieldsOf, Tryz.underlying145]
  simp [Op.eqFields, part, ag, ah, zh, run_equalIn_int w (d + 1) 3 _ .i64 _ _ u3, eqIn_arr d]
  obtain ⟨n, k, h0, h1, h2, h3, h4⟩ := a
  obtain ⟨m, l, g0, g1, g2, g3, g4⟩ := b
  by_cases hn : n = m
  case neg => simp [hn]
  by_cases hk : k = l
  case neg => simp [hn, hk]
  by_cases hh : h0 = g0 ∧ h1 = g1 ∧ h2 = g2 ∧ h3 = g3 ∧ h4 = g4 <;> simp [hn, hk, hh]
theorem kit_pl : KeyKit Tryz.prog 145 Pl.v :=
  ⟨fun a b w => eqIn_pl 9997 a b w, fun em a w => by kernel_rfl, ⟨_, Tryz.underlying145⟩⟩
def stepsF (l : List St) : List (Pl × Value) := l.map fun s => (s.pl, .int .i64 s.to)
theorem gGet_none {K : Type} [DecidableEq K] {f : List (K × Value)} {r : K} (h : ∀ p ∈ f, p.1 ≠ r) : gGet f r = none := by
  simp only [gGet, Option.map_eq_none_iff, List.find?_eq_none]
  intro p hp
  simpa using fun e => h p hp e.symm
theorem stepsF_get (m : Mac) (x : Pl) : gGet (stepsF m.steps) x = (stepTo m x).map (Value.int .i64) := by
  unfold gGet stepsF stepTo
  rw [List.find?_map]
  cases h : m.steps.find? ((fun p : Pl × Value => decide (x = p.1)) ∘ fun s => (s.pl, Value.int .i64 s.to)) with
  | none =>
    have : (m.steps.find? fun s => decide (x = s.pl)) = none := h
    rw [this]; rfl
  | some s =>
    have : (m.steps.find? fun s => decide (x = s.pl)) = some s := h
    rw [this]; rfl
/-- Steps in order have different places. -/
def Diff (l : List St) : Prop := ∀ i j (hi : i < l.length) (hj : j < l.length), i < j → l[i].pl ≠ l[j].pl

set_option maxRecDepth 100000 in
set_option maxHeartbeats 4000000 in
theorem steps_any (m : Mac) (pf : Option Addr) (nf cf : Nat) (py : Option Addr) (ny cy : Nat) (vt : Value) (po : Option Addr) (no co : Nat) (w : World) (ht : IsSteps w vt m.steps) (hd : Diff m.steps) (hn : m.steps.length ≤ 65536) :
    Calls Tryz.prog 83 #[.agg (macC m (.slice pf nf cf) (.slice py ny cy) vt (.slice po no co))] w fun e w' => ∃ b, e = .returned (.map (some b)) ∧ GMapIs Pl.v w' b (stepsF m.steps) ∧ w.heap.size ≤ b ∧ Below w.heap.size w w' := by
  obtain ⟨pt, ct, rfl, lt1, lt2, et⟩ := ht.at
  have ET := Lib.hid et
  have HD := Lib.hid hd
  clear et ht hd
  have hmm := fun w => mkMap Tryz.prog 140 w
  go_enter Tryz.func83, Tryz.ntmps83
  go_wp2_with fail
  clear hmm
  refine wp_gen (fun W => Below w.heap.size w W ∧ W.heap[w.heap.size]? = some (.cells (macC m (.slice pf nf cf) (.slice py ny cy) (.slice pt m.steps.length ct) (.slice po no co)) 27) ∧ GMapIs Pl.v W (w.heap.size + 1) []) ⟨by go_grown, alloc_old _ (alloc_new _ _), ⟨#[], 0, alloc2_new _ _ _, rfl⟩⟩ (fun W0 hW0 => ?_)
  obtain ⟨hb0, _, hG0⟩ := hW0
  go_loopw [10] (fun i wr => ∃ k : Nat, k ≤ m.steps.length ∧ i = .int .i64 k ∧ Below w.heap.size w wr ∧ GMapIs Pl.v wr (w.heap.size + 1) (stepsF (m.steps.take k))) (fun i _ => m.steps.length - (intOf i).toNat)
  case atStart => exact ⟨0, by omega, rfl, hb0, by simpa [stepsF] using hG0⟩
  case round =>
    clear hb0 hG0
    obtain ⟨k, hk, rfl, hbr, hG⟩ := hrel
    by_cases hlt : k < m.steps.length
    · obtain ⟨b1, o1, rfl, hsk⟩ := ET.out k hlt
      obtain ⟨c0, c1, c2, c3, c4, c5, c6, c7⟩ := hsk
      have d0 := cell_up hbr c0.1
      have d1 := cell_up hbr c1.1
      have d2 := cell_up hbr c2.1
      have d3 := cell_up hbr c3.1
      have d4 := cell_up hbr c4.1
      have d5 := cell_up hbr c5.1
      have d6 := cell_up hbr c6.1
      have d7 := cell_up hbr c7.1
      clear c0 c1 c2 c3 c4 c5 c6 c7
      have hnone : gGet (stepsF (m.steps.take k)) m.steps[k].pl = none := by
        refine gGet_none fun p hp e => ?_
        obtain ⟨s, hs, rfl⟩ := List.mem_map.1 hp
        obtain ⟨q, hq, rfl⟩ := List.mem_take_iff_getElem.1 hs
        exact HD.out q k (by omega) hlt (by omega) e
      have HTK : Hid (stepsF (m.steps.take (k + 1)) = stepsF (m.steps.take k) ++ [(m.steps[k].pl, .int .i64 m.steps[k].to)]) := by
        (have h : stepsF (m.steps.take (k + 1)) = stepsF (m.steps.take k) ++ [(m.steps[k].pl, .int .i64 m.steps[k].to)] := by (unfold stepsF; rw [List.take_succ_eq_append_getElem hlt, List.map_append]; rfl)); exact h
      generalize m.steps[k] = s at d0 d1 d2 d3 d4 d5 d6 d7 hnone HTK
      have hsb := hG.lt
      have hA : Below wr.heap.size wr (wr.alloc (.cells s.c 73)) := by go_grown
      obtain ⟨o, hup, hG2⟩ := gUpdate kit_pl (mt := 140) (vt := 3) Tryz.underlying140 (hG.up hA) s.pl (.int .i64 s.to) hnone
      have HG2 := Lib.hid hG2
      have HA := Lib.hid hA
      clear hG hG2 hnone
      simp only [Pl.v, St.pl] at hup
      go_wp2_with fail
      go_roundw
      case rel => exact ⟨k + 1, by omega, by go_num, below_put (by omega) (hbr.alloc hbr.size _), by rw [HTK.out]; exact HG2.out⟩
      case measure => simp [intOf]; omega
    · obtain rfl : k = m.steps.length := by omega
      rw [List.take_of_length_le (Nat.le_refl _)] at hG
      have HG := Lib.hid hG
      clear hG
      go_wp2_with fail
      go_ret
      exact ⟨_, rfl, HG.out, by omega, hbr⟩
end Go.Proofs.YtjmejfgkogjpaaaGreatDoor

namespace Go.Proofs.YtjmejfgkogjpaaaGreatDoor
open Go.RowKit Go Go.Shelf

def hC (f : Nat → Int) (q : Nat) : Array Value := ((List.range 5).map fun j => Value.int .i64 (if j < q then f j else 0)).toArray
theorem hC_size (f : Nat → Int) (q : Nat) : (hC f q).size = 5 := by simp [hC]
theorem hC_get (f : Nat → Int) (q j : Nat) (hj : j < 5) : (hC f q)[j]? = some (.int .i64 (if j < q then f j else 0)) := by simp [hC, hj]
theorem hC_set (f : Nat → Int) (q : Nat) (hq : q < 5) : (hC f q).setIfInBounds q (.int .i64 (f q)) = hC f (q + 1) := by
  apply Array.ext_getElem?
  intro j
  rw [Array.getElem?_setIfInBounds]
  by_cases hj : j < 5
  · rw [hC_get _ _ _ hj, hC_get _ _ _ hj]
    by_cases e : q = j
    · subst e; rw [if_pos rfl, if_pos (by rw [hC_size]; exact hj), if_pos (by omega)]
    · rw [if_neg e]
      by_cases h : j < q
      · rw [if_pos h, if_pos (by omega)]
      · rw [if_neg h, if_neg (by omega)]
  · have h1 : (hC f q)[j]? = none := by rw [Array.getElem?_eq_none]; rw [hC_size]; omega
    have h2 : (hC f (q + 1))[j]? = none := by rw [Array.getElem?_eq_none]; rw [hC_size]; omega
    rw [h1, h2, if_neg (by omega)]
theorem hC_zero (f : Nat → Int) : hC f 0 = #[.int .i64 0, .int .i64 0, .int .i64 0, .int .i64 0, .int .i64 0] := rfl
theorem hC_five (f : Nat → Int) : hC f 5 = #[.int .i64 (f 0), .int .i64 (f 1), .int .i64 (f 2), .int .i64 (f 3), .int .i64 (f 4)] := rfl
theorem hC_two {w : World} {B : Nat} {t : TypeId} {f : Nat → Int} {q : Nat} {fz : Nat × Nat} (hq : q < 5) (h : w.heap[B]? = some (.cells (hC f q) t fz)) (v : Value) : ((w.setCell ⟨B, q, none⟩ v).setCell ⟨B, q, none⟩ (.int .i64 (f q))).heap[B]? = some (.cells (hC f (q + 1)) t fz) := by
  rw [setCell_same (setCell_same h q v), Array.setIfInBounds_setIfInBounds, hC_set f q hq]
theorem arr_results (tmps : Array Value) (f : Func) (s : Nat) (hf : f.results = #[.cell s 45]) (B : Nat) (W : World) (x0 x1 x2 x3 x4 : Int) (ty : TypeId) (h1 : tmps[s]?.getD undef = .pointer (some ⟨B, 0, none⟩)) (hb : W.heap[B]? = some (.cells #[.int .i64 x0, .int .i64 x1, .int .i64 x2, .int .i64 x3, .int .i64 x4] ty)) :
    (results f tmps).run Tryz.prog W = .ok (.agg #[.int .i64 x0, .int .i64 x1, .int .i64 x2, .int .i64 x3, .int .i64 x4]) W := by
  have t1 := cell_block hb
  simp [results, hf, go_sem, h1, t1]

set_option maxRecDepth 100000 in
set_option maxHeartbeats 8000000 in
theorem hears_any (m : Mac) (pf : Option Addr) (nf cf : Nat) (vy : Value) (pt : Option Addr) (nt ct : Nat) (po : Option Addr) (no co : Nat) (k p n : Nat) (vn : Value) (now : List Int) (set : Int) (w : World)
    (hn : m.n = n) (hn5 : n ≤ 5) (hp : p < n) (hk : k < m.syms.length) (h1 : (m.syms.getD k []).length = n) (h2 : ∀ q, q < n → ((m.syms.getD k []).getD q []).length = n)
    (hl : now.length = n) (h3 : ∀ q, q < n → q ≠ p → 0 ≤ now.getD q 0 ∧ (now.getD q 0).toNat < (((m.syms.getD k []).getD q []).getD p []).length) (hy : IsV4 w vy m.syms) (hv : IsInts w vn now) :
    Calls Tryz.prog 84 #[.agg (macC m (.slice pf nf cf) vy (.slice pt nt ct) (.slice po no co)), .int .i64 k, .int .i64 p, vn, .int .i64 set] w fun e w' =>
      e = .returned (.agg #[.int .i64 (hearsF m k p now set 0), .int .i64 (hearsF m k p now set 1), .int .i64 (hearsF m k p now set 2), .int .i64 (hearsF m k p now set 3), .int .i64 (hearsF m k p now set 4)]) ∧ Below w.heap.size w w' := by
  obtain ⟨py, cy, rfl, ly1, ly2, ey⟩ := hy.at
  obtain ⟨pn, cn, rfl, ln1, ln2, en⟩ := hv.at
  have EY := Lib.hid ey
  have EN := Lib.hid en
  have H1 := Lib.hid h1
  have H2 := Lib.hid h2
  have H3 := Lib.hid h3
  have HN := Lib.hid hn
  have HL := Lib.hid hl
  clear hy hv ey en h1 h2 h3 hn hl
  have HF : Hid (∀ q, hearsF m k p now set q = if q = p then now.getD p 0 else if (q : Int) < m.n ∧ hasB set q = true then symS m k q p (now.getD q 0) else -1) := by (have h : ∀ q, hearsF m k p now set q = if q = p then now.getD p 0 else if (q : Int) < m.n ∧ hasB set q = true then symS m k q p (now.getD q 0) else -1 := fun q => rfl); exact h
  generalize hearsF m k p now set = f at HF
  go_enter Tryz.func84, Tryz.ntmps84
  go_wp2_with fail
  refine wp_gen (fun W => Below w.heap.size w W ∧ W.heap[w.heap.size]? = some (.cells (macC m (.slice pf nf cf) (.slice py m.syms.length cy) (.slice pt nt ct) (.slice po no co)) 27) ∧ W.heap[w.heap.size + 1]? = some (.cells (hC f 0) 45) ∧ W.heap[w.heap.size + 1 + 1]? = some (.cells (hC f 0) 45))
    ⟨by go_grown, alloc_old _ (alloc_old _ (alloc_new _ _)), alloc_old _ (alloc2_new _ _ _), alloc3_new _ _ _ _⟩ (fun W0 hW0 => ?_)
  obtain ⟨hb0, hM0, hR0, hO0⟩ := hW0
  go_loopw [13] (fun i wr => ∃ q : Nat, q ≤ 5 ∧ i = .int .i64 q ∧ Below w.heap.size w wr ∧ wr.heap[w.heap.size]? = some (.cells (macC m (.slice pf nf cf) (.slice py m.syms.length cy) (.slice pt nt ct) (.slice po no co)) 27) ∧ wr.heap[w.heap.size + 1]? = some (.cells (hC f 0) 45) ∧ wr.heap[w.heap.size + 1 + 1]? = some (.cells (hC f q) 45)) (fun i _ => 5 - (intOf i).toNat)
  case atStart => exact ⟨0, by omega, rfl, hb0, hM0, hR0, hO0⟩
  case round =>
    clear hb0 hM0 hR0 hO0
    obtain ⟨q, hq, rfl, hbr, hM, hR, hO⟩ := hrel
    by_cases hq5 : q < 5
    · have cq := cell_block hO q
      rw [hC_get f q q hq5, if_neg (by omega)] at cq
      have fq := frozen_block hO q
      have hs2 := block_lt hO
      have HM := Lib.hid hM
      have HR := Lib.hid hR
      have HO := Lib.hid hO
      have HBR := Lib.hid hbr
      clear hM hR hO
      have hcm := cell_block HM.out
      by_cases hqp : q = p
      · subst hqp
        obtain ⟨b2, o2, rfl, ⟨c2, _⟩⟩ := EN.out q (by have := HL.out; omega)
        rw [Nat.mul_one] at c2
        have d2 := cell_up hbr c2
        have hb2 := cell_lt d2
        have hb2' := cell_lt c2
        dsimp only at hb2 hb2'
        have hb3 : ¬ b2 = w.heap.size + 1 + 1 := by omega
        have HV : Hid (f q = now[q]'(by have := HL.out; omega)) := by (have h : f q = now[q]'(by have := HL.out; omega) := by (rw [HF.out q, if_pos rfl, getD_of_lt 0 (by have := HL.out; omega)])); exact h
        have hltn : q < now.length := by have := HL.out; omega
        generalize hx : now[q] = x at d2 HV
        have HFX := Lib.hid hx
        clear hx c2 hcm
        go_wp2_with fail
        go_roundw
        case rel =>
          refine ⟨q + 1, by omega, by go_num, (HBR.out.setCell (p := ⟨w.heap.size + 1 + 1, q, none⟩) (by dsimp only; omega) _).setCell (p := ⟨w.heap.size + 1 + 1, q, none⟩) (by dsimp only; omega) _, ?_, ?_, ?_⟩
          · exact setCell_other (setCell_other HM.out (by omega) _ _) (by omega) _ _
          · exact setCell_other (setCell_other HR.out (by omega) _ _) (by omega) _ _
          · rw [← HV.out]; exact hC_two hq5 HO.out _
        case measure => simp [intOf]; omega
      · have hqp' : ¬ (q : Int) = (p : Int) := by omega
        have hqpb : ((q : Int) == (p : Int)) = false := by simpa using hqp'
        have hdq : decide ((q : Int) < 5) = true := by simp; omega
        by_cases hqn : q < n
        · have hmn : (q : Int) < m.n := by have := HN.out; omega
          have hbit := hasB_and1' set q
          cases hb : hasB set q with
          | false =>
            have HV : Hid (f q = -1) := by (have h : f q = -1 := by (rw [HF.out q, if_neg hqp, if_neg (by rw [hb]; simp)])); exact h
            rw [hb] at hbit
            clear hb
            go_wp2_with fail
            go_roundw
            case rel =>
              refine ⟨q + 1, by omega, by go_num, HBR.out.setCell (p := ⟨w.heap.size + 1 + 1, q, none⟩) (by dsimp only; omega) _, setCell_other HM.out (by omega) _ _, setCell_other HR.out (by omega) _ _, ?_⟩
              rw [setCell_same HO.out, ← HV.out, hC_set f q hq5]
            case measure => simp [intOf]; omega
          | true =>
            rw [hb] at hbit
            have hm1 := H1.out
            have hm2 := H2.out q hqn
            have hm3 := H3.out q hqn hqp
            have hm2' := hm2
            rw [getD_of_lt [] hk] at hm1 hm2 hm3
            have hqs : q < m.syms[k].length := by omega
            rw [getD_of_lt [] hqs] at hm2 hm3
            have hps : p < m.syms[k][q].length := by omega
            rw [getD_of_lt [] hps] at hm3
            have hnl : q < now.length := by have := HL.out; omega
            have HNG := Lib.hid (getD_of_lt 0 hnl)
            rw [getD_of_lt 0 hnl] at hm3
            obtain ⟨b1, o1, rfl, x1, c1, hx1⟩ := EY.out k hk
            obtain ⟨p1, q1, rfl, l11, l12, e1⟩ := hx1.at
            obtain ⟨b2, o2, rfl, x2, c2, hx2⟩ := e1 q hqs
            obtain ⟨p2, q2, rfl, l21, l22, e2⟩ := hx2.at
            obtain ⟨b3, o3, rfl, x3, c3, hx3⟩ := e2 p hps
            obtain ⟨p3, q3, rfl, l31, l32, e3⟩ := hx3.at
            obtain ⟨b4, o4, rfl, c4, r4⟩ := e3 _ hm3.2
            obtain ⟨b5, o5, rfl, c5, r5⟩ := EN.out q hnl
            rw [Nat.mul_one] at c1 c2 c3 c4 c5
            have HV : Hid (f q = m.syms[k][q][p][(now[q]).toNat]'hm3.2) := by
              (have h : f q = m.syms[k][q][p][(now[q]).toNat]'hm3.2 := by (rw [HF.out q, if_neg hqp, if_pos ⟨hmn, hb⟩]; unfold symS; rw [getD_of_lt [] hk, getD_of_lt [] hqs, getD_of_lt [] hps, HNG.out, getD_of_lt 0 hm3.2])); exact h
            clear hb e1 e2 e3 hx1 hx2 hx3 hm2' r4 r5
            generalize m.syms[k][q][p][(now[q]).toNat] = sy at c4 HV
            obtain ⟨s, hs⟩ : ∃ s : Nat, now[q] = s := ⟨now[q].toNat, by omega⟩
            rw [hs] at c4 c5 hm3
            rw [Int.toNat_natCast] at c4 hm3
            generalize m.syms[k][q][p].length = l3 at c3 l31 l32 hm3
            generalize m.syms[k][q].length = l2 at c2 l21 l22 hps hm2
            generalize m.syms[k].length = l1 at c1 l11 l12 hqs hm1
            have hm3' := hm3.2
            clear hm1 hm2 hm3 hs HNG
            go_wp2_with fail
            clear cq fq hcm hbit
            obtain ⟨W1, hW1⟩ : ∃ W1, W1 = wr.setCell ⟨w.heap.size + 1 + 1, q, none⟩ (.int .i64 (-1)) := ⟨_, rfl⟩
            rw [← hW1]
            have HBW : Hid (Below w.heap.size w W1) := by (have h : Below w.heap.size w W1 := by (rw [hW1]; exact HBR.out.setCell (p := ⟨w.heap.size + 1 + 1, q, none⟩) (by dsimp only; omega) _)); exact h
            have HMW : Hid (W1.heap[w.heap.size]? = some (.cells (macC m (.slice pf nf cf) (.slice (some ⟨b1, o1, none⟩) m.syms.length cy) (.slice pt nt ct) (.slice po no co)) 27)) := by (have h : W1.heap[w.heap.size]? = some (.cells (macC m (.slice pf nf cf) (.slice (some ⟨b1, o1, none⟩) m.syms.length cy) (.slice pt nt ct) (.slice po no co)) 27) := by (rw [hW1]; exact setCell_other HM.out (by omega) _ _)); exact h
            have HRW : Hid (W1.heap[w.heap.size + 1]? = some (.cells (hC f 0) 45)) := by (have h : W1.heap[w.heap.size + 1]? = some (.cells (hC f 0) 45) := by (rw [hW1]; exact setCell_other HR.out (by omega) _ _)); exact h
            have HOW : Hid (W1.heap[w.heap.size + 1 + 1]? = some (.cells ((hC f q).setIfInBounds q (.int .i64 (-1))) 45)) := by (have h : W1.heap[w.heap.size + 1 + 1]? = some (.cells ((hC f q).setIfInBounds q (.int .i64 (-1))) 45) := by (rw [hW1]; exact setCell_same HO.out _ _)); exact h
            clear hW1 HM HR HO HBR hbr
            refine wp_region_each 19 [40, 41, 42, 43, 44, 45, 46, 47, 48, 49, 50, 51, 52, 53, 54, 55, 56, 57, 58] [MP.eq (.int .i64 (q : Int)),
              MP.eq (.pointer (some ⟨w.heap.size, 5, none⟩)),
              MP.eq (.slice (some ⟨b1, o1, none⟩) m.syms.length cy),
              MP.eq (.int .i64 (k : Int)),
              MP.eq (.pointer (some ⟨b1, o1 + k, none⟩)),
              MP.eq (.slice (some ⟨b2, o2, none⟩) l1 q1),
              MP.eq (.int .i64 (q : Int)),
              MP.eq (.pointer (some ⟨b2, o2 + q, none⟩)),
              MP.eq (.slice (some ⟨b3, o3, none⟩) l2 q2),
              MP.eq (.int .i64 (p : Int)),
              MP.eq (.pointer (some ⟨b3, o3 + p, none⟩)),
              MP.eq (.slice (some ⟨b4, o4, none⟩) l3 q3),
              MP.eq (.slice (some ⟨b5, o5, none⟩) now.length cn),
              MP.eq (.int .i64 (q : Int)),
              MP.eq (.pointer (some ⟨b5, o5 + q, none⟩)),
              MP.eq (.int .i64 (s : Int)),
              MP.eq (.pointer (some ⟨b4, o4 + s, none⟩)),
              MP.eq (.int .i64 sy),
              MP.eq (.pointer (some ⟨w.heap.size + 1 + 1, q, none⟩))] (by kernel_rfl) rfl (by decide) rfl (by kernel_rfl) ?step ?tail
            case step =>
              intro x W i o s F hi ho hs hB hdep hF
              have hcase : i = 0 ∨ i = 1 ∨ i = 2 ∨ i = 3 ∨ i = 4 ∨ i = 5 ∨ i = 6 ∨ i = 7 ∨ i = 8 ∨ i = 9 ∨ i = 10 ∨ i = 11 ∨ i = 12 ∨ i = 13 ∨ i = 14 ∨ i = 15 ∨ i = 16 ∨ i = 17 ∨ i = 18 := by omega
              rcases hcase with rfl | rfl | rfl | rfl | rfl | rfl | rfl | rfl | rfl | rfl | rfl | rfl | rfl | rfl | rfl | rfl | rfl | rfl | rfl
              · obtain rfl := Option.some.inj ho.symm
                obtain rfl := Option.some.inj hs.symm
                clear hdep hi ho hs
                simp only [setAll, setFrom, List.setIfInBounds_toArray, List.set_cons_succ, List.set_cons_zero, Nat.reduceAdd] at hF
                subst hF
                go_wp2_with fail
                exact EachK.mk _ (Below.refl _ _) rfl (by simp only [List.setIfInBounds_toArray, List.set_cons_succ, List.set_cons_zero])
              · obtain rfl := Option.some.inj ho.symm
                obtain rfl := Option.some.inj hs.symm
                clear hdep hi ho hs
                simp only [setAll, setFrom, List.setIfInBounds_toArray, List.set_cons_succ, List.set_cons_zero, Nat.reduceAdd] at hF
                subst hF
                go_wp2_with fail
                exact EachK.mk _ (Below.refl _ _) rfl (by simp only [List.setIfInBounds_toArray, List.set_cons_succ, List.set_cons_zero])
              · obtain rfl := Option.some.inj ho.symm
                obtain rfl := Option.some.inj hs.symm
                have d1 : x 1 = .pointer (some ⟨w.heap.size, 5, none⟩) := hdep ⟨1, .data⟩ (by simp) rfl
                clear hdep hi ho hs
                have t9 := cell_block (block_up hB HMW.out)
                simp only [setAll, setFrom, List.setIfInBounds_toArray, List.set_cons_succ, List.set_cons_zero, Nat.reduceAdd] at hF
                simp only [d1] at hF
                subst hF
                go_wp2_with fail
                exact EachK.mk _ (Below.refl _ _) rfl (by simp only [List.setIfInBounds_toArray, List.set_cons_succ, List.set_cons_zero])
              · obtain rfl := Option.some.inj ho.symm
                obtain rfl := Option.some.inj hs.symm
                clear hdep hi ho hs
                simp only [setAll, setFrom, List.setIfInBounds_toArray, List.set_cons_succ, List.set_cons_zero, Nat.reduceAdd] at hF
                subst hF
                go_wp2_with fail
                exact EachK.mk _ (Below.refl _ _) rfl (by simp only [List.setIfInBounds_toArray, List.set_cons_succ, List.set_cons_zero])
              · obtain rfl := Option.some.inj ho.symm
                obtain rfl := Option.some.inj hs.symm
                have d2 : x 2 = .slice (some ⟨b1, o1, none⟩) m.syms.length cy := hdep ⟨2, .data⟩ (by simp) rfl
                have d3 : x 3 = .int .i64 (k : Int) := hdep ⟨3, .data⟩ (by simp) rfl
                clear hdep hi ho hs
                simp only [setAll, setFrom, List.setIfInBounds_toArray, List.set_cons_succ, List.set_cons_zero, Nat.reduceAdd] at hF
                simp only [d2, d3] at hF
                subst hF
                go_wp2_with fail
                exact EachK.mk _ (Below.refl _ _) rfl (by simp only [List.setIfInBounds_toArray, List.set_cons_succ, List.set_cons_zero])
              · obtain rfl := Option.some.inj ho.symm
                obtain rfl := Option.some.inj hs.symm
                have d4 : x 4 = .pointer (some ⟨b1, o1 + k, none⟩) := hdep ⟨4, .data⟩ (by simp) rfl
                clear hdep hi ho hs
                have d9 := cell_up (ext_trans HBW.out hB) c1
                simp only [setAll, setFrom, List.setIfInBounds_toArray, List.set_cons_succ, List.set_cons_zero, Nat.reduceAdd] at hF
                simp only [d4] at hF
                subst hF
                go_wp2_with fail
                exact EachK.mk _ (Below.refl _ _) rfl (by simp only [List.setIfInBounds_toArray, List.set_cons_succ, List.set_cons_zero])
              · obtain rfl := Option.some.inj ho.symm
                obtain rfl := Option.some.inj hs.symm
                clear hdep hi ho hs
                simp only [setAll, setFrom, List.setIfInBounds_toArray, List.set_cons_succ, List.set_cons_zero, Nat.reduceAdd] at hF
                subst hF
                go_wp2_with fail
                exact EachK.mk _ (Below.refl _ _) rfl (by simp only [List.setIfInBounds_toArray, List.set_cons_succ, List.set_cons_zero])
              · obtain rfl := Option.some.inj ho.symm
                obtain rfl := Option.some.inj hs.symm
                have d5 : x 5 = .slice (some ⟨b2, o2, none⟩) l1 q1 := hdep ⟨5, .data⟩ (by simp) rfl
                have d6 : x 6 = .int .i64 (q : Int) := hdep ⟨6, .data⟩ (by simp) rfl
                clear hdep hi ho hs
                simp only [setAll, setFrom, List.setIfInBounds_toArray, List.set_cons_succ, List.set_cons_zero, Nat.reduceAdd] at hF
                simp only [d5, d6] at hF
                subst hF
                go_wp2_with fail
                exact EachK.mk _ (Below.refl _ _) rfl (by simp only [List.setIfInBounds_toArray, List.set_cons_succ, List.set_cons_zero])
              · obtain rfl := Option.some.inj ho.symm
                obtain rfl := Option.some.inj hs.symm
                have d7 : x 7 = .pointer (some ⟨b2, o2 + q, none⟩) := hdep ⟨7, .data⟩ (by simp) rfl
                clear hdep hi ho hs
                have d9 := cell_up (ext_trans HBW.out hB) c2
                simp only [setAll, setFrom, List.setIfInBounds_toArray, List.set_cons_succ, List.set_cons_zero, Nat.reduceAdd] at hF
                simp only [d7] at hF
                subst hF
                go_wp2_with fail
                exact EachK.mk _ (Below.refl _ _) rfl (by simp only [List.setIfInBounds_toArray, List.set_cons_succ, List.set_cons_zero])
              · obtain rfl := Option.some.inj ho.symm
                obtain rfl := Option.some.inj hs.symm
                clear hdep hi ho hs
                simp only [setAll, setFrom, List.setIfInBounds_toArray, List.set_cons_succ, List.set_cons_zero, Nat.reduceAdd] at hF
                subst hF
                go_wp2_with fail
                exact EachK.mk _ (Below.refl _ _) rfl (by simp only [List.setIfInBounds_toArray, List.set_cons_succ, List.set_cons_zero])
              · obtain rfl := Option.some.inj ho.symm
                obtain rfl := Option.some.inj hs.symm
                have d8 : x 8 = .slice (some ⟨b3, o3, none⟩) l2 q2 := hdep ⟨8, .data⟩ (by simp) rfl
                have d9 : x 9 = .int .i64 (p : Int) := hdep ⟨9, .data⟩ (by simp) rfl
                clear hdep hi ho hs
                simp only [setAll, setFrom, List.setIfInBounds_toArray, List.set_cons_succ, List.set_cons_zero, Nat.reduceAdd] at hF
                simp only [d8, d9] at hF
                subst hF
                go_wp2_with fail
                exact EachK.mk _ (Below.refl _ _) rfl (by simp only [List.setIfInBounds_toArray, List.set_cons_succ, List.set_cons_zero])
              · obtain rfl := Option.some.inj ho.symm
                obtain rfl := Option.some.inj hs.symm
                have d10 : x 10 = .pointer (some ⟨b3, o3 + p, none⟩) := hdep ⟨10, .data⟩ (by simp) rfl
                clear hdep hi ho hs
                have d9 := cell_up (ext_trans HBW.out hB) c3
                simp only [setAll, setFrom, List.setIfInBounds_toArray, List.set_cons_succ, List.set_cons_zero, Nat.reduceAdd] at hF
                simp only [d10] at hF
                subst hF
                go_wp2_with fail
                exact EachK.mk _ (Below.refl _ _) rfl (by simp only [List.setIfInBounds_toArray, List.set_cons_succ, List.set_cons_zero])
              · obtain rfl := Option.some.inj ho.symm
                obtain rfl := Option.some.inj hs.symm
                clear hdep hi ho hs
                simp only [setAll, setFrom, List.setIfInBounds_toArray, List.set_cons_succ, List.set_cons_zero, Nat.reduceAdd] at hF
                subst hF
                go_wp2_with fail
                exact EachK.mk _ (Below.refl _ _) rfl (by simp only [List.setIfInBounds_toArray, List.set_cons_succ, List.set_cons_zero])
              · obtain rfl := Option.some.inj ho.symm
                obtain rfl := Option.some.inj hs.symm
                clear hdep hi ho hs
                simp only [setAll, setFrom, List.setIfInBounds_toArray, List.set_cons_succ, List.set_cons_zero, Nat.reduceAdd] at hF
                subst hF
                go_wp2_with fail
                exact EachK.mk _ (Below.refl _ _) rfl (by simp only [List.setIfInBounds_toArray, List.set_cons_succ, List.set_cons_zero])
              · obtain rfl := Option.some.inj ho.symm
                obtain rfl := Option.some.inj hs.symm
                have d12 : x 12 = .slice (some ⟨b5, o5, none⟩) now.length cn := hdep ⟨12, .data⟩ (by simp) rfl
                have d13 : x 13 = .int .i64 (q : Int) := hdep ⟨13, .data⟩ (by simp) rfl
                clear hdep hi ho hs
                simp only [setAll, setFrom, List.setIfInBounds_toArray, List.set_cons_succ, List.set_cons_zero, Nat.reduceAdd] at hF
                simp only [d12, d13] at hF
                subst hF
                go_wp2_with fail
                exact EachK.mk _ (Below.refl _ _) rfl (by simp only [List.setIfInBounds_toArray, List.set_cons_succ, List.set_cons_zero])
              · obtain rfl := Option.some.inj ho.symm
                obtain rfl := Option.some.inj hs.symm
                have d14 : x 14 = .pointer (some ⟨b5, o5 + q, none⟩) := hdep ⟨14, .data⟩ (by simp) rfl
                clear hdep hi ho hs
                have d9 := cell_up (ext_trans HBW.out hB) c5
                simp only [setAll, setFrom, List.setIfInBounds_toArray, List.set_cons_succ, List.set_cons_zero, Nat.reduceAdd] at hF
                simp only [d14] at hF
                subst hF
                go_wp2_with fail
                exact EachK.mk _ (Below.refl _ _) rfl (by simp only [List.setIfInBounds_toArray, List.set_cons_succ, List.set_cons_zero])
              · obtain rfl := Option.some.inj ho.symm
                obtain rfl := Option.some.inj hs.symm
                have d11 : x 11 = .slice (some ⟨b4, o4, none⟩) l3 q3 := hdep ⟨11, .data⟩ (by simp) rfl
                have d15 : x 15 = .int .i64 (s : Int) := hdep ⟨15, .data⟩ (by simp) rfl
                clear hdep hi ho hs
                simp only [setAll, setFrom, List.setIfInBounds_toArray, List.set_cons_succ, List.set_cons_zero, Nat.reduceAdd] at hF
                simp only [d11, d15] at hF
                subst hF
                go_wp2_with fail
                exact EachK.mk _ (Below.refl _ _) rfl (by simp only [List.setIfInBounds_toArray, List.set_cons_succ, List.set_cons_zero])
              · obtain rfl := Option.some.inj ho.symm
                obtain rfl := Option.some.inj hs.symm
                have d16 : x 16 = .pointer (some ⟨b4, o4 + s, none⟩) := hdep ⟨16, .data⟩ (by simp) rfl
                clear hdep hi ho hs
                have d9 := cell_up (ext_trans HBW.out hB) c4
                simp only [setAll, setFrom, List.setIfInBounds_toArray, List.set_cons_succ, List.set_cons_zero, Nat.reduceAdd] at hF
                simp only [d16] at hF
                subst hF
                go_wp2_with fail
                exact EachK.mk _ (Below.refl _ _) rfl (by simp only [List.setIfInBounds_toArray, List.set_cons_succ, List.set_cons_zero])
              · obtain rfl := Option.some.inj ho.symm
                obtain rfl := Option.some.inj hs.symm
                have d0 : x 0 = .int .i64 (q : Int) := hdep ⟨0, .data⟩ (by simp) rfl
                clear hdep hi ho hs
                simp only [setAll, setFrom, List.setIfInBounds_toArray, List.set_cons_succ, List.set_cons_zero, Nat.reduceAdd] at hF
                simp only [d0] at hF
                subst hF
                go_wp2_with fail
                exact EachK.mk _ (Below.refl _ _) rfl (by simp only [List.setIfInBounds_toArray, List.set_cons_succ, List.set_cons_zero])
            case tail =>
              intro x W o F ho hB hall hF
              obtain rfl := Option.some.inj ho.symm
              have e17 : x 17 = .int .i64 sy := hall 17 (by omega)
              have e18 : x 18 = .pointer (some ⟨w.heap.size + 1 + 1, q, none⟩) := hall 18 (by omega)
              clear hall ho
              simp only [setAll, setFrom, List.setIfInBounds_toArray, List.set_cons_succ, List.set_cons_zero, Nat.reduceAdd] at hF
              simp only [e17, e18] at hF
              subst hF
              have hO2 := block_up hB HOW.out
              have cq := cell_block hO2 q
              have fq := frozen_block hO2 q
              rw [Array.getElem?_setIfInBounds_self_of_lt (by rw [hC_size]; exact hq5)] at cq
              have HO2 := Lib.hid hO2
              have HM2 := Lib.hid (block_up hB HMW.out)
              have HR2 := Lib.hid (block_up hB HRW.out)
              have HB2 := Lib.hid (ext_trans HBW.out hB)
              clear hO2
              go_wp2_with fail
              go_roundw
              case rel =>
                refine ⟨q + 1, by omega, by go_num, HB2.out.setCell (p := ⟨w.heap.size + 1 + 1, q, none⟩) (by dsimp only; omega) _, setCell_other HM2.out (by omega) _ _, setCell_other HR2.out (by omega) _ _, ?_⟩
                rw [setCell_same HO2.out, Array.setIfInBounds_setIfInBounds, ← HV.out, hC_set f q hq5]
              case measure => simp [intOf]; omega
        · have hmn : ¬ (q : Int) < m.n := by have := HN.out; omega
          have HV : Hid (f q = -1) := by (have h : f q = -1 := by (rw [HF.out q, if_neg hqp, if_neg (fun h => hmn h.1)])); exact h
          go_wp2_with fail
          go_roundw
          case rel =>
            refine ⟨q + 1, by omega, by go_num, HBR.out.setCell (p := ⟨w.heap.size + 1 + 1, q, none⟩) (by dsimp only; omega) _, setCell_other HM.out (by omega) _ _, setCell_other HR.out (by omega) _ _, ?_⟩
            rw [setCell_same HO.out, ← HV.out, hC_set f q hq5]
          case measure => simp [intOf]; omega
    · obtain rfl : q = 5 := by omega
      rw [hC_five] at hO
      rw [hC_zero] at hR
      have t1 := cell_block hO
      have t2 := cell_block hR
      have f2 := frozen_block hR
      have HO := Lib.hid hO
      have HR := Lib.hid hR
      have HBR := Lib.hid hbr
      clear hO hR hM
      go_wp2_with fail
      refine bodyPost_ret (v := .agg #[.int .i64 (f 0), .int .i64 (f 1), .int .i64 (f 2), .int .i64 (f 3), .int .i64 (f 4)]) (arr_results _ _ 10 Tryz.results84 (w.heap.size + 1) _ _ _ _ _ _ 45 rfl (by rw [setCell_same (setCell_same (setCell_same (setCell_same (setCell_same HR.out 0 _) 1 _) 2 _) 3 _) 4 _]; rfl)) rfl ?_
      exact ⟨rfl, ((((HBR.out.setCell (p := ⟨w.heap.size + 1, 0, none⟩) (by dsimp only; omega) _).setCell (p := ⟨w.heap.size + 1, 1, none⟩) (by dsimp only; omega) _).setCell (p := ⟨w.heap.size + 1, 2, none⟩) (by dsimp only; omega) _).setCell (p := ⟨w.heap.size + 1, 3, none⟩) (by dsimp only; omega) _).setCell (p := ⟨w.heap.size + 1, 4, none⟩) (by dsimp only; omega) _⟩
end Go.Proofs.YtjmejfgkogjpaaaGreatDoor

namespace Go.Proofs.YtjmejfgkogjpaaaGreatDoor

theorem orI3 (a b c : Int) : orI [a, b, c] = if a ≠ 0 then a else if b ≠ 0 then b else c := by
  unfold orI
  simp only [List.length_cons, List.length_nil, firstNZ, List.getD_cons_zero, List.getD_cons_succ]
  by_cases ha : a = 0 <;> by_cases hb : b = 0 <;> simp [ha, hb]
theorem orderI_eq (a b : St) : orderI a b = ordV (a.rd :: a.pr :: a.heard) (b.rd :: b.pr :: b.heard) := by
  unfold orderI
  rw [orI3, ordV_cons, ordV_cons]
theorem inB_iff {x lo hi : Int} : inB x lo hi = true ↔ lo ≤ x ∧ x ≤ hi := by unfold inB; simp
theorem getD_lt {α : Type} {l : List α} {i : Nat} (d : α) (h : i < l.length) : l.getD i d = l[i] := by simp [h]

structure Good (m : Mac) (n r : Nat) : Prop where
  hn : m.n = n
  n1 : 1 ≤ n
  n5 : n ≤ 5
  hr : m.rounds = r
  r6 : r ≤ 6
  ins : 1 ≤ m.ins ∧ m.ins ≤ 8
  outs : 1 ≤ m.outs ∧ m.outs ≤ 8
  fl : m.first.length = n
  fp : ∀ p, p < n → ((m.first.getD p []).length : Int) = m.ins
  ol : m.out.length = r + 1
  ok : ∀ k, k < r + 1 → (m.out.getD k []).length = n
  yl : m.syms.length = r
  yk : ∀ k, k < r → (m.syms.getD k []).length = n
  yp : ∀ k p, k < r → p < n → ((m.syms.getD k []).getD p []).length = n
  yq : ∀ k p q, k < r → p < n → q < n → (((m.syms.getD k []).getD p []).getD q []).length = if p = q then 0 else ((m.out.getD k []).getD p []).length
  fr : ∀ p v, p < n → v < (m.first.getD p []).length → -1 ≤ (m.first.getD p []).getD v 0 ∧ (m.first.getD p []).getD v 0 < (((m.out.getD 0 []).getD p []).length : Int)
  outr : ∀ k p s, k < r + 1 → p < n → s < ((m.out.getD k []).getD p []).length → -1 ≤ ((m.out.getD k []).getD p []).getD s 0 ∧ ((m.out.getD k []).getD p []).getD s 0 < m.outs
  symr : ∀ k p q s, k < r → p < n → q < n → s < (((m.syms.getD k []).getD p []).getD q []).length → 0 ≤ (((m.syms.getD k []).getD p []).getD q []).getD s 0 ∧ (((m.syms.getD k []).getD p []).getD q []).getD s 0 ≤ 1048576
  st : ∀ i, i < m.steps.length → 0 ≤ (m.steps.getD i default).rd ∧ (m.steps.getD i default).rd < r ∧ 0 ≤ (m.steps.getD i default).pr ∧ (m.steps.getD i default).pr < n ∧ 0 ≤ (m.steps.getD i default).to ∧ (m.steps.getD i default).to < outN m ((m.steps.getD i default).rd + 1) (m.steps.getD i default).pr
  len : m.steps.length ≤ 65536
  diff : ∀ i j (hi : i < m.steps.length) (hj : j < m.steps.length), i < j → m.steps[i].pl ≠ m.steps[j].pl

theorem steps_lt {l : List St} (h : ∀ i, 0 < i → i < l.length → orderI (l.getD (i - 1) default) (l.getD i default) < 0) : ∀ d i (hj : i + d + 1 < l.length), orderI (l.getD i default) (l.getD (i + d + 1) default) < 0 := by
  intro d
  induction d with
  | zero => intro i hj; have := h (i + 0 + 1) (by omega) hj; simpa using this
  | succ d ih =>
    intro i hj
    have h1 := ih i (by omega)
    have h2 := h (i + (d + 1) + 1) (by omega) hj
    rw [show i + (d + 1) + 1 - 1 = i + d + 1 by omega] at h2
    rw [orderI_eq] at h1 h2 ⊢
    exact ordV_trans h1 h2
theorem allB_iff {l : List Int} {lo hi : Int} (h : allB l lo hi = true) (i : Nat) (hi' : i < l.length) : lo ≤ l.getD i 0 ∧ l.getD i 0 ≤ hi := by
  unfold allB at h
  have h1 : anyLt l.length (fun i => !inB (l.getD i 0) lo hi) = false := by
    cases hh : anyLt l.length (fun i => !inB (l.getD i 0) lo hi) with
    | false => rfl
    | true => rw [hh] at h; cases h
  have := (anyLt_eq_false _ _).1 h1 i hi'
  exact inB_iff.1 (by simpa using this)

theorem not_anyLt {n : Nat} {p : Nat → Bool} (h : (!anyLt n p) = true) : ∀ k, k < n → p k = false := by
  refine (anyLt_eq_false _ _).1 ?_
  cases hh : anyLt n p with
  | false => rfl
  | true => rw [hh] at h; cases h
theorem checkE_good {m : Mac} (h : checkE m = 0) : ∃ n r, Good m n r := by
  unfold checkE at h
  split at h
  · cases h
  rename_i h1
  split at h
  · cases h
  rename_i h2
  split at h
  · cases h
  rename_i h3
  split at h
  · cases h
  rename_i h4
  have hh := firstNZ_all h
  have e1 : headE m = false := eq_false_of_ne_true h1
  unfold headE at e1
  simp only [Bool.or_eq_false_iff, Bool.not_eq_false'] at e1
  obtain ⟨⟨⟨a1, a2⟩, a3⟩, a4⟩ := e1
  rw [inB_iff] at a1 a2 a3 a4
  obtain ⟨n, hn⟩ : ∃ n : Nat, m.n = n := ⟨m.n.toNat, by omega⟩
  obtain ⟨r, hr⟩ : ∃ r : Nat, m.rounds = r := ⟨m.rounds.toNat, by omega⟩
  have e2 : shapedB m = true := by simpa using h2
  unfold shapedB at e2
  split at e2
  · cases e2
  rename_i b1
  split at e2
  · cases e2
  rename_i b2
  split at e2
  · cases e2
  rename_i b3
  have b2' := (anyLt_eq_false _ _).1 (eq_false_of_ne_true b2)
  have b3' := (anyLt_eq_false _ _).1 (eq_false_of_ne_true b3)
  have b4' := not_anyLt e2
  have fl : m.first.length = n := by omega
  have ol : m.out.length = r + 1 := by omega
  have yl : m.syms.length = r := by omega
  have ok : ∀ k, k < r + 1 → (m.out.getD k []).length = n := fun k hk => by
    have := b3' k (by omega)
    simp only [ne_eq, decide_eq_false_iff_not, Decidable.not_not] at this
    omega
  have yk : ∀ k, k < r → (m.syms.getD k []).length = n := fun k hk => by
    have := b4' k (by omega)
    unfold roundB at this
    simp only [Bool.or_eq_false_iff, ne_eq, decide_eq_false_iff_not, Decidable.not_not] at this
    omega
  have ys : ∀ k, k < r → ∀ p, p < n → sendB m.n (m.out.getD k []) (m.syms.getD k []) p = false := fun k hk p hp => by
    have := b4' k (by omega)
    unfold roundB at this
    simp only [Bool.or_eq_false_iff] at this
    exact (anyLt_eq_false _ _).1 this.2 p (by rw [yk k hk]; exact hp)
  have yp : ∀ k p, k < r → p < n → ((m.syms.getD k []).getD p []).length = n := fun k p hk hp => by
    have := ys k hk p hp
    unfold sendB at this
    simp only [Bool.or_eq_false_iff, ne_eq, decide_eq_false_iff_not, Decidable.not_not] at this
    omega
  have e4 : rangedB m = true := by simpa using h4
  unfold rangedB at e4
  split at e4
  · cases e4
  rename_i c1
  split at e4
  · cases e4
  rename_i c2
  have c1' := (anyLt_eq_false _ _).1 (eq_false_of_ne_true c1)
  have c2' := (anyLt_eq_false _ _).1 (eq_false_of_ne_true c2)
  have c3' := not_anyLt e4
  have hst : ∀ i, i < m.steps.length → stepE m (m.steps.getD i default) = 0 ∧ ¬ (0 < i ∧ 0 ≤ orderI (m.steps.getD (i - 1) default) (m.steps.getD i default)) := fun i hi => by
    have := hh i hi
    unfold stepsE at this
    split at this
    · rename_i q; exact absurd this q
    · rename_i q
      split at this
      · cases this
      · rename_i q2; exact ⟨by simpa using q, q2⟩
  refine ⟨n, r, ⟨hn, by omega, by omega, hr, by omega, a3, a4, fl, fun p hp => ?_, ol, ok, yl, yk, yp, fun k p q hk hp hq => ?_, fun p v hp hv => ?_, fun k p s hk hp hs => ?_, fun k p q s hk hp hq hs => ?_, fun i hi => ?_, by omega, fun i j hi hj hij => ?_⟩⟩
  · have := b2' p (by omega)
    simpa only [ne_eq, decide_eq_false_iff_not, Decidable.not_not] using this
  · have := ys k hk p hp
    unfold sendB at this
    simp only [Bool.or_eq_false_iff] at this
    have := (anyLt_eq_false _ _).1 this.2 q (by rw [yp k p hk hp]; exact hq)
    simpa only [ne_eq, decide_eq_false_iff_not, Decidable.not_not] using this
  · have := c1' p (by omega)
    have := allB_iff (by simpa only [Bool.not_eq_false'] using this) v hv
    omega
  · have := c2' k (by omega)
    have := (anyLt_eq_false _ _).1 this p (by rw [ok k hk]; exact hp)
    have := allB_iff (by simpa only [Bool.not_eq_false'] using this) s hs
    omega
  · have := c3' k (by omega)
    have := (anyLt_eq_false _ _).1 this p (by rw [yk k hk]; exact hp)
    have := (anyLt_eq_false _ _).1 this q (by rw [yp k p hk hp]; exact hq)
    have := allB_iff (by simpa only [Bool.not_eq_false'] using this) s hs
    omega
  · have := (hst i hi).1
    unfold stepE at this
    split at this
    · cases this
    · rename_i q
      have q1 : headBad m (m.steps.getD i default) = false := eq_false_of_ne_true q
      unfold headBad at q1
      simp only [Bool.or_eq_false_iff, Bool.not_eq_false'] at q1
      obtain ⟨⟨q2, q3⟩, q4⟩ := q1
      rw [inB_iff] at q2 q3 q4
      omega
  · have h5 := steps_lt (l := m.steps) (fun i h1 h2 => by have := (hst i h2).2; omega) (j - i - 1) i (by omega)
    rw [show i + (j - i - 1) + 1 = j by omega, getD_lt default hi, getD_lt default hj, orderI_eq] at h5
    intro e
    have e' : m.steps[i].rd :: m.steps[i].pr :: m.steps[i].heard = m.steps[j].rd :: m.steps[j].pr :: m.steps[j].heard := by
      unfold St.pl at e
      injection e with e1 e2 e3 e4 e5 e6 e7
      unfold St.heard
      rw [e1, e2, e3, e4, e5, e6, e7]
    rw [e', ordV_self] at h5
    omega

/-! ### states that a machine can be in -/
def Fits (m : Mac) (n k : Nat) (now : List Int) : Prop := now.length = n ∧ ∀ p, p < n → 0 ≤ now.getD p 0 ∧ now.getD p 0 < (((m.out.getD k []).getD p []).length : Int)
theorem stepTo_fits {m : Mac} {n r : Nat} (g : Good m n r) {x : Pl} {t : Int} {k p : Nat} (hk : x.rd = k) (hp : x.pr = p) (h : stepTo m x = some t) : 0 ≤ t ∧ t < (((m.out.getD (k + 1) []).getD p []).length : Int) := by
  unfold stepTo at h
  rw [Option.map_eq_some_iff] at h
  obtain ⟨s, hs, rfl⟩ := h
  have h1 := List.find?_some hs
  have h2 := List.mem_of_find?_eq_some hs
  obtain ⟨i, hi, rfl⟩ := List.getElem_of_mem h2
  have h3 := g.st i hi
  rw [getD_lt default hi] at h3
  simp only [decide_eq_true_eq] at h1
  rw [h1] at hk hp
  have e1 : m.steps[i].rd = k := hk
  have e2 : m.steps[i].pr = p := hp
  rw [e1, e2] at h3
  unfold outN at h3
  rw [show ((k : Int) + 1).toNat = k + 1 by omega, Int.toNat_natCast] at h3
  exact ⟨h3.2.2.2.2.1, h3.2.2.2.2.2⟩
theorem nextS_fits {m : Mac} {n r k : Nat} (g : Good m n r) {now x : List Int} {rd : Rd} (h : nextS m k now rd = some x) : Fits m n (k + 1) x := by
  unfold nextS at h
  split at h
  · cases h
  rename_i h1
  cases h
  have h1' := (anyLt_eq_false _ _).1 (eq_false_of_ne_true h1)
  have e : m.n.toNat = n := by rw [g.hn]; simp
  rw [e] at h1'
  refine ⟨by simp [e], fun p hp => ?_⟩
  have h2 := h1' p hp
  obtain ⟨t, ht⟩ : ∃ t, nextP m k now rd p = some t := by
    cases hh : nextP m k now rd p with
    | none => rw [hh] at h2; cases h2
    | some t => exact ⟨t, rfl⟩
  have e2 : ((List.range m.n.toNat).map fun p => (nextP m k now rd p).getD 0).getD p 0 = t := by
    simp [e, hp, ht]
  rw [e2]
  unfold nextP at ht
  exact stepTo_fits g (by rfl) (by rfl) ht
theorem firstS_fits {m : Mac} {n r : Nat} (g : Good m n r) {inputs : List Int} (hl : inputs.length = n) (hi : ∀ p, p < n → 0 ≤ inputs.getD p 0 ∧ inputs.getD p 0 < m.ins) (h : (firstS m inputs).contains (-1) = false) : Fits m n 0 (firstS m inputs) := by
  have e : m.n.toNat = n := by rw [g.hn]; simp
  refine ⟨by simp [firstS, e], fun p hp => ?_⟩
  have e2 : (firstS m inputs).getD p 0 = (m.first.getD p []).getD (inputs.getD p 0).toNat 0 := by
    simp [firstS, e, hp]
  have h1 := hi p hp
  have h2 := g.fp p hp
  have h3 := g.fr p (inputs.getD p 0).toNat hp (by omega)
  have h4 : (firstS m inputs).getD p 0 ≠ -1 := by
    intro hh
    have hlt : p < (firstS m inputs).length := by simp [firstS, e, hp]
    rw [getD_lt 0 hlt] at hh
    have : (firstS m inputs).contains (-1) = true := by
      rw [List.contains_iff_mem, ← hh]
      exact List.getElem_mem hlt
    rw [h] at this; cases this
  rw [e2] at h4 ⊢
  omega
theorem wordE_hear {n : Nat} {l : List Rd} (h : wordE n l = 0) {k : Nat} (hk : k < l.length) : roundE (l.getD k default) = 0 ∧ (l.getD k default).g.n = n := by
  unfold wordE at h
  split at h
  · cases h
  split at h
  · cases h
  have := firstNZ_all h k hk
  unfold wordRE at this
  split at this
  · rename_i q; exact absurd this q
  rename_i q
  split at this
  · cases this
  rename_i q2
  exact ⟨by simpa using q, by simpa using q2⟩
end Go.Proofs.YtjmejfgkogjpaaaGreatDoor
