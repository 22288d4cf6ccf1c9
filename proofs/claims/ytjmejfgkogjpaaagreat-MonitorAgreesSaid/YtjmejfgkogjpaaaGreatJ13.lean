/-
  Parts of the proof, in order. Contracts of the program's wire: (place).check, symbols. Conditions: the arguments read as a machine. Contracts of the program's wire: sealed, (place).message, (place).check, Encode. Conditions: the arguments read as a machine, a place and a state. Contracts of the program's wire: (place).message, (place).check, Encode, at places that a machine has. Conditions: the arguments read as a machine without errors, a place and a state. Contract of the library's slices.Clone at rounds. Conditions: the argument reads as a word of fewer than 2^20 rounds. Contract of the program's simulate.checkMessages. Conditions: the argument reads as a trace of at most five processes and six rounds. A law for a region that draws its order and writes: values that are known ahead, and an invariant of one's own over the rest. It proves nothing of the program. What the walk of simulate.Run needs: laws about memory and plain facts. It proves nothing of the program. Plain facts about the trace of a machine. It proves nothing of the program.
-/
import Derived.WalkSpells
import Derived.Test.YtjmejfgkogjpaaaGreatJ12
namespace Go.Proofs.YtjmejfgkogjpaaaGreat
open Go.RowKit Go Go.Shelf

structure Pw where
  rd : Int
  fr : Int
  to : Int
instance : DecidableEq Pw := fun a b => decidable_of_iff (a.rd = b.rd ∧ a.fr = b.fr ∧ a.to = b.to) (by cases a; cases b; simp)
abbrev Pw.c (x : Pw) : Array Value := #[.int .i64 x.rd, .int .i64 x.fr, .int .i64 x.to]
abbrev Pw.v (x : Pw) : Value := .agg x.c
theorem eqIn_pw (d : Nat) (a b : Pw) (w : World) : (Op.equalIn (d + 2) 157 a.v b.v).run Tryz.prog w = .ok (decide (a = b)) w := by
  have hS : Tryz.prog.underlying 157 = some (.struct (Tryz.prog.fieldsOf 157)) := by kernel_rfl
  have hp : Tryz.prog.stoodInHeld 157 = false := by kernel_rfl
  rw [run_equalIn_struct w (d + 1) 157 _ _ hS hp]
  have ag := Tryz.isAgg3
  have u3 := Tryz.underlying3
  simp only [Program.fieldsOf, Tryz.underlying157]
  simp [Op.eqFields, part, ag, run_equalIn_int w d 3 _ .i64 _ _ u3]
  obtain ⟨n, k, h0⟩ := a
  obtain ⟨m, l, g0⟩ := b
  by_cases hn : n = m
  case neg => simp [hn]
  by_cases hk : k = l
  case neg => simp [hn, hk]
  by_cases hh : h0 = g0 <;> simp [hn, hk, hh]
theorem kit_pw : KeyKit Tryz.prog 157 Pw.v :=
  ⟨fun a b w => eqIn_pw 9998 a b w, fun em a w => by kernel_rfl, ⟨_, Tryz.underlying157⟩⟩

/-- the value that a slice holds at a place -/
def ldAt (w : World) (v : Value) (i : Nat) : Value := match v with | .slice (some a) _ _ => (w.cell? ⟨a.block, a.off + i, none⟩).getD undef | _ => undef
theorem ldAt_eq {w : World} {b o l c i : Nat} {x : Value} (h : w.cell? ⟨b, o + i, none⟩ = some x) : ldAt w (.slice (some ⟨b, o, none⟩) l c) i = x := by simp [ldAt, h]
def symV (w : World) (vy : Value) (k p q : Nat) : Value := ldAt w (ldAt w (ldAt w vy k) p) q
def entAt (w : World) (vy : Value) (n : Nat) (j : Nat) : Option (Pw × Value) := if j / 5 % 5 < n ∧ j % 5 < n then some (⟨(j / 25 : Nat), (j / 5 % 5 : Nat), (j % 5 : Nat)⟩, symV w vy (j / 25) (j / 5 % 5) (j % 5)) else none
def entTo (w : World) (vy : Value) (n : Nat) (j : Nat) : List (Pw × Value) := filtR (entAt w vy n) j
theorem entAt_eq (w : World) (vy : Value) (n k p q : Nat) (hp : p < 5) (hq : q < 5) : entAt w vy n (k * 25 + p * 5 + q) = if p < n ∧ q < n then some (⟨k, p, q⟩, symV w vy k p q) else none := by
  unfold entAt
  rw [show (k * 25 + p * 5 + q) / 25 = k by omega, show (k * 25 + p * 5 + q) / 5 % 5 = p by omega, show (k * 25 + p * 5 + q) % 5 = q by omega]
theorem ent_q (w : World) (vy : Value) (n k p : Nat) (hp : p < 5) (hn : n ≤ 5) : entTo w vy n (k * 25 + p * 5 + n) = entTo w vy n (k * 25 + (p + 1) * 5) := by
  unfold entTo
  refine (filtR_skip (by omega) fun j h1 h2 => ?_).symm
  obtain ⟨q, rfl⟩ : ∃ q, j = k * 25 + p * 5 + q := ⟨j - (k * 25 + p * 5), by omega⟩
  rw [entAt_eq w vy n k p q hp (by omega), if_neg (by omega)]
theorem ent_p (w : World) (vy : Value) (n k : Nat) (hn : n ≤ 5) : entTo w vy n (k * 25 + n * 5) = entTo w vy n ((k + 1) * 25) := by
  unfold entTo
  refine (filtR_skip (by omega) fun j h1 h2 => ?_).symm
  obtain ⟨p, q, hq, rfl⟩ : ∃ p q, q < 5 ∧ j = k * 25 + p * 5 + q := ⟨(j - k * 25) / 5, (j - k * 25) % 5, by omega, by omega⟩
  rw [entAt_eq w vy n k p q (by omega) hq, if_neg (by omega)]
theorem ent_hit (w : World) (vy : Value) {n k p q : Nat} (hn : n ≤ 5) (hp : p < n) (hq : q < n) : entTo w vy n (k * 25 + p * 5 + (q + 1)) = entTo w vy n (k * 25 + p * 5 + q) ++ [(⟨k, p, q⟩, symV w vy k p q)] := by
  unfold entTo
  rw [show k * 25 + p * 5 + (q + 1) = k * 25 + p * 5 + q + 1 by omega]
  refine filtR_some ?_
  rw [entAt_eq w vy n k p q (by omega) (by omega), if_pos ⟨hp, hq⟩]
theorem ent_none (w : World) (vy : Value) {n k p q : Nat} (hn : n ≤ 5) (hp : p < n) (hq : q < n) : gGet (entTo w vy n (k * 25 + p * 5 + q)) ⟨k, p, q⟩ = none := by
  refine gGet_none fun x hx e => ?_
  unfold entTo filtR at hx
  rw [List.mem_filterMap] at hx
  obtain ⟨j, hj, hx⟩ := hx
  rw [List.mem_range] at hj
  unfold entAt at hx
  split at hx
  · cases hx
    dsimp only at e
    injection e with e1 e2 e3
    omega
  · cases hx
theorem gGet_append {K : Type} [DecidableEq K] {f g : List (K × Value)} {r : K} {x : Value} (h : gGet f r = some x) : gGet (f ++ g) r = some x := by
  unfold gGet at h ⊢
  rw [List.find?_append]
  rw [Option.map_eq_some_iff] at h
  obtain ⟨p, hp, rfl⟩ := h
  rw [hp]; rfl
theorem gGet_snoc {K : Type} [DecidableEq K] {f : List (K × Value)} {r : K} {x : Value} (h : gGet f r = none) : gGet (f ++ [(r, x)]) r = some x := by
  unfold gGet at h ⊢
  rw [List.find?_append]
  rw [Option.map_eq_none_iff] at h
  rw [h]; simp
theorem ent_get (w : World) (vy : Value) {n k p q J : Nat} (hn : n ≤ 5) (hp : p < n) (hq : q < n) (hJ : k * 25 + p * 5 + q < J) : gGet (entTo w vy n J) ⟨k, p, q⟩ = some (symV w vy k p q) := by
  obtain ⟨t, ht⟩ := filtR_prefix (entAt w vy n) (show k * 25 + p * 5 + q + 1 ≤ J by omega)
  unfold entTo
  rw [← ht]
  refine gGet_append ?_
  have := ent_hit w vy (k := k) hn hp hq
  unfold entTo at this
  rw [show k * 25 + p * 5 + (q + 1) = k * 25 + p * 5 + q + 1 by omega] at this
  rw [this]
  exact gGet_snoc (ent_none w vy hn hp hq)
/-- what a slice of slices of slices of numbers holds -/
theorem symV_ints {w : World} {vy : Value} {l : List (List (List (List Int)))} (h : IsV4 w vy l) (k p q : Nat) (hk : k < l.length) (hp : p < (l.getD k []).length) (hq : q < ((l.getD k []).getD p []).length) : IsInts w (symV w vy k p q) (((l.getD k []).getD p []).getD q []) := by
  obtain ⟨a, c, rfl, _, _, e⟩ := h.at
  obtain ⟨b1, o1, rfl, x1, c1, h1⟩ := e k hk
  rw [getD_of_lt [] hk] at hp hq ⊢
  obtain ⟨a, c, rfl, _, _, e⟩ := h1.at
  obtain ⟨b2, o2, rfl, x2, c2, h2⟩ := e p hp
  rw [getD_of_lt [] hp] at hq ⊢
  obtain ⟨a, c, rfl, _, _, e⟩ := h2.at
  obtain ⟨b3, o3, rfl, x3, c3, h3⟩ := e q hq
  rw [getD_of_lt [] hq]
  rw [Nat.mul_one] at c1 c2 c3
  unfold symV
  rw [ldAt_eq c1, ldAt_eq c2, ldAt_eq c3]
  exact h3

set_option maxRecDepth 100000 in
set_option maxHeartbeats 4000000 in
theorem symbols_any (m : Mac) (n r : Nat) (g : Good m n r) (pf : Option Addr) (nf cf : Nat) (vy : Value) (pt : Option Addr) (nt ct : Nat) (po : Option Addr) (no co : Nat) (k p q : Nat) (hk : k < r) (hp : p < n) (hq : q < n) (w : World) (hy : IsV4 w vy m.syms) :
    Calls Tryz.prog 92 #[.agg (macC m (.slice pf nf cf) vy (.slice pt nt ct) (.slice po no co)), .agg #[.int .i64 k, .int .i64 p, .int .i64 q]] w fun e w' => ∃ v, e = .returned v ∧ IsInts w' v (((m.syms.getD k []).getD p []).getD q []) ∧ Below w.heap.size w w' := by
  have hIS := symV_ints hy k p q (by rw [g.yl]; exact hk) (by rw [g.yk k hk]; exact hp) (by rw [g.yp k p hk hp]; exact hq)
  have HIS := Lib.hid hIS
  have HG := Lib.hid g
  have hn5 := g.n5
  have HR := Lib.hid g.yl
  clear g
  generalize hE : entTo w vy n = E
  have HE : Hid (E = entTo w vy n) := by (have h : E = entTo w vy n := hE.symm); exact h
  have HGET : Hid (gGet (E (m.syms.length * 25)) ⟨k, p, q⟩ = some (symV w vy k p q)) := by (have h : gGet (E (m.syms.length * 25)) ⟨k, p, q⟩ = some (symV w vy k p q) := by (rw [← hE]; exact ent_get w vy hn5 hp hq (by rw [HR.out]; omega))); exact h
  clear hE
  obtain ⟨py, cy, hvy, ly1, ly2, ey⟩ := hy.at
  have HSV : Hid (∀ k' p' q', symV w vy k' p' q' = ldAt w (ldAt w (ldAt w (.slice py m.syms.length cy) k') p') q') := by (have h : ∀ k' p' q', symV w vy k' p' q' = ldAt w (ldAt w (ldAt w (.slice py m.syms.length cy) k') p') q' := fun _ _ _ => by (rw [hvy]; rfl)); exact h
  have EY := Lib.hid ey
  rw [hvy]
  have HVY := Lib.hid hvy
  clear hy ey hIS hvy
  have hmm := fun w => mkMap Tryz.prog 184 w
  go_enter Tryz.func92, Tryz.ntmps92
  go_wp2_with fail
  clear hmm
  refine wp_gen (fun W => Below w.heap.size w W ∧ W.heap[w.heap.size + 1]? = some (.cells #[.int .i64 k, .int .i64 p, .int .i64 q] 157) ∧ GMapIs Pw.v W (w.heap.size + 1 + 1) []) ⟨by go_grown, alloc_old _ (alloc2_new _ _ _), ⟨#[], 0, alloc3_new _ _ _ _, rfl⟩⟩ (fun W0 hW0 => ?_)
  obtain ⟨hb0, hP0, hG0⟩ := hW0
  have hst : ∀ wr : World, Below w.heap.size w wr → w.heap.size + 1 + 1 < wr.heap.size → True := fun _ _ _ => trivial
  clear hst
  go_loopw [16] (fun i wr => ∃ a : Nat, a ≤ m.syms.length ∧ i = .int .i64 a ∧ Below w.heap.size w wr ∧ wr.heap[w.heap.size + 1]? = some (.cells #[.int .i64 k, .int .i64 p, .int .i64 q] 157) ∧ GMapIs Pw.v wr (w.heap.size + 1 + 1) (E (a * 25))) (fun i _ => m.syms.length - (intOf i).toNat)
  case atStart => exact ⟨0, by omega, rfl, hb0, hP0, by rw [HE.out]; exact hG0⟩
  case round =>
    clear hb0 hP0 hG0
    obtain ⟨a, ha, rfl, hbr, hP, hG⟩ := hrel
    have HINV := Lib.hid (And.intro hbr (And.intro hP hG))
    have t2 := cell_block hP
    clear hP hG
    by_cases hlt : a < m.syms.length
    · obtain ⟨b1, o1, rfl, x1, c1, h1⟩ := EY.out a hlt
      have hal : (m.syms[a]).length = n := by have := HG.out.yk a (by rw [← HR.out]; exact hlt); rwa [getD_of_lt [] hlt] at this
      have hap : ∀ p', p' < n → (m.syms[a].getD p' []).length = n := fun p' hp' => by have := HG.out.yp a p' (by rw [← HR.out]; exact hlt) hp'; rwa [getD_of_lt [] hlt] at this
      rw [Nat.mul_one] at c1
      have d1 := cell_up hbr c1
      obtain ⟨p1, q1, rfl, l11, l12, e1⟩ := h1.at
      have HS1 : Hid (ldAt w (.slice (some ⟨b1, o1, none⟩) m.syms.length cy) a = .slice p1 m.syms[a].length q1) := by (have h : ldAt w (.slice (some ⟨b1, o1, none⟩) m.syms.length cy) a = .slice p1 m.syms[a].length q1 := ldAt_eq c1); exact h
      have E1 := Lib.hid e1
      have HAP := Lib.hid hap
      have HAL := Lib.hid hal
      clear c1 h1 e1 hap t2 hal
      generalize m.syms[a] = l1 at d1 l11 l12 E1 HAP HAL HS1
      go_wp2_with fail
      clear d1
      obtain ⟨V0, hV0⟩ : ∃ V0 : World, V0 = wr := ⟨_, rfl⟩
      rw [← hV0] at HINV ⊢
      clear hV0 hbr wr
      go_loopw [23] (fun i wr => ∃ c : Nat, c ≤ l1.length ∧ i = .int .i64 c ∧ Below w.heap.size w wr ∧ wr.heap[w.heap.size + 1]? = some (.cells #[.int .i64 k, .int .i64 p, .int .i64 q] 157) ∧ GMapIs Pw.v wr (w.heap.size + 1 + 1) (E (a * 25 + c * 5))) (fun i _ => l1.length - (intOf i).toNat)
      case atStart => exact ⟨0, by omega, rfl, HINV.out.1, HINV.out.2.1, HINV.out.2.2⟩
      case round =>
        clear HINV V0
        obtain ⟨c, hc, rfl, hbr, hP, hG⟩ := hrel
        have HINV := Lib.hid (And.intro hbr (And.intro hP hG))
        clear hP hG
        by_cases hcl : c < l1.length
        · have hcn : c < n := by have := HAL.out; omega
          obtain ⟨b2, o2, rfl, x2, c2, h2⟩ := E1.out c hcl
          have hcq : l1[c].length = n := by have := HAP.out c hcn; rwa [getD_of_lt [] hcl] at this
          rw [Nat.mul_one] at c2
          have d2 := cell_up hbr c2
          obtain ⟨p2, q2, rfl, l21, l22, e2⟩ := h2.at
          have HS2 : Hid (ldAt w (.slice (some ⟨b2, o2, none⟩) l1.length q1) c = .slice p2 l1[c].length q2) := by (have h : ldAt w (.slice (some ⟨b2, o2, none⟩) l1.length q1) c = .slice p2 l1[c].length q2 := ldAt_eq c2); exact h
          have E2 := Lib.hid e2
          have HCQ := Lib.hid hcq
          clear c2 h2 e2 hcq
          generalize l1[c] = l2 at d2 l21 l22 E2 HCQ HS2
          go_wp2_with fail
          clear d2
          obtain ⟨V1, hV1⟩ : ∃ V1 : World, V1 = wr := ⟨_, rfl⟩
          rw [← hV1] at HINV ⊢
          clear hV1 hbr wr
          go_loopw [30] (fun i wr => ∃ d : Nat, d ≤ l2.length ∧ i = .int .i64 d ∧ Below w.heap.size w wr ∧ wr.heap[w.heap.size + 1]? = some (.cells #[.int .i64 k, .int .i64 p, .int .i64 q] 157) ∧ GMapIs Pw.v wr (w.heap.size + 1 + 1) (E (a * 25 + c * 5 + d))) (fun i _ => l2.length - (intOf i).toNat)
          case atStart => exact ⟨0, by omega, rfl, HINV.out.1, HINV.out.2.1, HINV.out.2.2⟩
          case round =>
            clear HINV V1
            obtain ⟨d, hd, rfl, hbr, hP, hG⟩ := hrel
            have hsb := hG.lt
            by_cases hdl : d < l2.length
            · have hdn : d < n := by have := HCQ.out; omega
              obtain ⟨b3, o3, rfl, x3, c3, h3⟩ := E2.out d hdl
              rw [Nat.mul_one] at c3
              have d3 := cell_up hbr c3
              have hsv : symV w vy a c d = x3 := by rw [HSV.out, HS1.out, HS2.out, ldAt_eq c3]
              obtain ⟨p3, q3, rfl, l31, l32, _⟩ := h3.at
              have hnone := ent_none w vy (k := a) hn5 hcn hdn
              have hhit := ent_hit w vy (k := a) hn5 hcn hdn
              rw [hsv] at hhit
              rw [← HE.out] at hnone hhit
              obtain ⟨o, hup, hG2⟩ := gUpdate kit_pw (mt := 184) (vt := 36) Tryz.underlying184 hG ⟨a, c, d⟩ (.slice p3 l2[d].length q3) hnone
              rw [← hhit] at hG2
              have HG2 := Lib.hid hG2
              have HP2 := Lib.hid hP
              have HBR := Lib.hid hbr
              clear hG hG2 hnone hhit hsv h3 c3 hP
              generalize l2[d].length = l3 at d3 l31 l32 hup
              go_wp2_with fail
              go_roundw
              case rel => exact ⟨d + 1, by omega, by go_num, below_put (by omega) HBR.out, (World.putObj_heap_other (by omega)).trans HP2.out, HG2.out⟩
              case measure => simp [intOf]; omega
            · have hdn : d = n := by have := HCQ.out; omega
              have HINV := Lib.hid (And.intro hbr (And.intro hP hG))
              have HEQ : Hid (E (a * 25 + c * 5 + d) = E (a * 25 + (c + 1) * 5)) := by (have h : E (a * 25 + c * 5 + d) = E (a * 25 + (c + 1) * 5) := by (rw [HE.out, hdn]; exact ent_q w vy n a c (by omega) hn5)); exact h
              clear hP hG hdn
              go_wp2_with fail
              go_roundw
              case rel => exact ⟨c + 1, by omega, by go_num, HINV.out.1, HINV.out.2.1, by rw [← HEQ.out]; exact HINV.out.2.2⟩
              case measure => simp [intOf]; omega
        · have hcn : c = n := by have := HAL.out; omega
          have HEQ : Hid (E (a * 25 + c * 5) = E ((a + 1) * 25)) := by (have h : E (a * 25 + c * 5) = E ((a + 1) * 25) := by (rw [HE.out, hcn]; exact ent_p w vy n a hn5)); exact h
          clear hcn
          go_wp2_with fail
          go_roundw
          case rel => exact ⟨a + 1, by omega, by go_num, HINV.out.1, HINV.out.2.1, by rw [← HEQ.out]; exact HINV.out.2.2⟩
          case measure => simp [intOf]; omega
    · obtain rfl : a = m.syms.length := by omega
      have hlook := gLookup1 kit_pw (mt := 184) (vt := 36) (z := .slice none 0 0) Tryz.underlying184 (fun w => by kernel_rfl) HINV.out.2.2 ⟨k, p, q⟩
      rw [HGET.out] at hlook
      obtain ⟨pv, cv, hv, _⟩ := (HIS.out).at
      have HISV := HIS.out
      rw [hv] at hlook HISV
      have HIS2 := Lib.hid HISV
      clear HISV hv
      generalize (((m.syms.getD k []).getD p []).getD q []).length = ll at hlook HIS2
      go_wp2_with fail
      go_ret
      exact ⟨_, rfl, HIS2.out.up up_int HINV.out.1, HINV.out.1⟩
end Go.Proofs.YtjmejfgkogjpaaaGreat

namespace Go.Proofs.YtjmejfgkogjpaaaGreat
open Go.RowKit Go Go.Shelf

theorem conv_back {w : World} {base : Nat} {v : Value} {l : List UInt8} (h : OwnT w base 5 1 v l.length (l.map byteV)) (hl : 0 < l.length) : ∃ g c, v = .slice (some ⟨g, 0, none⟩) l.length c ∧ (convert 171 9 v).run Tryz.prog w = .ok (.string (bytesOf l)) w := by
  rcases h.2 with ⟨_, hz⟩ | ⟨g, cap, cur, fz, rfl, _, hg, _, hc1, _, _, _⟩
  · omega
  · refine ⟨g, cap, rfl, ?_⟩
    exact run_convert_bytes_back w _ _ 5 ⟨g, 0, none⟩ cap l Tryz.underlying171 Tryz.underlying5 Tryz.underlying9 (fun j hj => by
      obtain ⟨g', c', e1, e2⟩ := h.cell j (byteV l[j]) (by rw [List.getElem?_map, List.getElem?_eq_getElem hj]; rfl)
      have : g = g' := by simp at e1; exact e1.1
      subst this
      rw [← e2]
      congr 1
      unfold Addr.add; split <;> simp_all)

set_option maxRecDepth 100000 in
set_option maxHeartbeats 2000000 in
theorem sealed_any (u : Value) (bs : List UInt8) (base : Nat) (w : World) (hu : OwnT w base 5 1 u bs.length (bs.map byteV)) (h0 : 0 < bs.length) (h1 : bs.length ≤ 1048576) (hb : base ≤ w.heap.size) :
    Calls Tryz.prog 125 #[u] w fun e w' => e = .returned (.string (bytesOf (sealL bs))) ∧ Below base w w' := by
  obtain ⟨i0, hi0, hz0, hz1, hz2⟩ := info_parts Tryz.infoByte
  obtain ⟨g, c, rfl, hconv⟩ := conv_back hu h0
  have HU := Lib.hid hu
  have hck := ckS_lt bs
  have HCK := Lib.hid (checksum_any (bytesOf bs) (by show bs.toArray.size ≤ _; simp; omega) w)
  have hdl : (bytesOf bs).data.toList = bs := by simp [bytesOf]
  rw [hdl] at HCK
  have HSL : Hid (sealL bs = bs ++ [UInt8.ofNat (ckS bs / 256), UInt8.ofNat (ckS bs % 256)]) := by exact rfl
  generalize ckS bs = ck at hck HCK HSL
  obtain ⟨z1, hz1'⟩ : ∃ z1, z1 = ck / 256 := ⟨_, rfl⟩
  obtain ⟨z2, hz2'⟩ : ∃ z2, z2 = ck % 256 := ⟨_, rfl⟩
  rw [← hz1', ← hz2'] at HSL
  have hw1 : IntKind.u8.wrap ((ck : Int) / 256) = (z1 : Int) := by rw [IntKind.wrap_u8]; omega
  have hw2 : IntKind.u8.wrap (ck : Int) = (z2 : Int) := by rw [IntKind.wrap_u8]; omega
  have HB1 := Lib.hid (byteV_ofNat z1 (by omega))
  have HB2 := Lib.hid (byteV_ofNat z2 (by omega))
  clear hu hdl hz1' hz2'
  go_enter Tryz.func125, Tryz.ntmps125
  go_wp2_with fail
  refine HCK.out.mono ?_
  rintro e w1 ⟨rfl, hb1⟩
  have hA : Below w1.heap.size w1 (w1.alloc (.cells #[.int .u8 (z1 : Int), .int .u8 (z2 : Int)] 5)) := by go_grown
  have HOWN := Lib.hid ((HU.out.up hb1).up hA)
  have hnews : ∀ j u', [Value.int .u8 (z1 : Int), .int .u8 (z2 : Int)][j]? = some u' → (w1.alloc (.cells #[.int .u8 (z1 : Int), .int .u8 (z2 : Int)] 5)).cell? (Addr.add ⟨w1.heap.size, 0, none⟩ j) = some u' := fun j u' hj => by
    have e1 : (Addr.add ⟨w1.heap.size, 0, none⟩ j) = ⟨w1.heap.size, j, none⟩ := by unfold Addr.add; split <;> simp_all
    rw [e1, cell_block (alloc_new w1 _)]
    simpa using hj
  have HNEWS := Lib.hid hnews
  have HB1' := Lib.hid hb1
  have hs1 := hb1.size
  clear hnews hA hconv
  go_wp2_with (at_builtin; (refine wpList_append_T _ rfl (.tmp 7) (.tmp 13) 171 rfl base 5 i0 _ 1 1 Tryz.underlying171 hi0 hz0 hz1 hz2 rfl (by decide) _ bs.length _ rfl HOWN.out ⟨w1.heap.size, 0, none⟩ 2 2 [.int .u8 (z1 : Int), .int .u8 (z2 : Int)] rfl rfl HNEWS.out (by simp [Value.oneCell']) (by unfold maxLen; omega) (by omega) (by simp; omega) ?_; intro v' w3 hown3 hgrow3 hwh3; rw [← HB1.out, ← HB2.out] at hown3; obtain ⟨g', c', rfl, hcb⟩ := conv_back (l := sealL bs) (by rw [HSL.out]; simpa using hown3) (by rw [HSL.out]; simp); clear hown3))
  go_ret
  refine ⟨rfl, ?_⟩
  exact Below.grown ((HB1'.out.mono hb).alloc (by omega) _) hgrow3 (by simp; omega) (fun g hg => (HOWN.out.lt g hg).1)
end Go.Proofs.YtjmejfgkogjpaaaGreat

namespace Go.Proofs.YtjmejfgkogjpaaaGreat
open Go.RowKit Go Go.Shelf

theorem conv_new (w : World) (g : Nat) (l : List UInt8) (t : TypeId) (h : w.heap[g]? = some (.cells (l.map byteV).toArray t)) : (convert 171 9 (.slice (some ⟨g, 0, none⟩) l.length l.length)).run Tryz.prog w = .ok (.string (bytesOf l)) w :=
  run_convert_bytes_back w _ _ 5 ⟨g, 0, none⟩ l.length l Tryz.underlying171 Tryz.underlying5 Tryz.underlying9 (fun j hj => by
    have e1 : (Addr.add ⟨g, 0, none⟩ j) = ⟨g, j, none⟩ := by unfold Addr.add; split <;> simp_all
    rw [e1, cell_block h]
    simp [hj])

set_option maxRecDepth 100000 in
set_option maxHeartbeats 4000000 in
theorem message_any (k p q sym : Nat) (hk : k < 256) (hp : p < 256) (hq : q < 256) (hs : sym < 1099511627776) (w : World) :
    Calls Tryz.prog 93 #[.agg #[.int .i64 (k : Int), .int .i64 (p : Int), .int .i64 (q : Int)], .int .i64 (sym : Int)] w fun e w' => e = .returned (.string (bytesOf (msgL k p q sym))) ∧ Below w.heap.size w w' := by
  have HM : Hid (msgL k p q sym = sealL ([UInt8.ofNat k, UInt8.ofNat p, UInt8.ofNat q] ++ vint sym)) := by exact rfl
  have e1 := byteV_ofNat k hk
  have e2 := byteV_ofNat p hp
  have e3 := byteV_ofNat q hq
  have hw1 := u8wrap k hk
  have hw2 := u8wrap p hp
  have hw3 := u8wrap q hq
  generalize UInt8.ofNat k = bk at e1 HM
  generalize UInt8.ofNat p = bp at e2 HM
  generalize UInt8.ofNat q = bq at e3 HM
  have hconv : (convert 171 9 (.slice (some ⟨w.heap.size + 1, 0, none⟩) 3 3)).run Tryz.prog ((w.alloc (.cells #[.int .i64 (k : Int), .int .i64 (p : Int), .int .i64 (q : Int)] 157)).alloc (.cells #[.int .u8 (k : Int), .int .u8 (p : Int), .int .u8 (q : Int)] 5)) = .ok (.string (bytesOf [bk, bp, bq])) ((w.alloc (.cells #[.int .i64 (k : Int), .int .i64 (p : Int), .int .i64 (q : Int)] 157)).alloc (.cells #[.int .u8 (k : Int), .int .u8 (p : Int), .int .u8 (q : Int)] 5)) := by
    refine conv_new _ (w.heap.size + 1) [bk, bp, bq] 5 ?_
    have : ([bk, bp, bq].map byteV).toArray = #[.int .u8 (k : Int), .int .u8 (p : Int), .int .u8 (q : Int)] := by rw [← e1, ← e2, ← e3]; rfl
    rw [this]
    exact alloc2_new _ _ _
  have g1 := enters_of Tryz.func139 (P := Tryz.prog) (by kernel_rfl) rfl
  have g2 := enters_of Tryz.func140 (P := Tryz.prog) (by kernel_rfl) rfl
  clear e1 e2 e3
  go_enter Tryz.func93, Tryz.ntmps93
  go_wp2_with fail
  clear hconv hw1 hw2 hw3
  refine calls_gen (fun W => Below w.heap.size w W) (by go_grown) (fun W0 hb0 => ?_)
  refine (writer_any (bytesOf [bk, bp, bq]) (by show (#[bk, bp, bq] : Array UInt8).size ≤ _; simp) W0).mono ?_
  rintro e w1 ⟨B, u, rfl, hB, hu, hbB, hb1⟩
  have hu' : OwnT w1 W0.heap.size 5 1 u [bk, bp, bq].length ([bk, bp, bq].map byteV) := hu
  have HB := Lib.hid hB
  have HU := Lib.hid hu'
  clear hB hu hu'
  have hbw1 := ext_trans hb0 hb1
  have hs1 := hb1.size
  go_wp2_with fail
  refine calls_gen (fun V => Below w1.heap.size w1 V ∧ V.heap[w1.heap.size]? = some (.cells #[.int .i64 (sym : Int)] 3)) ⟨by go_grown, alloc_new _ _⟩ (fun V hV => ?_)
  obtain ⟨hbV, hL⟩ := hV
  refine (writer1_any sym hs w1.heap.size B W0.heap.size u [bk, bp, bq] (by simp) V hL (block_up hbV HB.out) (HU.out.up hbV) hbB (by have := hbV.size; omega)).mono ?_
  rintro e w2 ⟨⟨x, rfl⟩, u', hB2, hu2, hb2⟩
  have HU2 := Lib.hid hu2
  have hbw2 : Below W0.heap.size W0 w2 := (hb1.trans (hbV.mono hs1)).trans hb2
  obtain ⟨au, cu, rfl⟩ := hu2.slice
  have hw2 := writer2_any B _ w2 ⟨_, _, _, rfl⟩ hB2
  have HW2 := Lib.hid hw2
  clear hw2 hu2 hB2 hL
  go_wp2_with fail
  refine HW2.out.mono ?_
  rintro e w3 ⟨rfl, rfl⟩
  go_wp2_with fail
  refine (sealed_any _ _ W0.heap.size w2 HU2.out (by simp) (by have := vint_len sym (by omega); simp; omega) hbw2.size).mono ?_
  rintro e w4 ⟨rfl, hb4⟩
  go_wp2_with fail
  go_ret
  exact ⟨by rw [HM.out]; rfl, ext_trans hb0 (hbw2.trans hb4)⟩

set_option maxRecDepth 100000 in
set_option maxHeartbeats 4000000 in
theorem placeCheck_any (m : Mac) (n r : Nat) (g : Good m n r) (hc : checkE m = 0) (vf vy vt vo : Value) (k p q : Nat) (hk : k < r) (hp : p < n) (hq : q < n) (hpq : p ≠ q) (w : World) (hf : IsVecs w vf m.first) (hy : IsV4 w vy m.syms) (ht : IsSteps w vt m.steps) (ho : IsV3 w vo m.out) :
    Calls Tryz.prog 91 #[.agg #[.int .i64 (k : Int), .int .i64 (p : Int), .int .i64 (q : Int)], .agg (macC m vf vy vt vo)] w fun e w' => e = .returned (.int .i64 0) ∧ Below w.heap.size w w' := by
  have HCK := Lib.hid (fun W (hb : Below w.heap.size w W) => macCheck_any m vf vy vt vo W (hf.up up_ints hb) (hy.up up_v3 hb) (ht.up up_step hb) (ho.up up_vecs hb))
  rw [hc] at HCK
  obtain ⟨pf, cf, rfl, _⟩ := hf.at
  obtain ⟨py, cy, rfl, _⟩ := hy.at
  obtain ⟨pt, ct, rfl, _⟩ := ht.at
  obtain ⟨po, co, rfl, _⟩ := ho.at
  have hr1 : ¬ m.rounds ≤ (k : Int) := by rw [g.hr]; omega
  have hn1 : ¬ m.n ≤ (p : Int) := by rw [g.hn]; omega
  have hn2 : ¬ m.n ≤ (q : Int) := by rw [g.hn]; omega
  have hpq1 : ¬ (p : Int) = (q : Int) := by omega
  have hpq2 : ((p : Int) == (q : Int)) = false := by simpa using hpq1
  clear hf hy ht ho g hc
  go_enter Tryz.func91, Tryz.ntmps91
  go_wp2_with fail
  refine calls_gen (fun W => Below w.heap.size w W ∧ W.heap[w.heap.size]? = some (.cells #[.int .i64 (k : Int), .int .i64 (p : Int), .int .i64 (q : Int)] 157) ∧ W.heap[w.heap.size + 1]? = some (.cells (macC m (.slice pf m.first.length cf) (.slice py m.syms.length cy) (.slice pt m.steps.length ct) (.slice po m.out.length co)) 35)) ⟨by go_grown, alloc_old _ (alloc_new _ _), alloc2_new _ _ _⟩ (fun W0 hW0 => ?_)
  obtain ⟨hb0, hP, hM⟩ := hW0
  refine (HCK.out W0 hb0).mono ?_
  rintro e w1 ⟨rfl, hb1⟩
  have t1 := cell_block (block_up hb1 hP)
  have t2 := cell_block (block_up hb1 hM)
  clear hP hM
  go_wp2_with fail
  go_ret
  exact ⟨rfl, ext_trans hb0 hb1⟩

set_option maxRecDepth 100000 in
set_option maxHeartbeats 4000000 in
theorem encode_any (m : Mac) (n r : Nat) (g : Good m n r) (hc : checkE m = 0) (vf vy vt vo : Value) (k p q s : Nat) (hk : k < r) (hp : p < n) (hq : q < n) (hpq : p ≠ q) (hs : s < (((m.syms.getD k []).getD p []).getD q []).length) (w : World) (hf : IsVecs w vf m.first) (hy : IsV4 w vy m.syms) (ht : IsSteps w vt m.steps) (ho : IsV3 w vo m.out) :
    Calls Tryz.prog 57 #[.agg (macC m vf vy vt vo), .int .i64 (k : Int), .int .i64 (p : Int), .int .i64 (q : Int), .int .i64 (s : Int)] w fun e w' => e = .returned (.tuple #[.string (bytesOf (msgL k p q (symS m k p q s).toNat)), .int .i64 0]) ∧ Below w.heap.size w w' := by
  have HCK := Lib.hid (fun W (hb : Below w.heap.size w W) => placeCheck_any m n r g hc vf vy vt vo k p q hk hp hq hpq W (hf.up up_ints hb) (hy.up up_v3 hb) (ht.up up_step hb) (ho.up up_vecs hb))
  have hsr := g.symr k p q s hk hp hq hs
  have hn5 := g.n5
  have hr6 := g.r6
  obtain ⟨pf, cf, rfl, _⟩ := hf.at
  obtain ⟨pt, ct, rfl, _⟩ := ht.at
  obtain ⟨po, co, rfl, _⟩ := ho.at
  have HSY := Lib.hid (fun W (hb : Below w.heap.size w W) => symbols_any m n r g pf m.first.length cf vy pt m.steps.length ct po m.out.length co k p q hk hp hq W (hy.up up_v3 hb))
  obtain ⟨py, cy, rfl, _⟩ := hy.at
  have HSS : Hid (symS m k p q s = (((m.syms.getD k []).getD p []).getD q []).getD s 0) := by (have h : symS m k p q s = (((m.syms.getD k []).getD p []).getD q []).getD s 0 := by (unfold symS; rw [Int.toNat_natCast])); exact h
  generalize ((m.syms.getD k []).getD p []).getD q [] = l at hs hsr HSY HSS
  clear hf hy ht ho g hc
  go_enter Tryz.func57, Tryz.ntmps57
  go_wp2_with fail
  refine calls_gen (fun W => Below w.heap.size w W ∧ W.heap[w.heap.size]? = some (.cells (macC m (.slice pf m.first.length cf) (.slice py m.syms.length cy) (.slice pt m.steps.length ct) (.slice po m.out.length co)) 35) ∧ W.heap[w.heap.size + 1]? = some (.cells #[.int .i64 (k : Int), .int .i64 (p : Int), .int .i64 (q : Int)] 157)) ⟨by go_grown, alloc_old _ (alloc_new _ _), alloc2_new _ _ _⟩ (fun W0 hW0 => ?_)
  obtain ⟨hb0, hM, hP⟩ := hW0
  have HM := Lib.hid hM
  have HP := Lib.hid hP
  clear hM hP
  refine (HCK.out W0 hb0).mono ?_
  rintro e w1 ⟨rfl, hb1⟩
  have t1 := cell_block (block_up hb1 HM.out)
  have t2 := cell_block (block_up hb1 HP.out)
  have hbw1 := ext_trans hb0 hb1
  go_wp2_with fail
  refine (HSY.out w1 hbw1).mono ?_
  rintro e w2 ⟨v, rfl, hv, hb2⟩
  have hbw2 := ext_trans hbw1 hb2
  clear t1 t2
  obtain ⟨pv, cv, rfl, lv1, lv2, ev⟩ := hv.at
  obtain ⟨b1, o1, rfl, c1, _⟩ := ev s hs
  rw [Nat.mul_one] at c1
  have HG := Lib.hid (getD_of_lt 0 hs)
  rw [getD_of_lt 0 hs] at hsr
  obtain ⟨sy, hsy⟩ : ∃ sy : Nat, l[s] = sy := ⟨l[s].toNat, by omega⟩
  have HSY2 : Hid ((symS m k p q s).toNat = sy) := by (have h : (symS m k p q s).toNat = sy := by (rw [HSS.out, HG.out, hsy, Int.toNat_natCast])); exact h
  rw [hsy] at c1 hsr
  have q1 : ∀ y : ExtW w2, ∀ o, y.val.cell? ⟨w.heap.size + 1, o, none⟩ = _ := fun y => cell_block (block_up (ext_trans (ext_trans hb1 hb2) y.ext) HP.out)
  have q2 : ∀ y : ExtW w2, y.val.cell? ⟨b1, o1 + s, none⟩ = _ := fun y => y.cell c1
  have HCALL := Lib.hid (show ∀ y : ExtW w2, Calls Tryz.prog 93 #[.agg #[.int .i64 (k : Int), .int .i64 (p : Int), .int .i64 (q : Int)], .int .i64 (sy : Int)] y.val fun e w'' => e = .returned (.string (bytesOf (msgL k p q sy))) ∧ ∃ z : ExtW w2, w'' = z.val from fun y => Calls.ext_of (message_any k p q sy (by omega) (by omega) (by omega) (by omega) _))
  clear hv ev c1 hsy HG
  go_wp2_with fail
  refine wp_region_quiet_ext (by kernel_rfl) (by kernel_rfl) ?_
  repeat (go_big_quiet_step ((go_at_call 93; with_reducible exact HCALL.out _)))
  refine wpQuiet_nil ?_
  intro _ hw'
  obtain ⟨xq, hw''⟩ := hw'
  subst hw''
  clear q1 q2
  go_wp2_with fail
  go_ret2
  exact ⟨by rw [HSY2.out]; rfl, ext_trans hbw2 xq.ext⟩
end Go.Proofs.YtjmejfgkogjpaaaGreat

namespace Go.Proofs.YtjmejfgkogjpaaaGreat
open Go.RowKit Go Go.Shelf

theorem flat_at {α : Type} (c : α → Array Value) (k : Nat) (hc : ∀ x, (c x).size = k) (xs : List α) (i j : Nat) (hi : i < xs.length) (hj : j < k) : (xs.flatMap fun x => (c x).toList)[i * k + j]? = (c xs[i])[j]? := by
  induction xs generalizing i with
  | nil => simp at hi
  | cons x r ih =>
    rw [List.flatMap_cons]
    have hx : (c x).toList.length = k := by rw [Array.length_toList, hc]
    cases i with
    | zero =>
      rw [List.getElem?_append_left (by omega)]
      simp
    | succ i =>
      rw [List.getElem?_append_right (by rw [hx, Nat.succ_mul]; omega)]
      have := ih i (by simpa using hi)
      simp only [List.getElem_cons_succ]
      rw [← this, hx]
      congr 1
      rw [Nat.succ_mul]; omega
def flatR (xs : List Rd) : List Value := xs.flatMap fun r => r.c.toList
theorem flatR_len (xs : List Rd) : (flatR xs).length = xs.length * 7 := by
  unfold flatR
  induction xs with
  | nil => rfl
  | cons x r ih => rw [List.flatMap_cons, List.length_append, ih]; simp; omega
theorem flatR_one (xs : List Rd) : ∀ u ∈ flatR xs, u.oneCell' = true := by
  intro u hu
  unfold flatR at hu
  rw [List.mem_flatMap] at hu
  obtain ⟨r, _, hr⟩ := hu
  simp at hr
  rcases hr with rfl | rfl | rfl | rfl | rfl | rfl | rfl <;> rfl
theorem word_cell {w : World} {v : Value} {l : List Rd} (h : IsWord w v l) (j : Nat) (u : Value) (hu : (flatR l)[j]? = some u) : ∃ b o c, v = .slice (some ⟨b, o, none⟩) l.length c ∧ w.cell? ⟨b, o + j, none⟩ = some u := by
  have hj := (List.getElem?_eq_some_iff.1 hu).1
  rw [flatR_len] at hj
  obtain ⟨i, s, hs, rfl⟩ : ∃ i s, s < 7 ∧ j = i * 7 + s := ⟨j / 7, j % 7, by omega, by omega⟩
  have hi : i < l.length := by omega
  unfold flatR at hu
  rw [flat_at Rd.c 7 (fun _ => rfl) l i s hi hs] at hu
  obtain ⟨a, cap, rfl, _, _, e⟩ := h.at
  obtain ⟨b, o, rfl, ⟨c0, _⟩, ⟨c1, _⟩, ⟨c2, _⟩, ⟨c3, _⟩, ⟨c4, _⟩, ⟨c5, _⟩, ⟨c6, _⟩⟩ := e i hi
  refine ⟨b, o, cap, rfl, ?_⟩
  rw [← Nat.add_assoc]
  rcases (show s = 0 ∨ s = 1 ∨ s = 2 ∨ s = 3 ∨ s = 4 ∨ s = 5 ∨ s = 6 by omega) with rfl | rfl | rfl | rfl | rfl | rfl | rfl <;> (simp at hu; subst hu; first | exact c0 | exact c1 | exact c2 | exact c3 | exact c4 | exact c5 | exact c6)
theorem word_in {w : World} {v : Value} {l : List Rd} (h : IsWord w v l) (i : Nat) (hi : i < l.length) : InR l[i].g.n ∧ InR l[i].g.h0 ∧ InR l[i].g.h1 ∧ InR l[i].g.h2 ∧ InR l[i].g.h3 ∧ InR l[i].g.h4 ∧ InR l[i].f := by
  obtain ⟨a, cap, rfl, _, _, e⟩ := h.at
  obtain ⟨b, o, rfl, ⟨_, c0⟩, ⟨_, c1⟩, ⟨_, c2⟩, ⟨_, c3⟩, ⟨_, c4⟩, ⟨_, c5⟩, ⟨_, c6⟩⟩ := e i hi
  exact ⟨c0, c1, c2, c3, c4, c5, c6⟩
theorem own_word {w : World} {base : Nat} {v : Value} {l : List Rd} (h : OwnT w base 64 7 v l.length (flatR l)) (hx : ∀ i (hi : i < l.length), InR l[i].g.n ∧ InR l[i].g.h0 ∧ InR l[i].g.h1 ∧ InR l[i].g.h2 ∧ InR l[i].g.h3 ∧ InR l[i].g.h4 ∧ InR l[i].f) (hn : l.length ≤ 17592186044416) : IsWord w v l := by
  have hall := fun i (hi : i < l.length) j (u : Value) (hj : j < 7) (hu : l[i].c[j]? = some u) => h.cell (i * 7 + j) u (by unfold flatR; rw [flat_at Rd.c 7 (fun _ => rfl) l i j hi hj]; exact hu)
  rcases h.2 with ⟨rfl, hz⟩ | ⟨g, cap, cur, fz, rfl, _, hg, _, hc1, hc2, _, _⟩
  · refine ⟨none, 0, by rw [hz], ⟨by omega, by omega, fun _ => rfl⟩, hn, fun i x hi => ?_⟩
    have := (List.getElem?_eq_some_iff.1 hi).1
    omega
  · refine ⟨some ⟨g, 0, none⟩, cap, rfl, ⟨hc1, by simp only [maxLen] at hc2; omega, fun e => by cases e⟩, hn, fun i x hi => ⟨g, 0, rfl, ?_⟩⟩
    obtain ⟨hil, rfl⟩ := List.getElem?_eq_some_iff.1 hi
    obtain ⟨r0, r1, r2, r3, r4, r5, r6⟩ := hx i hil
    have key : ∀ j u, j < 7 → l[i].c[j]? = some u → w.cell? ⟨g, 0 + i * 7 + j, none⟩ = some u := fun j u hj hu => by
      obtain ⟨g', c', e1, e2⟩ := hall i hil j u hj hu
      have : g = g' := by simp at e1; exact e1.1
      rw [this, Nat.zero_add]; exact e2
    exact ⟨⟨key 0 _ (by omega) rfl, r0⟩, ⟨key 1 _ (by omega) rfl, r1⟩, ⟨key 2 _ (by omega) rfl, r2⟩, ⟨key 3 _ (by omega) rfl, r3⟩, ⟨key 4 _ (by omega) rfl, r4⟩, ⟨key 5 _ (by omega) rfl, r5⟩, ⟨key 6 _ (by omega) rfl, r6⟩⟩
theorem Tryz.infoRound : (Tryz.prog.info? 64).map (fun i => (i.zero, i.size, i.bytes)) = some (some (.agg #[.int .i64 0, .int .i64 0, .int .i64 0, .int .i64 0, .int .i64 0, .int .i64 0, .int .i64 0]), 7, 56) := by kernel_rfl

set_option maxRecDepth 100000 in
set_option maxHeartbeats 1000000 in
theorem cloneWord_any (v : Value) (l : List Rd) (w : World) (hv : IsWord w v l) (hn : l.length ≤ 1048576) :
    Calls Tryz.prog 55 #[v] w fun e w' => ∃ u, e = .returned u ∧ IsWord w' u l ∧ Below w.heap.size w w' := by
  obtain ⟨i0, hi, hz0, hz1, hz2⟩ := info_parts Tryz.infoRound
  have HW := Lib.hid (word_cell hv)
  have HIN := Lib.hid (word_in hv)
  have heq := fun w => Lib.run_eql_slice_nil (P := Tryz.prog) w 37
  obtain ⟨a, cap, rfl, ⟨_, _, hnil⟩, _, _⟩ := hv
  cases a with
  | none =>
    have hl : l.length = 0 := by have := hnil rfl; omega
    obtain rfl : l = [] := List.eq_nil_of_length_eq_zero hl
    obtain rfl := hnil rfl
    go_enter Tryz.func55, Tryz.ntmps55
    go_wp2_with fail
    go_ret
    exact ⟨_, rfl, ⟨none, 0, rfl, ⟨by simp, by omega, fun _ => rfl⟩, by simp, fun i x hx => by simp at hx⟩, Below.refl _ _⟩
  | some ad =>
    have hnews : ∀ j u, (flatR l)[j]? = some u → (w.alloc (.cells #[] 64)).cell? (ad.add j) = some u := fun j u hj => by
      obtain ⟨b, o, c, e, hcell⟩ := HW.out j u hj
      have : ad = ⟨b, o, none⟩ := by simp at e; exact e.1
      subst this
      have : (Addr.add ⟨b, o, none⟩ j) = ⟨b, o + j, none⟩ := by unfold Addr.add; split <;> simp_all
      rw [this]; exact cell_up (by go_grown) hcell
    have hown : OwnT (w.alloc (.cells #[] 64)) w.heap.size 64 7 (.slice (some ⟨w.heap.size, 0, none⟩) 0 0) 0 [] := ⟨by simp, .inr ⟨w.heap.size, 0, #[], (0, 0), rfl, Nat.le_refl _, alloc_new _ _, fun i hi => by simp at hi, by omega, by simp [maxLen], by simp, by simp⟩⟩
    have HNEWS := Lib.hid hnews
    have HOWN := Lib.hid hown
    clear hnews hown hnil
    go_enter Tryz.func55, Tryz.ntmps55
    go_wp2_with (at_builtin; (refine wpList_append_T _ rfl (.tmp 5) (.tmp 6) 37 rfl w.heap.size 64 i0 _ 7 56 Tryz.underlying37 hi hz0 hz1 hz2 rfl (by decide) _ 0 [] rfl HOWN.out ad l.length cap (flatR l) rfl (flatR_len l) HNEWS.out (flatR_one l) (by unfold maxLen; omega) (by omega) (by simp) ?_; intro v' w1 hown1 hgrow1 _; obtain ⟨av', cv', rfl⟩ := hown1.slice))
    go_ret
    rw [Nat.zero_add, List.nil_append] at hown1
    refine ⟨_, rfl, own_word (by simpa using hown1) HIN.out (by omega), Below.grown (w := w.alloc (.cells #[] 64)) (by go_grown) hgrow1 (by simp) (fun k hk => ?_)⟩
    cases hk; exact Nat.le_refl _
end Go.Proofs.YtjmejfgkogjpaaaGreat

namespace Go.Proofs.YtjmejfgkogjpaaaGreat
open Go.RowKit Go Go.Shelf
attribute [local go_sem] Oper.semAt_some

theorem SeqMk.conv {P : Program} {g : Nat} {lb : Array Value} {E E' : Nat → Array Value → (Nat → Prop) → World → Prop} {N : Nat} {S : Nat → Prop} {w : World} (h : SeqMk P g lb E N S w) (hE : ∀ i args T W, i < N → E i args T W → E' i args T W) : SeqMk P g lb E' N S w := by
  intro l J Jx W hW hl hJ hJx hY h0
  exact h l J Jx W hW hl hJ hJx (fun i T W1 args hi he hj => hY i T W1 args hi (hE i args T W1 hi he) hj) h0
theorem SeqMk.later {P : Program} {g : Nat} {lb : Array Value} {E : Nat → Array Value → (Nat → Prop) → World → Prop} {N : Nat} {S : Nat → Prop} {w w' : World} (h : SeqMk P g lb E N S w) (hb : Below w.heap.size w w') : SeqMk P g lb E N S w' :=
  fun l J Jx W hW => h l J Jx W (ext_trans hb hW)
theorem flatM_at (xs : List Msg) (i j : Nat) (hi : i < xs.length) (hj : j < 4) : (flatM xs)[i * 4 + j]? = xs[i].c[j]? := by
  unfold flatM
  induction xs generalizing i with
  | nil => simp at hi
  | cons x r ih =>
    rw [List.flatMap_cons]
    cases i with
    | zero =>
      rw [List.getElem?_append_left (by simp; omega)]
      simp
    | succ i =>
      rw [List.getElem?_append_right (by simp; omega)]
      have := ih i (by simpa using hi)
      simp only [List.getElem_cons_succ]
      rw [← this]
      congr 1
      simp; omega
theorem own_msgs {w : World} {base : Nat} {v : Value} {xs : List Msg} (h : OwnT w base 58 4 v xs.length (flatM xs)) (hx : ∀ x ∈ xs, InR x.rd ∧ InR x.fr ∧ InR x.to ∧ x.bs.size ≤ 140737488351232) (hn : xs.length ≤ 17592186044416) : IsMsgs w v xs := by
  have hall := fun i (hi : i < xs.length) j (u : Value) (hj : j < 4) (hu : xs[i].c[j]? = some u) => h.cell (i * 4 + j) u (by rw [flatM_at xs i j hi hj]; exact hu)
  rcases h.2 with ⟨rfl, hz⟩ | ⟨g, cap, cur, fz, rfl, _, hg, _, hc1, hc2, _, _⟩
  · refine ⟨none, 0, by rw [hz], ⟨by omega, by omega, fun _ => rfl⟩, hn, fun i x hi => ?_⟩
    have := (List.getElem?_eq_some_iff.1 hi).1
    omega
  · refine ⟨some ⟨g, 0, none⟩, cap, rfl, ⟨hc1, by simp only [maxLen] at hc2; omega, fun e => by cases e⟩, hn, fun i x hi => ⟨g, 0, rfl, ?_⟩⟩
    obtain ⟨hil, rfl⟩ := List.getElem?_eq_some_iff.1 hi
    obtain ⟨r1, r2, r3, r4⟩ := hx _ (List.getElem_mem hil)
    have key : ∀ j u, j < 4 → xs[i].c[j]? = some u → w.cell? ⟨g, 0 + i * 4 + j, none⟩ = some u := fun j u hj hu => by
      obtain ⟨g', c', e1, e2⟩ := hall i hil j u hj hu
      have : g = g' := by simp at e1; exact e1.1
      rw [this, Nat.zero_add]; exact e2
    exact ⟨⟨key 0 _ (by omega) rfl, r1⟩, ⟨key 1 _ (by omega) rfl, r2⟩, ⟨key 2 _ (by omega) rfl, r3⟩, key 3 _ (by omega) rfl, r4⟩
def plM (x : Nat × Nat × Nat) : Msg := ⟨x.1, x.2.1, x.2.2, ⟨#[]⟩⟩
theorem placesL_mem {n : Nat} {word : List Rd} {x : Nat × Nat × Nat} (h : x ∈ placesL n word) : x.1 < word.length ∧ x.2.1 < n ∧ x.2.2 < n := by
  unfold placesL placesTo filtR at h
  rw [List.mem_filterMap] at h
  obtain ⟨j, hj, hx⟩ := h
  rw [List.mem_range] at hj
  unfold placeAt at hx
  split at hx
  · rename_i hc
    cases hx
    exact ⟨by dsimp only; omega, hc.1, hc.2.1⟩
  · cases hx
theorem placesL_len (n : Nat) (word : List Rd) : (placesL n word).length ≤ word.length * 25 := by
  unfold placesL placesTo filtR
  exact Nat.le_trans (List.length_filterMap_le _ _) (by simp)

theorem byteI_lt (b : ByteArray) (i : Nat) : 0 ≤ byteI b i ∧ byteI b i < 256 := by
  unfold byteI
  have := byte_lt (b.data.toList.getD i 0)
  omega
theorem extract_list (b : ByteArray) (q : Nat) (h : q ≤ b.size) : (b.extract 0 q).data.toList = b.data.toList.take q := by
  simp [ByteArray.extract, ByteArray.copySlice]
theorem extract_size (b : ByteArray) (q : Nat) (h : q ≤ b.size) : (b.extract 0 q).size = q := by
  have := congrArg List.length (extract_list b q h)
  simp only [Array.length_toList, List.length_take] at this
  have h2 : b.data.size = b.size := rfl
  show (b.extract 0 q).data.size = q
  omega
theorem index_run (b : ByteArray) (i : Nat) (hi : i < b.size) (w : World) : (Instr.index 9 (.string b) (.int .i64 (i : Int))).run Tryz.prog w = .ok (.int .u8 (byteI b i)) w := by
  rw [run_index_string w _ b _ _ Tryz.underlying9, dif_pos (by omega)]
  congr 2
  unfold byteI
  have := bytes_get b i hi
  rw [← this]
  simp
  rfl
theorem slice_run (b : ByteArray) (q : Nat) (hq : q ≤ b.size) (w : World) : (Instr.slice 9 (.string b) none (some (.int .i64 (q : Int))) none).run Tryz.prog w = .ok (.string (b.extract 0 q)) w := by
  have := run_slice_string_h w 9 b Tryz.underlying9 .i64 (q : Int) (by omega) (by omega)
  simpa using this
theorem corrupt_eq (b : ByteArray) (q : Nat) (hq : b.size = q + 2) (h4 : 4 ≤ q) : corruptB b = decide ((ckS (b.data.toList.take q) : Int) ≠ byteI b q * 256 + byteI b (q + 1)) := by
  unfold corruptB
  rw [hq, show decide (q + 2 < 6) = false by simp; omega]
  simp

set_option maxRecDepth 100000 in
set_option maxHeartbeats 8000000 in
theorem checkMessages_any (t : Tr) (vi vw vs vm vd vt : Value) (w : World) (ht : IsTr w t vi vw vs vm vd vt) (h5 : t.inp.length ≤ 5) (h6 : t.word.length ≤ 6) :
    Calls Tryz.prog 44 #[.agg (trC vi vw vs vm vd vt)] w fun e w' => e = .returned (.int .i64 (messagesE t)) ∧ Below w.heap.size w w' := by
  have HT := Lib.hid ht
  obtain ⟨hi, hw, hs, hm, hd, htt⟩ := ht
  obtain ⟨pi, ci, rfl, li1, li2, _⟩ := hi.at
  obtain ⟨pw, cw, rfl, lw1, lw2, _⟩ := hw.at
  obtain ⟨ps, cs, rfl, ls1, ls2, _⟩ := hs.at
  obtain ⟨pm, cm, rfl, lm1, lm2, em⟩ := hm.at
  obtain ⟨pd, cd, rfl, _⟩ := hd.at
  obtain ⟨pt, ct, rfl, _⟩ := htt.at
  have EM := Lib.hid em
  clear hi hw hs hm hd htt em
  obtain ⟨L, hL⟩ : ∃ L, L = placesL t.inp.length t.word := ⟨_, rfl⟩
  have HV : Hid (messagesE t = if L.length ≠ t.msgs.length then 15 else firstNZ t.msgs.length (messE t)) := by (have h : messagesE t = if L.length ≠ t.msgs.length then 15 else firstNZ t.msgs.length (messE t) := by (rw [hL]; rfl)); exact h
  have hLl : L.length ≤ 150 := by rw [hL]; have := placesL_len t.inp.length t.word; omega
  have HLM : Hid (∀ x ∈ L, x.1 < 6 ∧ x.2.1 < 5 ∧ x.2.2 < 5) := by (have h : ∀ x ∈ L, x.1 < 6 ∧ x.2.1 < 5 ∧ x.2.2 < 5 := fun x hx => by (rw [hL] at hx; have := placesL_mem hx; omega)); exact h
  have HL := Lib.hid hL; clear hL
  go_enter Tryz.func44, Tryz.ntmps44
  go_wp2_with fail
  refine (places_any _ _ _ _ _).mono ?_
  rintro e w1 ⟨rfl, rfl⟩
  go_wp2_with fail
  refine calls_gen (fun W => Below w.heap.size w W ∧ W.heap[w.heap.size]? = some (.cells (trC (.slice pi t.inp.length ci) (.slice pw t.word.length cw) (.slice ps t.states.length cs) (.slice pm t.msgs.length cm) (.slice pd t.dec.length cd) (.slice pt t.times.length ct)) 40) ∧ W.heap[w.heap.size + 1]? = some (.cells #[.int .i64 t.inp.length] 3) ∧ W.heap[w.heap.size + 1 + 1]? = some (.cells #[.slice pw t.word.length cw] 37))
    ⟨by go_grown, alloc_old _ (alloc_old _ (alloc_new _ _)), alloc_old _ (alloc2_new _ _ _), alloc3_new _ _ _ _⟩ (fun W0 hW0 => ?_)
  obtain ⟨hb0, hT0, hN0, hX0⟩ := hW0
  have hsz := block_lt hX0
  have hseq := (places1_seq w _ t.word HT.out.word t.inp.length h5 W0 hb0 (w.heap.size + 1 + 1) (w.heap.size + 1) (by simp [cell_block hX0]) hN0).conv (E' := fun i args _ _ => args = #[.agg ((L.map plM).getD i default).c]) (fun i args _ _ hi h => by
    rw [h, HL.out, List.getD_eq_getElem?_getD, List.getD_eq_getElem?_getD, List.getElem?_map, List.getElem?_eq_getElem hi]; rfl)
  have hlenL : (placesL t.inp.length t.word).length = (L.map plM).length := by rw [List.length_map, HL.out]
  rw [hlenL] at hseq
  refine (collectM_any 90 _ (enters_of Tryz.func90 (by kernel_rfl) rfl) (L.map plM) (by rw [List.length_map]; omega) _ W0 hseq (fun k hk => by rcases hk with hk | hk; have := hb0.size; omega; omega)).mono ?_
  rintro e w1 ⟨v, rfl, hv, hb1⟩
  have hdue := own_msgs hv (fun x hx => by
    obtain ⟨y, hy, rfl⟩ := List.mem_map.1 hx
    have := HLM.out y hy
    refine ⟨?_, ?_, ?_, ?_⟩ <;> simp [plM, InR, ByteArray.size] <;> omega) (by rw [List.length_map]; omega)
  obtain ⟨pv, cv, rfl, lv1, lv2, ev⟩ := hdue.at
  rw [List.length_map] at *
  have EV := Lib.hid ev
  have HT0 := Lib.hid (block_up hb1 hT0)
  have hb01 := ext_trans hb0 hb1
  clear hlenL hdue hv hseq hT0 hN0 hX0 ev
  have t1 := cell_block HT0.out
  by_cases hlen : L.length = t.msgs.length
  case neg =>
    have HV1 : Hid (messagesE t = 15) := by (have h : messagesE t = 15 := by (rw [HV.out, if_pos hlen])); exact h
    have d1 : ((L.length : Int) != (t.msgs.length : Int)) = true := by simp; omega
    go_wp2_with fail
    go_ret
    exact ⟨ret_int HV1.out.symm, hb01⟩
  have HV1 : Hid (messagesE t = firstNZ t.msgs.length (messE t)) := by (have h : messagesE t = firstNZ t.msgs.length (messE t) := by (rw [HV.out, if_neg (by omega)])); exact h
  have d1 : ((L.length : Int) != (t.msgs.length : Int)) = false := by simp; omega
  have HLEN := Lib.hid hlen
  clear hlen HV
  go_wp2_with fail
  clear t1 d1
  go_loopw [23] (fun i wr => Below w1.heap.size w1 wr ∧ ∃ k : Nat, k ≤ t.msgs.length ∧ i = .int .i64 k ∧ ∀ j, j < k → messE t j = 0) (fun i _ => t.msgs.length - (intOf i).toNat)
  case atStart => exact ⟨Below.refl _ _, 0, by omega, rfl, by simp⟩
  case round =>
    obtain ⟨hbr, k, hk, rfl, hinv⟩ := hrel
    have H := Lib.hid hinv; clear hinv
    have hbW := ext_trans hb01 hbr
    by_cases hlt : k < t.msgs.length
    · have hltL : k < L.length := by have := HLEN.out; omega
      obtain ⟨b1, o1, rfl, ⟨c0, _⟩, ⟨c1, _⟩, ⟨c2, _⟩, c3, hbs⟩ := EM.out k hlt
      obtain ⟨b2, o2, rfl, ⟨e0, _⟩, ⟨e1, _⟩, ⟨e2, _⟩, e3, _⟩ := EV.out k (by rw [List.length_map]; exact hltL)
      rw [List.getElem_map] at e0 e1 e2 e3
      have HE : Hid (messE t k = if t.msgs[k].rd ≠ L[k].1 ∨ t.msgs[k].fr ≠ L[k].2.1 ∨ t.msgs[k].to ≠ L[k].2.2 then 14 else if corruptB t.msgs[k].bs then 24 else if byteI t.msgs[k].bs 0 ≠ t.msgs[k].rd ∨ byteI t.msgs[k].bs 1 ≠ t.msgs[k].fr ∨ byteI t.msgs[k].bs 2 ≠ t.msgs[k].to then 22 else 0) := by
        (have h : messE t k = if t.msgs[k].rd ≠ L[k].1 ∨ t.msgs[k].fr ≠ L[k].2.1 ∨ t.msgs[k].to ≠ L[k].2.2 then 14 else if corruptB t.msgs[k].bs then 24 else if byteI t.msgs[k].bs 0 ≠ t.msgs[k].rd ∨ byteI t.msgs[k].bs 1 ≠ t.msgs[k].fr ∨ byteI t.msgs[k].bs 2 ≠ t.msgs[k].to then 22 else 0 := by (unfold messE; rw [← HL.out, getD_of_lt default hlt, getD_of_lt (0, 0, 0) hltL])); exact h
      have d0 := cell_up hbW c0
      have d1 := cell_up hbW c1
      have d2 := cell_up hbW c2
      have d3 := cell_up hbW c3
      have HE0 := Lib.hid (cell_up hbr e0)
      have HE1 := Lib.hid (cell_up hbr e1)
      have HE2 := Lib.hid (cell_up hbr e2)
      clear c0 c1 c2 c3 e0 e1 e2 e3
      generalize t.msgs[k] = m at d0 d1 d2 d3 hbs HE
      generalize L[k] = x at HE0 HE1 HE2 HE
      obtain ⟨x1, x2, x3⟩ := x
      obtain ⟨mrd, mfr, mto, bs⟩ := m
      dsimp only [plM] at HE0 HE1 HE2 HE d0 d1 d2 d3 hbs
      have hsz := block_lt (block_up hbr HT0.out)
      go_wp2_with fail
      refine wp_gen (fun W => Below wr.heap.size wr W ∧ W.heap[wr.heap.size]? = some (.cells (Msg.c ⟨mrd, mfr, mto, bs⟩) 58)) ⟨by go_grown, alloc_new _ _⟩ (fun V hV => ?_)
      obtain ⟨hbV, hmV⟩ := hV
      have HM := Lib.hid hmV
      have hWV := ext_trans hbW hbV
      clear hmV d0 d1 d2 d3 hsz
      have hltv : k < L.length := hltL
      by_cases h1 : mrd = (x1 : Int)
      case neg =>
        have h1' : (mrd != (x1 : Int)) = true := by simpa using h1
        have q1 : ∀ y : ExtW V, ∀ o, y.val.cell? ⟨wr.heap.size, o, none⟩ = _ := fun y => cell_block (block_up y.ext HM.out)
        have q2 : ∀ y : ExtW V, y.val.cell? ⟨b2, o2 + k * 4, none⟩ = some (.int .i64 (x1 : Int)) := fun y => y.cell (cell_up hbV HE0.out)
        have q3 : ∀ y : ExtW V, y.val.cell? ⟨b2, o2 + k * 4 + 1, none⟩ = some (.int .i64 (x2 : Int)) := fun y => y.cell (cell_up hbV HE1.out)
        have q4 : ∀ y : ExtW V, y.val.cell? ⟨b2, o2 + k * 4 + 2, none⟩ = some (.int .i64 (x3 : Int)) := fun y => y.cell (cell_up hbV HE2.out)
        refine wp_region_quiet_ext (by kernel_rfl) (by kernel_rfl) ?_
        repeat (go_big_quiet_step (fail))
        refine wpQuiet_nil ?_
        intro _ hw'
        obtain ⟨xq, hw''⟩ := hw'
        subst hw''
        clear q1 q2 q3 q4
        have HX : Hid (messE t k = 14) := by (have h : messE t k = 14 := by (rw [HE.out, if_pos (Or.inl h1)])); exact h
        go_wp2_with fail
        go_ret
        exact ⟨ret_int (by rw [HV1.out, ← firstNZ_hit k 14 hlt H.out HX.out (by decide)]), ext_trans hWV xq.ext⟩
      subst h1
      by_cases h2 : mfr = (x2 : Int)
      case neg =>
        have h2' : (mfr != (x2 : Int)) = true := by simpa using h2
        have q1 : ∀ y : ExtW V, ∀ o, y.val.cell? ⟨wr.heap.size, o, none⟩ = _ := fun y => cell_block (block_up y.ext HM.out)
        have q2 : ∀ y : ExtW V, y.val.cell? ⟨b2, o2 + k * 4, none⟩ = some (.int .i64 (x1 : Int)) := fun y => y.cell (cell_up hbV HE0.out)
        have q3 : ∀ y : ExtW V, y.val.cell? ⟨b2, o2 + k * 4 + 1, none⟩ = some (.int .i64 (x2 : Int)) := fun y => y.cell (cell_up hbV HE1.out)
        have q4 : ∀ y : ExtW V, y.val.cell? ⟨b2, o2 + k * 4 + 2, none⟩ = some (.int .i64 (x3 : Int)) := fun y => y.cell (cell_up hbV HE2.out)
        refine wp_region_quiet_ext (by kernel_rfl) (by kernel_rfl) ?_
        repeat (go_big_quiet_step (fail))
        refine wpQuiet_nil ?_
        intro _ hw'
        obtain ⟨xq, hw''⟩ := hw'
        subst hw''
        clear q1 q2 q3 q4
        have HX : Hid (messE t k = 14) := by (have h : messE t k = 14 := by (rw [HE.out, if_pos (Or.inr (Or.inl h2))])); exact h
        go_wp2_with fail
        go_ret
        exact ⟨ret_int (by rw [HV1.out, ← firstNZ_hit k 14 hlt H.out HX.out (by decide)]), ext_trans hWV xq.ext⟩
      subst h2
      by_cases h3 : mto = (x3 : Int)
      case neg =>
        have h3' : (mto != (x3 : Int)) = true := by simpa using h3
        have q1 : ∀ y : ExtW V, ∀ o, y.val.cell? ⟨wr.heap.size, o, none⟩ = _ := fun y => cell_block (block_up y.ext HM.out)
        have q2 : ∀ y : ExtW V, y.val.cell? ⟨b2, o2 + k * 4, none⟩ = some (.int .i64 (x1 : Int)) := fun y => y.cell (cell_up hbV HE0.out)
        have q3 : ∀ y : ExtW V, y.val.cell? ⟨b2, o2 + k * 4 + 1, none⟩ = some (.int .i64 (x2 : Int)) := fun y => y.cell (cell_up hbV HE1.out)
        have q4 : ∀ y : ExtW V, y.val.cell? ⟨b2, o2 + k * 4 + 2, none⟩ = some (.int .i64 (x3 : Int)) := fun y => y.cell (cell_up hbV HE2.out)
        refine wp_region_quiet_ext (by kernel_rfl) (by kernel_rfl) ?_
        repeat (go_big_quiet_step (fail))
        refine wpQuiet_nil ?_
        intro _ hw'
        obtain ⟨xq, hw''⟩ := hw'
        subst hw''
        clear q1 q2 q3 q4
        have HX : Hid (messE t k = 14) := by (have h : messE t k = 14 := by (rw [HE.out, if_pos (Or.inr (Or.inr h3))])); exact h
        go_wp2_with fail
        go_ret
        exact ⟨ret_int (by rw [HV1.out, ← firstNZ_hit k 14 hlt H.out HX.out (by decide)]), ext_trans hWV xq.ext⟩
      subst h3
      have HE5 : Hid (messE t k = if corruptB bs then 24 else if byteI bs 0 ≠ x1 ∨ byteI bs 1 ≠ x2 ∨ byteI bs 2 ≠ x3 then 22 else 0) := by (have h : messE t k = if corruptB bs then 24 else if byteI bs 0 ≠ x1 ∨ byteI bs 1 ≠ x2 ∨ byteI bs 2 ≠ x3 then 22 else 0 := by (rw [HE.out, if_neg (by simp)])); exact h
      clear HE
      have q1 : ∀ y : ExtW V, ∀ o, y.val.cell? ⟨wr.heap.size, o, none⟩ = _ := fun y => cell_block (block_up y.ext HM.out)
      have q2 : ∀ y : ExtW V, y.val.cell? ⟨b2, o2 + k * 4, none⟩ = some (.int .i64 (x1 : Int)) := fun y => y.cell (cell_up hbV HE0.out)
      have q3 : ∀ y : ExtW V, y.val.cell? ⟨b2, o2 + k * 4 + 1, none⟩ = some (.int .i64 (x2 : Int)) := fun y => y.cell (cell_up hbV HE1.out)
      have q4 : ∀ y : ExtW V, y.val.cell? ⟨b2, o2 + k * 4 + 2, none⟩ = some (.int .i64 (x3 : Int)) := fun y => y.cell (cell_up hbV HE2.out)
      refine wp_region_quiet_ext (by kernel_rfl) (by kernel_rfl) ?_
      repeat (go_big_quiet_step (fail))
      refine wpQuiet_nil ?_
      intro _ hw'
      obtain ⟨xq, hw''⟩ := hw'
      subst hw''
      clear q1 q2 q3 q4
      have hM2 := block_up xq.ext HM.out
      have hWX := ext_trans hWV xq.ext
      obtain ⟨V2, hV2⟩ : ∃ V2, V2 = xq.val := ⟨_, rfl⟩
      rw [← hV2] at hM2 hWX ⊢
      have HBX : Hid (Below wr.heap.size wr V2) := by (have h : Below wr.heap.size wr V2 := by (rw [hV2]; exact ext_trans hbV xq.ext)); exact h
      have HM2 := Lib.hid hM2
      clear hV2 hM2 HM hbV hWV xq V
      go_wp2_with fail
      by_cases h6' : bs.size < 6
      · have hd1 : decide ((bs.size : Int) - 2 < 4) = true := by simp; omega
        have hd2 : (bs.size : Int) - 2 < 4 := by omega
        have HX : Hid (messE t k = 24) := by (have h : messE t k = 24 := by (rw [HE5.out, show corruptB bs = true by unfold corruptB; simp [h6']]; rfl)); exact h
        refine wp_region_quiet_ext (by kernel_rfl) (by kernel_rfl) ?_
        repeat (go_big_quiet_step (fail))
        refine wpQuiet_nil ?_
        intro _ hw'
        obtain ⟨xq, hw''⟩ := hw'
        subst hw''
        go_wp2_with fail
        go_ret
        exact ⟨ret_int (by rw [HV1.out, ← firstNZ_hit k 24 hlt H.out HX.out (by decide)]), ext_trans hWX xq.ext⟩
      · obtain ⟨q, hq⟩ : ∃ q, bs.size = q + 2 := ⟨bs.size - 2, by omega⟩
        have hq4 : 4 ≤ q := by omega
        have hqq : (bs.size : Int) - 2 = (q : Int) := by omega
        rw [hqq]
        have hd1 : ¬ ((q : Int) < 4) := by omega
        have hd2 : decide ((q : Int) < 4) = false := by simp; omega
        have hcor := corrupt_eq bs q hq hq4
        have hix := index_run bs
        have hsl := slice_run bs q (by omega)
        have hx1 := hix q (by omega)
        have hx2 : ∀ w, (Instr.index 9 (.string bs) (.int .i64 ((q : Int) + 1))).run Tryz.prog w = .ok (.int .u8 (byteI bs (q + 1))) w := hix (q + 1) (by omega)
        have hqb : q ≤ 140737488351232 := by omega
        have HI0 := Lib.hid (show ∀ w, (Instr.index 9 (.string bs) (.int .i64 0)).run Tryz.prog w = .ok (.int .u8 (byteI bs 0)) w from hix 0 (by omega))
        have HI1 := Lib.hid (show ∀ w, (Instr.index 9 (.string bs) (.int .i64 1)).run Tryz.prog w = .ok (.int .u8 (byteI bs 1)) w from hix 1 (by omega))
        have HI2 := Lib.hid (show ∀ w, (Instr.index 9 (.string bs) (.int .i64 2)).run Tryz.prog w = .ok (.int .u8 (byteI bs 2)) w from hix 2 (by omega))
        have hy1 := byteI_lt bs q
        have hy2 := byteI_lt bs (q + 1)
        have HCK := Lib.hid (show ∀ y : ExtW V2, Calls Tryz.prog 84 #[.string (bs.extract 0 q)] y.val fun e w'' => e = .returned (.int .i64 (ckS (bs.data.toList.take q))) ∧ ∃ p : ExtW V2, w'' = p.val from fun y => Calls.ext_of (by rw [← extract_list bs q (by omega)]; exact checksum_any _ (by rw [extract_size bs q (by omega)]; omega) _))
        clear hix hq hqq
        generalize ckS (bs.data.toList.take q) = ck at HCK hcor
        generalize byteI bs q = y1 at hx1 hy1 hcor
        generalize byteI bs (q + 1) = y2 at hx2 hy2 hcor
        have hw1 : IntKind.i64.wrap (y1 * 256) = y1 * 256 := IntWalk.i64_in _ (by omega)
        have hw2 : IntKind.i64.wrap (y1 * 256 + y2) = y1 * 256 + y2 := IntWalk.i64_in _ (by omega)
        have hw3 : IntKind.i64.wrap y1 = y1 := IntWalk.i64_in _ (by omega)
        have hw4 : IntKind.i64.wrap y2 = y2 := IntWalk.i64_in _ (by omega)
        have q1 : ∀ y : ExtW V2, ∀ o, y.val.cell? ⟨wr.heap.size, o, none⟩ = _ := fun y => cell_block (block_up y.ext HM2.out)
        by_cases hck : (ck : Int) = y1 * 256 + y2
        case neg =>
          have hck' : ((ck : Int) != y1 * 256 + y2) = true := by simpa using hck
          have HX : Hid (messE t k = 24) := by (have h : messE t k = 24 := by (rw [HE5.out, hcor]; simp [hck])); exact h
          clear hcor
          refine wp_region_quiet_ext (by kernel_rfl) (by kernel_rfl) ?_
          repeat (go_big_quiet_step ((go_at_call 84; exact HCK.out _)))
          refine wpQuiet_nil ?_
          intro _ hw'
          obtain ⟨xq, hw''⟩ := hw'
          subst hw''
          clear q1
          go_wp2_with fail
          go_ret
          exact ⟨ret_int (by rw [HV1.out, ← firstNZ_hit k 24 hlt H.out HX.out (by decide)]), ext_trans hWX xq.ext⟩
        have hck' : ((ck : Int) != y1 * 256 + y2) = false := by simpa using hck
        have HE6 : Hid (messE t k = if byteI bs 0 ≠ x1 ∨ byteI bs 1 ≠ x2 ∨ byteI bs 2 ≠ x3 then 22 else 0) := by (have h : messE t k = if byteI bs 0 ≠ x1 ∨ byteI bs 1 ≠ x2 ∨ byteI bs 2 ≠ x3 then 22 else 0 := by (rw [HE5.out, hcor]; simp [hck])); exact h
        clear hcor hck HE5
        refine wp_region_quiet_ext (by kernel_rfl) (by kernel_rfl) ?_
        repeat (go_big_quiet_step ((go_at_call 84; exact HCK.out _)))
        refine wpQuiet_nil ?_
        intro _ hw'
        obtain ⟨xq, hw''⟩ := hw'
        subst hw''
        clear q1 hx1 hx2 hy1 hy2 hw1 hw2 hw3 hw4 hck' hsl hd1 hd2
        have hM3 := block_up xq.ext HM2.out
        have hWX3 := ext_trans hWX xq.ext
        obtain ⟨V3, hV3⟩ : ∃ V3, V3 = xq.val := ⟨_, rfl⟩
        rw [← hV3] at hM3 hWX3 ⊢
        have HBX3 : Hid (Below wr.heap.size wr V3) := by (have h : Below wr.heap.size wr V3 := by (rw [hV3]; exact ext_trans HBX.out xq.ext)); exact h
        have HM3 := Lib.hid hM3
        clear hV3 hM3 HM2 HBX hWX HCK xq V2
        go_wp2_with fail
        have hz0 := byteI_lt bs 0
        have hz1 := byteI_lt bs 1
        have hz2 := byteI_lt bs 2
        have g0 := HI0.out
        have g1 := HI1.out
        have g2 := HI2.out
        generalize byteI bs 0 = z0 at hz0 g0 HE6
        generalize byteI bs 1 = z1 at hz1 g1 HE6
        generalize byteI bs 2 = z2 at hz2 g2 HE6
        have hw3 : IntKind.i64.wrap z0 = z0 := IntWalk.i64_in _ (by omega)
        have hw4 : IntKind.i64.wrap z1 = z1 := IntWalk.i64_in _ (by omega)
        have hw5 : IntKind.i64.wrap z2 = z2 := IntWalk.i64_in _ (by omega)
        have q1 : ∀ y : ExtW V3, ∀ o, y.val.cell? ⟨wr.heap.size, o, none⟩ = _ := fun y => cell_block (block_up y.ext HM3.out)
        clear HI0 HI1 HI2
        by_cases h1 : z0 = (x1 : Int)
        case neg =>
          have h1' : (z0 != (x1 : Int)) = true := by simpa using h1
          refine wp_region_quiet_ext (by kernel_rfl) (by kernel_rfl) ?_
          repeat (go_big_quiet_step (fail))
          refine wpQuiet_nil ?_
          intro _ hw'
          obtain ⟨xq, hw''⟩ := hw'
          subst hw''
          clear q1
          have HX : Hid (messE t k = 22) := by (have h : messE t k = 22 := by (rw [HE6.out, if_pos (Or.inl h1)])); exact h
          go_wp2_with fail
          go_ret
          exact ⟨ret_int (by rw [HV1.out, ← firstNZ_hit k 22 hlt H.out HX.out (by decide)]), ext_trans hWX3 xq.ext⟩
        have h1' : (z0 != (x1 : Int)) = false := by simpa using h1
        by_cases h2 : z1 = (x2 : Int)
        case neg =>
          have h2' : (z1 != (x2 : Int)) = true := by simpa using h2
          refine wp_region_quiet_ext (by kernel_rfl) (by kernel_rfl) ?_
          repeat (go_big_quiet_step (fail))
          refine wpQuiet_nil ?_
          intro _ hw'
          obtain ⟨xq, hw''⟩ := hw'
          subst hw''
          clear q1
          have HX : Hid (messE t k = 22) := by (have h : messE t k = 22 := by (rw [HE6.out, if_pos (Or.inr (Or.inl h2))])); exact h
          go_wp2_with fail
          go_ret
          exact ⟨ret_int (by rw [HV1.out, ← firstNZ_hit k 22 hlt H.out HX.out (by decide)]), ext_trans hWX3 xq.ext⟩
        have h2' : (z1 != (x2 : Int)) = false := by simpa using h2
        by_cases h3 : z2 = (x3 : Int)
        case neg =>
          have h3' : (z2 != (x3 : Int)) = true := by simpa using h3
          refine wp_region_quiet_ext (by kernel_rfl) (by kernel_rfl) ?_
          repeat (go_big_quiet_step (fail))
          refine wpQuiet_nil ?_
          intro _ hw'
          obtain ⟨xq, hw''⟩ := hw'
          subst hw''
          clear q1
          have HX : Hid (messE t k = 22) := by (have h : messE t k = 22 := by (rw [HE6.out, if_pos (Or.inr (Or.inr h3))])); exact h
          go_wp2_with fail
          go_ret
          exact ⟨ret_int (by rw [HV1.out, ← firstNZ_hit k 22 hlt H.out HX.out (by decide)]), ext_trans hWX3 xq.ext⟩
        have h3' : (z2 != (x3 : Int)) = false := by simpa using h3
        have HX : Hid (messE t k = 0) := by (have h : messE t k = 0 := by (rw [HE6.out, if_neg (by omega)])); exact h
        clear h1 h2 h3
        refine wp_region_quiet_ext (by kernel_rfl) (by kernel_rfl) ?_
        repeat (go_big_quiet_step (fail))
        refine wpQuiet_nil ?_
        intro _ hw'
        obtain ⟨xq, hw''⟩ := hw'
        subst hw''
        clear q1 g0 g1 g2
        go_wp2_with fail
        go_roundw
        case rel => exact ⟨ext_trans hbr (ext_trans HBX3.out xq.ext), k + 1, by omega, by go_num, below_succ H.out HX.out⟩
        case measure => simp [intOf]; omega
    · go_wp2_with fail
      go_ret
      exact ⟨ret_int (by rw [HV1.out, firstNZ_zero]; intro j hj; exact H.out j (by omega)), hbW⟩
end Go.Proofs.YtjmejfgkogjpaaaGreat

namespace Go.Proofs.YtjmejfgkogjpaaaGreat
open Go.RowKit Go Go.Shelf

/-- every edge that binds leads back -/
def backB2 (ops : Array Oper) (n : Nat) : Bool :=
  (List.range n).all (fun i => match ops[i]? with | some o => o.after.all fun e => !Region.binds .any e || decide (e.on < i) | none => false)
theorem backB2_back {ops : Array Oper} {n : Nat} (h : backB2 ops n = true) {i : Nat} {o : Oper} (hi : i < n) (ho : ops[i]? = some o) : ∀ e ∈ o.after, Region.binds .any e = true → e.on < i := by
  simp only [backB2, List.all_eq_true] at h
  have := h i (List.mem_range.2 hi)
  rw [ho] at this
  intro e he hb
  have := Array.all_eq_true'.1 this e he
  rw [hb] at this
  simpa using this
theorem wpAny_inv2 {P : Program} {ops : Array Oper} {Q : Exit → Act → World → Prop} {n : Nat} (hn : ops.size = n) (hB : backB2 ops n = true) (Inv : (Nat → Bool) → Act → World → Prop)
    (hstep : ∀ D a w i o, i < n → ops[i]? = some o → D i = false → (∀ e ∈ o.after, Region.binds .any e = true → D e.on = true) → Inv D a w → wpOp P ops Q i (fun a' w' => Inv (upd D i) a' w') a w)
    (hend : ∀ D a w, (∀ j, j < n → D j = true) → Inv D a w → Q .normal a w) :
    ∀ (fuel : Nat) (L : Array Bool) (a : Act) (w : World), L.size = n → (List.range n).countP (fun j => !L.getD j false) ≤ fuel → Inv (fun j => L.getD j false) a w → wpAny P .any ops Q fuel L a w := by
  have hnone : ∀ L : Array Bool, L.size = n → (∀ j, j < n → L.getD j false = true) → Region.ready .any ops L = [] := by
    intro L hL h1
    refine List.eq_nil_iff_forall_not_mem.2 fun j hj => ?_
    obtain ⟨hj1, o, ho, _⟩ := mem_ready.1 hj
    have hjn : j < n := by have := (Array.getElem?_eq_some_iff.1 ho).1; omega
    have := h1 j hjn
    rw [show L.getD j false = L.getD j true by simp [Array.getD, hL, hjn]] at this
    rw [hj1] at this; cases this
  intro fuel
  induction fuel with
  | zero =>
    intro L a w hL hc h1
    have h3 : (List.range n).countP (fun j => !L.getD j false) = 0 := by omega
    rw [List.countP_eq_zero] at h3
    have hall : ∀ j, j < n → L.getD j false = true := fun j hj => by simpa using h3 j (List.mem_range.2 hj)
    exact ⟨hnone L hL hall, hend _ a w hall h1⟩
  | succ fuel ih =>
    intro L a w hL hc h2
    refine ⟨fun hr => ?_, fun i hi => ?_⟩
    · refine hend _ a w ?_ h2
      intro j
      induction j using Nat.strongRecOn with
      | ind j ihj =>
        intro hj
        cases hv : L.getD j false with
        | true => rfl
        | false =>
          exfalso
          obtain ⟨o, ho⟩ : ∃ o, ops[j]? = some o := ⟨ops[j]'(by omega), Array.getElem?_eq_getElem _⟩
          have : j ∈ Region.ready .any ops L := mem_ready.2 ⟨by rw [show L.getD j true = L.getD j false by simp [Array.getD, hL, hj]]; exact hv, o, ho, fun e he hbe => by
            have := backB2_back hB hj ho e he hbe
            exact ihj e.on this (by omega)⟩
          rw [hr] at this
          cases this
    · obtain ⟨hi1, o, ho, hdep⟩ := mem_ready.1 hi
      have hin : i < n := by have := (Array.getElem?_eq_some_iff.1 ho).1; omega
      have hiD : L.getD i false = false := by rw [show L.getD i false = L.getD i true by simp [Array.getD, hL, hin]]; exact hi1
      have hupd : (fun j => (L.setIfInBounds i true).getD j false) = upd (fun j => L.getD j false) i := by
        funext j
        unfold upd
        by_cases hji : j = i
        · subst hji; simp [Array.getD, hL, hin]
        · rw [if_neg hji]
          simp only [Array.getD, Array.size_setIfInBounds]
          split
          · exact Array.getElem_setIfInBounds_ne _ (Ne.symm hji)
          · rfl
      have hcnt : (List.range n).countP (fun j => !(L.setIfInBounds i true).getD j false) ≤ fuel := by
        have h3 := upd_count (fun j => L.getD j false) i hiD (List.range n)
        rw [if_pos (List.mem_range.2 hin)] at h3
        have h4 : (fun j => !(L.setIfInBounds i true).getD j false) = fun j => !upd (fun j => L.getD j false) i j := by
          funext j; rw [← hupd]
        rw [h4]
        omega
      exact wpOp_mono' (fun a' w' h => ih (L.setIfInBounds i true) a' w' (by simpa using hL) hcnt (by rw [hupd]; exact h)) (hstep (fun j => L.getD j false) a w i o hin ho hiD hdep h2)

/-- Where an operation of the region may end. -/
def CoreK (F : Array Value) (d : List Deferred) (V : List (Option Value)) (Core : (Nat → Bool) → (Nat → Value) → World → Prop) (D : Nat → Bool) (i s : Nat) (x : Nat → Value) (a' : Act) (W' : World) : Prop :=
  ∃ v, a' = { tmps := F.setIfInBounds s v, defers := d } ∧ (∀ c, V.getD i none = some c → v = c) ∧ Core (upd D i) (updV x i v) W'
theorem CoreK.mk {F : Array Value} {d : List Deferred} {V : List (Option Value)} {Core : (Nat → Bool) → (Nat → Value) → World → Prop} {D : Nat → Bool} {i s : Nat} {x : Nat → Value} {a' : Act} {W' : World} (v : Value) (hv : ∀ c, V.getD i none = some c → v = c) (hc : Core (upd D i) (updV x i v) W') (ha : a' = { tmps := F.setIfInBounds s v, defers := d }) : CoreK F d V Core D i s x a' W' := ⟨v, ha, hv, hc⟩

theorem setAll_getD_ne {T : Array Value} {S : List Nat} {x : Nat → Value} {k : Nat} (hk : k ∉ S) : (setAll T S x).getD k undef = T.getD k undef := by
  have := setFrom_get x S 0 T k hk
  simp only [Array.getD_eq_getD_getElem?]
  exact congrArg (fun o => Option.getD o undef) this
theorem setAll_self1 {T : Array Value} {S : List Nat} {x : Nat → Value} {i s : Nat} (hS : S.Nodup) (hi : S[i]? = some s) : setAll T S x = (setAll T S x).setIfInBounds s (x i) := by
  have h := setAll_upd T S hS x i s (x i) hi
  have e : updV x i (x i) = x := by
    funext j
    by_cases e : j = i
    · subst e; exact updV_same _ _ _
    · exact updV_ne _ _ e
  rw [e] at h
  exact h
theorem setAll_getD {T : Array Value} {S : List Nat} {x : Nat → Value} {i k : Nat} (hS : S.Nodup) (hi : S[i]? = some k) (hT : k < T.size) : (setAll T S x).getD k undef = x i := by
  rw [setAll_self1 (x := x) hS hi]
  have : k < (setAll T S x).size := by unfold setAll; rw [setFrom_size]; exact hT
  simp [Array.getD, this]
/-- a single move -/
theorem core_move {P : Program} {ops : Array Oper} {o : Oper} {a : Act} {w : World} {Q : Exit → Act → World → Prop} (y : Operand) (hg : o.guard = none) (ho : o.op = .move y) (h : Q .normal (a.put o.dst (a.eval y)) w) : wpList P ops Q [o] a w := by
  refine wpList_plain hg fun _ hK => ?_
  unfold Oper.wp execOp
  simp only [ho, Sem.run_pure]
  exact hK _ _ h

/-- The law. -/
theorem wpAny_core {P : Program} {l : List Oper} {Q : Exit → Act → World → Prop} {T : Array Value} {d : List Deferred} {w : World} (n : Nat) (S : List Nat) (V : List (Option Value)) (Core : (Nat → Bool) → (Nat → Value) → World → Prop) (hn : l.toArray.size = n) (hS : S.Nodup) (hSl : S.length = n) (hB : backB2 l.toArray n = true)
    (h0 : ∀ x, Core (fun _ => false) x w.drew)
    (hstep : ∀ x W D i o s F, i < n → l.toArray[i]? = some o → S[i]? = some s → D i = false → x i = T[s]! → (∀ e ∈ o.after, Region.binds .any e = true → D e.on = true) → (∀ j c, j < n → D j = true → V.getD j none = some c → x j = c) → Core D x W → F = setAll T S x →
      wpList P l.toArray (Exit.then (CoreK F d V Core D i s x) Q) [o] { tmps := F, defers := d } W)
    (hend : ∀ x W D F, (∀ j, j < n → D j = true) → (∀ j c, j < n → V.getD j none = some c → x j = c) → Core D x W → F = setAll T S x → Q .normal { tmps := F, defers := d } W) :
    wpAny P .any l.toArray Q l.toArray.size (Array.replicate l.toArray.size false) { tmps := T, defers := d } w.drew := by
  refine wpAny_inv2 hn hB (fun D a W => ∃ x, a = { tmps := setAll T S x, defers := d } ∧ (∀ j s, S[j]? = some s → D j = false → x j = T[s]!) ∧ (∀ j c, j < n → D j = true → V.getD j none = some c → x j = c) ∧ Core D x W) ?_ ?_ _ _ _ _ (by rw [Array.size_replicate, hn]) ?_ ?_
  · rintro D a W i o hi ho hD hdep ⟨x, rfl, hun, hv, hc⟩
    obtain ⟨s, hs⟩ : ∃ s, S[i]? = some s := ⟨S[i], List.getElem?_eq_getElem (by omega)⟩
    refine wpOp_mono' ?_ (wpOp_one ho (hstep x W D i o s _ hi ho hs hD (hun i s hs hD) hdep hv hc rfl))
    rintro a' W' ⟨v, rfl, hv', hc'⟩
    refine ⟨updV x i v, by rw [setAll_upd T S hS x i s v hs], fun j sj hsj hDj => ?_, fun j c hj hDj hV => ?_, hc'⟩
    · by_cases e : j = i
      · subst e; simp [upd] at hDj
      · rw [updV_ne _ _ e]
        exact hun j sj hsj (by simpa [upd, e] using hDj)
    by_cases e : j = i
    · subst e; rw [updV_same]; exact hv' c hV
    · rw [updV_ne _ _ e]
      exact hv j c hj (by simpa [upd, e] using hDj) hV
  · rintro D a W hall ⟨x, rfl, _, hv, hc⟩
    exact hend x W D _ hall (fun j c hj hV => hv j c hj (hall j hj) hV) hc rfl
  · rw [hn]; exact Nat.le_trans List.countP_le_length (by simp)
  · refine ⟨fun i => T[S.getD i 0]!, ?_, fun j s hs _ => by (show T[S.getD j 0]! = _; rw [List.getD_eq_getElem?_getD, hs]; rfl), fun j c hj h => ?_, ?_⟩
    · rw [setAll_self T S hS]
      intro i s hi hs
      rw [List.getD_eq_getElem?_getD, hi]
      rfl
    · exfalso
      simp only [Array.getD] at h
      split at h <;> simp at h
    · have : (fun j => (Array.replicate l.toArray.size false).getD j false) = fun _ => false := by
        funext j
        simp only [Array.getD]
        split <;> simp
      rw [this]; exact h0 _
/-- .. for a region of a function's body -/
theorem wp_region_core {P : Program} {id : Nat} {l : List Oper} {Q : Exit → Act → World → Prop} {T : Array Value} {d : List Deferred} {w : World} (n : Nat) (S : List Nat) (V : List (Option Value)) (Core : (Nat → Bool) → (Nat → Value) → World → Prop) (hm : P.follows .mixedOrders = true) (hn : l.toArray.size = n) (hS : S.Nodup) (hSl : S.length = n) (hB : backB2 l.toArray n = true)
    (h0 : ∀ x, Core (fun _ => false) x w.drew)
    (hstep : ∀ x W D i o s F, i < n → l.toArray[i]? = some o → S[i]? = some s → D i = false → x i = T[s]! → (∀ e ∈ o.after, Region.binds .any e = true → D e.on = true) → (∀ j c, j < n → D j = true → V.getD j none = some c → x j = c) → Core D x W → F = setAll T S x →
      wpList P l.toArray (Exit.then (CoreK F d V Core D i s x) Q) [o] { tmps := F, defers := d } W)
    (hend : ∀ x W D F, (∀ j, j < n → D j = true) → (∀ j c, j < n → V.getD j none = some c → x j = c) → Core D x W → F = setAll T S x → Q .normal { tmps := F, defers := d } W) :
    (Code.region id l.toArray true).wp P Q { tmps := T, defers := d } w :=
  wp_region_any hm (wpAny_core n S V Core hn hS hSl hB h0 hstep hend)
/-- .. for a region of a round's body -/
theorem round_region_core {P : Program} {yl m : Nat} {id : Nat} {l : List Oper} {Q : Exit → Act → World → Prop} {T : Array Value} {d : List Deferred} {w : World} (n : Nat) (S : List Nat) (V : List (Option Value)) (Core : (Nat → Bool) → (Nat → Value) → World → Prop) (hm : P.follows .mixedOrders = true) (hn : l.toArray.size = n) (hS : S.Nodup) (hSl : S.length = n) (hB : backB2 l.toArray n = true) (hQ : ¬ LetsOut Q) (hd : noDefer l.toArray = true)
    (h0 : ∀ x, Core (fun _ => false) x w.drew)
    (hstep : ∀ x W D i o s F, i < n → l.toArray[i]? = some o → S[i]? = some s → D i = false → x i = T[s]! → (∀ e ∈ o.after, Region.binds .any e = true → D e.on = true) → (∀ j c, j < n → D j = true → V.getD j none = some c → x j = c) → Core D x W → F = setAll T S x →
      wpList P l.toArray (Exit.then (CoreK F d V Core D i s x) Q) [o] { tmps := F, defers := d } W)
    (hend : ∀ x W D F, (∀ j, j < n → D j = true) → (∀ j c, j < n → V.getD j none = some c → x j = c) → Core D x W → F = setAll T S x → Q .normal { tmps := F, defers := d } W) :
    (Code.region id l.toArray true).wpIn (Fence.wide.inRound yl) m P Q { tmps := T, defers := d } w :=
  wpIn_region_any hm (anyIn_of hd hQ _ _ _ _ (wpAny_core n S V Core hn hS hSl hB h0 hstep hend))
end Go.Proofs.YtjmejfgkogjpaaaGreat

namespace Go.Proofs.YtjmejfgkogjpaaaGreat
open Go.RowKit Go Go.Shelf

abbrev zeroTr : Array Value := #[.slice none 0 0, .slice none 0 0, .slice none 0 0, .slice none 0 0, .slice none 0 0, .slice none 0 0]
/-- six cells of a block written -/
theorem put6 {W : World} {B : Nat} {cs : Array Value} {t : TypeId} (h : W.heap[B]? = some (.cells cs t)) (hc : cs.size = 6) (a b c d e f : Value) :
    ∀ W', W' = (((((W.setCell ⟨B, 0, none⟩ a).setCell ⟨B, 1, none⟩ b).setCell ⟨B, 2, none⟩ c).setCell ⟨B, 3, none⟩ d).setCell ⟨B, 4, none⟩ e).setCell ⟨B, 5, none⟩ f →
    W'.heap[B]? = some (.cells #[a, b, c, d, e, f] t) ∧ (∀ k, k ≠ B → W'.heap[k]? = W.heap[k]?) ∧ W'.heap.size = W.heap.size ∧ ∀ n w0, n ≤ B → Below n w0 W → Below n w0 W' := by
  rintro W' rfl
  refine ⟨?_, fun k hk => ?_, by simp, fun n w0 hn hb => ?_⟩
  · obtain ⟨x0, x1, x2, x3, x4, x5, rfl⟩ : ∃ x0 x1 x2 x3 x4 x5, cs = #[x0, x1, x2, x3, x4, x5] := by
      obtain ⟨l⟩ := cs
      simp at hc
      match l, hc with
      | [x0, x1, x2, x3, x4, x5], _ => exact ⟨_, _, _, _, _, _, rfl⟩
    rw [setCell_same (setCell_same (setCell_same (setCell_same (setCell_same (setCell_same h _ _) _ _) _ _) _ _) _ _)]
    rfl
  · rw [Below.heap_setCell _ ⟨B, 5, none⟩ _ _ hk, Below.heap_setCell _ ⟨B, 4, none⟩ _ _ hk, Below.heap_setCell _ ⟨B, 3, none⟩ _ _ hk, Below.heap_setCell _ ⟨B, 2, none⟩ _ _ hk, Below.heap_setCell _ ⟨B, 1, none⟩ _ _ hk, Below.heap_setCell _ ⟨B, 0, none⟩ _ _ hk]
  · exact (((((hb.setCell (p := ⟨B, 0, none⟩) hn _).setCell (p := ⟨B, 1, none⟩) hn _).setCell (p := ⟨B, 2, none⟩) hn _).setCell (p := ⟨B, 3, none⟩) hn _).setCell (p := ⟨B, 4, none⟩) hn _).setCell (p := ⟨B, 5, none⟩) hn _


/-- every cell that is no empty slice has stayed -/
def NK (W W' : World) : Prop := ∀ b o c, W.cell? ⟨b, o, none⟩ = some c → c ≠ .slice none 0 0 → W'.cell? ⟨b, o, none⟩ = some c
theorem NK.refl (W : World) : NK W W := fun _ _ _ h _ => h
theorem NK.trans {X Y Z : World} (h : NK X Y) (k : NK Y Z) : NK X Z := fun b o c hc hn => k b o c (h b o c hc hn) hn
theorem NK.of_ck {W W' : World} (h : CK W W') : NK W W' := fun _ _ _ hc _ => h.cell hc
/-- blocks that have stayed, and else blocks of which each cell that is no empty slice has stayed -/
theorem NK.of_blocks {W W' : World} (h : ∀ (k : Nat) (cs : Array Value) (t : TypeId) (f : Nat × Nat), W.heap[k]? = some (Obj.cells cs t f) → ∃ (cs' : Array Value) (t' : TypeId) (f' : Nat × Nat), W'.heap[k]? = some (Obj.cells cs' t' f') ∧ ∀ (o : Nat) (c : Value), cs[o]? = some c → c ≠ .slice none 0 0 → cs'[o]? = some c) : NK W W' := by
  intro b o c hc hn
  unfold World.cell? at hc ⊢
  dsimp only at hc ⊢
  cases ho : W.heap[b]? with
  | none => rw [ho] at hc; cases hc
  | some ob =>
    cases ob with
    | cells cs t f =>
      obtain ⟨cs', t', f', h1, h2⟩ := h b cs t f ho
      rw [ho] at hc
      rw [h1]
      exact h2 o c hc hn
    | _ => rw [ho] at hc; cases hc
theorem put6_nk {W W' : World} {B : Nat} {t t' : TypeId} {cs : Array Value} (h : W.heap[B]? = some (.cells zeroTr t)) (h1 : W'.heap[B]? = some (.cells cs t')) (h2 : ∀ k, k ≠ B → W'.heap[k]? = W.heap[k]?) : NK W W' := by
  refine NK.of_blocks fun k ds u f hk => ?_
  by_cases e : k = B
  · subst e
    rw [h] at hk
    cases hk
    refine ⟨_, _, _, h1, fun o c ho hn => absurd ?_ hn⟩
    have : o < 6 := (Array.getElem?_eq_some_iff.1 ho).1
    rcases (show o = 0 ∨ o = 1 ∨ o = 2 ∨ o = 3 ∨ o = 4 ∨ o = 5 by omega) with rfl | rfl | rfl | rfl | rfl | rfl <;> (simp at ho; exact ho.symm)
  · exact ⟨_, _, _, (h2 k e).trans hk, fun _ _ h _ => h⟩
theorem IntAt.nk {W W' : World} (h : NK W W') {b o : Nat} {x : Int} (hx : IntAt W b o x) : IntAt W' b o x := ⟨h _ _ _ hx.1 (by intro e; cases e), hx.2⟩
theorem IsSl.nk {α : Type} {k : Nat} {R : World → Nat → Nat → α → Prop} {W W' : World} {v : Value} {l : List α} (hR : ∀ b o x, x ∈ l → R W b o x → R W' b o x) (h : IsSl k R W v l) : IsSl k R W' v l := by
  obtain ⟨a, cap, rfl, h1, h2, h3⟩ := h
  refine ⟨a, cap, rfl, h1, h2, fun i x hx => ?_⟩
  obtain ⟨b, off, ha, hr⟩ := h3 i x hx
  exact ⟨b, off, ha, hR _ _ _ (List.mem_of_getElem? hx) hr⟩
theorem ints_nk {W W' : World} (h : NK W W') {v : Value} {l : List Int} (hl : IsInts W v l) : IsInts W' v l := IsSl.nk (fun _ _ _ _ hx => hx.nk h) hl
theorem word_nk {W W' : World} (h : NK W W') {v : Value} {l : List Rd} (hl : IsWord W v l) : IsWord W' v l :=
  IsSl.nk (fun _ _ _ _ ⟨h0, h1, h2, h3, h4, h5, h6⟩ => ⟨h0.nk h, h1.nk h, h2.nk h, h3.nk h, h4.nk h, h5.nk h, h6.nk h⟩) hl
theorem msgs_nk {W W' : World} (h : NK W W') {v : Value} {l : List Msg} (hl : IsMsgs W v l) : IsMsgs W' v l :=
  IsSl.nk (fun _ _ _ _ ⟨h0, h1, h2, h3, h4⟩ => ⟨h0.nk h, h1.nk h, h2.nk h, h _ _ _ h3 (by intro e; cases e), h4⟩) hl
theorem vecs_nk {W W' : World} (h : NK W W') {v : Value} {l : List (List Int)} (hn : ∀ x ∈ l, x ≠ []) (hl : IsVecs W v l) : IsVecs W' v l :=
  IsSl.nk (fun b o x hx ⟨u, hc, hu⟩ => ⟨u, h _ _ _ hc (fun e => by
    subst e
    obtain ⟨a, cap, e1, _⟩ := hu
    injection e1 with _ e2 _
    exact hn x hx (List.eq_nil_of_length_eq_zero e2.symm)), ints_nk h hu⟩) hl
theorem tr_nk {W W' : World} (h : NK W W') {t : Tr} {vi vw vs vm vd vt : Value} (hn : ∀ x ∈ t.states, x ≠ []) (ht : IsTr W t vi vw vs vm vd vt) : IsTr W' t vi vw vs vm vd vt :=
  ⟨ints_nk h ht.inp, word_nk h ht.word, vecs_nk h hn ht.states, msgs_nk h ht.msgs, ints_nk h ht.dec, ints_nk h ht.times⟩

/-- what a play without error has passed -/
structure PlayOk (m : Mac) (inputs : List Int) (word : List Rd) (n r : Nat) : Prop where
  good : Good m n r
  chk : checkE m = 0
  il : inputs.length = n
  ir : ∀ p, p < n → 0 ≤ inputs.getD p 0 ∧ inputs.getD p 0 < m.ins
  we : wordE n word = 0
  wl : word.length = r
  rl : (runL m inputs word).length = r + 1
theorem playE_zero {m : Mac} {inputs : List Int} {word : List Rd} (h : playE m inputs word = 0) : ∃ n r, PlayOk m inputs word n r := by
  unfold playE at h
  split at h
  · rename_i q; exact absurd h q
  rename_i h1
  have h1' : checkE m = 0 := by simpa using h1
  obtain ⟨n, r, g⟩ := checkE_good h1'
  have hn := g.hn
  have hr := g.hr
  split at h
  · cases h
  split at h
  · cases h
  rename_i h2 h3
  split at h
  · rename_i q; exact absurd h q
  rename_i h4
  split at h
  · cases h
  split at h
  · cases h
  rename_i h5 h6
  have h3' : allB inputs 0 (m.ins - 1) = true := by simpa using h3
  have h4' : wordE m.n word = 0 := by simpa using h4
  rw [hn] at h4'
  refine ⟨n, r, g, h1', by omega, fun p hp => ?_, h4', by omega, by omega⟩
  have := allB_true h3' p (by omega)
  omega
theorem placesL_ne {n : Nat} {word : List Rd} {x : Nat × Nat × Nat} (h : x ∈ placesL n word) : x.2.1 ≠ x.2.2 := by
  unfold placesL placesTo filtR at h
  rw [List.mem_filterMap] at h
  obtain ⟨j, hj, hx⟩ := h
  unfold placeAt at hx
  split at hx
  · rename_i hc
    cases hx
    exact hc.2.2.1
  · cases hx
theorem own_ints {w : World} {base : Nat} {v : Value} {l : List Int} (h : OwnT w base 3 1 v l.length (l.map (Value.int .i64))) (hr : ∀ x ∈ l, InR x) (hn : l.length ≤ 17592186044416) : IsInts w v l := by
  have hall := fun i (hi : i < l.length) => h.cell i (.int .i64 l[i]) (by simp [hi])
  rcases h.2 with ⟨rfl, hz⟩ | ⟨g, cap, cur, fz, rfl, _, hg, _, hc1, hc2, _, _⟩
  · refine ⟨none, 0, by rw [hz], ⟨by omega, by omega, fun _ => rfl⟩, hn, fun i x hi => ?_⟩
    have := (List.getElem?_eq_some_iff.1 hi).1
    omega
  · refine ⟨some ⟨g, 0, none⟩, cap, rfl, ⟨hc1, by simp only [maxLen] at hc2; omega, fun e => by cases e⟩, hn, fun i x hi => ⟨g, 0, rfl, ?_⟩⟩
    obtain ⟨hil, rfl⟩ := List.getElem?_eq_some_iff.1 hi
    obtain ⟨g', c', e1, e2⟩ := hall i hil
    have : g = g' := by simp at e1; exact e1.1
    subst this
    exact ⟨by rw [Nat.mul_one, Nat.zero_add]; exact e2, hr _ (List.getElem_mem hil)⟩
theorem OwnT.keep {w w' : World} {base sz : Nat} {e : TypeId} {v : Value} {n : Nat} {xs : List Value} (h : OwnT w base e sz v n xs) (hk : ∀ (g : Nat) (o : Obj), v.ownBlock = some g → w.heap[g]? = some o → w'.heap[g]? = some o) : OwnT w' base e sz v n xs := by
  obtain ⟨hl, h⟩ := h
  refine ⟨hl, ?_⟩
  rcases h with h | ⟨g, cap, cur, fz, rfl, h2, h3, h4⟩
  · exact .inl h
  · exact .inr ⟨g, cap, cur, fz, rfl, h2, hk g _ rfl h3, h4⟩
/-- Between two rounds of the loop over places. -/
structure SI (w W3 : World) (Bt Be : Nat) (va vb vs : Value) (xs : List Msg) (i : Nat) (T : Nat → Prop) (W : World) : Prop where
  old : Below w.heap.size w W
  kept : ∀ (k : Nat) (o : Obj), W3.heap[k]? = some o → o.isCells = true → k ≠ Bt → W.heap[k]? = some o
  size : W3.heap.size ≤ W.heap.size
  lt : ∀ k, T k → k < W.heap.size
  notB : ¬ T Bt
  notE : ¬ T Be
  row : ∃ v, W.heap[Bt]? = some (.cells (trC va vb vs v (.slice none 0 0) (.slice none 0 0)) 40) ∧ OwnT W W3.heap.size 58 4 v i (flatM (xs.take i)) ∧ ∀ g, v.ownBlock = some g → ¬ T g
theorem SI.next {w W3 : World} {Bt Be : Nat} {va vb vs : Value} {xs : List Msg} {i B : Nat} {T T' : Nat → Prop} {A A' : World} (h : SI w W3 Bt Be va vb vs xs i T A) (hE : Be < W3.heap.size) (hB : w.heap.size ≤ B) (hc : Chg B A A') (hw : Wid A A' T T') : SI w W3 Bt Be va vb vs xs i T' A' := by
  obtain ⟨v, h1, h2, h3⟩ := h.row
  have hn : ∀ g, g < A.heap.size → ¬ T g → ¬ T' g := fun g hg h ht => by
    rcases hw.2 g ht with h4 | h4
    · exact h h4
    · omega
  exact ⟨hc.below hB h.old.size h.old, fun k o hk ho hb => hc.ck _ _ (h.kept k o hk ho hb) ho, Nat.le_trans h.size hc.size, fun k hk => by
    rcases hw.2 k hk with h4 | h4
    · exact Nat.lt_of_lt_of_le (h.lt k h4) hc.size
    · exact h4.2, hn _ (block_lt h1) h.notB, hn _ (Nat.lt_of_lt_of_le hE h.size) h.notE, v, hc.ck _ _ h1 rfl, h2.ck hc.ck, fun g hg => hn _ (h2.lt g hg).2 (h3 g hg)⟩
/-- what stands while region 7 is drawn -/
structure C7 (w W2 : World) (Bm Be k p q : Nat) (bs : ByteArray) (D : Nat → Bool) (_x : Nat → Value) (W : World) : Prop where
  old : Below w.heap.size w W
  size : W2.heap.size ≤ W.heap.size
  kept : ∀ (j : Nat) (o : Obj), W2.heap[j]? = some o → j ≠ Bm → j ≠ Be → W.heap[j]? = some o
  be : W.heap[Be]? = some (.cells #[.int .i64 0] 45)
  bm : ∃ s, W.heap[Bm]? = some (.cells #[.int .i64 (k : Int), .int .i64 (p : Int), .int .i64 (q : Int), .string s] 58) ∧ (D 21 = true → s = bs)
theorem C7.grow {w W2 : World} {Bm Be k p q : Nat} {bs : ByteArray} {D : Nat → Bool} {x : Nat → Value} {W W' : World} (h : C7 w W2 Bm Be k p q bs D x W) (hb : Below W.heap.size W W') : C7 w W2 Bm Be k p q bs D x W' := by
  obtain ⟨s, h1, h2⟩ := h.bm
  exact ⟨ext_trans h.old hb, Nat.le_trans h.size hb.size, fun j o hj h3 h4 => block_up hb (h.kept j o hj h3 h4), block_up hb h.be, s, block_up hb h1, h2⟩
/-- Between two rounds of the loop over processes. -/
structure DI (w Wd : World) (Bt : Nat) (va vb vs vm : Value) (ds ts : List Int) (p : Nat) (W : World) : Prop where
  old : Below w.heap.size w W
  size : Wd.heap.size ≤ W.heap.size
  kept : ∀ (k : Nat) (o : Obj), Wd.heap[k]? = some o → k ≠ Bt → W.heap[k]? = some o
  row : ∃ vd vt, W.heap[Bt]? = some (.cells (trC va vb vs vm vd vt) 40) ∧ OwnT W Wd.heap.size 3 1 vd p ((ds.take p).map (Value.int .i64)) ∧ OwnT W Wd.heap.size 3 1 vt p ((ts.take p).map (Value.int .i64)) ∧ ∀ g, vd.ownBlock = some g → vt.ownBlock ≠ some g
theorem DI.drew {w Wd : World} {Bt : Nat} {va vb vs vm : Value} {ds ts : List Int} {p : Nat} {W W' : World} (h : DI w Wd Bt va vb vs vm ds ts p W) (hb : Below W.heap.size W W') : DI w Wd Bt va vb vs vm ds ts p W' := by
  obtain ⟨vd, vt, h1, h2, h3, h4⟩ := h.row
  exact ⟨ext_trans h.old hb, Nat.le_trans h.size hb.size, fun k o hk hb' => block_up hb (h.kept k o hk hb'), vd, vt, block_up hb h1, h2.up hb, h3.up hb, h4⟩
end Go.Proofs.YtjmejfgkogjpaaaGreat

namespace Go.Proofs.YtjmejfgkogjpaaaGreat
open Go.RowKit Go Go.Shelf

theorem PlayOk.fits {m : Mac} {inputs : List Int} {word : List Rd} {n r : Nat} (h : PlayOk m inputs word n r) {k p : Nat} (hk : k < r + 1) (hp : p < n) :
    0 ≤ ((runL m inputs word).getD k []).getD p 0 ∧ ((runL m inputs word).getD k []).getD p 0 < (((m.out.getD k []).getD p []).length : Int) := by
  have hl : k < (runL m inputs word).length := by rw [h.rl]; exact hk
  have := (runL_fits h.good (word := word) h.il h.ir k _ (List.getElem?_eq_getElem hl)).2 p hp
  rw [getD_of_lt [] hl]
  exact this
theorem PlayOk.out {m : Mac} {inputs : List Int} {word : List Rd} {n r : Nat} (h : PlayOk m inputs word n r) {k p : Nat} (hk : k < r + 1) (hp : p < n) :
    -1 ≤ outS m k p (((runL m inputs word).getD k []).getD p 0) ∧ outS m k p (((runL m inputs word).getD k []).getD p 0) < 8 := by
  have h1 := h.fits hk hp
  generalize ((runL m inputs word).getD k []).getD p 0 = s at h1
  have h2 := h.good.outr k p s.toNat hk hp (by omega)
  have h3 := h.good.outs
  unfold outS
  omega
theorem PlayOk.when {m : Mac} {inputs : List Int} {word : List Rd} {n r : Nat} (h : PlayOk m inputs word n r) (p : Nat) : -1 ≤ whenS m (runL m inputs word) p ∧ whenS m (runL m inputs word) p < r + 1 := by
  unfold whenS
  have h1 := h.rl
  rcases firstIx_cases (runL m inputs word).length (fun k => decide (outS m k p (((runL m inputs word).getD k []).getD p 0) ≠ -1)) with ⟨e, _⟩ | ⟨k, hk, e, _⟩ <;> omega
theorem PlayOk.dec {m : Mac} {inputs : List Int} {word : List Rd} {n r : Nat} (h : PlayOk m inputs word n r) {p : Nat} (hp : p < n) : -1 ≤ decS m (runL m inputs word) p ∧ decS m (runL m inputs word) p < 8 := by
  have h1 := h.when p
  unfold decS
  split
  · omega
  · exact h.out (by omega) hp
theorem PlayOk.msg {m : Mac} {inputs : List Int} {word : List Rd} {n r : Nat} (h : PlayOk m inputs word n r) {x : Nat × Nat × Nat} (hk : x.1 < r) (hp : x.2.1 < n) (hq : x.2.2 < n) (hpq : x.2.1 ≠ x.2.2) :
    InR (msgS m (runL m inputs word) x).rd ∧ InR (msgS m (runL m inputs word) x).fr ∧ InR (msgS m (runL m inputs word) x).to ∧ (msgS m (runL m inputs word) x).bs.size ≤ 140737488351232 := by
  obtain ⟨k, p, q⟩ := x
  dsimp only at hk hp hq hpq
  have h5 := h.good.n5
  have h6 := h.good.r6
  have h1 := h.fits (k := k) (by omega) hp
  refine ⟨?_, ?_, ?_, ?_⟩
  · simp [msgS, InR]; omega
  · simp [msgS, InR]; omega
  · simp [msgS, InR]; omega
  · unfold msgS
    dsimp only
    generalize ((runL m inputs word).getD k []).getD p 0 = s at h1
    have h2 := h.good.symr k p q s.toNat hk hp hq (by rw [h.good.yq k p q hk hp hq, if_neg hpq]; omega)
    have h3 : (vint (symS m k p q s).toNat).length ≤ 64 := vint_len _ (by unfold symS; omega)
    show (msgL k p q (symS m k p q s).toNat).toArray.size ≤ _
    simp only [msgL, sealL, List.size_toArray, List.length_append, List.length_cons, List.length_nil]
    omega
end Go.Proofs.YtjmejfgkogjpaaaGreat
