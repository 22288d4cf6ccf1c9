/-
  A part of the proof: lemmas and contracts that the parts behind it use. Each one's conditions are its own premises.
-/
import Derived.Test.YtkfgpnbpcpdclaaGreatShelf
import Derived.Test.YtkfgpnbpcpdclaaGreatJ9
set_option maxRecDepth 100000
set_option maxHeartbeats 8000000
set_option linter.unusedVariables false
namespace Go.Proofs.YtkfgpnbpcpdclaaGreat
open Go.RowKit Go Go.Shelf
attribute [local go_sem] Oper.semAt_some
theorem QQ{w:World} {v:Value} {l:List Cs} {xs:List Value} (h:bJ w v l) (hr:uY w 3 v l.length xs) (i:Nat) (hi:i<l.length) :
  ∃ a b c,xs[i * 3]?=some a/\xs[i * 3+1]?=some b/\xs[i * 3+2]?=some c/\aU w a l[i].inp/\bF w b l[i].out/\bF w c l[i].calm:=by
 obtain⟨p,cap,rfl,_,nH,hc,_⟩:=hr;obtain⟨p',cap',e,_,_,h3⟩:=h;cases e;obtain⟨b,o,rfl,⟨a0,q0,r0⟩,⟨a1,q1,r1⟩,⟨a2,q2,r2⟩⟩:=h3 i _ (List.getElem?_eq_getElem hi)
 have key:∀ s u,s<3->w.cell? ⟨b,o+i * 3+s,none⟩=some u->xs[i * 3+s]?=some u:=fun s u hs hu=>by
  have aF:i * 3+s<xs.length:=by omega
  obtain⟨b',o',e,hq⟩:=hc (i * 3+s) xs[i * 3+s] (List.getElem?_eq_getElem aF);cases e;rw[<-Nat.add_assoc,hu]at hq;rw[List.getElem?_eq_getElem aF,<-cO hq]
 exact⟨a0,a1,a2,key 0 _ (by omega) q0,key 1 _ (by omega) q1,key 2 _ (by omega) q2,r0,r1,r2⟩
theorem N5{w:World} {v:Value} {l:List (List Mv)} {xs:List Value} (h:bn w v l) (hr:uY w 1 v l.length xs) (i:Nat) (hi:i<l.length):∃ a,xs[i]?=some a/\rg w a l[i]:=by
 obtain⟨p,cap,rfl,_,nH,hc,_⟩:=hr;obtain⟨p',cap',e,_,_,h3⟩:=h;cases e;obtain⟨b,o,rfl,a0,q0,r0⟩:=h3 i _ (List.getElem?_eq_getElem hi);refine⟨a0,?_,r0⟩;have aF:i<xs.length:=by omega
 obtain⟨b',o',e,hq⟩:=hc i xs[i] (List.getElem?_eq_getElem aF);cases e;rw[Nat.mul_one]at q0;rw[q0]at hq;rw[List.getElem?_eq_getElem aF,<-cO hq]
def TP(W:World) (base:Nat) (cur:Array Value) (i:Nat) (c:Cs):Prop:=
 ∃ a b d,cur[i * 3]?=some a/\cur[i * 3+1]?=some b/\cur[i * 3+2]?=some d/\aL W base 3 1 a c.inp.length (c.inp.map (Value.int .i64))/\dZ W base b c.out/\dZ W base d c.calm
structure CaseRow (base g cap:Nat) (raw:List Value) (cs:List Cs) (k:Nat) (W:World):Prop where
 lo:base<=g
 fit:cs.length<=cap/\cap<=maxLen
 row:∃ cur fz,W.heap[g]?=some (.cells cur 88 fz)/\(∀ i,i<cur.size->¬ (fz.1<=i/\i<fz.2))/\cur.size=cap * 3/\(∀ i (hi:i<cs.length),i<k->TP W base cur i cs[i])/\∀ j,k * 3<=j->j<cs.length * 3->cur[j]?=raw[j]?
theorem dg.setT{α:Type} {to ti:TypeId} {k:Nat} {flat:List α->List Value} {w:World} {base:Nat} {v:Value} {l:List (List α)} {B:Nat} {cs:Array Value} {t:TypeId} {f:Nat × Nat} (h:dg to ti k flat w base v l) (hB:w.heap[B]?=some (.cells cs t f)) (h1:to≠t) (h2:ti≠t) (o:Nat) (x:Value):dg to ti k flat (w.setCell ⟨B,o,none⟩ x) base v l:=by
 obtain⟨xs,q1,q2⟩:=h;exact⟨xs,q1.put (fun g e=>q1.ne hB h1 g e) _ _,fun i hi=>by obtain⟨y,p1,p2⟩:=q2 i hi;exact⟨y,p1,p2.put (fun g e=>p2.ne hB h2 g e) _ _⟩⟩
theorem CaseRow.up{base g cap:Nat} {raw:List Value} {cs:List Cs} {k:Nat} {W W':World} (h:CaseRow base g cap raw cs k W) (hb:Below W.heap.size W W'):CaseRow base g cap raw cs k W':=by
 obtain⟨cur,fz,q1,q2,q3,q4,q5⟩:=h.row;exact⟨h.lo,h.fit,cur,fz,ak hb q1,q2,q3,fun i hi hk=>by obtain⟨a,b,d,p1,p2,p3,p4,p5,p6⟩:=q4 i hi hk;exact⟨a,b,d,p1,p2,p3,p4.up hb,p5.up hb,p6.up hb⟩,q5⟩
theorem CaseRow.put{base g cap:Nat} {raw:List Value} {cs:List Cs} {k:Nat} {W:World} (h:CaseRow base g cap raw cs k W) (hk:k<cs.length) {a b d:Value} (h1:aL W base 3 1 a cs[k].inp.length (cs[k].inp.map (Value.int .i64))) (h2:dZ W base b cs[k].out) (h3:dZ W base d cs[k].calm) :
  CaseRow base g cap raw cs (k+1) (((W.setCell ⟨g,k * 3,none⟩ a).setCell ⟨g,k * 3+1,none⟩ b).setCell ⟨g,k * 3+2,none⟩ d):=by
 obtain⟨cur,fz,q1,q2,q3,q4,q5⟩:=h.row;have e1:=aE q1 (k * 3) a;have e2:=aE e1 (k * 3+1) b;have e3:=aE e2 (k * 3+2) d
 have ko:∀ {x:Value} {n:Nat} {xs:List Value},aL W base 3 1 x n xs->aL (((W.setCell ⟨g,k * 3,none⟩ a).setCell ⟨g,k * 3+1,none⟩ b).setCell ⟨g,k * 3+2,none⟩ d) base 3 1 x n xs:=fun hq=>
  have w1:=hq.put (fun g' e=>hq.ne q1 (by decide) g' e) (k * 3) a;have w2:=w1.put (fun g' e=>w1.ne e1 (by decide) g' e) (k * 3+1) b
  w2.put (fun g' e=>w2.ne e2 (by decide) g' e) (k * 3+2) d
 have kf:∀ {x:Value} {l:List (List Int)},dZ W base x l->dZ (((W.setCell ⟨g,k * 3,none⟩ a).setCell ⟨g,k * 3+1,none⟩ b).setCell ⟨g,k * 3+2,none⟩ d) base x l:=fun hq=>
  ((hq.setT q1 (by decide) (by decide) _ _).setT e1 (by decide) (by decide) _ _).setT e2 (by decide) (by decide) _ _
 have dM:k * 3+2<cur.size:=by have:=h.fit.1;omega
 refine⟨h.lo,h.fit,_,fz,e3,fun i hi=>q2 i (by simpa using hi),by simpa using q3,fun i hi oO=>?_,fun j hj oF=>?_⟩
 ·by_cases aF:i<k
  ·obtain⟨x,y,z,p1,p2,p3,p4,p5,p6⟩:=q4 i hi aF
   refine⟨x,y,z,?_,?_,?_,ko p4,kf p5,kf p6⟩
   ·rw[Array.getElem?_setIfInBounds_ne (by omega),Array.getElem?_setIfInBounds_ne (by omega),Array.getElem?_setIfInBounds_ne (by omega)];exact p1
   ·rw[Array.getElem?_setIfInBounds_ne (by omega),Array.getElem?_setIfInBounds_ne (by omega),Array.getElem?_setIfInBounds_ne (by omega)];exact p2
   ·rw[Array.getElem?_setIfInBounds_ne (by omega),Array.getElem?_setIfInBounds_ne (by omega),Array.getElem?_setIfInBounds_ne (by omega)];exact p3
  ·obtain rfl:i=k:=by omega
   refine⟨a,b,d,?_,?_,?_,ko h1,kf h2,kf h3⟩
   ·rw[Array.getElem?_setIfInBounds_ne (by omega),Array.getElem?_setIfInBounds_ne (by omega),Array.getElem?_setIfInBounds_self_of_lt (by omega)]
   ·rw[Array.getElem?_setIfInBounds_ne (by omega),Array.getElem?_setIfInBounds_self_of_lt (by simp;omega)]
   ·rw[Array.getElem?_setIfInBounds_self_of_lt (by simp;omega)]
 ·rw[Array.getElem?_setIfInBounds_ne (by omega),Array.getElem?_setIfInBounds_ne (by omega),Array.getElem?_setIfInBounds_ne (by omega)]
  exact q5 j (by omega) oF
theorem u7{W:World} {base:Nat} {v:Value} {l:List (List Int)} (h:dZ W base v l) (hr:∀ x∈l,∀ y∈x,bK y) (hn:l.length<=1048576) (n9:∀ x∈l,x.length<=1048576):bF W v l:=
 dg.sl h (fun x a ha ho=>lA ho (hr a ha) (by have:=n9 a ha;omega)) (by omega)
theorem H9{w:World} {v:Value} {l:List Cs} (h:bJ w v l):∀ c∈l,(∀ y∈c.inp,bK y)/\(∀ x∈c.out,∀ y∈x,bK y)/\∀ x∈c.calm,∀ y∈x,bK y:=fun c hc=>by
 have hv:∀ {b o:Nat} {q:List (List Int)},pP w b o q->∀ x∈q,∀ y∈x,bK y:=fun {b o q} hq x hx=>by
  obtain⟨u,_,p,cap,rfl,_,_,e⟩:=hq;obtain⟨i,hi,rfl⟩:=List.getElem_of_mem hx;obtain⟨_,_,_,u2,_,h2⟩:=e i _ (List.getElem?_eq_getElem hi);exact na h2
 obtain⟨i,hi,rfl⟩:=List.getElem_of_mem hc;obtain⟨p,cap,rfl,_,_,e⟩:=h;obtain⟨_,_,_,⟨_,_,h0⟩,h1,h2⟩:=e i _ (List.getElem?_eq_getElem hi);exact⟨na h0,hv h1,hv h2⟩
theorem CaseRow.done{base g cap:Nat} {raw:List Value} {t:Tk} {k:Nat} {W:World} (h:CaseRow base g cap raw t.cases k W) (hk:t.cases.length<=k) (ht:taskE t=0) (cK:∀ c∈t.cases,(∀ y∈c.inp,bK y)/\(∀ x∈c.out,∀ y∈x,bK y)/\∀ x∈c.calm,∀ y∈x,bK y):bJ W (.slice (some ⟨g,0,none⟩) t.cases.length cap) t.cases:=by
 obtain⟨cur,fz,q1,q2,q3,q4,q5⟩:=h.row;obtain⟨⟨_,kr⟩,_,_,⟨_,hl⟩,gL⟩:=dY ht;have hf:=h.fit;refine⟨some ⟨g,0,none⟩,cap,rfl,⟨hf.1,by have:=hf.2;unfold maxLen at this;omega,fun e=>by cases e⟩,by omega,fun i x hx=>⟨g,0,rfl,?_⟩⟩;obtain⟨hi,rfl⟩:=List.getElem?_eq_some_iff.1 hx;obtain⟨a,b,d,p1,p2,p3,p4,p5,p6⟩:=q4 i hi (by omega);obtain⟨r1,r2,r3⟩:=cK _ (List.getElem_mem hi);have ho:=gL _ (List.getElem_mem hi);rw[Nat.zero_add];have c1:=ho.inp;have c2:=ho.out2;have c3:=ho.calm;refine⟨⟨a,(ae q1 _).trans p1,lA p4 r1 (by omega)⟩,⟨b,(ae q1 _).trans p2,u7 p5 r2 (by omega) (fun x hx=>by have:=ho.outs x hx;omega)⟩,⟨d,(ae q1 _).trans p3,u7 p6 r3 (by omega) (fun x hx=>by have:=ho.outs x (ho.calms x hx);omega)⟩⟩
structure StateRow (base g cap:Nat) (raw:List Value) (l:List (List Mv)) (k:Nat) (W:World):Prop where
 lo:base<=g
 fit:l.length<=cap/\cap<=maxLen
 row:∃ cur fz,W.heap[g]?=some (.cells cur 94 fz)/\(∀ i,i<cur.size->¬ (fz.1<=i/\i<fz.2))/\cur.size=cap/\(∀ i (hi:i<l.length),i<k->∃ a,cur[i]?=some a/\aL W base 98 8 a l[i].length (ii l[i]))/\∀ j,k<=j->j<l.length->cur[j]?=raw[j]?
theorem StateRow.up{base g cap:Nat} {raw:List Value} {l:List (List Mv)} {k:Nat} {W W':World} (h:StateRow base g cap raw l k W) (hb:Below W.heap.size W W'):StateRow base g cap raw l k W':=by
 obtain⟨cur,fz,q1,q2,q3,q4,q5⟩:=h.row;exact⟨h.lo,h.fit,cur,fz,ak hb q1,q2,q3,fun i hi hk=>by obtain⟨a,p1,p2⟩:=q4 i hi hk;exact⟨a,p1,p2.up hb⟩,q5⟩
theorem StateRow.put{base g cap:Nat} {raw:List Value} {l:List (List Mv)} {k:Nat} {W:World} (h:StateRow base g cap raw l k W) (hk:k<l.length) {a:Value} (h1:aL W base 98 8 a l[k].length (ii l[k])):StateRow base g cap raw l (k+1) (W.setCell ⟨g,k,none⟩ a):=by
 obtain⟨cur,fz,q1,q2,q3,q4,q5⟩:=h.row;have dM:k<cur.size:=by have:=h.fit.1;omega
 refine⟨h.lo,h.fit,_,fz,aE q1 k a,fun i hi=>q2 i (by simpa using hi),by simpa using q3,fun i hi oO=>?_,fun j hj oF=>?_⟩
 ·by_cases aF:i<k
  ·obtain⟨x,p1,p2⟩:=q4 i hi aF
   exact⟨x,by rw[Array.getElem?_setIfInBounds_ne (by omega)];exact p1,p2.put (fun g' e=>p2.ne q1 (by decide) g' e) _ _⟩
  ·obtain rfl:i=k:=by omega
   exact⟨a,by rw[Array.getElem?_setIfInBounds_self_of_lt (by omega)],h1.put (fun g' e=>h1.ne q1 (by decide) g' e) _ _⟩
 ·rw[Array.getElem?_setIfInBounds_ne (by omega)]
  exact q5 j (by omega) oF
theorem StateRow.done{base g cap:Nat} {raw:List Value} {l:List (List Mv)} {k:Nat} {W:World} (h:StateRow base g cap raw l k W) (hk:l.length<=k) (hl:l.length<=256) (l8:∀ x∈l,x.length<=1048576) (cK:∀ x∈l,∀ m∈x,nl m.r/\bK m.to):bn W (.slice (some ⟨g,0,none⟩) l.length cap) l:=by
 obtain⟨cur,fz,q1,q2,q3,q4,q5⟩:=h.row;have hf:=h.fit;refine⟨some ⟨g,0,none⟩,cap,rfl,⟨hf.1,by have:=hf.2;unfold maxLen at this;omega,fun e=>by cases e⟩,by omega,fun i x hx=>⟨g,0,rfl,?_⟩⟩;obtain⟨hi,rfl⟩:=List.getElem?_eq_some_iff.1 hx;obtain⟨a,p1,p2⟩:=q4 i hi (by omega);rw[Nat.zero_add,Nat.mul_one];exact⟨a,(ae q1 _).trans p1,Ez p2 (cK _ (List.getElem_mem hi)) (by have:=l8 _ (List.getElem_mem hi);omega)⟩
theorem LY{w:World} {v:Value} {l:List (List Mv)} (h:bn w v l):∀ x∈l,∀ m∈x,nl m.r/\bK m.to:=fun x hx=>by
 obtain⟨i,hi,rfl⟩:=List.getElem_of_mem hx;obtain⟨p,cap,rfl,_,_,e⟩:=h;obtain⟨_,_,_,u,_,hu⟩:=e i _ (List.getElem?_eq_getElem hi);exact QI hu
theorem Below.trans3{w a b c:World} (h1:Below w.heap.size w a) (h2:Below a.heap.size a b) (h3:Below b.heap.size b c):Below w.heap.size w c:=aj h1 (aj h2 h3)
theorem dg.lower9{α:Type} {to ti:TypeId} {k:Nat} {flat:List α->List Value} {w:World} {base b:Nat} {v:Value} {l:List (List α)} (h:dg to ti k flat w base v l) (hb:b<=base):dg to ti k flat w b v l:=by
 obtain⟨xs,q1,q2⟩:=h;exact⟨xs,q1.base hb,fun i hi=>by obtain⟨x,p1,p2⟩:=q2 i hi;exact⟨x,p1,p2.base hb⟩⟩
abbrev zPb:Array Value:=#[.int .i64 0,.int .i64 0,.int .i64 0,.slice none 0 0,.int .i64 0,.slice none 0 0,.int .i64 0]
theorem aL.from{w w':World} {base sz:Nat} {e:TypeId} {v:Value} {n:Nat} {xs:List Value} (h:aL w base e sz v n xs) (hk:∀ k o,base<=k->w.heap[k]?=some o->w'.heap[k]?=some o):aL w' base e sz v n xs:=
 h.keepT fun g o e1 e2=>hk g o (h.lt g e1).1 e2
theorem dg.from{α:Type} {to ti:TypeId} {k:Nat} {flat:List α->List Value} {w w':World} {base:Nat} {v:Value} {l:List (List α)} (h:dg to ti k flat w base v l) (hk:∀ k o,base<=k->w.heap[k]?=some o->w'.heap[k]?=some o):dg to ti k flat w' base v l:=by
 obtain⟨xs,q1,q2⟩:=h;exact⟨xs,q1.from hk,fun i hi=>by obtain⟨x,p1,p2⟩:=q2 i hi;exact⟨x,p1,p2.from hk⟩⟩
theorem CaseRow.from{base g cap:Nat} {raw:List Value} {cs:List Cs} {k:Nat} {W W':World} (h:CaseRow base g cap raw cs k W) (hk:∀ k o,base<=k->W.heap[k]?=some o->W'.heap[k]?=some o):CaseRow base g cap raw cs k W':=by
 obtain⟨cur,fz,q1,q2,q3,q4,q5⟩:=h.row;exact⟨h.lo,h.fit,cur,fz,hk _ _ h.lo q1,q2,q3,fun i hi oO=>by obtain⟨a,b,d,p1,p2,p3,p4,p5,p6⟩:=q4 i hi oO;exact⟨a,b,d,p1,p2,p3,p4.from hk,p5.from hk,p6.from hk⟩,q5⟩
theorem StateRow.from{base g cap:Nat} {raw:List Value} {l:List (List Mv)} {k:Nat} {W W':World} (h:StateRow base g cap raw l k W) (hk:∀ k o,base<=k->W.heap[k]?=some o->W'.heap[k]?=some o):StateRow base g cap raw l k W':=by
 obtain⟨cur,fz,q1,q2,q3,q4,q5⟩:=h.row;exact⟨h.lo,h.fit,cur,fz,hk _ _ h.lo q1,q2,q3,fun i hi oO=>by obtain⟨a,p1,p2⟩:=q4 i hi oO;exact⟨a,p1,p2.from hk⟩,q5⟩
theorem CaseRow.keep{base g cap:Nat} {raw:List Value} {cs:List Cs} {k:Nat} {W W':World} {ts:List TypeId} {ms:List Nat} {b:Nat} (h:CaseRow base g cap raw cs k W) (hk:KeepT ts ms b W W') (h1:88∉ts) (h2:3∉ts) (h3:36∉ts):CaseRow base g cap raw cs k W':=by
 obtain⟨cur,fz,q1,q2,q3,q4,q5⟩:=h.row;exact⟨h.lo,h.fit,cur,fz,hk.keep _ _ _ _ q1 h1,q2,q3,fun i hi oO=>by obtain⟨a,b,d,p1,p2,p3,p4,p5,p6⟩:=q4 i hi oO;exact⟨a,b,d,p1,p2,p3,hk.own p4 h2,hk.fresh p5 h3 h2,hk.fresh p6 h3 h2⟩,q5⟩
theorem StateRow.keep{base g cap:Nat} {raw:List Value} {l:List (List Mv)} {k:Nat} {W W':World} {ts:List TypeId} {ms:List Nat} {b:Nat} (h:StateRow base g cap raw l k W) (hk:KeepT ts ms b W W') (h1:94∉ts) (h2:98∉ts):StateRow base g cap raw l k W':=by
 obtain⟨cur,fz,q1,q2,q3,q4,q5⟩:=h.row;exact⟨h.lo,h.fit,cur,fz,hk.keep _ _ _ _ q1 h1,q2,q3,fun i hi oO=>by obtain⟨a,p1,p2⟩:=q4 i hi oO;exact⟨a,p1,hk.own p2 h2⟩,q5⟩
def TQ(base:Nat) (l:List Mv):MP:=⟨fun x W=>aL W base 98 8 x l.length (ii l),fun _ _ _ h hb=>h.up hb⟩
theorem List.single_le_sum9(l:List Nat) (x:Nat) (h:x∈l):x<=l.sum:=by
 induction l with
 | nil=>simp at h
 | cons a r ih=>
  rw[List.sum_cons];rcases List.mem_cons.1 h with rfl|h
  ·omega
  ·have:=ih h
   omega
theorem H'(l:List (List Mv)) (k:Nat) (h:k<l.length):l[k].length<=movesN l:=by
 unfold movesN;exact List.single_le_sum9 (l.map List.length) _ (List.mem_map.2 ⟨_,List.getElem_mem h,rfl⟩)
theorem jq{W:World} {g:Nat} {cur:Array Value} {t:TypeId} {fz:Nat × Nat} (h:W.heap[g]?=some (.cells cur t fz)) (hf:∀ i,i<cur.size->¬ (fz.1<=i/\i<fz.2)) (o:Nat) (ho:o<cur.size):W.frozen? ⟨g,o,none⟩=false:=by
 simp only[World.frozen?,h];have:=hf o ho;simpa using this
def N6(base:Nat) (l:List Int):MP:=⟨fun x W=>aL W base 3 1 x l.length (l.map (Value.int .i64)),fun _ _ _ h hb=>h.up hb⟩
def N7(base:Nat) (l:List (List Int)):MP:=⟨fun x W=>dZ W base x l,fun _ _ _ h hb=>h.up hb⟩
def N8(base:Nat) (c:Cs):MP:=⟨fun x W=>∃ a b d,x=.agg #[a,b,d]/\aL W base 3 1 a c.inp.length (c.inp.map (Value.int .i64))/\dZ W base b c.out/\dZ W base d c.calm,fun _ _ _ h hb=>by obtain⟨a,b,d,h1,h2,h3,h4⟩:=h;exact⟨a,b,d,h1,h2.up hb,h3.up hb,h4.up hb⟩⟩
theorem N9{base:Nat} {c:Cs} {W:World} {a b d:Value} (h2:aL W base 3 1 a c.inp.length (c.inp.map (Value.int .i64))) (h3:dZ W base b c.out) (h4:dZ W base d c.calm):(N8 base c).p (.agg #[a,b,d]) W:=⟨a,b,d,rfl,h2,h3,h4⟩
theorem dg.slice{α:Type} {to ti:TypeId} {k:Nat} {flat:List α->List Value} {w:World} {base:Nat} {v:Value} {l:List (List α)} (h:dg to ti k flat w base v l):∃ a c,v=.slice a l.length c:=by
 obtain⟨xs,q,_⟩:=h;exact q.slice
theorem DL(p:Pb) (vc vs:Value) (w:World) (hc:bJ w vc p.t.cases) (hs:bn w vs p.a.states) (ht:taskE p.t=0) (ha:advE p.a=0) (hN:movesN p.a.states<=4096) :
  Calls Tryz.prog 62 #[jI p vc vs] w fun e w'=>∃ uc us,e=.returned (jI p uc us)/\(∀ W:World,(∀ k o,w.heap.size<=k->w'.heap[k]?=some o->W.heap[k]?=some o)->bJ W uc p.t.cases/\bn W us p.a.states)/\Below w.heap.size w w':=by
 obtain⟨raw,AY⟩:=NZ hc;obtain⟨raw2,hraw2⟩:=LU hs;have HC:=aa hc;have HS:=aa hs;have HR:=aa AY;have qg:=aa hraw2;obtain⟨⟨_,kr⟩,_,_,⟨hcl1,bW⟩,gL⟩:=dY ht;obtain⟨⟨jg,iu⟩,_⟩:=iP ha;have eM:=aa gL;obtain⟨pc,cc,rfl,_⟩:=hc.at;obtain⟨ps,cs,rfl,_⟩:=hs.at;clear hc hs AY hraw2 gL
 go_enter Tryz.func62,Tryz.ntmps62
 go_wp2_with fail
 refine aT (fun W=>Below w.heap.size w W/\W.heap[w.heap.size]?=some (.cells #[.int .i64 p.t.n,.int .i64 p.t.ins,.int .i64 p.t.outs,.slice pc p.t.cases.length cc,.int .i64 p.a.n,.slice ps p.a.states.length cs,.int .i64 p.rounds] 29)/\W.heap[w.heap.size+1]?=some (.cells zPb 29)) ⟨by go_grown,aq _ (ar _ _),aX _ _ _⟩ (fun W0 bd=>?_);obtain⟨aH,bD,wE⟩:=bd;have dp:=aH.size;refine(DG _ p.t.cases.length raw W0 ?_ (by omega)).mono ?_
 ·obtain⟨q,cap,e,h1,h2,h3,h4⟩:=HR.out
  exact⟨q,cap,e,h1,h2,fun j u hj=>by obtain⟨b,o,e1,e2⟩:=h3 j u hj;exact⟨b,o,e1,ay aH e2⟩,h4⟩
 rintro e w1 ⟨u,rfl,hu,aG⟩
 have bL:∃ g cap,u=.slice (some ⟨g,0,none⟩) p.t.cases.length cap/\CaseRow w.heap.size g cap raw p.t.cases 0 w1:=by
  rcases hu.2 with ⟨_,h0⟩|⟨g,cap,cur,fz,rfl,h1,h2,h3,h4,h5,h6,h7⟩
  ·omega
  ·refine⟨g,cap,rfl,by omega,⟨h4,h5⟩,cur,fz,h2,h3,h6,fun i hi hk=>by omega,fun j _ hj=>?_⟩
   rw[<-h7,List.getElem?_take_of_lt hj];simp
 obtain⟨g,cap,rfl,bL⟩:=bL;have dD:=aj aH aG;have fk:=ak aG bD;have Vz:=ak aG wE;have t1:=ae fk;have z1:=fun o=>aD fk o
 have lP:=aa bL;have fd:=aa fk;have ju:=aa Vz;have du:=aG.size;have VJ:=aB Vz;clear hu bL bD wE fk Vz
 go_wp2_with fail
 clear t1 z1;refine bw (fun W=>Below w.heap.size w W/\W.heap[w.heap.size]?=some (.cells #[.int .i64 p.t.n,.int .i64 p.t.ins,.int .i64 p.t.outs,.slice (some ⟨g,0,none⟩) p.t.cases.length cap,.int .i64 p.a.n,.slice ps p.a.states.length cs,.int .i64 p.rounds] 29)/\W.heap[w.heap.size+1]?=some (.cells zPb 29)/\CaseRow w.heap.size g cap raw p.t.cases 0 W) ?_ (fun W2 jD=>?_)
 ·refine⟨dD.setCell (Nat.le_refl _) _,by rw[aE fd.out];rfl,aI ju.out (by omega) _ _,?_⟩
  obtain⟨cur,fz,q1,q2,q3,q4,q5⟩:=lP.out.row;exact⟨lP.out.lo,lP.out.fit,cur,fz,aI q1 (fun e=>by have:=fd.out;rw[<-e,q1]at this;cases this) _ _,q2,q3,fun i hi hk=>by omega,q5⟩
 obtain⟨aS,zD,Je,je⟩:=jD
 go_loopw [17] (fun i wr=>∃ k:Nat,k<=p.t.cases.length/\i=.int .i64 k/\Below w.heap.size w wr/\wr.heap[w.heap.size]?=some (.cells #[.int .i64 p.t.n,.int .i64 p.t.ins,.int .i64 p.t.outs,.slice (some ⟨g,0,none⟩) p.t.cases.length cap,.int .i64 p.a.n,.slice ps p.a.states.length cs,.int .i64 p.rounds] 29)/\wr.heap[w.heap.size+1]?=some (.cells zPb 29)/\CaseRow w.heap.size g cap raw p.t.cases k wr) (fun i _=>p.t.cases.length - (intOf i).toNat)
 case atStart=>exact⟨0,by omega,rfl,aS,zD,Je,je⟩
 case round=>
  clear aS zD Je je;obtain⟨k,hk,rfl,aJ,hA,hO,bL⟩:=hrel;have HA:=aa hA;have HO:=aa hO;have CL:=aa bL;by_cases aF:k<p.t.cases.length
  ·obtain⟨va,vb,vd,q1,q2,q3,i1,i2,i3⟩:=QQ HC.out HR.out k aF
   obtain⟨cur,fz,p1,p2,p3,_,p5⟩:=bL.row;have km:=bL.fit.1;have d0:wr.cell? ⟨g,k * 3,none⟩=some va:=by rw[ae p1,p5 _ (by omega) (by omega),q1]
   have d1:wr.cell? ⟨g,k * 3+1,none⟩=some vb:=by rw[ae p1,p5 _ (by omega) (by omega),q2]
   have d2:wr.cell? ⟨g,k * 3+2,none⟩=some vd:=by rw[ae p1,p5 _ (by omega) (by omega),q3]
   have I1:=aa i1;have I2:=aa i2;have I3:=aa i3;obtain⟨pa,ca,rfl,_⟩:=i1.at;obtain⟨pb,cb,rfl,_⟩:=i2.at;obtain⟨pd,cd,rfl,_⟩:=i3.at;have jK:=aa (eM.out _ (List.getElem_mem aF));have qB:=aa (fun (W:World) (h:CaseRow w.heap.size g cap raw p.t.cases k W) (a b d:Value)=>h.put aF (a:=a) (b:=b) (d:=d));have O1:=aB p1;clear q1 q2 q3 i1 i2 i3 p1 p2 p3 p5 hA hO bL;generalize p.t.cases[k]=c at I1 I2 I3 jK qB d0 d1 d2
   go_wp2_with fail
   clear d0 d1 d2;refine bw (fun W=>Below wr.heap.size wr W/\W.heap[wr.heap.size]?=some (.cells #[.slice pa c.inp.length ca,.slice pb c.out.length cb,.slice pd c.calm.length cd] 88)) ⟨by go_grown,ar _ _⟩ (fun W4 hW4=>?_);obtain⟨bM,IQ⟩:=hW4;have KP:=aa IQ;have HA4:=aa (ak bM HA.out);have yj:=aJ.size;have O0:=aB HA.out;have VJ:=aB HO.out;clear IQ
   refine ip 14 [22,23,24,25,26,27,28,29,30,31,32,33,34,35] [MP.eq (.pointer (some ⟨w.heap.size,0,none⟩)),
    MP.eq (.pointer (some ⟨w.heap.size,3,none⟩)),
    MP.eq (.slice (some ⟨g,0,none⟩) p.t.cases.length cap),
    MP.eq (.int .i64 k),
    MP.eq (.pointer (some ⟨wr.heap.size,0,none⟩)),
    MP.eq (.slice pa c.inp.length ca),
    N6 w.heap.size c.inp,
    MP.eq (.pointer (some ⟨wr.heap.size,1,none⟩)),
    MP.eq (.slice pb c.out.length cb),
    N7 w.heap.size c.out,
    MP.eq (.pointer (some ⟨wr.heap.size,2,none⟩)),
    MP.eq (.slice pd c.calm.length cd),
    N7 w.heap.size c.calm,
    N8 w.heap.size c] (by kernel_rfl) (by simp) (by decide) rfl (by kernel_rfl) (by kernel_rfl) (by kernel_rfl) ?step ?tail
   case step=>
    intro x W i o s F hi ho hs hB al hF;have bY:i=0\/i=1\/i=2\/i=3\/i=4\/i=5\/i=6\/i=7\/i=8\/i=9\/i=10\/i=11\/i=12\/i=13:=by omega
    rcases bY with rfl|rfl|rfl|rfl|rfl|rfl|rfl|rfl|rfl|rfl|rfl|rfl|rfl|rfl
    all_goals (obtain rfl:=cO ho.symm;obtain rfl:=cO hs.symm;simp only[bg,bQ,List.setIfInBounds_toArray,List.set_cons_succ,List.set_cons_zero,Nat.reduceAdd]at hF)
    ·clear al hi ho hs
     subst hF
     go_wp2_with fail
     exact bG _ (Below.refl _ _) rfl
    ·have d0:=bz (al ⟨0,.data⟩ (by simp) rfl)
     clear al hi ho hs;simp only[d0]at hF;subst hF
     go_wp2_with fail
     exact bG _ (Below.refl _ _) rfl
    ·have d1:=bz (al ⟨1,.data⟩ (by simp) rfl)
     clear al hi ho hs;have t1:=ae (ak hB HA4.out) 3;simp at t1;simp only[d1]at hF;subst hF
     go_wp2_with fail
     exact bG _ (Below.refl _ _) rfl
    ·clear al hi ho hs
     subst hF
     go_wp2_with fail
     exact bG _ (Below.refl _ _) rfl
    ·clear al hi ho hs
     subst hF
     go_wp2_with fail
     exact bG _ (Below.refl _ _) rfl
    ·have d4:=bz (al ⟨4,.data⟩ (by simp) rfl)
     clear al hi ho hs;have t1:=ae (ak hB KP.out) 0;simp at t1;simp only[d4]at hF;subst hF
     go_wp2_with fail
     exact bG _ (Below.refl _ _) rfl
    ·have d5:=bz (al ⟨5,.data⟩ (by simp) rfl)
     clear al hi ho hs;simp only[d5]at hF;subst hF
     go_wp2_with fail
     refine(iL _ c.inp W (I1.out.up up_int (Below.trans3 aJ bM hB)) (by have:=jK.out.inp;omega)).mono ?_;rintro e w9 ⟨u9,rfl,ku,eA⟩;have iU:=aa (ku.base (show w.heap.size<=W.heap.size by have:=hB.size;have:=bM.size;omega));clear ku
     go_wp2_with fail
     exact bG _ eA iU.out
    ·clear al hi ho hs
     subst hF
     go_wp2_with fail
     exact bG _ (Below.refl _ _) rfl
    ·have d7:=bz (al ⟨7,.data⟩ (by simp) rfl)
     clear al hi ho hs;have t1:=ae (ak hB KP.out) 1;simp at t1;simp only[d7]at hF;subst hF
     go_wp2_with fail
     exact bG _ (Below.refl _ _) rfl
    ·have d8:=bz (al ⟨8,.data⟩ (by simp) rfl)
     clear al hi ho hs;simp only[d8]at hF;subst hF
     go_wp2_with fail
     refine(se _ c.out W (I2.out.up up_ints (Below.trans3 aJ bM hB)) (by have:=jK.out.out2;have:=jK.out.calm;omega) (fun x hx=>by have:=jK.out.outs x hx;omega)).mono ?_;rintro e w9 ⟨u9,rfl,ku,eA⟩;have iU:=aa (dg.lower9 ku (show w.heap.size<=W.heap.size by have:=hB.size;have:=bM.size;omega));clear ku
     go_wp2_with fail
     exact bG _ eA iU.out
    ·clear al hi ho hs
     subst hF
     go_wp2_with fail
     exact bG _ (Below.refl _ _) rfl
    ·have d10:=bz (al ⟨10,.data⟩ (by simp) rfl)
     clear al hi ho hs;have t1:=ae (ak hB KP.out) 2;simp at t1;simp only[d10]at hF;subst hF
     go_wp2_with fail
     exact bG _ (Below.refl _ _) rfl
    ·have d11:=bz (al ⟨11,.data⟩ (by simp) rfl)
     clear al hi ho hs;simp only[d11]at hF;subst hF
     go_wp2_with fail
     refine(se _ c.calm W (I3.out.up up_ints (Below.trans3 aJ bM hB)) (by have:=jK.out.out2;have:=jK.out.calm;omega) (fun x hx=>by have:=jK.out.outs x (jK.out.calms x hx);omega)).mono ?_;rintro e w9 ⟨u9,rfl,ku,eA⟩;have iU:=aa (dg.lower9 ku (show w.heap.size<=W.heap.size by have:=hB.size;have:=bM.size;omega));clear ku
     go_wp2_with fail
     exact bG _ eA iU.out
    ·have d6:=al ⟨6,.data⟩ (by simp) rfl
     have d9:=al ⟨9,.data⟩ (by simp) rfl;have d12:=al ⟨12,.data⟩ (by simp) rfl;clear al hi ho hs;obtain⟨a6,c6,e6⟩:=aL.slice d6;obtain⟨a9,c9,e9⟩:=dg.slice d9;obtain⟨a12,c12,e12⟩:=dg.slice d12;rw[e6]at d6;rw[e9]at d9;rw[e12]at d12;have HD6:=aa (show aL W w.heap.size 3 1 (.slice a6 c.inp.length c6) c.inp.length (c.inp.map (Value.int .i64)) from d6);have Vh:=aa (show dZ W w.heap.size (.slice a9 c.out.length c9) c.out from d9);have HD12:=aa (show dZ W w.heap.size (.slice a12 c.calm.length c12) c.calm from d12);clear d6 d9 d12;simp only[e6,e9,e12]at hF;subst hF
     go_wp2_with fail
     refine aY.mk (.agg #[.slice a6 c.inp.length c6,.slice a9 c.out.length c9,.slice a12 c.calm.length c12]) ?_ ?_ ?_
     ·exact(Below.refl _ _)
     ·exact N9 HD6.out Vh.out HD12.out
     ·first
      | rfl
      | simp only[List.setIfInBounds_toArray,List.set_cons_succ,List.set_cons_zero]
   case tail=>
    intro x W3 F hB aM hF;have d2:x 2=.slice (some ⟨g,0,none⟩) p.t.cases.length cap:=aM 2 (by omega);have d3:x 3=.int .i64 k:=aM 3 (by omega);have d13:=aM 13 (by omega);obtain⟨ya,yb,yd,e13,h2,h3,h4⟩:∃ a b d,x 13=.agg #[a,b,d]/\aL W3 w.heap.size 3 1 a c.inp.length (c.inp.map (Value.int .i64))/\dZ W3 w.heap.size b c.out/\dZ W3 w.heap.size d c.calm:=d13;clear aM;simp only[bg,bQ,List.setIfInBounds_toArray,List.set_cons_succ,List.set_cons_zero,Nat.reduceAdd]at hF;obtain⟨y1,z1,rfl⟩:=h2.slice;obtain⟨y2,z2,rfl⟩:=h3.slice;obtain⟨y3,z3,rfl⟩:=h4.slice;rw[d2,d3,e13]at hF;generalize x 0=s0,x 1=s1,x 4=s4,x 5=s5,x 6=s6,x 7=s7,x 8=s8,x 9=s9,x 10=s10,x 11=s11,x 12=s12 at hF;subst hF;have MW:=CL.out.up (aj bM hB);have yB:=aa MW;have H2:=aa h2;have H3:=aa h3;have H4:=aa h4;obtain⟨cur3,fz3,q1,q2,q3,_,q5⟩:=MW.row;have c0:∃ u,W3.cell? ⟨g,k * 3,none⟩=some u:=⟨cur3[k * 3]'(by omega),by rw[ae q1];exact Array.getElem?_eq_getElem _⟩;have c1:∃ u,W3.cell? ⟨g,k * 3+1,none⟩=some u:=⟨cur3[k * 3+1]'(by omega),by rw[ae q1];exact Array.getElem?_eq_getElem _⟩;have c2:∃ u,W3.cell? ⟨g,k * 3+2,none⟩=some u:=⟨cur3[k * 3+2]'(by omega),by rw[ae q1];exact Array.getElem?_eq_getElem _⟩;obtain⟨o0,c0⟩:=c0;obtain⟨o1,c1⟩:=c1;obtain⟨o2,c2⟩:=c2;have f0:=jq q1 q2 (k * 3) (by omega);have f1:=jq q1 q2 (k * 3+1) (by omega);have f2:=jq q1 q2 (k * 3+2) (by omega);have zy:=ak (aj bM hB) HA.out;have zI:=ak (aj bM hB) HO.out;have Ja:w.heap.size≠g:=nh zy q1 (by decide);have CQ:w.heap.size+1≠g:=nh zI q1 (by decide);have Fw:=aa zy;have Is:=aa zI;have xy:=aa (Below.trans3 aJ bM hB);have kW:=yB.out.lo;clear d2 d3 e13 h2 h3 h4 MW q1 q2 q3 q5 zy zI hB
    simp only[List.drop_succ_cons,List.drop_zero]
    go_wp2_with fail
    go_roundw
    case rel=>exact⟨k+1,by omega,by go_num,((xy.out.setCell kW _).setCell kW _).setCell kW _,aI (aI (aI Fw.out Ja _ _) Ja _ _) Ja _ _,aI (aI (aI Is.out CQ _ _) CQ _ _) CQ _ _,qB.out _ yB.out _ _ _ H2.out H3.out H4.out⟩
    case measure=>simp[intOf];omega
  ·obtain rfl:k=p.t.cases.length:=by omega
   obtain⟨wrA,R9⟩:∃ x,x=wr:=⟨_,rfl⟩;subst R9;have t1:=ae hA;have z1:=fun o=>aD hA o
   have yj:=aJ.size;have O0:=aB hA;have VJ:=aB hO;clear hA hO bL
   go_wp2_with fail
   refine(BW _ p.a.states.length raw2 wrA ?_ (by omega)).mono ?_
   ·obtain⟨q,cap,e,h1,h2,h3,h4⟩:=qg.out
    exact⟨q,cap,e,h1,h2,fun j u hj=>by obtain⟨b,o,e1,e2⟩:=h3 j u hj;exact⟨b,o,e1,ay aJ e2⟩,h4⟩
   rintro e w3 ⟨u,rfl,hu,bA⟩
   have bL:∃ g2 cap2,u=.slice (some ⟨g2,0,none⟩) p.a.states.length cap2/\StateRow w.heap.size g2 cap2 raw2 p.a.states 0 w3:=by
    rcases hu.2 with ⟨_,h0⟩|⟨g2,cap2,cur,fz,rfl,h1,h2,h3,h4,h5,h6,h7⟩
    ·omega
    ·refine⟨g2,cap2,rfl,by omega,⟨h4,h5⟩,cur,fz,h2,h3,by omega,fun i hi hk=>by omega,fun j _ hj=>?_⟩
     rw[<-h7,List.getElem?_take_of_lt (by omega)];simp
   obtain⟨g2,cap2,rfl,bL⟩:=bL;clear t1 z1;have S7:=ak bA HA.out;have t1:=ae S7;have z1:=fun o=>aD S7 o
   have eT:=aj aJ bA;have lZ:=aa bL;have HA3:=aa S7;have un:=aa (ak bA HO.out);have yB:=aa (CL.out.up bA);clear hu bL S7
   go_wp2_with fail
   clear t1 z1;refine bw (fun W=>Below w.heap.size w W/\W.heap[w.heap.size]?=some (.cells #[.int .i64 p.t.n,.int .i64 p.t.ins,.int .i64 p.t.outs,.slice (some ⟨g,0,none⟩) p.t.cases.length cap,.int .i64 p.a.n,.slice (some ⟨g2,0,none⟩) p.a.states.length cap2,.int .i64 p.rounds] 29)/\W.heap[w.heap.size+1]?=some (.cells zPb 29)/\CaseRow w.heap.size g cap raw p.t.cases p.t.cases.length W/\StateRow w.heap.size g2 cap2 raw2 p.a.states 0 W) ?_ (fun W5 qP=>?_)
   ·have qN:=KeepT.set (o:=5) (KeepT.refl (ms:=[]) [29] w.heap.size w3) HA3.out (by simp) (Nat.le_refl _) (.slice (some ⟨g2,0,none⟩) p.a.states.length cap2)
    exact⟨eT.setCell (Nat.le_refl _) _,by rw[aE HA3.out];rfl,aI un.out (by omega) _ _,yB.out.keep qN (by decide) (by decide) (by decide),lZ.out.keep qN (by decide) (by decide)⟩
   obtain⟨dy,zy,zI,hrow5,hst5⟩:=qP
   go_loopw [48] (fun i wr=>∃ k:Nat,k<=p.a.states.length/\i=.int .i64 k/\Below w.heap.size w wr/\wr.heap[w.heap.size]?=some (.cells #[.int .i64 p.t.n,.int .i64 p.t.ins,.int .i64 p.t.outs,.slice (some ⟨g,0,none⟩) p.t.cases.length cap,.int .i64 p.a.n,.slice (some ⟨g2,0,none⟩) p.a.states.length cap2,.int .i64 p.rounds] 29)/\wr.heap[w.heap.size+1]?=some (.cells zPb 29)/\CaseRow w.heap.size g cap raw p.t.cases p.t.cases.length wr/\StateRow w.heap.size g2 cap2 raw2 p.a.states k wr) (fun i _=>p.a.states.length - (intOf i).toNat)
   case atStart=>exact⟨0,by omega,rfl,dy,zy,zI,hrow5,hst5⟩
   case round=>
    clear dy zy zI hrow5 hst5;obtain⟨k,hk,rfl,aJ,hA,hO,bL,eN⟩:=hrel;have HA:=aa hA;have HO:=aa hO;have HROW6:=aa bL;have HST6:=aa eN;by_cases aF:k<p.a.states.length
    ·obtain⟨va,q1,i1⟩:=N5 HS.out qg.out k aF
     obtain⟨cur,fz,p1,p2,p3,_,p5⟩:=eN.row;have km:=eN.fit.1;have d0:wr.cell? ⟨g2,k,none⟩=some va:=by rw[ae p1,p5 _ (by omega) (by omega),q1]
     have I1:=aa i1;obtain⟨pa,ca,rfl,_⟩:=i1.at;have qB:=aa (fun (W:World) (h:StateRow w.heap.size g2 cap2 raw2 p.a.states k W) (a:Value)=>h.put aF (a:=a));have HLN:Hid (p.a.states[k].length<=1048576):=aa (by have:=H' p.a.states k aF;omega);have O1:=aB p1;clear q1 i1 p1 p2 p3 p5 hA hO bL eN;generalize p.a.states[k]=c at I1 qB HLN d0;have yj:=aJ.size;have O0:=aB HA.out
     go_wp2_with fail
     clear d0
     refine ip 6 [53,54,55,56,57,58] [MP.eq (.pointer (some ⟨w.heap.size,4,none⟩)),
      MP.eq (.pointer (some ⟨w.heap.size,5,none⟩)),
      MP.eq (.slice (some ⟨g2,0,none⟩) p.a.states.length cap2),
      MP.eq (.int .i64 k),
      MP.eq (.slice pa c.length ca),
      TQ w.heap.size c] (by kernel_rfl) (by simp) (by decide) rfl (by kernel_rfl) (by kernel_rfl) (by kernel_rfl) ?step ?tail
     case step=>
      intro x W i o s F hi ho hs hB al hF;have bY:i=0\/i=1\/i=2\/i=3\/i=4\/i=5:=by omega
      rcases bY with rfl|rfl|rfl|rfl|rfl|rfl
      all_goals (obtain rfl:=cO ho.symm;obtain rfl:=cO hs.symm;simp only[bg,bQ,List.setIfInBounds_toArray,List.set_cons_succ,List.set_cons_zero,Nat.reduceAdd]at hF)
      ·clear al hi ho hs
       subst hF
       go_wp2_with fail
       exact bG _ (Below.refl _ _) rfl
      ·have d0:=bz (al ⟨0,.data⟩ (by simp) rfl)
       clear al hi ho hs;simp only[d0]at hF;subst hF
       go_wp2_with fail
       exact bG _ (Below.refl _ _) rfl
      ·have d1:=bz (al ⟨1,.data⟩ (by simp) rfl)
       clear al hi ho hs;have t1:=ae (ak hB HA.out) 5;simp at t1;simp only[d1]at hF;subst hF
       go_wp2_with fail
       exact bG _ (Below.refl _ _) rfl
      ·clear al hi ho hs
       subst hF
       go_wp2_with fail
       exact bG _ (Below.refl _ _) rfl
      ·clear al hi ho hs
       subst hF
       go_wp2_with fail
       exact bG _ (Below.refl _ _) rfl
      ·have d4:=bz (al ⟨4,.data⟩ (by simp) rfl)
       clear al hi ho hs;simp only[d4]at hF;subst hF
       go_wp2_with fail
       refine(DH _ c.length (ii c) W (N0 (I1.out.up up_move (aj aJ hB))) HLN.out).mono ?_;rintro e w9 ⟨u9,rfl,ku,eA⟩;have iU:=aa (ku.base (show w.heap.size<=W.heap.size by have:=hB.size;omega));clear ku
       go_wp2_with fail
       exact bG _ eA iU.out
     case tail=>
      intro x W3 F hB aM hF;have d2:x 2=.slice (some ⟨g2,0,none⟩) p.a.states.length cap2:=aM 2 (by omega);have d3:x 3=.int .i64 k:=aM 3 (by omega);have h2:aL W3 w.heap.size 98 8 (x 5) c.length (ii c):=aM 5 (by omega);clear aM;simp only[bg,bQ,List.setIfInBounds_toArray,List.set_cons_succ,List.set_cons_zero,Nat.reduceAdd]at hF;obtain⟨y1,z1,e5⟩:=h2.slice;rw[d2,d3,e5]at hF;rw[e5]at h2;generalize x 0=s0,x 1=s1,x 4=s4 at hF;subst hF;have RV:=HST6.out.up hB;have HST3:=aa RV;have yB:=aa (HROW6.out.up hB);have H2:=aa h2;obtain⟨cur3,fz3,q1,q2,q3,_,q5⟩:=RV.row;have c0:∃ u,W3.cell? ⟨g2,k,none⟩=some u:=⟨cur3[k]'(by omega),by rw[ae q1];exact Array.getElem?_eq_getElem _⟩;obtain⟨o0,c0⟩:=c0;have f0:=jq q1 q2 k (by omega);have zy:=ak hB HA.out;have zI:=ak hB HO.out;have Ja:w.heap.size≠g2:=nh zy q1 (by decide);have CQ:w.heap.size+1≠g2:=nh zI q1 (by decide);have Fw:=aa zy;have Is:=aa zI;have xy:=aa (aj aJ hB);have kW:=HST3.out.lo;have HQ1:=aa q1;clear d2 d3 e5 h2 RV q1 q2 q3 q5 zy zI hB;simp only[List.drop_succ_cons,List.drop_zero]
      go_wp2_with fail
      go_roundw
      case rel=>exact⟨k+1,by omega,by go_num,xy.out.setCell kW _,aI Fw.out Ja _ _,aI Is.out CQ _ _,yB.out.keep (KeepT.set (KeepT.refl (ms:=[]) [94] w.heap.size W3) HQ1.out (by simp) kW _) (by decide) (by decide) (by decide),qB.out _ HST3.out _ H2.out⟩
      case measure=>simp[intOf];omega
    ·obtain rfl:k=p.a.states.length:=by omega
     have tA:=ae hA;have tO:=ae hO;have zO:=fun o=>aD hO o
     have yj:=aJ.size;have O0:=aB HA.out;clear hA hO bL eN
     go_wp2_with fail
     have e0:=aE HO.out 0 (.int .i64 p.t.n);have e1:=aE e0 1 (.int .i64 p.t.ins);have e2:=aE e1 2 (.int .i64 p.t.outs);have e3:=aE e2 3 (.slice (some ⟨g,0,none⟩) p.t.cases.length cap);have e4:=aE e3 4 (.int .i64 p.a.n);have e5:=aE e4 5 (.slice (some ⟨g2,0,none⟩) p.a.states.length cap2);have e6:=aE e5 6 (.int .i64 p.rounds);have sG:w.heap.size<=w.heap.size+1:=by omega
     have qN:=((((((((KeepT.refl (ms:=[]) [29] w.heap.size wr).set (o:=0) HO.out (by simp) sG (.int .i64 p.t.n)).set (o:=1) e0 (by simp) sG (.int .i64 p.t.ins)).set (o:=2) e1 (by simp) sG (.int .i64 p.t.outs)).set (o:=3) e2 (by simp) sG (.slice (some ⟨g,0,none⟩) p.t.cases.length cap)).set (o:=4) e3 (by simp) sG (.int .i64 p.a.n)).set (o:=5) e4 (by simp) sG (.slice (some ⟨g2,0,none⟩) p.a.states.length cap2)).set (o:=6) e5 (by simp) sG (.int .i64 p.rounds));have oa:=((((((aJ.setCell sG (p:=⟨w.heap.size+1,0,none⟩) (.int .i64 p.t.n)).setCell sG (p:=⟨w.heap.size+1,1,none⟩) (.int .i64 p.t.ins)).setCell sG (p:=⟨w.heap.size+1,2,none⟩) (.int .i64 p.t.outs)).setCell sG (p:=⟨w.heap.size+1,3,none⟩) (.slice (some ⟨g,0,none⟩) p.t.cases.length cap)).setCell sG (p:=⟨w.heap.size+1,4,none⟩) (.int .i64 p.a.n)).setCell sG (p:=⟨w.heap.size+1,5,none⟩) (.slice (some ⟨g2,0,none⟩) p.a.states.length cap2)).setCell sG (p:=⟨w.heap.size+1,6,none⟩) (.int .i64 p.rounds);have t7:=ae e6;refine bodyPost_ret (v:=jI p (.slice (some ⟨g,0,none⟩) p.t.cases.length cap) (.slice (some ⟨g2,0,none⟩) p.a.states.length cap2)) (by simp[results,Tryz.results62,go_sem,t7]) rfl ⟨_,_,rfl,fun W' FW=>⟨?_,?_⟩,oa⟩
     ·exact((HROW6.out.keep qN (by decide) (by decide) (by decide)).from FW).done (Nat.le_refl _) ht (H9 HC.out)
     ·exact((HST6.out.keep qN (by decide) (by decide)).from FW).done (Nat.le_refl _) iu (fun x hx=>by obtain⟨i,hi,rfl⟩:=List.getElem_of_mem hx;have:=H' p.a.states i hi;omega) (LY HS.out)
end Go.Proofs.YtkfgpnbpcpdclaaGreat
namespace Go.Proofs.YtkfgpnbpcpdclaaGreat
open Go.RowKit Go Go.Shelf
theorem mS(g:Nat) (e:TypeId) (fz:Nat × Nat):∀ (vs:List Value) (o:Nat) (w:World) (cur:Array Value),w.heap[g]?=some (.cells cur e fz)->o+vs.length<=cur.size →
  ∃ cur',(w.setCells g o vs).heap[g]?=some (.cells cur' e fz)/\cur'.toList=cur.toList.take o++vs++cur.toList.drop (o+vs.length)
 | [],o,w,cur,hg,_=>⟨cur,hg,by simp⟩
 | v :: r,o,w,cur,hg,hl=>by
  simp only[List.length_cons]at hl;obtain⟨cur',h1,h2⟩:=mS g e fz r (o+1) (w.setCell ⟨g,o,none⟩ v) (cur.setIfInBounds o v) (aE hg o v) (by simp;omega);refine⟨cur',h1,?_⟩;rw[h2,Array.toList_setIfInBounds,List.take_succ_eq_append_getElem (by simp;omega),List.take_set_of_le (by omega),List.getElem_set_self,List.drop_set_of_lt (by omega),show o+(v :: r).length=o+1+r.length by simp;omega];simp
theorem aL.setMany{w:World} {base sz:Nat} {e:TypeId} {g c n:Nat} {xs:List Value} (h:aL w base e sz (.slice (some ⟨g,0,none⟩) n c) n xs) (o:Nat) (vs:List Value) (ho:o+vs.length<=n * sz) :
  aL (w.setCells g o vs) base e sz (.slice (some ⟨g,0,none⟩) n c) n (xs.take o++vs++xs.drop (o+vs.length)):=by
 obtain⟨hl,h⟩:=h;refine⟨by simp;omega,?_⟩;rcases h with ⟨h,_⟩|⟨g',cap,cur,fz,e1,h2,h3,h4,h5,h6,h7,h8⟩
 ·cases h
 ·simp only[Value.slice.injEq,Option.some.injEq,Addr.mk.injEq]at e1
  obtain⟨⟨rfl,_⟩,_,rfl⟩:=e1;have dM:n * sz<=c * sz:=Nat.mul_le_mul_right _ h5;obtain⟨cur',k1,k2⟩:=mS g e fz vs o w cur h3 (by omega)
  have bW:cur'.size=cur.size:=by
   have:=congrArg List.length k2;simp at this;omega
  refine .inr ⟨g,c,cur',fz,rfl,h2,k1,by rw[bW];exact h4,h5,h6,by rw[bW];exact h7,?_⟩;obtain⟨rest,hrest⟩:∃ rest,cur.toList=xs++rest:=⟨cur.toList.drop (n * sz),by rw[<-h8,List.take_append_drop]⟩;rw[k2,hrest,List.take_append_of_le_length (l₁:=xs) (by omega),List.drop_append_of_le_length (l₁:=xs) (by omega),<-List.append_assoc];exact List.take_left' (by simp;omega)
theorem EG(l:List Rd) (k:Nat) (hk:k<l.length) (r:Rd):(bi l).take (k * 7)++r.c.toList++(bi l).drop (k * 7+7)=bi (l.set k r):=by
 induction l generalizing k with
 | nil=>simp at hk
 | cons x l ih=>
  have hx:bi (x :: l)=x.c.toList++bi l:=rfl;have cZ:x.c.toList.length=7:=rfl;cases k with
  | zero=>
   rw[hx,List.set_cons_zero];have:bi (r :: l)=r.c.toList++bi l:=rfl;rw[this,Nat.zero_mul,List.take_zero,List.nil_append,Nat.zero_add,List.drop_append_of_le_length (by omega),List.drop_of_length_le (by omega),List.nil_append]
  | succ k=>
   have h1:=ih k (by simpa using hk);have h2:bi ((x :: l).set (k+1) r)=x.c.toList++bi (l.set k r):=rfl;rw[h2,<-h1,hx,List.take_append,List.drop_append,cZ,List.take_of_length_le (by omega),List.drop_of_length_le (l:=x.c.toList) (by omega),show (k+1) * 7 - 7=k * 7 by omega,show (k+1) * 7+7 - 7=k * 7+7 by omega];simp
theorem N'(a:Option Addr) (n c:Nat) (k:Int) (w:World) :
  Calls Tryz.prog 44 #[.slice a n c,.int .i64 k] w fun e w'=>e=.returned (.func (.func 74) #[] #[.pointer (some ⟨w.heap.size,0,none⟩),.pointer (some ⟨w.heap.size+1,0,none⟩)]) ∧
   w'=(w.alloc (.cells #[.slice a n c] 37)).alloc (.cells #[.int .i64 k] 3):=by
 go_enter Tryz.func44,Tryz.ntmps44
 go_wp2
 go_ret
 exact⟨rfl,rfl⟩
theorem Oa(a:Option Addr) (n c:Nat) (k:Int) (w:World) :
  Calls Tryz.prog 47 #[.slice a n c,.int .i64 k] w fun e w'=>e=.returned (.func (.func 75) #[] #[.pointer (some ⟨w.heap.size,0,none⟩),.pointer (some ⟨w.heap.size+1,0,none⟩)]) ∧
   w'=(w.alloc (.cells #[.slice a n c] 36)).alloc (.cells #[.int .i64 k] 3):=by
 go_enter Tryz.func47,Tryz.ntmps47
 go_wp2
 go_ret
 exact⟨rfl,rfl⟩
theorem Ia{n:Int} {r:Rd} (h:OkR n r):bK r.g.n/\bK r.g.h0/\bK r.g.h1/\bK r.g.h2/\bK r.g.h3/\bK r.g.h4/\bK r.f:=by
 have h0:=h.h 0 (by omega);have h1:=h.h 1 (by omega);have h2:=h.h 2 (by omega);have h3:=h.h 3 (by omega);have h4:=h.h 4 (by omega);simp only[Gr.hear]at h0 h1 h2 h3 h4;have h5:=h.f;have h6:=h.n1;have h7:=h.gn;unfold bK;omega
theorem J0(n:Int) (r:Rd) (hr:OkR n r) (word:List Rd) (hw:∀ x∈word,OkR n x) (k:Nat) (hk:k<word.length) (hl:word.length<=1048576) (v:Value) (w:World) (hv:bN w v word) (B1 B2:Nat) (h1:w.heap[B1]?=some (.cells #[v] 37)) (h2:w.heap[B2]?=some (.cells #[.int .i64 k] 3)) :
  Calls Tryz.prog 74 #[r.v,.pointer (some ⟨B1,0,none⟩),.pointer (some ⟨B2,0,none⟩)] w fun e w'=>∃ u,e=.returned u/\aL w' w.heap.size 52 7 u (word.set k r).length (bi (word.set k r))/\Below w.heap.size w w':=by
 have HV:=aa hv;have HW:=aa hw;have HR:=aa hr;obtain⟨pa,ca,rfl,_⟩:=hv.at;clear hv hw hr;have OW:(k:Int)<word.length:=by omega
 have c1:=ae h1 0;simp at c1;have du:=aB h1;have H1:=aa h1;have H2:=aa h2;clear h1 h2
 go_enter Tryz.func74,Tryz.ntmps74
 go_wp2_with fail
 refine aT (fun W=>Below w.heap.size w W/\W.heap[w.heap.size]?=some (.cells #[.int .i64 r.g.n,.int .i64 r.g.h0,.int .i64 r.g.h1,.int .i64 r.g.h2,.int .i64 r.g.h3,.int .i64 r.g.h4,.int .i64 r.f] 52)) ⟨by go_grown,ar _ _⟩ (fun W0 bd=>?_);obtain⟨aH,bD⟩:=bd;refine(iN _ word W0 (HV.out.up up_round aH) hl).mono ?_;rintro e w1 ⟨u,rfl,hu,aG⟩
 have bL:∃ g cap,u=.slice (some ⟨g,0,none⟩) word.length cap/\W0.heap.size<=g/\∀ o,o<word.length * 7->(∃ x,w1.cell? ⟨g,o,none⟩=some x)/\w1.frozen? ⟨g,o,none⟩=false:=by
  rcases hu.2 with ⟨_,h0⟩|⟨g,cap,cur,fz,rfl,h1,h2,h3,h4,h5,h6,h7⟩
  ·omega
  ·have hs:word.length * 7<=cap * 7:=Nat.mul_le_mul_right _ h4
   exact⟨g,cap,rfl,h1,fun o ho=>⟨⟨cur[o]'(by omega),by rw[ae h2];exact Array.getElem?_eq_getElem (by omega)⟩,jq h2 h3 o (by omega)⟩⟩
 obtain⟨g,cap,rfl,hg0,lQ⟩:=bL;have tA:=ae (ak aG bD);have tK:=ae (ak (aj aH aG) H2.out) 0;simp at tK;obtain⟨⟨x0,y0⟩,f0⟩:=lQ (k * 7) (by omega);obtain⟨⟨x1,y1⟩,f1⟩:=lQ (k * 7+1) (by omega);obtain⟨⟨x2,y2⟩,f2⟩:=lQ (k * 7+2) (by omega);obtain⟨⟨x3,y3⟩,f3⟩:=lQ (k * 7+3) (by omega);obtain⟨⟨x4,y4⟩,f4⟩:=lQ (k * 7+4) (by omega);obtain⟨⟨x5,y5⟩,f5⟩:=lQ (k * 7+5) (by omega);obtain⟨⟨x6,y6⟩,f6⟩:=lQ (k * 7+6) (by omega);have HU:=aa hu;have aS:=aj aH aG;have hz:=aH.size;clear lQ c1 hu
 go_wp2_with fail
 go_ret
 have h9:=HU.out.setMany (k * 7) r.c.toList (by show k * 7+7<=word.length * 7;omega);refine⟨.slice (some ⟨g,0,none⟩) word.length cap,rfl,?_,?_⟩
 ·change aL (w1.setCells g (k * 7) r.c.toList) _ _ _ _ _ _
  have rR:aL (w1.setCells g (k * 7) r.c.toList) W0.heap.size 52 7 (.slice (some ⟨g,0,none⟩) word.length cap) (word.set k r).length (bi (word.set k r)):=by
   rw[List.length_set,<-EG word k hk r];exact h9
  exact rR.base aH.size
 ·change Below w.heap.size w (w1.setCells g (k * 7) r.c.toList)
  obtain⟨o1,o2,o3,o4,o5⟩:=eX g r.c.toList (k * 7) w1;exact⟨o2.trans aS.os,o3.trans aS.tape,o4.trans aS.output,by rw[o5];exact aS.size,fun j hj=>(o1 j (by omega)).trans (aS.block j hj)⟩
theorem J1(x:Int) (hx:bK x) (l:List Int) (hl0:∀ y∈l,bK y) (k:Nat) (hk:k<l.length) (hl:l.length<=1048576) (v:Value) (w:World) (hv:aU w v l) (B1 B2:Nat) (h1:w.heap[B1]?=some (.cells #[v] 36)) (h2:w.heap[B2]?=some (.cells #[.int .i64 k] 3)) :
  Calls Tryz.prog 75 #[.int .i64 x,.pointer (some ⟨B1,0,none⟩),.pointer (some ⟨B2,0,none⟩)] w fun e w'=>∃ u,e=.returned u/\aL w' w.heap.size 3 1 u (l.set k x).length ((l.set k x).map (Value.int .i64))/\Below w.heap.size w w':=by
 have HV:=aa hv;obtain⟨pa,ca,rfl,_⟩:=hv.at;clear hv;have OW:(k:Int)<l.length:=by omega
 have c1:=ae h1 0;simp at c1;have du:=aB h1;have H1:=aa h1;have H2:=aa h2;clear h1 h2
 go_enter Tryz.func75,Tryz.ntmps75
 go_wp2_with fail
 refine(iL _ l w HV.out (by omega)).mono ?_;rintro e w1 ⟨u,rfl,hu,aG⟩
 have bL:∃ g cap,u=.slice (some ⟨g,0,none⟩) l.length cap/\w.heap.size<=g/\∀ o,o<l.length * 1->(∃ x,w1.cell? ⟨g,o,none⟩=some x)/\w1.frozen? ⟨g,o,none⟩=false:=by
  rcases hu.2 with ⟨_,h0⟩|⟨g,cap,cur,fz,rfl,h1,h2,h3,h4,h5,h6,h7⟩
  ·omega
  ·exact⟨g,cap,rfl,h1,fun o ho=>⟨⟨cur[o]'(by omega),by rw[ae h2];exact Array.getElem?_eq_getElem (by omega)⟩,jq h2 h3 o (by omega)⟩⟩
 obtain⟨g,cap,rfl,hg0,lQ⟩:=bL;have tK:=ae (ak aG H2.out) 0;simp at tK;obtain⟨⟨x0,y0⟩,f0⟩:=lQ k (by omega);have HU:=aa hu;clear lQ c1 hu
 go_wp2_with fail
 go_ret
 have h9:=HU.out.setMany k [.int .i64 x] (by simp;omega)
 have rR:aL (w1.setCell ⟨g,k,none⟩ (.int .i64 x)) w.heap.size 3 1 (.slice (some ⟨g,0,none⟩) l.length cap) (l.set k x).length ((l.set k x).map (Value.int .i64)):=by
  have e:(l.map (Value.int .i64)).take k++[Value.int .i64 x]++(l.map (Value.int .i64)).drop (k+1)=(l.set k x).map (Value.int .i64):=by
   rw[List.set_eq_take_append_cons_drop,if_pos hk];simp
  rw[List.length_set,<-e];exact h9
 exact⟨.slice (some ⟨g,0,none⟩) l.length cap,rfl,rR,aG.setCell (p:=⟨g,k,none⟩) hg0 _⟩
end Go.Proofs.YtkfgpnbpcpdclaaGreat
namespace Go.Proofs.YtkfgpnbpcpdclaaGreat
open Go.RowKit Go Go.Shelf Go.Sort Go.Lib
theorem vM{a b c:Rd} (h1:¬ roundC a b<0) (h2:¬ roundC b c<0):¬ roundC a c<0:=by
 intro h3;rcases Int.lt_trichotomy (roundC a b) 0 with h|h|h
 ·exact h1 h
 ·rw[(nW a b).1 h]at h3;exact h2 h3
 ·have hba:roundC b a<0:=(pF b a).2 h
  exact h2 (j7 hba h3)
theorem round_swo:SWO (ltOf roundC) where
 irrefl x:=by unfold ltOf;simpa using nX x
 trans x y z h1 h2:=by unfold ltOf at *;simp only[decide_eq_true_eq]at *;exact j7 h1 h2
 ntrans x y z h1 h2:=by unfold ltOf at *;simp only[decide_eq_false_iff_not]at *;exact vM h1 h2
theorem EH(l:List Rd) (t:Nat) (ht:t<l.length * 7):(bi l)[t]?=some ((flatK (fun r:Rd=>r.c.toList) 7 l.toArray)[t]!):=by
 rw[get_flatK _ _ _ t (by simpa using ht)];have h7:t / 7<l.length:=by omega
 have hm:t % 7<7:=Nat.mod_lt _ (by omega);have h1:=k7 Rd.c 7 (fun _=>rfl) l (t / 7) (t % 7) h7 hm;rw[show t / 7 * 7+t % 7=t by omega]at h1;have h2:l.toArray[t / 7]! = l[t / 7]:=by rw[getElem!_pos _ _ (by simpa using h7)];simp
 rw[h2];refine h1.trans ?_;have h3:t % 7<l[t / 7].c.size:=hm;rw[Array.getElem?_eq_getElem h3,getElem!_pos _ _ (by simpa using h3)];simp
theorem QR{W:World} {base g cap n:Nat} {l l':List Rd} (h:aL W base 52 7 (.slice (some ⟨g,0,none⟩) n cap) n (bi l)) (hl:l'.length=n) (k:Nat) (os:Array Obj) :
  aL (sortWorldK (fun r:Rd=>r.c.toList) 7 W g 0 k l'.toArray os) base 52 7 (.slice (some ⟨g,0,none⟩) n cap) n (bi l')/\∀ b w0,b<=base->Below b w0 W->Below b w0 (sortWorldK (fun r:Rd=>r.c.toList) 7 W g 0 k l'.toArray os):=by
 obtain⟨cZ,h⟩:=h;rcases h with ⟨h,_⟩|⟨g',cap',cur,fz,e1,h2,h3,h4,h5,h6,h7,h8⟩
 ·cases h
 ·simp only[Value.slice.injEq,Option.some.injEq,Addr.mk.injEq]at e1
  obtain⟨⟨rfl,_⟩,_,rfl⟩:=e1;have aF:=aB h3;have hF:(flatK (fun r:Rd=>r.c.toList) 7 l'.toArray).size=n * 7:=by simp[hl]
  have dM:n * 7<=cap * 7:=Nat.mul_le_mul_right _ h5;generalize hFe:flatK (fun r:Rd=>r.c.toList) 7 l'.toArray=F at hF
  have hX:∀ j,(sortWorldK (fun r:Rd=>r.c.toList) 7 W g 0 k l'.toArray os).heap[j]?=if j<W.heap.size then(if g=j then(W.heap[j]?).map (onCells (putCells id 0 F)) else W.heap[j]?) else(W.heap.modify g (onCells (putCells id 0 F))++os)[j]?:=fun j=>by
   unfold sortWorldK putRowK putRow mapBlock grow Sort.ahead;rw[hFe];dsimp only;split
   ·rename_i hj
    rw[Array.getElem?_append_left (by simpa using hj),Array.getElem?_modify]
   ·rfl
  have hXg:=hX g;rw[if_pos aF,if_pos rfl,h3]at hXg;refine⟨⟨by rw[ge,hl],.inr ⟨g,cap,_,fz,rfl,h2,hXg,?_,h5,h6,?_,?_⟩⟩,fun b w0 hb fh=>⟨fh.os,fh.tape,fh.output,?_,fun j hj=>?_⟩⟩
  ·intro i hi
   exact h4 i (by simpa[putCells] using hi)
  ·simpa[putCells] using h7
  ·apply List.ext_getElem?
   intro i;by_cases hi:i<n * 7
   ·rw[List.getElem?_take_of_lt hi,EH l' i (by rw[hl];exact hi),hFe]
    simp only[Array.getElem?_toList,putCells,Array.getElem?_mapIdx];rw[Array.getElem?_eq_getElem (by omega)];simp[hF,hi]
   ·rw[List.getElem?_eq_none (by simp;omega),List.getElem?_eq_none (by rw[ge,hl];omega)]
  ·have:=fh.size
   unfold sortWorldK putRowK putRow mapBlock grow Sort.ahead;simp;omega
  ·rw[hX j]
   by_cases oF:j<W.heap.size
   ·rw[if_pos oF,if_neg (by omega)]
    exact fh.block j hj
   ·omega
theorem LZ(l:List Rd) (base g cap:Nat) (w:World) (h:aL w base 52 7 (.slice (some ⟨g,0,none⟩) l.length cap) l.length (bi l)) (hl:l.length<=1048576) :
  Calls Tryz.prog 71 #[.slice (some ⟨g,0,none⟩) l.length cap,.func (.func 72) #[] #[]] w fun e w'=>e=.returned (.tuple #[])/\aL w' base 52 7 (.slice (some ⟨g,0,none⟩) l.length cap) l.length (bi (l.mergeSort fun x y=>!(ltOf roundC) y x))/\∀ b w0,b<=base->Below b w0 w->Below b w0 w':=by
 have eg:∀ args w,(callFunc 72 args).run Tryz.prog w=.ok (.enter 72 args) w:=enters_of Tryz.func72 (by kernel_rfl) rfl
 have hcmp:CmpLays Tryz.prog 72 #[] (fun r:Rd=>r.c.toList) 7 roundC g 0 l.toArray.size w:=fun m os dk _ x y=>by
  refine(yJ x y _).mono ?_;rintro e w' ⟨rfl,q,os',hq⟩;exact⟨rfl,q,os',hq⟩
 have o8:g<w.heap.size:=(h.lt g rfl).2
 have hH:HoldsK (fun r:Rd=>r.c.toList) 7 w g 0 l.toArray:=by
  rcases h.2 with ⟨h,_⟩|⟨g',cap',cur,fz,e1,h2,h3,h4,h5,h6,h7,h8⟩
  ·cases h
  ·simp only[Value.slice.injEq,Option.some.injEq,Addr.mk.injEq]at e1
   obtain⟨⟨rfl,_⟩,_,rfl⟩:=e1;intro j hj;have xL:j<l.length * 7:=by simpa using hj
   have dM:l.length * 7<=cap * 7:=Nat.mul_le_mul_right _ h5;refine⟨?_,by rw[Nat.zero_add];exact jq h3 h4 j (by omega)⟩;rw[Nat.zero_add,ae h3];have h9:=EH l j xL;rw[<-h8,List.getElem?_take_of_lt xL,Array.getElem?_toList]at h9;exact h9
 have mo:=AnyQ.slices_SortFunc_total Tryz.sortRd 7 Tryz.isAgg52 Tryz.sizeOf52 (fun r:Rd=>r.c.toList) (fun _=>rfl) (fun x v hv=>sd [x] v (by simpa[bi] using hv)) roundC round_swo 72 #[] g 0 cap l.toArray w eg hcmp hH o8 (by simp;omega) (fun x y h1 h2=>by
  unfold ltOf at h1 h2;simp only[decide_eq_false_iff_not]at h1 h2;rcases Int.lt_trichotomy (roundC x y) 0 with h|h|h
  ·exact absurd h h1
  ·exact(nW x y).1 h
  ·exact absurd ((pF y x).2 h) h2)
 refine Calls.mono mo ?_;rintro e w' ⟨rfl,n,os,rfl⟩;obtain⟨q1,q2⟩:=QR h (l':=l.mergeSort fun x y=>!(ltOf roundC) y x) (List.length_mergeSort _) n os;exact⟨rfl,q1,q2⟩
end Go.Proofs.YtkfgpnbpcpdclaaGreat
namespace Go.Proofs.YtkfgpnbpcpdclaaGreat
open Go.RowKit Go Go.Shelf
def cH(l:List Rd):Nat->List Rd
 | 0=>[]
 | k+1=>if k=0\/l.getD k default≠l.getD (k - 1) default then cH l k++[l.getD k default] else cH l k
theorem ra{l:List Rd}:∀ k,k<=l.length->(∀ j,1<=j->j<k->l.getD j default≠l.getD (j - 1) default)->cH l k=l.take k
 | 0,_,_=>by simp[cH]
 | k+1,hk,h=>by
  have ih:=ra k (by omega) (fun j h1 h2=>h j h1 (by omega));unfold cH
  rw[if_pos (by
   by_cases h0:k=0
   ·exact .inl h0
   ·exact .inr (h k (by omega) (by omega))),ih,List.take_succ_eq_append_getElem (by omega)]
  simp[show k<l.length by omega]
theorem AH(l:List Rd):∀ k,(cH l k).length<=k
 | 0=>by simp[cH]
 | k+1=>by
  have ih:=AH l k;unfold cH;split
  ·simp;omega
  ·omega
theorem EJ(l:List Rd) (x:Rd):∀ k,k<=l.length->(x∈cH l k↔x∈l.take k)
 | 0,_=>by simp[cH]
 | k+1,hk=>by
  have ih:=EJ l x k (by omega);have hg:l.getD k default=l[k]:=by simp[show k<l.length by omega]
  unfold cH;rw[List.take_succ_eq_append_getElem (by omega)];split
  ·rw[List.mem_append,List.mem_append,ih,hg]
  ·rename_i h
   rw[ih,List.mem_append];constructor
   ·exact .inl
   ·rintro(h1|h1)
    ·exact h1
    ·have h2:k≠0/\l.getD k default=l.getD (k - 1) default:=by
      constructor
      ·intro e;exact h (.inl e)
      ·exact Classical.byContradiction fun e=>h (.inr e)
     have h3:x=l[k - 1]'(by omega):=by
      rw[List.mem_singleton]at h1;rw[h1,<-hg,h2.2];simp[show k - 1<l.length by omega]
     rw[h3,show l[k - 1]'(by omega)=(l.take k)[k - 1]'(by simp;omega) by simp];exact List.getElem_mem _
theorem xn{l:List Rd} (hs:l.Pairwise fun a b=>¬ roundC b a<0):∀ k,k<=l.length->j8 (cH l k)/\∀ x∈cH l k,x=l.getD (k - 1) default\/roundC x (l.getD (k - 1) default)<0
 | 0,_=>by simp[cH,j8]
 | k+1,hk=>by
  obtain⟨i1,i2⟩:=xn hs k (by omega);have hg:l.getD k default=l[k]:=by simp[show k<l.length by omega]
  unfold cH;simp only[Nat.add_sub_cancel];by_cases h0:k=0
  ·subst h0
   rw[if_pos (.inl rfl)];simp[cH,j8]
  have hg1:l.getD (k - 1) default=l[k - 1]'(by omega):=by simp[show k - 1<l.length by omega]
  have kl:¬ roundC (l.getD k default) (l.getD (k - 1) default)<0:=by
   rw[hg,hg1];exact List.pairwise_iff_getElem.1 hs (k - 1) k (by omega) (by omega) (by omega)
  by_cases h1:l.getD k default=l.getD (k - 1) default
  ·rw[if_neg (by intro h;rcases h with h|h;exact h0 h;exact h h1)]
   exact⟨i1,fun x hx=>by rw[h1];exact i2 x hx⟩
  ·rw[if_pos (.inr h1)]
   have aF:roundC (l.getD (k - 1) default) (l.getD k default)<0:=by
    rcases Int.lt_trichotomy (roundC (l.getD (k - 1) default) (l.getD k default)) 0 with h|h|h
    ·exact h
    ·exact absurd ((nW _ _).1 h).symm h1
    ·exact absurd ((pF _ _).2 h) kl
   have aM:∀ x∈cH l k,roundC x (l.getD k default)<0:=fun x hx=>by
    rcases i2 x hx with h|h
    ·rw[h];exact aF
    ·exact j7 h aF
   refine⟨?_,fun x hx=>?_⟩
   ·unfold j8 at i1 ⊢
    rw[List.pairwise_append];exact⟨i1,by simp,fun a ha b hb=>by rw[List.mem_singleton]at hb;rw[hb];exact aM a ha⟩
   ·rcases List.mem_append.1 hx with h|h
    ·exact .inr (aM x h)
    ·rw[List.mem_singleton]at h;exact .inl h
theorem lF{w:World} {base g cap n:Nat} {l:List Rd} (h:aL w base 52 7 (.slice (some ⟨g,0,none⟩) n cap) n (bi l)) (hl:l.length=n) (i:Nat) (hi:i<n):∀ j (u:Value),(l.getD i default).c[j]?=some u->w.cell? ⟨g,i * 7+j,none⟩=some u:=fun j u hu=>by
 have hj:j<7:=(Array.getElem?_eq_some_iff.1 hu).1;have dI:i<l.length:=by omega
 rw[show l.getD i default=l[i] by simp[dI]]at hu;obtain⟨g',c',e,hc⟩:=h.cell (i * 7+j) u (by unfold bi;rw[k7 Rd.c 7 (fun _=>rfl) l i j dI hj];exact hu);simp only[Value.slice.injEq,Option.some.injEq,Addr.mk.injEq]at e;obtain⟨⟨rfl,_⟩,_,_⟩:=e;exact hc
theorem js{w:World} {base g cap n:Nat} {xs:List Value} (h:aL w base 52 7 (.slice (some ⟨g,0,none⟩) n cap) n xs) (o:Nat) (ho:o<n * 7):w.frozen? ⟨g,o,none⟩=false:=by
 rcases h.2 with ⟨h,_⟩|⟨g',cap',cur,fz,e1,h2,h3,h4,h5,h6,h7,h8⟩
 ·cases h
 ·simp only[Value.slice.injEq,Option.some.injEq,Addr.mk.injEq]at e1
  obtain⟨⟨rfl,_⟩,_,rfl⟩:=e1;have dM:n * 7<=cap * 7:=Nat.mul_le_mul_right _ h5;exact jq h3 h4 o (by omega)
theorem EK{c l:List Rd} {m i:Nat} (h:c.drop m=l.drop m) (hi:m<=i):c.getD i default=l.getD i default:=by
 have h1:=congrArg (fun x=>x[i - m]?) h;simp only[List.getElem?_drop,show m+(i - m)=i by omega]at h1;rw[List.getD_eq_getElem?_getD,List.getD_eq_getElem?_getD,h1]
abbrev zR:Value:=.agg #[.int .i64 0,.int .i64 0,.int .i64 0,.int .i64 0,.int .i64 0,.int .i64 0,.int .i64 0]
theorem zR_cells:zR.cells=#[.int .i64 0,.int .i64 0,.int .i64 0,.int .i64 0,.int .i64 0,.int .i64 0,.int .i64 0]:=by rfl
theorem Ob(n:Nat):(Builtin.zeroCells zR.cells n).toList.length=n * 7:=by rw[zR_cells];simp[Builtin.zeroCells]
theorem Uh(n:Nat):∀ u∈(Builtin.zeroCells zR.cells n).toList,u.oneCell'=true:=by
 rw[zR_cells];intro u hu;simp only[Builtin.zeroCells,Array.toList_map,List.mem_map]at hu;obtain⟨i,_,rfl⟩:=hu;have hm:i % 7<7:=Nat.mod_lt _ (by omega)
 show (#[Value.int .i64 0,.int .i64 0,.int .i64 0,.int .i64 0,.int .i64 0,.int .i64 0,.int .i64 0])[i % 7]!.oneCell'=true
 generalize i % 7=j at hm;rcases (show j=0\/j=1\/j=2\/j=3\/j=4\/j=5\/j=6 by omega) with h|h|h|h|h|h|h<;>subst h<;>rfl
theorem L0(l:List Rd) (k:Nat) (hk:k<=l.length):(bi l).take (k * 7)=bi (l.take k):=by
 have h:bi l=bi (l.take k)++bi (l.drop k):=by
  unfold bi;rw[<-List.flatMap_append,List.take_append_drop]
 rw[h,List.take_append_of_le_length (by rw[ge];simp;omega),List.take_of_length_le (by rw[ge];simp;omega)]
theorem Gf{P:Program} {ops:Array Oper} {rest:List Oper} {o:Oper} {a:Act} {w:World} {Q:Exit->Act->World->Prop} (oL:o.guard=none) (x:Operand) (t:TypeId)
  (ho:o.op=.call { callee:=.builtin .clear,args:=#[x],argTypes:=#[t] }) (e:TypeId) (z:Value) (ht:P.underlying t=some (.slice e)) (hv:∀ w,(zeroValue e).run P w=.ok z w) (b off n c:Nat) (hx:a.eval x=.slice (some ⟨b,off,none⟩) n c) (hn:0<n)
  (h1:∀ u∈(Builtin.zeroCells z.cells n).toList,u.oneCell'=true) (hc:∀ j,j<n * z.cells.size->(w.cell? ⟨b,off+j,none⟩).isSome=true) (hf:∀ j,j<n * z.cells.size->w.frozen? ⟨b,off+j,none⟩=false)
  (h:wpList P ops Q rest (a.put o.dst (.tuple #[])) (w.setCells b off (Builtin.zeroCells z.cells n).toList)):wpList P ops Q (o :: rest) a w:=by
 refine wpList_plain oL fun _ hK=>?_
 have cZ:(Builtin.zeroCells z.cells n).toList.length=n * z.cells.size:=by simp[Builtin.zeroCells]
 have eN:=run_storeCells_cells (P:=P) b off (Builtin.zeroCells z.cells n).toList 0 w (by rw[cZ];simpa using hc) (by rw[cZ];simpa using hf) h1;simp only[Nat.add_zero]at eN
 have hr:(Builtin.clear_ #[t] o.type #[.slice (some ⟨b,off,none⟩) n c]).run P w=.ok (.tuple #[]) (w.setCells b off (Builtin.zeroCells z.cells n).toList):=by
  obtain⟨m,rfl⟩:∃ m,n=m+1:=⟨n - 1,by omega⟩;simp[Builtin.clear_,run_underlying ht,hv,eN]
 unfold Oper.wp execOp;simp only[ho,resolve,invoke,builtin,Sem.run_bind,Sem.run_pure,Result.andThen_ok,List.map_toArray,List.map_cons,List.map_nil,hx,hr];exact hK _ _ h
theorem J2(l:List Rd) (base g cap:Nat) (w:World) (h:aL w base 52 7 (.slice (some ⟨g,0,none⟩) l.length cap) l.length (bi l)) (hl:l.length<=1048576) (hcap:cap<=9223372036854775807) :
  Calls Tryz.prog 73 #[.slice (some ⟨g,0,none⟩) l.length cap] w fun e w'=>∃ u,e=.returned u/\aL w' base 52 7 u (cH l l.length).length (bi (cH l l.length))/\∀ b w0,b<=base->Below b w0 w->Below b w0 w':=by
 have HH:=aa h;clear h
 go_enter Tryz.func73,Tryz.ntmps73
 by_cases h2:l.length<2
 ·have CE:(l.length:Int)<2:=by omega
  have HD:Hid (cH l l.length=l):=aa (by rw[ra l.length (Nat.le_refl _) (fun j h1 h3=>by omega),List.take_length])
  go_wp2_with fail
  go_ret
  exact⟨_,rfl,by rw[HD.out];exact HH.out,fun b w0 _ hb=>hb⟩
 have CE:¬ (l.length:Int)<2:=by omega
 go_wp2_with fail
 go_loopw [3] (fun i wr=>Hid (aL wr base 52 7 (.slice (some ⟨g,0,none⟩) l.length cap) l.length (bi l))/\Hid (∀ b w0,b<=base->Below b w0 w->Below b w0 wr)/\∃ k:Nat,1<=k/\k<=l.length/\i=.int .i64 k/\∀ j,1<=j->j<k->l.getD j default≠l.getD (j - 1) default) (fun i _=>l.length - (intOf i).toNat)
 case atStart=>exact⟨HH,aa (fun _ _ _ hb=>hb),1,by omega,by omega,rfl,fun j h1 h3=>by omega⟩
 case round=>
  obtain⟨aW,MA,k,ye,hk,rfl,aO⟩:=hrel;have dB:=aa aO;clear aO;by_cases aF:k<l.length
  ·have Mu:(k:Int)<l.length:=by omega
   obtain⟨q,Ti⟩:∃ q,k - 1=q:=⟨_,rfl⟩;have r1:=lF aW.out rfl k aF;have r0:=lF aW.out rfl q (by omega);have hq0:(q:Int)<l.length:=by omega
   have hsub:(k:Int) - 1=(q:Int):=by omega
   have C':IntKind.i64.wrap (q:Int)=(q:Int):=by rw[IntWalk.i64_in _ (by omega)]
   have Fi:=aa Ti;clear Ti;generalize hy:l.getD k default=y at r1;generalize hz:l.getD q default=z at r0;have HY:=aa hy;have HZ:=aa hz;clear hy hz;have a0:∀ x:ExtW wr,x.val.cell? ⟨g,k * 7,none⟩=some (.int .i64 y.g.n):=fun x=>x.cell (r1 0 _ rfl)
   have a1:∀ x:ExtW wr,x.val.cell? ⟨g,k * 7+1,none⟩=some (.int .i64 y.g.h0):=fun x=>x.cell (r1 1 _ rfl)
   have a2:∀ x:ExtW wr,x.val.cell? ⟨g,k * 7+2,none⟩=some (.int .i64 y.g.h1):=fun x=>x.cell (r1 2 _ rfl)
   have a3:∀ x:ExtW wr,x.val.cell? ⟨g,k * 7+3,none⟩=some (.int .i64 y.g.h2):=fun x=>x.cell (r1 3 _ rfl)
   have a4:∀ x:ExtW wr,x.val.cell? ⟨g,k * 7+4,none⟩=some (.int .i64 y.g.h3):=fun x=>x.cell (r1 4 _ rfl)
   have a5:∀ x:ExtW wr,x.val.cell? ⟨g,k * 7+5,none⟩=some (.int .i64 y.g.h4):=fun x=>x.cell (r1 5 _ rfl)
   have a6:∀ x:ExtW wr,x.val.cell? ⟨g,k * 7+6,none⟩=some (.int .i64 y.f):=fun x=>x.cell (r1 6 _ rfl)
   have b0:∀ x:ExtW wr,x.val.cell? ⟨g,q * 7,none⟩=some (.int .i64 z.g.n):=fun x=>x.cell (r0 0 _ rfl)
   have b1:∀ x:ExtW wr,x.val.cell? ⟨g,q * 7+1,none⟩=some (.int .i64 z.g.h0):=fun x=>x.cell (r0 1 _ rfl)
   have b2:∀ x:ExtW wr,x.val.cell? ⟨g,q * 7+2,none⟩=some (.int .i64 z.g.h1):=fun x=>x.cell (r0 2 _ rfl)
   have b3:∀ x:ExtW wr,x.val.cell? ⟨g,q * 7+3,none⟩=some (.int .i64 z.g.h2):=fun x=>x.cell (r0 3 _ rfl)
   have b4:∀ x:ExtW wr,x.val.cell? ⟨g,q * 7+4,none⟩=some (.int .i64 z.g.h3):=fun x=>x.cell (r0 4 _ rfl)
   have b5:∀ x:ExtW wr,x.val.cell? ⟨g,q * 7+5,none⟩=some (.int .i64 z.g.h4):=fun x=>x.cell (r0 5 _ rfl)
   have b6:∀ x:ExtW wr,x.val.cell? ⟨g,q * 7+6,none⟩=some (.int .i64 z.f):=fun x=>x.cell (r0 6 _ rfl)
   have mK:=fun w=>wI y z w
   generalize K2:decide (y=z)=dz at mK;have HDZ:=aa K2;clear K2 r1 r0
   go_wp2_with fail
   refine aK (by kernel_rfl) (by kernel_rfl) ?_
   repeat (quiet_step (fail))
   refine wpQuiet_nil ?_;intro _ bV;obtain⟨xq,bC⟩:=bV;subst bC;cases dz with
   | false=>
    go_wp2_with fail
    go_roundw
    case rel=>
     refine⟨aa (aW.out.up xq.ext),aa (fun b w0 hb h0=>?_),k+1,by omega,by omega,by go_num,fun j h1 h3=>?_⟩
     ·have aG:=MA.out b w0 hb h0
      have hg:=aW.out.lt g rfl;exact⟨xq.ext.os.trans aG.os,xq.ext.tape.trans aG.tape,xq.ext.output.trans aG.output,Nat.le_trans aG.size xq.ext.size,fun j hj=>(xq.ext.block j (by omega)).trans (aG.block j hj)⟩
     ·by_cases e:j=k
      ·subst e
       rw[HY.out,Fi.out,HZ.out];exact of_decide_eq_false HDZ.out
      ·exact dB.out j h1 (by omega)
    case measure=>simp[intOf];omega
   | true=>
    have K7:y=z:=of_decide_eq_true HDZ.out;clear a0 a1 a2 a3 a4 a5 a6 b0 b1 b2 b3 b4 b5 b6 mK hsub C'
    have bW:l.length<=cap:=by
     rcases aW.out.2 with ⟨h,_⟩|⟨g',cap',cur,fz,e1,h2,h3,h4,h5,h6,h7,h8⟩
     ·cases h
     ·simp only[Value.slice.injEq]at e1
      omega
    have fM:¬ cap=k:=by omega
    have hDk:Hid (cH l k=l.take k):=aa (ra k (by omega) dB.out)
    have hDk1:Hid (cH l (k+1)=l.take k):=aa (by
     show (if k=0\/l.getD k default≠l.getD (k - 1) default then cH l k++[l.getD k default] else cH l k)=_
     rw[if_neg (by
      rintro(h|h)
      ·omega
      ·exact h (by rw[HY.out,Fi.out,HZ.out,K7])),hDk.out])
    clear K7
    go_wp2_with fail
    obtain⟨wrA,xM⟩:∃ x,x=wr:=⟨_,rfl⟩;subst xM;have HOA:=aa (aW.out.up xq.ext)
    have Aa:Hid (∀ b w0,b<=base->Below b w0 w->Below b w0 xq.val):=aa (fun b w0 hb h0=>by
     have aG:=MA.out b w0 hb h0;have hg:=aW.out.lt g rfl
     exact⟨xq.ext.os.trans aG.os,xq.ext.tape.trans aG.tape,xq.ext.output.trans aG.output,Nat.le_trans aG.size xq.ext.size,fun j hj=>(xq.ext.block j (by omega)).trans (aG.block j hj)⟩)
    generalize xq.val=wB at HOA Aa ⊢;clear xq aW MA
    go_loopw [3,5] (fun a b wr=>Hid (∀ b w0,b<=base->Below b w0 w->Below b w0 wr)/\∃ (kk k2:Nat) (c:List Rd),a=.int .i64 kk/\b=.int .i64 k2/\1<=k2/\k2<=l.length - k/\kk<=k+k2 - 1/\c.length=l.length/\Hid (aL wr base 52 7 (.slice (some ⟨g,0,none⟩) l.length cap) l.length (bi c))/\Hid ((cH l (k+k2)).length=kk/\c.take kk=cH l (k+k2)/\c.drop (k+k2 - 1)=l.drop (k+k2 - 1))) (fun _ b _=>l.length - (intOf b).toNat)
    case atStart=>
     refine⟨Aa,k,1,l,rfl,rfl,by omega,by omega,by omega,rfl,HOA,aa ⟨?_,?_,rfl⟩⟩
     ·rw[hDk1.out];simp;omega
     ·rw[hDk1.out]
    case round=>
     obtain⟨fQ,kk,k2,c,rfl,rfl,h21,h22,FM,AW,aW,mV⟩:=hrel;by_cases l8:k2<l.length - k
     ·have hl2':(k2:Int)<((l.length - k:Nat):Int):=by omega
      obtain⟨r,hr⟩:∃ r,k2 - 1=r:=⟨_,rfl⟩;have s1:=lF aW.out AW (k+k2) (by omega);have s0:=lF aW.out AW (k+r) (by omega);have vY:(r:Int)<((l.length - k:Nat):Int):=by omega
      have hsub2:(k2:Int) - 1=(r:Int):=by omega
      have hwr2:IntKind.i64.wrap (r:Int)=(r:Int):=by rw[IntWalk.i64_in _ (by omega)]
      have e1:=EK mV.out.2.2 (i:=k+k2) (by omega);have e0:=EK mV.out.2.2 (i:=k+r) (by omega);have Cr:=aa hr;clear hr;generalize rM:c.getD (k+k2) default=y2 at s1 e1;generalize eB:c.getD (k+r) default=z2 at s0 e0;have jP:=aa e1;have Cv:=aa e0;have HY2:=aa rM;simp only[Nat.add_mul]at s1 s0;clear e1 e0 rM eB;have a0:∀ x:ExtW wr,x.val.cell? ⟨g,k * 7+k2 * 7,none⟩=some (.int .i64 y2.g.n):=fun x=>x.cell (s1 0 _ rfl)
      have a1:∀ x:ExtW wr,x.val.cell? ⟨g,k * 7+k2 * 7+1,none⟩=some (.int .i64 y2.g.h0):=fun x=>x.cell (s1 1 _ rfl)
      have a2:∀ x:ExtW wr,x.val.cell? ⟨g,k * 7+k2 * 7+2,none⟩=some (.int .i64 y2.g.h1):=fun x=>x.cell (s1 2 _ rfl)
      have a3:∀ x:ExtW wr,x.val.cell? ⟨g,k * 7+k2 * 7+3,none⟩=some (.int .i64 y2.g.h2):=fun x=>x.cell (s1 3 _ rfl)
      have a4:∀ x:ExtW wr,x.val.cell? ⟨g,k * 7+k2 * 7+4,none⟩=some (.int .i64 y2.g.h3):=fun x=>x.cell (s1 4 _ rfl)
      have a5:∀ x:ExtW wr,x.val.cell? ⟨g,k * 7+k2 * 7+5,none⟩=some (.int .i64 y2.g.h4):=fun x=>x.cell (s1 5 _ rfl)
      have a6:∀ x:ExtW wr,x.val.cell? ⟨g,k * 7+k2 * 7+6,none⟩=some (.int .i64 y2.f):=fun x=>x.cell (s1 6 _ rfl)
      have b0:∀ x:ExtW wr,x.val.cell? ⟨g,k * 7+r * 7,none⟩=some (.int .i64 z2.g.n):=fun x=>x.cell (s0 0 _ rfl)
      have b1:∀ x:ExtW wr,x.val.cell? ⟨g,k * 7+r * 7+1,none⟩=some (.int .i64 z2.g.h0):=fun x=>x.cell (s0 1 _ rfl)
      have b2:∀ x:ExtW wr,x.val.cell? ⟨g,k * 7+r * 7+2,none⟩=some (.int .i64 z2.g.h1):=fun x=>x.cell (s0 2 _ rfl)
      have b3:∀ x:ExtW wr,x.val.cell? ⟨g,k * 7+r * 7+3,none⟩=some (.int .i64 z2.g.h2):=fun x=>x.cell (s0 3 _ rfl)
      have b4:∀ x:ExtW wr,x.val.cell? ⟨g,k * 7+r * 7+4,none⟩=some (.int .i64 z2.g.h3):=fun x=>x.cell (s0 4 _ rfl)
      have b5:∀ x:ExtW wr,x.val.cell? ⟨g,k * 7+r * 7+5,none⟩=some (.int .i64 z2.g.h4):=fun x=>x.cell (s0 5 _ rfl)
      have b6:∀ x:ExtW wr,x.val.cell? ⟨g,k * 7+r * 7+6,none⟩=some (.int .i64 z2.f):=fun x=>x.cell (s0 6 _ rfl)
      have mK:=fun w=>Hi y2 z2 w
      generalize K2:decide (y2=z2)=dz2 at mK;have HDZ2:=aa K2;clear K2 s1 s0
      go_wp2_with fail
      refine aK (by kernel_rfl) (by kernel_rfl) ?_
      repeat (quiet_step (fail))
      refine wpQuiet_nil ?_;intro _ bV;obtain⟨xq,bC⟩:=bV;subst bC;have qK:=aa (aW.out.up xq.ext)
      have vT:Hid (∀ b w0,b<=base->Below b w0 w->Below b w0 xq.val):=aa (fun b w0 hb h0=>by
       have aG:=fQ.out b w0 hb h0;have hg:=aW.out.lt g rfl
       exact⟨xq.ext.os.trans aG.os,xq.ext.tape.trans aG.tape,xq.ext.output.trans aG.output,Nat.le_trans aG.size xq.ext.size,fun j hj=>(xq.ext.block j (by omega)).trans (aG.block j hj)⟩)
      generalize xq.val=wC at qK vT ⊢;clear xq aW fQ a0 a1 a2 a3 a4 a5 a6 b0 b1 b2 b3 b4 b5 b6 mK hsub2 hwr2 vY;cases dz2 with
      | true=>
       have D1:y2=z2:=of_decide_eq_true HDZ2.out
       have ky:Hid (cH l (k+(k2+1))=cH l (k+k2)):=aa (by
        show (if k+k2=0\/l.getD (k+k2) default≠l.getD (k+k2 - 1) default then cH l (k+k2)++[l.getD (k+k2) default] else cH l (k+k2))=_
        rw[if_neg (by
         rintro(h|h)
         ·omega
         ·refine h ?_
          have h9:=Cr.out
          rw[show k+k2 - 1=k+r by omega,<-jP.out,<-Cv.out,D1])])
       clear D1
       go_wp2_with fail
       go_roundw
       case rel=>
        refine⟨vT,kk,k2+1,c,rfl,by go_num,by omega,by omega,by omega,AW,qK,aa ⟨?_,?_,?_⟩⟩
        ·rw[ky.out];exact mV.out.1
        ·rw[ky.out];exact mV.out.2.1
        ·have h9:=congrArg (List.drop 1) mV.out.2.2
         rw[List.drop_drop,List.drop_drop,show k+k2 - 1+1=k+(k2+1) - 1 by omega]at h9;exact h9
       case measure=>simp[intOf];omega
      | false=>
       have D1:y2≠z2:=of_decide_eq_false HDZ2.out
       have ky:Hid (cH l (k+(k2+1))=cH l (k+k2)++[y2]):=aa (by
        show (if k+k2=0\/l.getD (k+k2) default≠l.getD (k+k2 - 1) default then cH l (k+k2)++[l.getD (k+k2) default] else cH l (k+k2))=_
        rw[if_pos (.inr (by
         have h9:=Cr.out;rw[show k+k2 - 1=k+r by omega,<-jP.out,<-Cv.out]
         exact D1)),<-jP.out])
       have HYN:=aa D1;have s1:=lF qK.out AW (k+k2) (by omega);rw[HY2.out]at s1;simp only[Nat.add_mul]at s1;have s3:=lF qK.out AW kk (by omega);generalize c.getD kk default=y3 at s3;have a0:wC.cell? ⟨g,k * 7+k2 * 7,none⟩=some (.int .i64 y2.g.n):=s1 0 _ rfl;have a1:wC.cell? ⟨g,k * 7+k2 * 7+1,none⟩=some (.int .i64 y2.g.h0):=s1 1 _ rfl;have a2:wC.cell? ⟨g,k * 7+k2 * 7+2,none⟩=some (.int .i64 y2.g.h1):=s1 2 _ rfl;have a3:wC.cell? ⟨g,k * 7+k2 * 7+3,none⟩=some (.int .i64 y2.g.h2):=s1 3 _ rfl;have a4:wC.cell? ⟨g,k * 7+k2 * 7+4,none⟩=some (.int .i64 y2.g.h3):=s1 4 _ rfl;have a5:wC.cell? ⟨g,k * 7+k2 * 7+5,none⟩=some (.int .i64 y2.g.h4):=s1 5 _ rfl;have a6:wC.cell? ⟨g,k * 7+k2 * 7+6,none⟩=some (.int .i64 y2.f):=s1 6 _ rfl;have b0:wC.cell? ⟨g,kk * 7,none⟩=some (.int .i64 y3.g.n):=s3 0 _ rfl;have b1:wC.cell? ⟨g,kk * 7+1,none⟩=some (.int .i64 y3.g.h0):=s3 1 _ rfl;have b2:wC.cell? ⟨g,kk * 7+2,none⟩=some (.int .i64 y3.g.h1):=s3 2 _ rfl;have b3:wC.cell? ⟨g,kk * 7+3,none⟩=some (.int .i64 y3.g.h2):=s3 3 _ rfl;have b4:wC.cell? ⟨g,kk * 7+4,none⟩=some (.int .i64 y3.g.h3):=s3 4 _ rfl;have b5:wC.cell? ⟨g,kk * 7+5,none⟩=some (.int .i64 y3.g.h4):=s3 5 _ rfl;have b6:wC.cell? ⟨g,kk * 7+6,none⟩=some (.int .i64 y3.f):=s3 6 _ rfl;have f0:=js qK.out (kk * 7) (by omega);have f1:=js qK.out (kk * 7+1) (by omega);have f2:=js qK.out (kk * 7+2) (by omega);have f3:=js qK.out (kk * 7+3) (by omega);have f4:=js qK.out (kk * 7+4) (by omega);have f5:=js qK.out (kk * 7+5) (by omega);have f6:=js qK.out (kk * 7+6) (by omega);have wi:(kk:Int)<l.length:=by omega
       clear s1 s3 D1
       go_wp2_with fail
       go_roundw
       case rel=>
        refine⟨?_,kk+1,k2+1,c.set kk y2,by go_num,by go_num,by omega,by omega,by omega,by rw[List.length_set];exact AW,?_,aa ⟨?_,?_,?_⟩⟩
        ·refine aa fun b w0 hb h0=>?_
         change Below b w0 (wC.setCells g (kk * 7) y2.c.toList);have aS:=vT.out b w0 hb h0;have hg:=qK.out.lt g rfl;obtain⟨o1,o2,o3,o4,o5⟩:=eX g y2.c.toList (kk * 7) wC;exact⟨o2.trans aS.os,o3.trans aS.tape,o4.trans aS.output,by rw[o5];exact aS.size,fun j hj=>(o1 j (by omega)).trans (aS.block j hj)⟩
        ·refine aa ?_
         change aL (wC.setCells g (kk * 7) y2.c.toList) _ _ _ _ _ _;rw[<-EG c kk (by omega) y2];exact qK.out.setMany (kk * 7) y2.c.toList (by show kk * 7+7<=l.length * 7;omega)
        ·rw[ky.out,List.length_append,mV.out.1];rfl
        ·rw[ky.out,List.take_succ_eq_append_getElem (by rw[List.length_set];omega),List.take_set_of_le (by omega),List.getElem_set_self,mV.out.2.1]
        ·have h9:=congrArg (List.drop 1) mV.out.2.2
         rw[List.drop_drop,List.drop_drop,show k+k2 - 1+1=k+(k2+1) - 1 by omega]at h9;rw[List.drop_set_of_lt (by omega)];exact h9
       case measure=>simp[intOf];omega
     ·have OW:k+k2=l.length:=by omega
      rw[OW]at mV;have Fr:¬ cap=kk:=by omega
      have wi:(kk:Int)<=l.length:=by omega
      have hl2':¬ (k2:Int)<((l.length - k:Nat):Int):=by omega
      have HZC:Hid (∀ j,j<(l.length - kk) * zR.cells.size->(wr.cell? ⟨g,kk * 7+j,none⟩).isSome=true):=aa fun j hj=>by
       have hj7:j<(l.length - kk) * 7:=hj;have hp:(kk * 7+j) / 7<l.length:=by omega
       have hm:(kk * 7+j) % 7<7:=Nat.mod_lt _ (by omega);have h9:=lF aW.out AW ((kk * 7+j) / 7) hp ((kk * 7+j) % 7) _ (Array.getElem?_eq_getElem (show (kk * 7+j) % 7<(c.getD ((kk * 7+j) / 7) default).c.size from hm));rw[show (kk * 7+j) / 7 * 7+(kk * 7+j) % 7=kk * 7+j by omega]at h9;rw[h9];rfl
      have HZF:Hid (∀ j,j<(l.length - kk) * zR.cells.size->wr.frozen? ⟨g,kk * 7+j,none⟩=false):=aa fun j hj=>js aW.out _ (by
       have hj7:j<(l.length - kk) * 7:=hj
       omega)
      have hpos:0<l.length - kk:=by omega
      go_wp2_with ((refine Gf rfl (.tmp 56) 37 rfl 52 zR Tryz.underlying37 Tryz.zeroValue52 g (kk * 7) (l.length - kk) _ rfl hpos (Uh _) HZC.out HZF.out ?_))
      go_ret
      have h9:=aW.out.setMany (kk * 7) (Builtin.zeroCells zR.cells (l.length - kk)).toList (by rw[Ob];omega)
      have hf:(bi c).take (kk * 7)=bi (cH l l.length):=by
       rw[L0 c kk (by omega),mV.out.2.1]
      rw[hf,Ob]at h9;refine⟨.slice (some ⟨g,0,none⟩) kk cap,rfl,?_,fun b w0 hb h0=>?_⟩
      ·rw[mV.out.1]
       refine aL.shrink (m:=l.length - kk) (ys:=(Builtin.zeroCells zR.cells (l.length - kk)).toList++(bi c).drop (kk * 7+(l.length - kk) * 7)) ?_ (by rw[ge,mV.out.1]);rw[show kk+(l.length - kk)=l.length by omega,<-List.append_assoc];exact h9
      ·have aS:=fQ.out b w0 hb h0
       have hg:=aW.out.lt g rfl;obtain⟨o1,o2,o3,o4,o5⟩:=eX g (Builtin.zeroCells zR.cells (l.length - kk)).toList (kk * 7) wr;exact⟨o2.trans aS.os,o3.trans aS.tape,o4.trans aS.output,Nat.le_trans aS.size (Nat.le_of_eq o5.symm),fun j hj=>(o1 j (by omega)).trans (aS.block j hj)⟩
  ·obtain rfl:k=l.length:=by omega
   have HD:Hid (cH l l.length=l):=aa (by rw[ra l.length (Nat.le_refl _) dB.out,List.take_length])
   go_wp2_with fail
   go_ret
   exact⟨_,rfl,by rw[HD.out];exact aW.out,MA.out⟩
def dL(l:List (List Mv)) (k:Nat):List Rd:=(l.take k).flatMap fun x=>x.map (·.r)
theorem EP{l:List (List Mv)} {k:Nat} (hk:k<l.length):dL l (k+1)=dL l k++l[k].map (·.r):=by
 unfold dL;rw[List.take_succ_eq_append_getElem hk,List.flatMap_append];simp
theorem DM(l:List (List Mv)) (k:Nat):(dL l k).length<=movesN l:=by
 have h:∀ l:List (List Mv),(l.flatMap fun x=>x.map (·.r)).length=movesN l:=fun l=>by
  induction l with
  | nil=>rfl
  | cons a r ih=>
   rw[List.flatMap_cons,List.length_append,ih];simp[movesN]
 have h2:(l.flatMap fun x=>x.map (·.r))=dL l k++(l.drop k).flatMap fun x=>x.map (·.r):=by
  unfold dL;rw[<-List.flatMap_append,List.take_append_drop]
 have h3:=congrArg List.length h2;rw[h,List.length_append]at h3;omega
theorem BZ{a:Adv}:cH ((dL a.states a.states.length).mergeSort fun x y=>!(Go.Proofs.ltOf roundC) y x) ((dL a.states a.states.length).mergeSort fun x y=>!(Go.Proofs.ltOf roundC) y x).length=cW a:=by
 generalize hs:(dL a.states a.states.length).mergeSort (fun x y=>!(Go.Proofs.ltOf roundC) y x)=s;have hp:∀ x,x∈s↔x∈dL a.states a.states.length:=fun x=>by rw[<-hs];exact List.mem_mergeSort
 have hsort:s.Pairwise fun a b=>¬ roundC b a<0:=by
  rw[<-hs]
  have h:=List.pairwise_mergeSort (le:=fun x y=>!(Go.Proofs.ltOf roundC) y x) (fun x y z h1 h2=>by
   simp only[Go.Proofs.ltOf,Bool.not_eq_true',decide_eq_false_iff_not]at *
   exact vM h2 h1) (fun x y=>by
   simp only[Go.Proofs.ltOf];by_cases h:roundC y x<0
   ·have h2:¬ roundC x y<0:=fun h3=>by
     have:=j7 h h3;exact nX _ this
    simp[h,h2]
   ·simp[h]) (dL a.states a.states.length)
  refine h.imp ?_;intro x y iW;simpa[Go.Proofs.ltOf] using iW
 refine sorted_unique _ _ (xn hsort _ (Nat.le_refl _)).1 (DK a) fun x=>?_
 rw[EJ s x _ (Nat.le_refl _),List.take_length,hp,pG];unfold dL;rw[List.take_length,List.mem_flatMap];constructor
 ·rintro⟨l,hl,hx⟩
  obtain⟨m,hm,rfl⟩:=List.mem_map.1 hx;exact⟨l,hl,m,hm,rfl⟩
 ·rintro⟨l,hl,m,hm,rfl⟩
  exact⟨l,hl,List.mem_map.2 ⟨m,hm,rfl⟩⟩
theorem J3(a:Adv) (ha:advE a=0) (hN:movesN a.states<=4096) (v:Value) (w:World) (hv:bn w v a.states) :
  Calls Tryz.prog 43 #[.agg #[.int .i64 a.n,v]] w fun e w'=>∃ u,e=.returned u/\bN w' u (cW a)/\Below w.heap.size w w':=by
 obtain⟨i0,fZ,dp,du,eB⟩:=info_parts Tryz.infoRound;have HV:=aa hv;obtain⟨pa,ca,rfl,la1,la2,ea⟩:=hv.at;have E:=aa ea;clear hv ea;have cK:∀ r∈cW a,OkR a.n r:=fun r hr=>lD ha hr
 have aM:∀ k,k<=a.states.length->∀ r∈dL a.states k,OkR a.n r:=fun k hk r hr=>cK r ((pG a r).2 (by
  unfold dL at hr;obtain⟨l,hl,hx⟩:=List.mem_flatMap.1 hr;obtain⟨m,hm,rfl⟩:=List.mem_map.1 hx
  exact⟨l,List.mem_of_mem_take hl,m,hm,rfl⟩))
 have kS:=aa cK;have lO:=aa aM;clear cK aM;have pY:=(iP ha).1
 have HS:Hid (0<(dL a.states a.states.length).length):=aa (by
  have h1:=(iP ha).2.1 0 (by omega);rw[show a.states.getD 0 []=a.states[0]'(by omega) by simp[show 0<a.states.length by omega]]at h1;unfold stateE at h1;have bH:(a.states[0]'(by omega)).length≠0:=fun e=>by rw[if_pos e]at h1;omega
  have h2:=EP (l:=a.states) (k:=0) (by omega)
  have h3:(dL a.states 1).length<=(dL a.states a.states.length).length:=by
   have h4:dL a.states a.states.length=dL a.states 1++(a.states.drop 1).flatMap fun x=>x.map (·.r):=by
    unfold dL;rw[List.take_length,<-List.flatMap_append,List.take_append_drop]
   rw[h4];simp
  rw[h2]at h3;simp at h3
  omega)
 go_enter Tryz.func43,Tryz.ntmps43
 go_wp2_with fail
 refine bw (fun W=>Below w.heap.size w W) (by go_grown) (fun W0 aH=>?_)
 go_loopw [3,11] (fun o i wr=>Below w.heap.size w wr/\∃ k:Nat,k<=a.states.length/\i=.int .i64 k/\Hid (aL wr w.heap.size 52 7 o (dL a.states k).length (bi (dL a.states k)))) (fun _ i _=>a.states.length - (intOf i).toNat)
 case atStart=>exact⟨aH,0,by omega,rfl,aa (aL.nil _ _ _ _)⟩
 case round=>
  obtain⟨aJ,k,hk,rfl,aW⟩:=hrel;by_cases aF:k<a.states.length
  ·obtain⟨b1,o1,rfl,x,cx,hx⟩:=E.out k aF
   rw[Nat.mul_one]at cx;have d1:=ay aJ cx;have UG:Hid (dL a.states (k+1)=dL a.states k++a.states[k].map (·.r)):=aa (EP aF);have cZ:=DM a.states (k+1);rw[UG.out,List.length_append,List.length_map]at cZ;generalize a.states[k]=L at hx UG cZ;obtain⟨p2,c2,rfl,m1,m2,e2⟩:=hx.at;have E2:=aa e2;obtain⟨ao,co,rfl⟩:=aW.out.slice;clear cx hx e2
   go_wp2_with fail
   clear d1;obtain⟨wrA,xM⟩:∃ x,x=wr:=⟨_,rfl⟩;subst xM
   go_loopw [3,17] (fun o i wr=>Below w.heap.size w wr/\∃ q:Nat,q<=L.length/\i=.int .i64 q/\Hid (aL wr w.heap.size 52 7 o ((dL a.states k).length+q) (bi (dL a.states k++(L.take q).map (·.r))))) (fun _ i _=>L.length - (intOf i).toNat)
   case atStart=>exact⟨aJ,0,by omega,rfl,by simpa using aW⟩
   case round=>
    obtain⟨fN,q,hq,rfl,lh⟩:=hrel;by_cases sA:q<L.length
    ·obtain⟨b2,o2,rfl,⟨⟨c0,_⟩,⟨c1,_⟩,⟨c2',_⟩,⟨c3,_⟩,⟨c4,_⟩,⟨c5,_⟩,⟨c6,_⟩⟩,c7,_⟩:=E2.out q sA
     have d0:=ay fN c0;have d1:=ay fN c1;have d2:=ay fN c2';have d3:=ay fN c3;have d4:=ay fN c4;have d5:=ay fN c5;have d6:=ay fN c6;have d7:=ay fN c7;have sI:Hid (L.take (q+1)=L.take q++[L[q]]):=aa (List.take_succ_eq_append_getElem sA);generalize L[q]=y at d0 d1 d2 d3 d4 d5 d6 d7 sI;clear c0 c1 c2' c3 c4 c5 c6 c7;have hA:Below wr.heap.size wr ((wr.alloc (.cells #[.int .i64 y.r.g.n,.int .i64 y.r.g.h0,.int .i64 y.r.g.h1,.int .i64 y.r.g.h2,.int .i64 y.r.g.h3,.int .i64 y.r.g.h4,.int .i64 y.r.f,.int .i64 y.to] 98)).alloc (.cells #[.int .i64 y.r.g.n,.int .i64 y.r.g.h0,.int .i64 y.r.g.h1,.int .i64 y.r.g.h2,.int .i64 y.r.g.h3,.int .i64 y.r.g.h4,.int .i64 y.r.f] 52)):=by go_grown
     have fK:=aa (lh.out.up hA)
     have bj:∀ j u',(y.r.c.toList)[j]?=some u'->((wr.alloc (.cells #[.int .i64 y.r.g.n,.int .i64 y.r.g.h0,.int .i64 y.r.g.h1,.int .i64 y.r.g.h2,.int .i64 y.r.g.h3,.int .i64 y.r.g.h4,.int .i64 y.r.f,.int .i64 y.to] 98)).alloc (.cells #[.int .i64 y.r.g.n,.int .i64 y.r.g.h0,.int .i64 y.r.g.h1,.int .i64 y.r.g.h2,.int .i64 y.r.g.h3,.int .i64 y.r.g.h4,.int .i64 y.r.f] 52)).cell? (Addr.add ⟨wr.heap.size+1,0,none⟩ j)=some u':=fun j u' hj=>by
      have e1:(Addr.add ⟨wr.heap.size+1,0,none⟩ j)=⟨wr.heap.size+1,j,none⟩:=by unfold Addr.add;split<;>simp_all
      rw[e1,ae (aX wr _ _)];simpa using hj
     have bZ:=aa bj;obtain⟨ao2,co2,rfl⟩:=lh.out.slice;have O1:=fN.size;clear bj
     go_wp2_with (at_builtin;(refine bO _ rfl (.tmp 21) (.tmp 24) 37 rfl w.heap.size 52 i0 _ 7 56 Tryz.underlying37 fZ dp du eB rfl (by decide) _ ((dL a.states k).length+q) _ rfl fK.out ⟨wr.heap.size+1,0,none⟩ 1 1 y.r.c.toList rfl rfl bZ.out (by simp[Value.oneCell']) (by unfold maxLen;omega) (by omega) (by simp;omega) ?_;intro v' w3 dE cP lG;obtain⟨av3,cv3,rfl⟩:=dE.slice))
     go_roundw
     case rel=>
      refine⟨Below.grown ((fN.alloc fN.size _).alloc (by simp;omega) _) cP (by simp;omega) (fun g hg=>(fK.out.lt g hg).1),q+1,by omega,by go_num,aa ?_⟩;rw[sI.out,List.map_append,<-List.append_assoc,xa];exact dE
     case measure=>simp[intOf];omega
    ·obtain rfl:q=L.length:=by omega
     obtain⟨ao2,co2,rfl⟩:=lh.out.slice
     go_wp2_with fail
     go_roundw
     case rel=>
      refine⟨fN,k+1,by omega,by go_num,?_⟩;have h9:=lh.out;rw[List.take_length]at h9;rw[UG.out,List.length_append,List.length_map];exact aa h9
     case measure=>simp[intOf];omega
  ·obtain rfl:k=a.states.length:=by omega
   have kl:=DM a.states a.states.length;have vZ:=aa (BZ (a:=a));generalize hR:dL a.states a.states.length=R at aW HS kl vZ
   obtain⟨g,cap,hcg,hcap⟩:∃ g cap,_=Value.slice (some ⟨g,0,none⟩) R.length cap/\cap<=9223372036854775807:=by
    rcases aW.out.2 with ⟨_,h0⟩|⟨g,cap,cur,fz,e1,h2,h3,h4,h5,h6,h7,h8⟩
    ·have:=HS.out;omega
    ·exact⟨g,cap,e1,by unfold maxLen at h6;omega⟩
   subst hcg
   go_wp2_with fail
   refine(LZ R w.heap.size g cap wr aW.out (by omega)).mono ?_;rintro e w2 ⟨rfl,iu,aS⟩;generalize hS:R.mergeSort (fun x y=>!(Go.Proofs.ltOf roundC) y x)=S at iu vZ;have nD:S.length=R.length:=by rw[<-hS];exact List.length_mergeSort _
   rw[<-nD]at iu;have gj:=aa iu;have jy:=aa (aS _ w (Nat.le_refl _) aJ);have hSle:S.length<=1048576:=by omega
   rw[<-nD];clear iu aS hS nD
   go_wp2_with fail
   refine(J2 S w.heap.size g cap w2 gj.out hSle hcap).mono ?_;rintro e w3 ⟨u,rfl,hu,bA⟩;rw[vZ.out]at hu;have HU:=aa hu;have io:=aa (bA _ w (Nat.le_refl _) jy.out);obtain⟨au,cu,rfl⟩:=hu.slice;clear hu bA
   go_wp2_with fail
   go_ret
   refine⟨_,rfl,lw HU.out (fun i hi=>Ia (kS.out _ (List.getElem_mem hi))) ?_,io.out⟩;rw[<-vZ.out];have:=AH S S.length;omega
theorem DN{P:Program} {o:Oper} {n:Nat} {a:Act} {w:World} {K:Act->Prop} {K':Act->World->Prop} {Q':Exit->Act->World->Prop} (hk:∀ a,K a->K' a w) (h:o.still P a w K):o.wpIn Fence.wide n P a w K' Q':=by
 unfold Oper.still at h;refine⟨fun _ _=>trivial,?_⟩;rw[Fence.wide_round,Oper.semAt_none];generalize (execOp a.eval o).run P w=r at *;cases r with
 | ok x w'=>
  cases x<;>simp only[Oper.stillUpon]at h<;>simp only[Oper.uponIn]
  case enter f args=>
   obtain⟨rfl,v,hc,hn⟩:=h;refine⟨fun hd=>by simp[Fence.wide]at hd,(callsIn_wide (n:=n - 1)).2 (hc.mono ?_)⟩;rintro e w'' ⟨rfl,rfl⟩;exact hk _ hn
  all_goals (obtain⟨rfl,hn⟩:=h;exact hk _ hn)
 | halt x w'=>simp only[Oper.stillUpon]at h
theorem B4{P:Program} {ops:Array Oper} {n i:Nat} {a:Act} {w:World} {K:Act->Prop} {K':Act->World->Prop} {Q':Exit->Act->World->Prop} (hk:∀ a,K a->K' a w) (h:stOp P ops w i K a):wpOpIn Fence.wide n P ops Q' i K' a w:=by
 unfold stOp at h;unfold wpOpIn;split
 ·rename_i ho;simp only[ho]at h;exact hk _ h
 ·rename_i o ho
  simp only[ho]at h;split
  ·rename_i hw;simp only[hw,if_true]at h;exact DN hk h
  ·rename_i hw;simp only[hw]at h;exact⟨fun _ _=>trivial,hk _ h⟩
theorem rv{P:Program} {md:Region.Mode} {ops:Array Oper} {w:World} {m n g:Nat} {L:Array Bool->Act->Prop} {Q':Exit->Act->World->Prop} (hL:∀ listed a,L listed a->wpAnyIn Fence.wide m P md ops Q' g listed a w) :
  ∀ (f:Nat) (listed:Array Bool) (a:Act),wpAnyL P md ops w n L f listed a->wpAnyIn Fence.wide m P md ops Q' (f+g) listed a w
 | 0,listed,a,h=>by rw[Nat.zero_add];exact hL _ _ h
 | f+1,listed,a,h=>by
  rw[show f+1+g=(f+g)+1 by omega];exact⟨fun h0=>absurd h0 h.1,fun i hi=>B4 (fun a' h'=>rv hL f _ a' h') (h.2 i hi).2⟩
theorem sg{P:Program} {md:Region.Mode} {ops:Array Oper} {m:Nat} {Q':Exit->Act->World->Prop}:∀ (l:List Oper) (k:Nat) (listed:Array Bool) (a:Act) (w:World),(∀ j,l[j]?=ops[k+j]?) →
  Region.seqB md ops l.length k listed=true->wpListIn Fence.wide m P ops Q' l a w->wpAnyIn Fence.wide m P md ops Q' l.length listed a w
 | [],_,_,_,_,_,hB,h=>⟨by simpa[Region.seqB] using hB,h⟩
 | o :: l,k,listed,a,w,hl,hB,h=>by
  have h0:ops[k]?=some o:=by simpa using (hl 0).symm
  simp only[List.length_cons,Region.seqB,Bool.and_eq_true,decide_eq_true_eq]at hB;refine⟨fun h1=>(by rw[hB.1]at h1;cases h1),fun i hi=>?_⟩;rw[hB.1]at hi;have oO:i=k:=by simpa using hi
  subst oO;have hw:wpOpIn Fence.wide m P ops Q' i (wpListIn Fence.wide m P ops Q' l) a w:=by unfold wpOpIn;simp only[h0];exact h
  exact wpOpIn_mono (fun a' w' h'=>sg l (i+1) _ a' w' (fun j=>by have:=hl (j+1);simpa[Nat.add_assoc,Nat.add_comm 1 j] using this) hB.2 h') hw
theorem rY{P:Program} {m:Nat} {id:Nat} {Q:Exit->Act->World->Prop} {a:Act} {w:World} {l:List Oper} (n:Nat) (hm:P.follows .mixedOrders=true) (hB:Region.lexTailB .any l.toArray n=true)
  (h:wpStill P l.toArray w.drew (fun a'=>wpListIn Fence.wide m P l.toArray Q (l.drop n) a' w.drew) (l.take n) a):(Code.region id l.toArray true).wpIn Fence.wide m P Q a w:=by
 simp only[Region.lexTailB,Bool.and_eq_true,decide_eq_true_eq]at hB;obtain⟨⟨⟨⟨R',hn⟩,hs⟩,hc⟩,Sf⟩:=hB;have wz:n<l.length:=by simpa using hn
 have pZ:(l.take n).length=n:=by simp;omega
 have lH:(l.drop n).length=l.toArray.size - n:=by simp
 have inv0:HeadInv .any l.toArray n (Array.replicate l.toArray.size false):=
  ⟨by simp,fun j oj _ hl=>(by rw[getD_replicate_false]at hl;cases hl),fun t _ ht=>getD_in (by simpa using ht) (getD_replicate_false _ _)⟩
 have H:=wpAnyL_lex (md:=.any) (g:=l.toArray.size - n) R' hs hc hn (l.take n) 0 _ a (fun j hj=>by
  have xL:j<n:=by rw[pZ]at hj;exact hj
  simp[xL]) (by simpa using pZ) inv0 (by rw[pZ];exact Sf) h
 refine wpIn_region_any hm ?_
 have:=rv (m:=m) (Q':=Q) (g:=l.toArray.size - n) (fun listed a' hL=>by
  have:=sg (md:=.any) (m:=m) (Q':=Q) (l.drop n) n listed a' { w with drawn:=w.drawn+1 } (fun j=>by simp[List.getElem?_drop]) (by rw[lH];exact hL.1) hL.2
  rwa [lH]at this) _ _ _ H
 rw[pZ,show n+(l.toArray.size - n)=l.toArray.size by omega]at this;exact this
end Go.Proofs.YtkfgpnbpcpdclaaGreat
namespace Go.Proofs.YtkfgpnbpcpdclaaGreat
open Go.RowKit Go Go.Shelf
attribute [local go_sem] Oper.semAt_some
theorem pH(n:Nat):∀ c,lq c n=(List.range (c * n)).map fun i=>(i / n,i % n)
 | 0=>by simp[lq]
 | c+1=>by
  have ih:=pH n c;unfold lq at ih ⊢;rw[List.range_succ,List.flatMap_append,ih,Nat.succ_mul,List.range_add,List.map_append,List.map_map];congr 1;simp only[List.flatMap_cons,List.flatMap_nil,List.append_nil];refine List.map_congr_left fun j hj=>?_
  have hj:=List.mem_range.1 hj;simp only[Function.comp];rw[show c * n+j=n * c+j by rw[Nat.mul_comm],Nat.mul_add_div (by omega),Nat.div_eq_of_lt hj,Nat.mul_add_mod,Nat.mod_eq_of_lt hj,Nat.add_zero]
theorem TR{α:Type} {k:Nat} {R:World->Nat->Nat->α->Prop} {w:World} {v:Value} {l:List (List α)} (h:eO 1 (lj k R) w v l):∃ ws:List Value,ws.length=l.length/\∃ a cap,v=.slice a l.length cap/\∀ i (hi:i<l.length),∃ b o,a=some ⟨b,o,none⟩/\w.cell? ⟨b,o+i,none⟩=some (ws.getD i undef)/\eO k R w (ws.getD i undef) l[i]:=by
 obtain⟨a,cap,rfl,h1,h2,h3⟩:=h
 have key:∀ i:Fin l.length,∃ x:Value,∃ b off,a=some ⟨b,off,none⟩/\w.cell? ⟨b,off+i.1,none⟩=some x/\eO k R w x l[i.1]:=fun i=>by
  obtain⟨b,off,ha,x,hx,hs⟩:=h3 i.1 _ (List.getElem?_eq_getElem i.2);exact⟨x,b,off,ha,by rwa [Nat.mul_one]at hx,hs⟩
 refine⟨List.ofFn fun i=>Classical.choose (key i),by simp,a,cap,rfl,fun i hi=>?_⟩
 have e:(List.ofFn fun i=>Classical.choose (key i)).getD i undef=Classical.choose (key ⟨i,hi⟩):=by
  rw[List.getD_eq_getElem?_getD,List.getElem?_ofFn];simp[hi]
 rw[e];exact Classical.choose_spec (key ⟨i,hi⟩)
theorem DO(p:Pb) (pc:Option Addr) (nc cc:Nat) (ps:Option Addr) (ns cs:Nat) (pw:Option Addr) (nw cw:Nat) (w:World) :
  Calls Tryz.prog 63 #[jI p (.slice pc nc cc) (.slice ps ns cs),.slice pw nw cw] w fun e w'=>e=.returned (.func (.func 102) #[] #[.pointer (some ⟨w.heap.size,0,none⟩),.pointer (some ⟨w.heap.size+1,0,none⟩)]) ∧
   w'=(w.alloc (.cells #[.int .i64 p.t.n,.int .i64 p.t.ins,.int .i64 p.t.outs,.slice pc nc cc,.int .i64 p.a.n,.slice ps ns cs,.int .i64 p.rounds] 29)).alloc (.cells #[.slice pw nw cw] 144):=by
 go_enter Tryz.func63,Tryz.ntmps63
 go_wp2
 go_ret
 exact⟨rfl,rfl⟩
def QS(n:Nat) (ws:List Value) (i:Nat):Array Value:=#[.int .i64 ((i / n:Nat):Int),ws.getD (i % n) undef]
theorem B6(wd:World) (C n:Nat) (pw:Option Addr) (cw:Nat) (ws:List Value) (hn:n<=1048576) (hC:C<=1048576) (Ff:∀ j,j<n->∃ b o,pw=some ⟨b,o,none⟩/\b<wd.heap.size/\wd.cell? ⟨b,o+j,none⟩=some (ws.getD j undef)/\∃ a m c,ws.getD j undef=.slice a m c) (hcw:n<=cw/\cw<=9223372036854775807)
  (w:World) (hb:Below wd.heap.size wd w) (Bp Bw:Nat) (x0 x1 x2 x4 x5 x6:Value) (pc:Option Addr) (cc:Nat) (hp:w.heap[Bp]?=some (.cells #[x0,x1,x2,.slice pc C cc,x4,x5,x6] 29)) (hw:w.heap[Bw]?=some (.cells #[.slice pw n cw] 144)) :
  A8 Tryz.prog 102 #[.pointer (some ⟨Bp,0,none⟩),.pointer (some ⟨Bw,0,none⟩)] (QS n ws) (C * n) (fun k=>k=Bw\/∃ ad,pw=some ad/\k=ad.block) w:=by
 intro yl J Jx W hW hJ kT hY h0;have Vk:=ae (ak hW hp) 3;simp at Vk;have mf:=ak hW hw;have gW:∀ ad,pw=some ad->ad.block<wd.heap.size->W.heap[ad.block]?=wd.heap[ad.block]?:=fun ad _ hk=>(hW.block _ (Nat.lt_of_lt_of_le hk hb.size)).trans (hb.block _ hk)
 clear hW hb hp hw;have HWS:=aa Ff;clear Ff;have HJ:=aa hJ;clear hJ;have CA:=aa kT;clear kT;have HY:=aa hY;clear hY;refine(callsIn_wide (n:=0)).1 ?_;refine callsIn_of_wp Tryz.func102 rfl trivial ?_ rfl;simp only[Tryz.ntmps102,List.size_toArray,List.length_cons,List.length_nil,Nat.reduceAdd,Nat.reduceSub,Array.replicate_succ,Array.replicate_zero,List.push_toArray,List.append_toArray,List.nil_append,List.cons_append]
 gi_wp2
 clear Vk
 gi_loopw [11] (fun i wr=>∃ s:Nat,s<=C/\i=.int .i64 s/\(∀ ad,pw=some ad->ad.block<wd.heap.size->wr.heap[ad.block]?=wd.heap[ad.block]?)/\wr.heap[Bw]?=some (.cells #[.slice pw n cw] 144)/\J (s * n) wr) (fun i _=>C - (intOf i).toNat)
 case atStart=>exact⟨0,by omega,rfl,gW,mf,by rw[Nat.zero_mul];exact h0⟩
 case round=>
  obtain⟨s,hs,rfl,kV,oq,hj⟩:=hrel;have rJ:=aa kV;clear kV;have qj:=aa hj;clear hj;have Cy:=aa oq;by_cases aF:s<C
  ·have tw:=ae oq 0
   simp at tw;clear oq
   gi_wp2
   clear tw;obtain⟨W0,bd⟩:∃ W0:World,W0=wr:=⟨_,rfl⟩;rw[<-bd]at rJ qj Cy ⊢;clear bd wr
   gi_loopw [16] (fun i wr=>∃ j:Nat,j<=n/\i=.int .i64 j/\(∀ ad,pw=some ad->ad.block<wd.heap.size->wr.heap[ad.block]?=wd.heap[ad.block]?)/\wr.heap[Bw]?=some (.cells #[.slice pw n cw] 144)/\J (s * n+j) wr) (fun i _=>n - (intOf i).toNat)
   case atStart=>exact⟨0,by omega,rfl,rJ.out,Cy.out,qj.out⟩
   case round=>
    obtain⟨j,hj,rfl,kV,oq,PV⟩:=hrel;have om:=aa kV;clear kV;have Jf:=aa PV;clear PV;have HWR2:=aa oq;clear oq;by_cases qb:j<n
    ·obtain⟨b2,o2,rfl,VP,c0,a9,m9,c9,e9⟩:=HWS.out j qb
     have d0:wr.cell? ⟨b2,o2+j,none⟩=some (ws.getD j undef):=by
      rw[<-c0];simp only[World.cell?,om.out _ rfl VP]
     have kl:s * n+j<C * n:=by
      have h1:(s+1) * n<=C * n:=Nat.mul_le_mul_right _ aF;rw[Nat.succ_mul]at h1;omega
     have hdiv:(s * n+j) / n=s:=by rw[Nat.mul_comm,Nat.mul_add_div (by omega),Nat.div_eq_of_lt qb,Nat.add_zero]
     have hmod:(s * n+j) % n=j:=by rw[Nat.mul_comm,Nat.mul_add_mod,Nat.mod_eq_of_lt qb]
     obtain⟨fn,tmps,assign,body,hy,hR⟩:=HY.out (s * n+j) wr kl Jf.out;unfold QS at hy;rw[hdiv,hmod,e9]at hy;rw[e9]at d0;have HR:=aa hR;clear hR hdiv hmod c0 e9;have rG:=aa kl;clear kl
     gi_wp2
     refine⟨rfl,HR.out.mono ?_⟩;rintro e W3 (⟨rfl,oB,wn,ke⟩|⟨rfl,np⟩)
     ·gi_wp2
      go_roundw
      case rel=>exact⟨j+1,by omega,by go_num,fun ad e1 e2=>(ke _ (.inr ⟨ad,e1,rfl⟩)).trans (om.out ad e1 e2),(ke Bw (.inl rfl)).trans HWR2.out,oB⟩
      case measure=>simp[intOf];omega
     ·gi_wp2
      refine bodyPost_ret (results_none rfl _ _ _) rfl ?_;exact⟨⟨_,rfl⟩,.inr ⟨_,rG.out,np⟩⟩
    ·gi_wp2
     go_roundw
     case rel=>
      refine⟨s+1,by omega,by go_num,om.out,HWR2.out,?_⟩;have e:n=j:=by omega
      rw[Nat.succ_mul];have h9:=Jf.out;rw[<-e]at h9;exact h9
     case measure=>simp[intOf];omega
  ·obtain rfl:s=C:=by omega
   gi_wp2
   go_end0
   exact⟨⟨_,rfl⟩,.inl qj.out⟩
structure PlIn (wd:World) (pe pc:Option Addr) (C:Nat) (iv wv:List Value) (i:Nat):Prop where
 ex:∃ be oe,pe=some ⟨be,oe,none⟩/\be<wd.heap.size/\∃ (c:Nat) (x2:Value),wd.cell? ⟨be,oe+i * 3,none⟩=some (.int .i64 c)/\wd.cell? ⟨be,oe+i * 3+1,none⟩=some (wv.getD i undef)/\wd.cell? ⟨be,oe+i * 3+2,none⟩=some x2/\(∃ a m k,x2=.slice a m k)/\c<C ∧
  ∃ bc oc,pc=some ⟨bc,oc,none⟩/\bc<wd.heap.size/\wd.cell? ⟨bc,oc+c * 3,none⟩=some (iv.getD i undef)
 iv:∃ a m k,iv.getD i undef=.slice a m k
 wv:∃ a m k,wv.getD i undef=.slice a m k
theorem EQ(c:Array Value) (hc:∃ p vc vs n vt ve,c=ru p vc vs n vt ve) (w:World) :
  Calls Tryz.prog 36 #[.agg c] w fun e w'=>e=.returned (.func (.func 65) #[] #[.pointer (some ⟨w.heap.size,0,none⟩)])/\w'=w.alloc (.cells c 107):=by
 obtain⟨p,vc,vs,n,vt,ve,rfl⟩:=hc
 go_enter Tryz.func36,Tryz.ntmps36
 go_wp2
 go_ret
 exact⟨rfl,rfl⟩
def Gv(iv wv:List Value) (i:Nat):Array Value:=#[.agg #[iv.getD i undef,wv.getD i undef]]
theorem B7(wd:World) (p:Pb) (vs:Value) (n:Int) (vt:Value) (pe pc:Option Addr) (N C ce cc:Nat) (iv wv:List Value) (hN:N<=1048576) (hC:C<=1048576) (hce:N<=ce/\ce<=9223372036854775807) (Di:C<=cc/\cc<=9223372036854775807)
  (kA:∀ i,i<N->PlIn wd pe pc C iv wv i) (w:World) (hb:Below wd.heap.size wd w) (Bs:Nat) (hs:w.heap[Bs]?=some (.cells (ru p (.slice pc C cc) vs n vt (.slice pe N ce)) 107)) :
  A8 Tryz.prog 65 #[.pointer (some ⟨Bs,0,none⟩)] (Gv iv wv) N (fun k=>k=Bs\/(k<wd.heap.size/\((∃ ad,pe=some ad/\k=ad.block)\/∃ ad,pc=some ad/\k=ad.block))) w:=by
 intro yl J Jx W hW hJ kT hY h0;have jg:=ak hW hs;have Sw:∀ ad,pe=some ad->ad.block<wd.heap.size->W.heap[ad.block]?=wd.heap[ad.block]?:=fun ad _ hk=>(hW.block _ (Nat.lt_of_lt_of_le hk hb.size)).trans (hb.block _ hk)
 have Fr:∀ ad,pc=some ad->ad.block<wd.heap.size->W.heap[ad.block]?=wd.heap[ad.block]?:=fun ad _ hk=>(hW.block _ (Nat.lt_of_lt_of_le hk hb.size)).trans (hb.block _ hk)
 clear hW hb hs;have wc:=aa kA;clear kA;have HJ:=aa hJ;clear hJ;have CA:=aa kT;clear kT;have HY:=aa hY;clear hY;have t0:=ae jg 9;simp at t0;refine(callsIn_wide (n:=0)).1 ?_;refine callsIn_of_wp Tryz.func65 rfl trivial ?_ rfl;simp only[Tryz.ntmps65,List.size_toArray,List.length_cons,List.length_nil,Nat.reduceAdd,Nat.reduceSub,Array.replicate_succ,Array.replicate_zero,List.push_toArray,List.append_toArray,List.nil_append,List.cons_append]
 gi_wp2
 clear t0
 gi_loopw [8] (fun i wr=>∃ s:Nat,s<=N/\i=.int .i64 s/\(∀ ad,pe=some ad->ad.block<wd.heap.size->wr.heap[ad.block]?=wd.heap[ad.block]?)/\(∀ ad,pc=some ad->ad.block<wd.heap.size->wr.heap[ad.block]?=wd.heap[ad.block]?)/\wr.heap[Bs]?=some (.cells (ru p (.slice pc C cc) vs n vt (.slice pe N ce)) 107)/\J s wr) (fun i _=>N - (intOf i).toNat)
 case atStart=>exact⟨0,by omega,rfl,Sw,Fr,jg,h0⟩
 case round=>
  obtain⟨s,hs,rfl,Sw,Fr,yj,hj⟩:=hrel;have HKE:=aa Sw;clear Sw;have Uv:=aa Fr;clear Fr;have VN:=aa yj;clear yj;have qj:=aa hj;clear hj;by_cases aF:s<N
  ·obtain⟨⟨be,oe,rfl,kl,c,x2,c0,c1,c2,⟨a2,m2,k2,rfl⟩,hcC,bc,oc,rfl,hlc,c3⟩,⟨ai,mi,ki,ei⟩,aw,mw,kw,ew⟩:=wc.out s aF
   have SN:∀ o v,wd.cell? ⟨be,o,none⟩=some v->wr.cell? ⟨be,o,none⟩=some v:=fun o v h=>by
    rw[<-h];simp only[World.cell?,HKE.out _ rfl kl]
   have hCB:∀ o v,wd.cell? ⟨bc,o,none⟩=some v->wr.cell? ⟨bc,o,none⟩=some v:=fun o v h=>by
    rw[<-h];simp only[World.cell?,Uv.out _ rfl hlc]
   rw[ew]at c1;rw[ei]at c3;have d0:=SN _ _ c0;have d1:=SN _ _ c1;have d2:=SN _ _ c2;have d3:=hCB _ _ c3;have tS:=ae VN.out 3;simp at tS;obtain⟨fn,tmps,assign,body,hy,hR⟩:=HY.out s ((wr.alloc (.cells #[.int .i64 c,.slice aw mw kw,.slice a2 m2 k2] 157)).drew) aF (HJ.out _ _ _ qj.out (by go_grown));unfold Gv at hy;rw[ei,ew]at hy;have HR:=aa hR;clear hR c0 c1 c2 c3 SN hCB ei ew;have vZ:=aa aF;have hxC:(c:Int)<C:=by omega
   have hBz:=aB VN.out;have hcz:bc<wr.heap.size:=gc d3;have hez:be<wr.heap.size:=gc d0
   gi_wp2
   refine rY 13 (by kernel_rfl) (by kernel_rfl) ?_;simp only[List.take_succ_cons,List.take_zero,List.drop_succ_cons,List.drop_zero]
   repeat still_step
   refine wpStill_nil ?_
   gi_wp2
   refine⟨rfl,HR.out.mono ?_⟩;rintro e W3 (⟨rfl,oB,wn,ke⟩|⟨rfl,np⟩)
   ·gi_wp2
    go_roundw
    case rel=>
     refine⟨s+1,by omega,by go_num,fun ad e1 e2=>?_,fun ad e1 e2=>?_,(ke Bs (.inl rfl)).trans (aq _ VN.out),oB⟩
     ·have e3:=cO e1
      refine(ke _ (.inr ⟨e2,.inl ⟨ad,e1,rfl⟩⟩)).trans ((Below.heap_alloc wr _ _ (by rw[<-e3];exact hez)).trans (HKE.out ad e1 e2))
     ·have e3:=cO e1
      refine(ke _ (.inr ⟨e2,.inr ⟨ad,e1,rfl⟩⟩)).trans ((Below.heap_alloc wr _ _ (by rw[<-e3];exact hcz)).trans (Uv.out ad e1 e2))
    case measure=>simp[intOf];omega
   ·gi_wp2
    refine bodyPost_ret (results_none rfl _ _ _) rfl ?_;exact⟨⟨_,rfl⟩,.inr ⟨_,vZ.out,np⟩⟩
  ·obtain rfl:s=N:=by omega
   gi_wp2
   go_end0
   exact⟨⟨_,rfl⟩,.inl qj.out⟩
end Go.Proofs.YtkfgpnbpcpdclaaGreat
namespace Go.Proofs.YtkfgpnbpcpdclaaGreat
open Go.RowKit Go Go.Shelf
theorem Oc(p:Pb):(aN p).length=p.t.cases.length * (aZ p).length:=by
 unfold aN;rw[List.length_map,pH];simp
theorem ER{p:Pb} (h:buildE p=0):(aN p).length<=4096/\probE p=0:=by
 rw[Oc];unfold buildE at h;split at h
 ·rename_i h1;exact absurd h h1
 rename_i h1;split at h
 ·omega
 ·rename_i h2;exact⟨by omega,by simpa using h1⟩
theorem ES{w:World} {p:Pb} {uc us vt ve:Value} (h:IsSys w (dR p) uc us vt ve):∃ (pc:Option Addr) (cc:Nat) (pe:Option Addr) (ce:Nat) (iv wv:List Value),uc=.slice pc p.t.cases.length cc/\ve=.slice pe (aN p).length ce ∧
  ((aN p).length<=ce/\ce<=9223372036854775807)/\(p.t.cases.length<=cc/\cc<=9223372036854775807) ∧
  ∀ i,i<(aN p).length->PlIn w pe pc p.t.cases.length iv wv i/\aU w (iv.getD i undef) ((aN p).getD i default).inp/\bN w (wv.getD i undef) ((aN p).getD i default).word:=by
 obtain⟨pc,cc,e1,⟨c1,c2,_⟩,_,ec⟩:=h.cases;obtain⟨pe,ce,e2,⟨d1,d2,_⟩,_,ed⟩:=h.ex;have hp:(dR p).prob=p:=rfl;rw[hp]at e1 c1 ec;rw[pV]at e2 d1
 have key:∀ i:Fin (aN p).length,∃ x:Value × Value,(∃ be oe,pe=some ⟨be,oe,none⟩/\be<w.heap.size/\∃ (c:Nat) (x2:Value),w.cell? ⟨be,oe+i.1 * 3,none⟩=some (.int .i64 c)/\w.cell? ⟨be,oe+i.1 * 3+1,none⟩=some x.2/\w.cell? ⟨be,oe+i.1 * 3+2,none⟩=some x2/\(∃ a m k,x2=.slice a m k)/\c<p.t.cases.length ∧
   ∃ bc oc,pc=some ⟨bc,oc,none⟩/\bc<w.heap.size/\w.cell? ⟨bc,oc+c * 3,none⟩=some x.1)/\aU w x.1 ((aN p).getD i.1 default).inp/\bN w x.2 ((aN p).getD i.1 default).word:=fun i=>by
  have hi:i.1<(dR p).ex.length:=by rw[pV];exact i.2
  obtain⟨c,hc,hce,kA⟩:=AG p i.1 hi;obtain⟨be,oe,ea,⟨r1,_⟩,⟨vw,r2,r3⟩,⟨vv,r4,r5⟩⟩:=ed i.1 _ (List.getElem?_eq_getElem hi);obtain⟨bc,oc,eb,⟨vi,q2,q3⟩,_,_⟩:=ec c _ (List.getElem?_eq_getElem hc);obtain⟨a2,m2,e2,_⟩:=r5;rw[kA];refine⟨(vi,vw),⟨be,oe,ea,gc r1,c,vv,by rw[hce]at r1;exact r1,r2,r4,⟨_,_,_,e2⟩,hc,bc,oc,eb,gc q2,q2⟩,?_,r3⟩
  show aU w vi (p.t.cases.getD c default).inp
  rw[show p.t.cases.getD c default=p.t.cases[c] by simp[hc]];exact q3
 refine⟨pc,cc,pe,ce,List.ofFn fun i=>(Classical.choose (key i)).1,List.ofFn fun i=>(Classical.choose (key i)).2,e1,e2,⟨d1,d2⟩,⟨c1,c2⟩,fun i hi=>?_⟩
 have g1:(List.ofFn fun i=>(Classical.choose (key i)).1).getD i undef=(Classical.choose (key ⟨i,hi⟩)).1:=by
  rw[List.getD_eq_getElem?_getD,List.getElem?_ofFn];simp[hi]
 have g2:(List.ofFn fun i=>(Classical.choose (key i)).2).getD i undef=(Classical.choose (key ⟨i,hi⟩)).2:=by
  rw[List.getD_eq_getElem?_getD,List.getElem?_ofFn];simp[hi]
 obtain⟨k1,k2,k3⟩:=Classical.choose_spec (key ⟨i,hi⟩);refine⟨⟨?_,?_,?_⟩,?_,?_⟩
 ·rw[g1,g2];exact k1
 ·rw[g1];obtain⟨a,c,e,_⟩:=k2.at;exact⟨_,_,_,e⟩
 ·rw[g2];obtain⟨a,c,e,_⟩:=k3.at;exact⟨_,_,_,e⟩
 ·rw[g1];exact k2
 ·rw[g2];exact k3
theorem IsTr.ck{w w':World} {t:Tr} {vi vw vs vm vd vt:Value} (h:IsTr w t vi vw vs vm vd vt) (hb:CK w w'):IsTr w' t vi vw vs vm vd vt:=
 ⟨h.inp.ck up_int hb,h.word.ck up_round hb,h.states.ck up_ints hb,h.msgs.ck up_msg hb,h.dec.ck up_int hb,h.times.ck up_int hb⟩
def Od(w:World) (b o:Nat) (y:Py):Prop:=tu w b o y.inp/\lj 7 jV w b (o+1) y.word
theorem up_play:Up Od:=fun _ _ _ _ _ hb h=>⟨up_ints _ _ _ _ _ hb h.1,up_words _ _ _ _ _ hb h.2⟩
abbrev j9:=eO 2 Od
def pI(vals:List (Value × Value)):List Value:=vals.flatMap fun x=>(#[x.1,x.2]:Array Value).toList
theorem Oe(a b:List (Value × Value)):pI (a++b)=pI a++pI b:=by simp[pI]
def Ib(w:World) (base:Nat) (vals:List (Value × Value)) (l:List Py):Prop:=∀ i (hi:i<l.length),∃ a b,vals[i]?=some (a,b)/\aL w base 3 1 a l[i].inp.length (l[i].inp.map (Value.int .i64))/\aL w base 52 7 b l[i].word.length (bi l[i].word)
def jc(w:World) (base:Nat) (v:Value) (l:List Py):Prop:=∃ vals,vals.length=l.length/\aL w base 39 2 v l.length (pI vals)/\Ib w base vals l
theorem jc.nil(w:World) (base:Nat):jc w base (.slice none 0 0) []:=⟨[],rfl,aL.nil _ _ _ _,fun i hi=>by simp at hi⟩
theorem Ib.up{w w':World} {base:Nat} {vals:List (Value × Value)} {l:List Py} (h:Ib w base vals l) (hb:Below w.heap.size w w'):Ib w' base vals l:=fun i hi=>by
 obtain⟨a,b,h1,h2,h3⟩:=h i hi;exact⟨a,b,h1,h2.up hb,h3.up hb⟩
theorem jc.up{w w':World} {base:Nat} {v:Value} {l:List Py} (h:jc w base v l) (hb:Below w.heap.size w w'):jc w' base v l:=by
 obtain⟨vals,h1,h2,h3⟩:=h;exact⟨vals,h1,h2.up hb,h3.up hb⟩
theorem jc.snoc{w w':World} {base:Nat} {v v' a b:Value} {vals:List (Value × Value)} {l:List Py} {y:Py} (hl:vals.length=l.length) (hv:aL w base 39 2 v l.length (pI vals)) (he:Ib w base vals l) (ha:aL w base 3 1 a y.inp.length (y.inp.map (Value.int .i64))) (hb:aL w base 52 7 b y.word.length (bi y.word))
  (hg:w.grownBy w' v.ownBlock) (oA:aL w' base 39 2 v' (l.length+1) (pI vals++(#[a,b]:Array Value).toList)):jc w' base v' (l++[y]):=by
 have key:∀ {t:TypeId} {sz n:Nat} {u:Value} {xs:List Value},aL w base t sz u n xs->t≠39->aL w' base t sz u n xs:=fun {t sz n u xs} h ht=>h.keep fun g o hgu ho=>by
  refine(hg.block g (aB ho) fun e=>?_).trans ho;rcases hv.2 with ⟨rfl,_⟩|⟨g',cap,cur,fz,rfl,_,h3,_⟩
  ·cases e
  ·have:g=g':=by simpa[Value.ownBlock] using e
   rw[<-this]at h3;exact h.ne h3 ht g hgu rfl
 refine⟨vals++[(a,b)],by simp[hl],by rw[List.length_append,Oe];exact oA,fun i hi=>?_⟩;by_cases dI:i<l.length
 ·obtain⟨c,d,h1,h2,h3⟩:=he i dI
  refine⟨c,d,by rw[List.getElem?_append_left (by omega)];exact h1,?_,?_⟩
  ·rw[List.getElem_append_left dI];exact key h2 (by decide)
  ·rw[List.getElem_append_left dI];exact key h3 (by decide)
 ·have hie:i=l.length:=by simp at hi;omega
  subst hie;refine⟨a,b,by rw[<-hl];simp,?_,?_⟩
  ·rw[List.getElem_append_right (Nat.le_refl _)]
   simp only[Nat.sub_self,List.getElem_cons_zero];exact key ha (by decide)
  ·rw[List.getElem_append_right (Nat.le_refl _)]
   simp only[Nat.sub_self,List.getElem_cons_zero];exact key hb (by decide)
theorem jc.plays{w:World} {base:Nat} {v:Value} {l:List Py} (h:jc w base v l) (hi:∀ y∈l,(∀ x∈y.inp,bK x)/\y.inp.length<=17592186044416) (hw:∀ y∈l,(∀ i (hi:i<y.word.length),bK y.word[i].g.n/\bK y.word[i].g.h0/\bK y.word[i].g.h1/\bK y.word[i].g.h2/\bK y.word[i].g.h3/\bK y.word[i].g.h4/\bK y.word[i].f)/\y.word.length<=17592186044416) (hn:l.length<=17592186044416):j9 w v l:=by
 obtain⟨vals,h1,h2,h3⟩:=h
 have gM:∀ i (dI:i<l.length) j (u:Value),j<2->(#[(vals[i]'(by omega)).1,(vals[i]'(by omega)).2]:Array Value)[j]?=some u->∃ g c,v=.slice (some ⟨g,0,none⟩) l.length c/\w.cell? ⟨g,i * 2+j,none⟩=some u:=fun i dI j u hj hu=>
  h2.cell (i * 2+j) u (by unfold pI;rw[k7 (fun x:Value × Value=>#[x.1,x.2]) 2 (fun _=>rfl) vals i j (by omega) hj];exact hu)
 rcases h2.2 with ⟨rfl,hz⟩|⟨g,cap,cur,fz,rfl,_,hg,_,kj,fg,_,_⟩
 ·refine⟨none,0,by rw[hz],⟨by omega,by omega,fun _=>rfl⟩,hn,fun i x hi=>?_⟩
  have:=(List.getElem?_eq_some_iff.1 hi).1;omega
 ·refine⟨some ⟨g,0,none⟩,cap,rfl,⟨kj,by simp only[maxLen]at fg;omega,fun e=>by cases e⟩,hn,fun i x hx=>⟨g,0,rfl,?_⟩⟩
  obtain⟨dI,rfl⟩:=List.getElem?_eq_some_iff.1 hx;obtain⟨a,b,q1,q2,q3⟩:=h3 i dI;have Jl:vals[i]'(by omega)=(a,b):=(List.getElem?_eq_some_iff.1 q1).2;obtain⟨g1,c1,e1,k1⟩:=gM i dI 0 a (by omega) (by rw[Jl];rfl);obtain⟨g2,c2,e2,k2⟩:=gM i dI 1 b (by omega) (by rw[Jl];rfl);simp only[Value.slice.injEq,Option.some.injEq,Addr.mk.injEq]at e1 e2;obtain⟨⟨rfl,_⟩,_⟩:=e1;obtain⟨⟨rfl,_⟩,_⟩:=e2;have hm:=List.getElem_mem dI;rw[Nat.zero_add];exact⟨⟨a,k1,lA q2 (hi _ hm).1 (hi _ hm).2⟩,⟨b,k2,lw q3 (hw _ hm).1 (hw _ hm).2⟩⟩
abbrev Gr.c(g:Gr):Array Value:=#[.int .i64 g.n,.int .i64 g.h0,.int .i64 g.h1,.int .i64 g.h2,.int .i64 g.h3,.int .i64 g.h4]
theorem B8(g:Gr) (w:World) :
  Calls Tryz.prog 193 #[g.v] w fun e w'=>e=.returned (.int .i64 (ic g))/\Below w.heap.size w w':=by
 by_cases hn:g.n<1\/5<g.n
 ·have H:Hid (ic g=2):=by(have h:ic g=2:=by(unfold ic;rw[if_pos hn]));exact h
  rcases hn with hn|hn
  ·go_enter Tryz.func193,Tryz.ntmps193
   go_wp2
   go_ret;exact⟨aC H.out.symm,by go_grown⟩
  ·have wz:¬ g.n<1:=by omega
   go_enter Tryz.func193,Tryz.ntmps193
   go_wp2
   go_ret;exact⟨aC H.out.symm,by go_grown⟩
 have IE:1<=g.n:=by omega
 have n9:g.n<=5:=by omega
 have HE:Hid (ic g=aP 5 fun p=>mL g.n (g.hear p) p):=by(have h:ic g=aP 5 fun p=>mL g.n (g.hear p) p:=by(unfold ic;rw[if_neg hn]));exact h
 clear hn;have S5:¬ g.n<1:=by omega
 have hn4:¬ 5<g.n:=by omega
 go_enter Tryz.func193,Tryz.ntmps193
 go_wp2
 refine bw (fun W=>Below w.heap.size w W/\W.heap[w.heap.size]?=some (.cells g.c 50)) ⟨by go_grown,ar _ _⟩ (fun W0 bd=>?_);obtain⟨aH,hA⟩:=bd;have HA:=aa hA;have t1:=ae hA 0;simp at t1;clear hA
 go_loop [3] (fun i=>∃ k:Nat,k<=5/\i=.int .i64 k/\∀ j,j<k->mL g.n (g.hear j) j=0) (fun i=>5 - (intOf i).toNat)
 case atStart=>exact⟨0,by omega,rfl,by simp⟩
 case round=>
  obtain⟨k,hk,rfl,aO⟩:=hrel;have H:=aa aO;clear aO;by_cases aF:k<5
  ·have hx:=lk g k aF W0 _ HA.out
   obtain⟨x,oz⟩:∃ x,x=g.hear k:=⟨_,rfl⟩;rw[<-oz]at hx;have HX:=aa oz;clear oz;obtain⟨m,hm⟩:∃ m:Nat,g.n=m:=⟨g.n.toNat,by omega⟩;have hp:=yA m (by omega);have HC:=aa (fun w=>NJ m (by omega) w)
   have HV:Hid (mL g.n x k=if (m:Int)<=k then(if x≠0 then 3 else 0) else if x<0\/2 ^ m - 1<x then 2 else if cS x k then 0 else 3):=by
    have h:mL g.n x k=if (m:Int)<=k then(if x≠0 then 3 else 0) else if x<0\/2 ^ m - 1<x then 2 else if cS x k then 0 else 3:=by
     unfold mL;rw[hm,Int.toNat_natCast]
    exact h
   rw[hm]at t1;rw[hm]at IE n9;have HM:=aa hm;generalize (2:Int) ^ m=y at hp HC HV;clear hm S5 hn4;by_cases me:(m:Int)<=k
   ·go_wp2
    ·go_ret
     refine⟨aC ?_,aH⟩;rw[HE.out]
     go_light
     refine bh k _ aF H.out ?_ (by decide);rw[<-HX.out,HV.out]
     grind
    ·go_round
     case rel=>
      refine⟨k+1,by omega,by go_num,aQ H.out ?_⟩
      go_light
      rw[<-HX.out,HV.out]
      grind
     case measure=>simp[intOf];omega
   ·by_cases oz:x<0\/y - 1<x
    ·have hq:∀ z,z=2->z=ic g:=fun z hz=>by
      subst hz;rw[HE.out];refine bh k _ aF H.out ?_ (by decide);rw[<-HX.out,HV.out,if_neg me,if_pos oz]
     have HQ:=aa hq;clear hq;rcases oz with oz|oz
     ·go_wp2
      go_ret
      exact⟨aC (HQ.out _ rfl),aH⟩
     ·have gi:¬ x<0:=by omega
      go_wp2_with (go_at_call 206;refine(HC.out _).mono ?_;rintro e w' ⟨rfl,rfl⟩)
      go_ret
      exact⟨aC (HQ.out _ rfl),aH⟩
    ·have gi:¬ x<0:=by omega
     have dV:¬ y - 1<x:=by omega
     have fA:=aa (fun w=>AF x k (by omega) (by omega) (by omega) w);cases hb:cS x k with
     | true=>
      rw[hb]at fA HV;have Tj:=aa oz;clear hb oz
      go_wp2_with (first|(go_at_call 206;refine(HC.out _).mono ?_;rintro e w' ⟨rfl,rfl⟩)|(go_at_call 196;refine(fA.out _).mono ?_;rintro e w' ⟨rfl,rfl⟩))
      go_round
      case rel=>
       refine⟨k+1,by omega,by go_num,aQ H.out ?_⟩;rw[<-HX.out,HV.out,if_neg (by omega),if_neg (by omega)];rfl
      case measure=>simp[intOf];omega
     | false=>
      rw[hb]at fA HV;have Tj:=aa oz;clear hb oz
      go_wp2_with (first|(go_at_call 206;refine(HC.out _).mono ?_;rintro e w' ⟨rfl,rfl⟩)|(go_at_call 196;refine(fA.out _).mono ?_;rintro e w' ⟨rfl,rfl⟩))
      go_ret
      refine⟨aC ?_,aH⟩;rw[HE.out];refine bh k _ aF H.out ?_ (by decide);rw[<-HX.out,HV.out,if_neg (by omega),if_neg (by omega)];rfl
  ·go_wp2
   go_ret;exact⟨aC (by rw[HE.out,cp];intro j hj;exact H.out j (by omega)),aH⟩
theorem Of{a b:Gr} (h:a.n<b.n):dK a b=-1:=by unfold dK cmpI;grind
theorem Og{a b:Gr} (h:b.n<a.n):dK a b=1:=by unfold dK cmpI;grind
theorem Oh{a b:Gr} (h:a.n=b.n):dK a b=aP 5 fun p=>cmpI (a.hear p) (b.hear p):=by unfold dK;rw[h,nr];simp
theorem yK(a b:Gr) (w:World) :
  Calls Tryz.prog 195 #[a.v,b.v] w fun e w'=>e=.returned (.int .i64 (dK a b))/\Below w.heap.size w w':=by
 rcases Int.lt_trichotomy a.n b.n with hn|hn|hn
 ·have H:=aa (Of hn)
  go_enter Tryz.func195,Tryz.ntmps195
  go_wp2
  go_ret;exact⟨aC H.out.symm,by go_grown⟩
 ·have HC:=aa (Oh hn)
  have h1:¬ a.n<b.n:=by omega
  have h2:¬ b.n<a.n:=by omega
  clear hn
  go_enter Tryz.func195,Tryz.ntmps195
  go_wp2
  refine bw (fun W=>Below w.heap.size w W/\W.heap[w.heap.size]?=some (.cells a.c 50)/\W.heap[w.heap.size+1]?=some (.cells b.c 50))
   ⟨by go_grown,aq _ (ar _ _),by have:=ar (w.alloc (.cells a.c 50));rw[World.size_alloc]at this;exact this _⟩ (fun W0 bd=>?_)
  obtain⟨aH,hA,hB⟩:=bd;have HA:=aa hA;clear hA;have HB:=aa hB;clear hB;clear h1 h2
  go_loopw [5] (fun i wr=>Below W0.heap.size W0 wr/\∃ k:Nat,k<=5/\i=.int .i64 k/\∀ j,j<k->cmpI (a.hear j) (b.hear j)=0) (fun i _=>5 - (intOf i).toNat)
  case atStart=>exact⟨Below.refl _ _,0,by omega,rfl,by simp⟩
  case round=>
   obtain⟨aJ,k,hk,rfl,aO⟩:=hrel;have H:=aa aO;clear aO;by_cases aF:k<5
   ·have c1:∀ n,(wr.drewN n).cell? ⟨w.heap.size,1+k,none⟩=some (.int .i64 (a.hear k)):=fun n=>lk a k aF wr _ (ak aJ HA.out)
    have c2:∀ n,(wr.drewN n).cell? ⟨w.heap.size+1,1+k,none⟩=some (.int .i64 (b.hear k)):=fun n=>lk b k aF wr _ (ak aJ HB.out)
    have HV:Hid (cmpI (a.hear k) (b.hear k)=if a.hear k<b.hear k then -1 else if b.hear k<a.hear k then 1 else 0):=by exact rfl
    generalize hx:a.hear k=x at c1 HV;generalize hy:b.hear k=y at c2 HV;have HX:=aa hx;clear hx;have HY:=aa hy;clear hy;rcases Int.lt_trichotomy x y with hn|hn|hn
    ·go_wp2
     go_quiet (fail)
     go_wp2
     go_ret
     refine⟨aC ?_,dC (aj aH aJ) _⟩;rw[HC.out];refine bh k _ aF H.out ?_ (by decide);rw[HX.out,HY.out,HV.out,if_pos hn]
    ·have h1:¬ x<y:=by omega
     have h2:¬ y<x:=by omega
     clear hn
     go_wp2
     go_quiet (fail)
     go_wp2
     have c3:∀ m n,((wr.drewN m).drewN n).cell? ⟨w.heap.size,1+k,none⟩=some (.int .i64 x):=fun m n=>c1 m
     have c4:∀ m n,((wr.drewN m).drewN n).cell? ⟨w.heap.size+1,1+k,none⟩=some (.int .i64 y):=fun m n=>c2 m
     go_quiet (fail)
     go_wp2
     go_roundw
     case rel=>
      refine⟨dC aJ _,k+1,by omega,by go_num,aQ H.out ?_⟩;rw[HX.out,HY.out,HV.out,if_neg (by omega),if_neg (by omega)]
     case measure=>simp[intOf];omega
    ·have h1:¬ x<y:=by omega
     go_wp2
     go_quiet (fail)
     go_wp2
     have c3:∀ m n,((wr.drewN m).drewN n).cell? ⟨w.heap.size,1+k,none⟩=some (.int .i64 x):=fun m n=>c1 m
     have c4:∀ m n,((wr.drewN m).drewN n).cell? ⟨w.heap.size+1,1+k,none⟩=some (.int .i64 y):=fun m n=>c2 m
     go_quiet (fail)
     go_wp2
     go_ret
     refine⟨aC ?_,dC (dC (aj aH aJ) _) _⟩;rw[HC.out];refine bh k _ aF H.out ?_ (by decide);rw[HX.out,HY.out,HV.out,if_neg (by omega),if_pos hn]
   ·go_wp2
    go_ret;exact⟨aC (by rw[HC.out,cp];intro j hj;exact H.out j (by omega)),aj aH aJ⟩
 ·have H:=aa (Og hn)
  have h1:¬ a.n<b.n:=by omega
  go_enter Tryz.func195,Tryz.ntmps195
  go_wp2
  go_ret;exact⟨aC H.out.symm,by go_grown⟩
theorem Ca(r:Rd) (w:World) :
  Calls Tryz.prog 168 #[r.v] w fun e w'=>e=.returned (.int .i64 (roundE r))/\Below w.heap.size w w':=by
 obtain⟨⟨n,h0,h1,h2,h3,h4⟩,f⟩:=r
 go_enter Tryz.func168,Tryz.ntmps168
 go_wp2_with (first
  | (go_at_call 193;refine(B8 ⟨_,_,_,_,_,_⟩ _).mono ?_;rintro e w1 ⟨rfl,hb⟩;obtain⟨hc,hf⟩:=Lb hb)
  | (go_at_call 194;refine(F' _ _ _).mono ?_;rintro e w2 ⟨rfl,rfl⟩))
 all_goals
  go_ret
  refine⟨aC ?_,?_⟩
  ·go_light
   unfold roundE
   grind
  ·exact aj (by go_grown) hb
theorem yL(a b:Rd) (w:World) :
  Calls Tryz.prog 169 #[a.v,b.v] w fun e w'=>e=.returned (.int .i64 (roundC a b))/\Below w.heap.size w w':=by
 obtain⟨⟨n,h0,h1,h2,h3,h4⟩,f⟩:=a;obtain⟨⟨m,g0,g1,g2,g3,g4⟩,g⟩:=b
 go_enter Tryz.func169,Tryz.ntmps169
 go_wp2_with (first
  | (go_at_call 195;refine(yK ⟨_,_,_,_,_,_⟩ ⟨_,_,_,_,_,_⟩ _).mono ?_;rintro e w1 ⟨rfl,hb⟩;obtain⟨hc,hf⟩:=Lb hb))
 all_goals
  go_ret
  refine⟨aC ?_,?_⟩
  ·go_light
   unfold roundC cmpI
   grind
  ·exact aj (by go_grown) hb
theorem nY(va vb:Value) (a b:List Int) (w:World) (ha:aU w va a) (hb:aU w vb b) :
  Calls Tryz.prog 48 #[va,vb] w fun e w'=>e=.returned (.int .i64 (ordV a b))/\Below w.heap.size w w':=by
 obtain⟨pa,ca,rfl,la1,la2,ea⟩:=ha.at;obtain⟨pb,cb,rfl,lb1,lb2,eb⟩:=hb.at;clear ha hb;have EA:=aa ea;clear ea;have EB:=aa eb;clear eb
 go_enter Tryz.func48,Tryz.ntmps48
 go_wp2
 go_loopw [5] (fun i wr=>Below w.heap.size w wr/\∃ k:Nat,k<=a.length/\k<=b.length/\i=.int .i64 k/\ordV a b=ordV (a.drop k) (b.drop k)) (fun i _=>a.length - (intOf i).toNat)
 case atStart=>exact⟨Below.refl _ _,0,by omega,by omega,rfl,by simp⟩
 case round=>
  obtain⟨aJ,k,hk,Ad,rfl,aO⟩:=hrel;have H:=aa aO;clear aO;by_cases aF:k<a.length
  ·by_cases gD:k<b.length
   ·obtain⟨b1,o1,rfl,h1⟩:=EA.out k aF
    obtain⟨x,hx⟩:∃ x,x=a[k]:=⟨_,rfl⟩;rw[<-hx,Nat.mul_one]at h1;obtain⟨b2,o2,rfl,h2⟩:=EB.out k gD;obtain⟨y,hy⟩:∃ y,y=b[k]:=⟨_,rfl⟩;rw[<-hy,Nat.mul_one]at h2;have c1:∀ n,(wr.drewN n).cell? ⟨b1,o1+k,none⟩=some (.int .i64 x):=fun n=>ay aJ h1.1
    have c2:∀ n,(wr.drewN n).cell? ⟨b2,o2+k,none⟩=some (.int .i64 y):=fun n=>ay aJ h2.1
    have HS:=Ed aF gD H.out;rw[<-hx,<-hy]at HS;have Ae:=aa HS;clear HS hx hy h1 h2;rcases Int.lt_trichotomy x y with hn|hn|hn
    ·go_wp2
     go_quiet (fail)
     go_wp2
     go_ret
     refine⟨aC ?_,dC aJ _⟩;rw[Ae.out];unfold cmpI;grind
    ·have h1:¬ x<y:=by omega
     have h2:¬ y<x:=by omega
     have HN:=aa hn;clear hn
     go_wp2
     go_quiet (fail)
     go_wp2
     have c3:∀ m n,((wr.drewN m).drewN n).cell? ⟨b1,o1+k,none⟩=some (.int .i64 x):=fun m n=>c1 m
     have c4:∀ m n,((wr.drewN m).drewN n).cell? ⟨b2,o2+k,none⟩=some (.int .i64 y):=fun m n=>c2 m
     go_quiet (fail)
     go_wp2
     go_roundw
     case rel=>
      refine⟨dC aJ _,k+1,by omega,by omega,by go_num,?_⟩;rw[Ae.out,if_pos];rw[HN.out,cmpI];simp
     case measure=>simp[intOf];omega
    ·have h1:¬ x<y:=by omega
     go_wp2
     go_quiet (fail)
     go_wp2
     have c3:∀ m n,((wr.drewN m).drewN n).cell? ⟨b1,o1+k,none⟩=some (.int .i64 x):=fun m n=>c1 m
     have c4:∀ m n,((wr.drewN m).drewN n).cell? ⟨b2,o2+k,none⟩=some (.int .i64 y):=fun m n=>c2 m
     go_quiet (fail)
     go_wp2
     go_ret
     refine⟨aC ?_,dC (dC aJ _) _⟩;rw[Ae.out];unfold cmpI;grind
   ·have HR:Hid (ordV a b=1):=by
     have h:ordV a b=1:=by rw[H.out,pN aF,List.drop_of_length_le (l:=b) (by omega)];rfl
     exact h
    have h3:¬ a.length<b.length:=by omega
    have h4:b.length<a.length:=by omega
    go_wp2
    go_ret
    exact⟨aC HR.out.symm,aJ⟩
  ·have HR:Hid (ordV a b=if a.length<b.length then -1 else 0):=by
    have h:ordV a b=if a.length<b.length then -1 else 0:=by
     rw[H.out,List.drop_of_length_le (by omega),vE,List.length_drop]
     grind
    exact h
   have h3:¬ b.length<a.length:=by omega
   by_cases h4:a.length<b.length
   ·go_wp2
    go_ret
    refine⟨aC ?_,aJ⟩;rw[HR.out,if_pos h4]
   ·go_wp2
    go_ret
    refine⟨aC ?_,aJ⟩;rw[HR.out,if_neg (by omega)]
theorem Ic(a b:List Int):(ordV a b == 0)=eqV a b:=by
 unfold eqV;by_cases h:a=b
 ·subst h;simp[pO]
 ·simp[h]
  intro h1;exact h (Ea h1)
theorem Oi(vl vv:Value) (l:List (List Int)) (v:List Int) (w:World) (hl:bF w vl l) (hv:aU w vv v) :
  Calls Tryz.prog 167 #[vl,vv] w fun e w'=>e=.returned (.bool (hasV l v))/\Below w.heap.size w w':=by
 obtain⟨pa,ca,rfl,la1,la2,ea⟩:=hl.at;have HV:=aa hv;obtain⟨pv,cv,rfl,_⟩:=hv;clear hl;have EA:=aa ea;clear ea;have HD:Hid (hasV l v=anyLt l.length fun i=>eqV (l.getD i []) v):=by exact rfl
 go_enter Tryz.func167,Tryz.ntmps167
 go_wp2
 go_loopw [5] (fun i wr=>Below w.heap.size w wr/\∃ k:Nat,k<=l.length/\i=.int .i64 k/\∀ j,j<k->eqV (l.getD j []) v=false) (fun i _=>l.length - (intOf i).toNat)
 case atStart=>exact⟨Below.refl _ _,0,by omega,rfl,by simp⟩
 case round=>
  obtain⟨aJ,k,hk,rfl,aO⟩:=hrel;have H:=aa aO;clear aO;by_cases aF:k<l.length
  ·obtain⟨b1,o1,rfl,x,cx,hx⟩:=EA.out k aF
   rw[Nat.mul_one]at cx;have c1:=ay aJ cx;have HX:=aa (hx.up up_int aJ);obtain⟨px,qx,rfl,_⟩:=hx;have he:=Ic l[k] v;rw[show eqV l[k] v=eqV (l.getD k []) v by rw[aA [] aF]]at he;have HC:=aa (nY _ _ l[k] v wr HX.out (HV.out.up up_int aJ));clear cx;generalize ordV l[k] v=r at he HC;cases hp:eqV (l.getD k []) v with
   | true=>
    rw[hp]at he;have HP:=aa hp;clear hp
    go_wp2_with fail
    refine HC.out.mono ?_;rintro e w1 ⟨rfl,aG⟩
    go_wp2_with fail
    go_ret
    exact⟨aV (by rw[HD.out,dP _ k _ aF HP.out]),aj aJ aG⟩
   | false=>
    rw[hp]at he;have HP:=aa hp;clear hp
    go_wp2_with fail
    refine HC.out.mono ?_;rintro e w1 ⟨rfl,aG⟩
    go_wp2_with fail
    go_roundw
    case rel=>exact⟨aj aJ aG,k+1,by omega,by go_num,aQ H.out HP.out⟩
    case measure=>simp[intOf];omega
  ·go_wp2
   go_ret
   exact⟨aV (by rw[HD.out,eG];intro j hj;exact H.out j (by omega)),aJ⟩
theorem zs(v:Value) (l:List Int) (n most:Int) (w:World) (hv:aU w v l) :
  Calls Tryz.prog 166 #[v,.int .i64 n,.int .i64 most] w fun e w'=>e=.returned (.int .i64 (vectorE l n most))/\w=w':=by
 obtain⟨pa,ca,rfl,la1,la2,ea⟩:=hv.at;clear hv;have EA:=aa ea;clear ea;by_cases hl:(l.length:Int)=n
 ·have HV:Hid (vectorE l n most=if anyLt l.length (fun i=>decide (l.getD i 0<0) || decide (most<=l.getD i 0)) then 2 else 0):=by
   have h:vectorE l n most=if anyLt l.length (fun i=>decide (l.getD i 0<0) || decide (most<=l.getD i 0)) then 2 else 0:=by unfold vectorE;rw[if_neg (by simpa using hl)]
   exact h
  subst hl
  go_enter Tryz.func166,Tryz.ntmps166
  go_wp2
  go_loop [7] (fun i=>∃ k:Nat,k<=l.length/\i=.int .i64 k/\∀ j,j<k->(decide (l.getD j 0<0) || decide (most<=l.getD j 0))=false) (fun i=>l.length - (intOf i).toNat)
  case atStart=>exact⟨0,by omega,rfl,by simp⟩
  case round=>
   obtain⟨k,hk,rfl,aO⟩:=hrel;have H:=aa aO;clear aO;by_cases aF:k<l.length
   ·obtain⟨b1,o1,rfl,h1⟩:=EA.out k aF
    have HX:=aa (aA 0 aF);rw[Nat.mul_one]at h1;have c1:=h1.1;generalize l[k]=x at c1 HX;clear h1
    go_wp2
    all_goals first
     | (go_ret
        refine⟨aC ?_,rfl⟩
        rw[HV.out,dP _ k _ aF (by rw[HX.out];go_light;simp;omega)]
        rfl)
     | (go_round
        case rel=>
         refine⟨k+1,by omega,by go_num,aQ H.out ?_⟩
         rw[HX.out]
         go_light
         simp;omega
        case measure=>simp[intOf];omega)
   ·go_wp2
    go_ret
    exact⟨aC (by rw[HV.out,eG];rfl;intro j hj;exact H.out j (by omega)),rfl⟩
 ·have HV:Hid (vectorE l n most=15):=by(have h:vectorE l n most=15:=by(unfold vectorE;rw[if_pos hl]));exact h
  have kd:((l.length:Int) != n)=true:=by simpa using hl
  clear hl
  go_enter Tryz.func166,Tryz.ntmps166
  go_wp2
  go_ret
  exact⟨aC HV.out.symm,rfl⟩
end Go.Proofs.YtkfgpnbpcpdclaaGreat
