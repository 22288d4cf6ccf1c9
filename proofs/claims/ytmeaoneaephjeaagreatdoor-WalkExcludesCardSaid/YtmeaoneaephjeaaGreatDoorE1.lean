/-
  A part of the proof: lemmas and contracts that the parts behind it use. Each one's conditions are its own premises.
-/
import Derived.Handy
import Derived.LoopTactic
import Derived.Outline
import Derived.Lib.Hide
import Derived.Deep.QuietTactic
import Derived.BigQuiet
import Derived.Deep.Cut
import Derived.Deep.Light
import Derived.Shelf.Abstract
import Derived.RangeFuncNested
import Derived.StillTailTactics
import Derived.OrdersIn
import Derived.StillTail
import Derived.OwnWalkIn
import Derived.Laws.Tables
import Derived.Laws.IdiomStrings
import Derived.Lib.SliceRun
set_option maxRecDepth 100000
set_option maxHeartbeats 8000000
set_option linter.unusedVariables false
set_option linter.unusedSimpArgs false
namespace Go.Proofs.YtmeaoneaephjeaaGreatDoor
structure Gr where
 n:Int
 h0:Int
 h1:Int
 h2:Int
 h3:Int
 h4:Int
structure Rd where
 g:Gr
 f:Int
structure Mv where
 r:Rd
 to:Int
structure Adv where
 n:Int
 states:List (List Mv)
structure Cs where
 inp:List Int
 out:List (List Int)
 calm:List (List Int)
structure Tk where
 n:Int
 ins:Int
 outs:Int
 cases:List Cs
structure Pb where
 t:Tk
 a:Adv
 rounds:Int
instance:Inhabited Gr:=⟨⟨0,0,0,0,0,0⟩⟩
instance:Inhabited Rd:=⟨⟨default,0⟩⟩
instance:Inhabited Mv:=⟨⟨default,0⟩⟩
instance:Inhabited Cs:=⟨⟨[],[],[]⟩⟩
instance:DecidableEq Gr:=fun a b=>decidable_of_iff (a.n=b.n/\a.h0=b.h0/\a.h1=b.h1/\a.h2=b.h2/\a.h3=b.h3/\a.h4=b.h4) (by cases a;cases b;simp)
instance:DecidableEq Rd:=fun a b=>decidable_of_iff (a.g=b.g/\a.f=b.f) (by cases a;cases b;simp)
def Gr.hear(g:Gr) (k:Nat):Int:=match k with|0=>g.h0|1=>g.h1|2=>g.h2|3=>g.h3|4=>g.h4|_=>0
def bm(n:Nat) (f:Nat->Int):Int:=match n with|0=>0|m+1=>if bm m f≠0 then bm m f else f m
theorem cS(n:Nat) (f:Nat->Int) (h:∀ j,j<n->f j=0):bm n f=0:=by
 induction n with
 | zero=>rfl
 | succ m ih=>unfold bm;rw[ih (fun j hj=>h j (by omega))];simp;exact h m (by omega)
theorem Mf(n k:Nat) (f:Nat->Int) (hk:k<n) (h:∀ j,j<k->f j=0) (hz:f k≠0):bm n f=f k:=by
 induction n with
 | zero=>omega
 | succ m ih=>
  unfold bm;by_cases e:k=m
  ·subst e;rw[cS k f h];simp
  ·rw[ih (by omega)];simp[hz]
theorem bT{n:Nat} {f:Nat->Int} (k:Nat) (v:Int) (hk:k<n) (h:∀ j,j<k->f j=0) (hv:f k=v) (hz:v≠0):v=bm n f:=by
 subst hv;exact(Mf n k f hk h hz).symm
theorem aY{p:Nat->Prop} {k:Nat} (h:∀ j,j<k->p j) (hk:p k):∀ j,j<k+1->p j:=fun j hj=>by
 by_cases e:j=k
 ·subst e;exact hk
 ·exact h j (by omega)
theorem fH{n:Nat} {f:Nat->Int} (h:bm n f=0):∀ j,j<n->f j=0:=by
 induction n with
 | zero=>intro j hj;omega
 | succ m ih=>
  unfold bm at h;by_cases e:bm m f=0
  ·simp[e]at h;intro j hj;by_cases ej:j=m
   ·subst ej;exact h
   ·exact ih e j (by omega)
  ·simp[e]at h
def firstIx(n:Nat) (p:Nat->Bool):Int:=match n with|0=>-1|m+1=>if firstIx m p≠-1 then firstIx m p else if p m then m else -1
theorem dK(n:Nat) (p:Nat->Bool) (h:∀ j,j<n->p j=false):firstIx n p=-1:=by
 induction n with
 | zero=>rfl
 | succ m ih=>unfold firstIx;rw[ih (fun j hj=>h j (by omega))];simp[h m (by omega)]
theorem dB(n k:Nat) (p:Nat->Bool) (hk:k<n) (h:∀ j,j<k->p j=false) (hz:p k=true):firstIx n p=k:=by
 induction n with
 | zero=>omega
 | succ m ih=>
  unfold firstIx;by_cases e:k=m
  ·subst e;rw[dK k p h];simp[hz]
  ·rw[ih (by omega)];simp
theorem bE(n:Nat) (p:Nat->Bool):(firstIx n p=-1/\∀ j,j<n->p j=false)\/∃ k,k<n/\firstIx n p=k/\p k=true/\∀ j,j<k->p j=false:=by
 induction n with
 | zero=>exact .inl ⟨rfl,fun j hj=>by omega⟩
 | succ m ih=>
  rcases ih with ⟨h,hn⟩|⟨k,hk,h,hp,hn⟩
  ·by_cases e:p m=true
   ·exact .inr ⟨m,by omega,by rw[dB (m+1) m p (by omega) hn e],e,hn⟩
   ·refine .inl ⟨dK _ _ (fun j hj=>?_),fun j hj=>?_⟩ <;>
    ·by_cases ej:j=m
     ·subst ej;simpa using e
     ·exact hn j (by omega)
  ·exact .inr ⟨k,by omega,by rw[dB (m+1) k p (by omega) hn hp],hp,hn⟩
theorem mB(n:Nat) (f g:Nat->Bool) (h:∀ j,j<n->f j=g j):firstIx n f=firstIx n g:=by
 induction n with
 | zero=>rfl
 | succ m ih=>unfold firstIx;rw[ih (fun j hj=>h j (by omega)),h m (by omega)]
def anyLt(n:Nat) (p:Nat->Bool):Bool:=match n with|0=>false|m+1=>anyLt m p || p m
theorem eX(n:Nat) (p:Nat->Bool) (h:∀ j,j<n->p j=false):anyLt n p=false:=by
 induction n with
 | zero=>rfl
 | succ m ih=>unfold anyLt;rw[ih (fun j hj=>h j (by omega)),h m (by omega)];rfl
theorem dN(n k:Nat) (p:Nat->Bool) (hk:k<n) (h:p k=true):anyLt n p=true:=by
 induction n with
 | zero=>omega
 | succ m ih=>
  unfold anyLt;by_cases e:k=m
  ·subst e;simp[h]
  ·rw[ih (by omega)];rfl
theorem km(n:Nat) (p:Nat->Bool):anyLt n p=true↔∃ k,k<n/\p k=true:=by
 constructor
 ·intro h;induction n with
  | zero=>simp[anyLt]at h
  | succ m ih=>
   unfold anyLt at h;cases hm:anyLt m p with
   | true=>obtain⟨k,hk,hp⟩:=ih hm;exact⟨k,by omega,hp⟩
   | false=>rw[hm]at h;exact⟨m,by omega,by simpa using h⟩
 ·rintro⟨k,hk,hp⟩;exact dN n k p hk hp
theorem dG(n:Nat) (p:Nat->Bool):anyLt n p=false↔∀ k,k<n->p k=false:=by
 constructor
 ·intro h k hk;cases hp:p k with
  | false=>rfl
  | true=>rw[dN n k p hk hp]at h;cases h
 ·exact eX n p
theorem Kq(n:Nat) (f g:Nat->Bool) (h:∀ j,j<n->f j=g j):anyLt n f=anyLt n g:=by
 induction n with
 | zero=>rfl
 | succ m ih=>unfold anyLt;rw[ih (fun j hj=>h j (by omega)),h m (by omega)]
theorem p9(n:Nat) (p:Nat->Bool):decide (0<=firstIx n p)=anyLt n p:=by
 rcases bE n p with ⟨h,hn⟩|⟨k,hk,h,hp,_⟩
 ·rw[h,eX n p hn];rfl
 ·rw[h,dN n k p hk hp];simp
def iV(n:Int):Int:=if n<1\/5<n then 1 else 0
def ky(n set:Int):Int:=if iV n≠0 then iV n else if set<0\/set / 2 ^ n.toNat≠0 then 2 else 0
def hasB(set:Int) (p:Nat):Bool:=set / 2 ^ p % 2 == 1
def mC(n x:Int) (p:Nat):Int:=
 if n<=p then(if x≠0 then 3 else 0) else if x<0\/2 ^ n.toNat - 1<x then 2 else if hasB x p then 0 else 3
def gZ(g:Gr):Int:=if g.n<1\/5<g.n then 2 else bm 5 fun p=>mC g.n (g.hear p) p
def cmpI(a b:Int):Int:=if a<b then -1 else if b<a then 1 else 0
def fA(a b:Gr):Int:=if cmpI a.n b.n≠0 then cmpI a.n b.n else bm 5 fun p=>cmpI (a.hear p) (b.hear p)
def roundE(r:Rd):Int:=if gZ r.g≠0 then gZ r.g else ky r.g.n r.f
def roundC(a b:Rd):Int:=if fA a.g b.g≠0 then fA a.g b.g else cmpI a.f b.f
theorem sC{α:Type} {l:List α} {k:Nat} (h:k<l.length):l.drop k=l[k] :: l.drop (k+1):=(List.drop_eq_getElem_cons h)
def ordV:List Int->List Int->Int
 | [],[]=>0
 | [],_ :: _=>-1
 | _ :: _,[]=>1
 | a :: r,b :: s=>if a<b then -1 else if b<a then 1 else ordV r s
theorem xp(b:List Int):ordV [] b=if 0<b.length then -1 else 0:=by cases b<;>simp[ordV]
theorem sD(a:List Int):ordV a a=0:=by induction a with|nil=>rfl|cons x r ih=>simp[ordV,ih]
theorem On{a b:List Int} (h:ordV a b=0):a=b:=by
 induction a generalizing b with
 | nil=>cases b with|nil=>rfl|cons y s=>simp[ordV]at h
 | cons x r ih=>
  cases b with
  | nil=>simp[ordV]at h
  | cons y s=>
   unfold ordV at h;split at h
   ·omega
   ·split at h
    ·omega
    ·rw[ih h,show x=y by omega]
def vectorE(v:List Int) (n most:Int):Int:=if (v.length:Int)≠n then 15 else if anyLt v.length (fun i=>decide (v.getD i 0<0) || decide (most<=v.getD i 0)) then 2 else 0
def unordB(l:List (List Int)) (i:Nat):Bool:=decide (0<i)&&decide (0<=ordV (l.getD (i - 1) []) (l.getD i []))
def eqV(a b:List Int):Bool:=decide (a=b)
def hasV(l:List (List Int)) (v:List Int):Bool:=anyLt l.length fun i=>eqV (l.getD i []) v
def jq(t:Tk) (c:Cs) (i:Nat):Int:=if vectorE (c.out.getD i []) t.n t.outs≠0 then vectorE (c.out.getD i []) t.n t.outs else if unordB c.out i then 14 else 0
def jh(c:Cs) (i:Nat):Int:=if hasV c.out (c.calm.getD i []) then(if unordB c.calm i then 14 else 0) else 6
def vectorsE(t:Tk) (c:Cs):Int:=
 if c.out.length<1\/1024<c.out.length then 5
 else if bm c.out.length (jq t c)≠0 then bm c.out.length (jq t c) else bm c.calm.length (jh c)
def fd(t:Tk) (i:Nat):Int:=
 if vectorE (t.cases.getD i default).inp t.n t.ins≠0 then vectorE (t.cases.getD i default).inp t.n t.ins
 else if 0<i/\0<=ordV (t.cases.getD (i - 1) default).inp (t.cases.getD i default).inp then 14 else vectorsE t (t.cases.getD i default)
def taskE(t:Tk):Int:=
 if t.n<1\/5<t.n\/t.ins<1\/8<t.ins\/t.outs<1\/8<t.outs then 2
 else if t.cases.length<1\/1024<t.cases.length then 5 else bm t.cases.length (fd t)
def movesN(l:List (List Mv)):Nat:=(l.map List.length).sum
def dW(a:Adv) (l:List Mv) (i:Nat):Int:=
 if roundE (l.getD i default).r≠0 then roundE (l.getD i default).r
 else if (l.getD i default).r.g.n≠a.n then 22
 else if 0<i/\0<=roundC (l.getD (i - 1) default).r (l.getD i default).r then 14
 else if (l.getD i default).to<0\/(a.states.length:Int)<=(l.getD i default).to then 2 else 0
def stateE(a:Adv) (l:List Mv):Int:=if l.length=0 then 19 else bm l.length (dW a l)
def iU(x y:Int):Bool:=!anyLt 5 fun p=>hasB x p&&!hasB y p
end Go.Proofs.YtmeaoneaephjeaaGreatDoor
namespace Go.Proofs.YtmeaoneaephjeaaGreatDoor
open Go.RowKit Go Go.Shelf
def bR(x:Int):Prop:=-9223372036854775808<=x/\x<=9223372036854775807
theorem fx{w:World} {a:Addr} {v:Value} (h:w.cell? a=some v):a.block<w.heap.size:=by
 unfold World.cell? at h;split at h
 ·rename_i hb;exact(Array.getElem?_eq_some_iff.1 hb).1
 ·cases h
theorem ak{w w':World} (hb:Below w.heap.size w w') {a:Addr} {v:Value} (h:w.cell? a=some v):w'.cell? a=some v:=(hb.cell (fx h)).trans h
theorem Mg{B:Nat} {W w1:World} (hb:Below B W w1):(∀ b o,b<B->w1.cell? ⟨b,o,none⟩=W.cell? ⟨b,o,none⟩)/\(∀ b o,b<B->w1.frozen? ⟨b,o,none⟩=W.frozen? ⟨b,o,none⟩):=
 ⟨fun b o h=>hb.cell (p:=⟨b,o,none⟩) h,fun b o h=>hb.frozen (p:=⟨b,o,none⟩) h⟩
theorem aE{k:IntKind} {a b:Int} (h:a=b):Ending.returned (.int k a)=.returned (.int k b):=by rw[h]
theorem aR{a b:Bool} (h:a=b):Ending.returned (.bool a)=.returned (.bool b):=by rw[h]
theorem ae{a b c:World} (h:Below a.heap.size a b) (k:Below b.heap.size b c):Below a.heap.size a c:=h.trans (k.mono h.size)
theorem eK{B:Nat} {a w:World} (h:Below B a w) (n:Nat):Below B a (w.drewN n):=⟨h.os,h.tape,h.output,h.size,h.block⟩
theorem ap(w:World) (o:Obj):(w.alloc o).heap[w.heap.size]?=some o:=by
 show (w.heap.push o)[w.heap.size]?=some o
 simp
theorem ar{w:World} {k:Nat} {x:Obj} (o:Obj) (h:w.heap[k]?=some x):(w.alloc o).heap[k]?=some x:=
 (Below.heap_alloc w o k (Array.getElem?_eq_some_iff.1 h).1).trans h
theorem aD{w:World} {k:Nat} {x:Obj} (h:w.heap[k]?=some x):k<w.heap.size:=(Array.getElem?_eq_some_iff.1 h).1
theorem af{w w':World} (hb:Below w.heap.size w w') {k:Nat} {x:Obj} (h:w.heap[k]?=some x):w'.heap[k]?=some x:=
 (hb.block k (Array.getElem?_eq_some_iff.1 h).1).trans h
theorem ab{w:World} {B:Nat} {cs:Array Value} {t:TypeId} {f:Nat × Nat} (h:w.heap[B]?=some (.cells cs t f)) (o:Nat):w.cell? ⟨B,o,none⟩=cs[o]?:=by
 simp[World.cell?,h]
theorem aH{w:World} {B:Nat} {cs:Array Value} {t:TypeId} (h:w.heap[B]?=some (.cells cs t (0,0))) (o:Nat):w.frozen? ⟨B,o,none⟩=false:=by
 simp[World.frozen?,h]
theorem bC{P:Program} {c:Code} {Q:Exit->Act->World->Prop} {a:Act} {W:World} (I:World->Prop) (h:I W) (k:∀ W0,I W0->c.wp P Q a W0):c.wp P Q a W:=k W h
def CK(w w':World):Prop:=∀ (k:Nat) (o:Obj),w.heap[k]?=some o->o.isCells=true->w'.heap[k]?=some o
theorem CK.of_below{w w':World} (h:Below w.heap.size w w'):CK w w':=fun _ _ hk _=>af h hk
theorem CK.cell{w w':World} (h:CK w w') {a:Addr} {v:Value} (hc:w.cell? a=some v):w'.cell? a=some v:=by
 unfold World.cell? at hc ⊢;cases ho:w.heap[a.block]? with
 | none=>simp[ho]at hc
 | some o=>cases o<;>simp only[ho]at hc<;>first|(rw[h _ _ ho rfl];exact hc)|cases hc
def Up{α:Type} (R:World->Nat->Nat->α->Prop):Prop:=∀ (w w':World) (b o:Nat) (x:α),CK w w'->R w b o x->R w' b o x
theorem aO{P:Program} {f:FuncId} {args:Array Value} {R:Ending->World->Prop} {W:World} (I:World->Prop) (h:I W) (k:∀ W0,I W0->Calls P f args W0 R):Calls P f args W R:=k W h
def fj{α:Type} (k:Nat) (R:World->Nat->Nat->α->Prop) (w:World) (v:Value) (l:List α):Prop:=
 ∃ a cap,v=.slice a l.length cap/\(l.length<=cap/\cap<=9223372036854775807/\(a=none->cap=0))/\l.length<=17592186044416/\∀ i x,l[i]?=some x->∃ b off,a=some ⟨b,off,none⟩/\R w b (off+i * k) x
theorem fj.ck{α:Type} {k:Nat} {R:World->Nat->Nat->α->Prop} (hR:Up R) {w w':World} {v:Value} {l:List α} (hb:CK w w') (h:fj k R w v l):fj k R w' v l:=by
 obtain⟨a,cap,rfl,h1,h2,h3⟩:=h;refine⟨a,cap,rfl,h1,h2,fun i x hx=>?_⟩;obtain⟨b,off,ha,hr⟩:=h3 i x hx;exact⟨b,off,ha,hR _ _ _ _ _ hb hr⟩
theorem fj.up{α:Type} {k:Nat} {R:World->Nat->Nat->α->Prop} (hR:Up R) {w w':World} {v:Value} {l:List α} (hb:Below w.heap.size w w') (h:fj k R w v l):fj k R w' v l:=h.ck hR (.of_below hb)
theorem fj.at{α:Type} {k:Nat} {R:World->Nat->Nat->α->Prop} {w:World} {v:Value} {l:List α} (h:fj k R w v l) :
  ∃ a cap,v=.slice a l.length cap/\l.length<=cap/\l.length<=17592186044416/\∀ i (hi:i<l.length),∃ b off,a=some ⟨b,off,none⟩/\R w b (off+i * k) l[i]:=by
 obtain⟨a,cap,rfl,h1,h2,h3⟩:=h;exact⟨a,cap,rfl,h1.1,h2,fun i hi=>h3 i _ (List.getElem?_eq_getElem hi)⟩
theorem az{α:Type} {l:List α} {i:Nat} (d:α) (h:i<l.length):l.getD i d=l[i]:=by simp[h]
def mK{α:Type} (k:Nat) (R:World->Nat->Nat->α->Prop) (w:World) (b o:Nat) (l:List α):Prop:=∃ v,w.cell? ⟨b,o,none⟩=some v/\fj k R w v l
theorem zU{α:Type} {k:Nat} {R:World->Nat->Nat->α->Prop} (hR:Up R):Up (mK k R):=fun _ _ _ _ _ hb ⟨v,hc,hs⟩=>⟨v,hb.cell hc,hs.ck hR hb⟩
def gj(w:World) (b o:Nat) (x:Int):Prop:=w.cell? ⟨b,o,none⟩=some (.int .i64 x)/\bR x
theorem up_int:Up gj:=fun _ _ _ _ _ hb h=>⟨hb.cell h.1,h.2⟩
abbrev aQ:=fj 1 gj
abbrev x':=mK 1 gj
theorem up_ints:Up x':=zU up_int
abbrev dL:=fj 1 x'
abbrev uT:=mK 1 x'
theorem up_vecs:Up uT:=zU up_ints
def Hn(w:World) (b o:Nat) (c:Cs):Prop:=x' w b o c.inp/\uT w b (o+1) c.out/\uT w b (o+2) c.calm
theorem up_case:Up Hn:=fun _ _ _ _ _ hb h=>⟨up_ints _ _ _ _ _ hb h.1,up_vecs _ _ _ _ _ hb h.2.1,up_vecs _ _ _ _ _ hb h.2.2⟩
abbrev bM:=fj 3 Hn
def pH(w:World) (b o:Nat) (r:Rd):Prop:=
 gj w b o r.g.n/\gj w b (o+1) r.g.h0/\gj w b (o+2) r.g.h1/\gj w b (o+3) r.g.h2/\gj w b (o+4) r.g.h3/\gj w b (o+5) r.g.h4/\gj w b (o+6) r.f
theorem up_round:Up pH:=fun _ _ _ _ _ hb ⟨h0,h1,h2,h3,h4,h5,h6⟩=>
 ⟨up_int _ _ _ _ _ hb h0,up_int _ _ _ _ _ hb h1,up_int _ _ _ _ _ hb h2,up_int _ _ _ _ _ hb h3,up_int _ _ _ _ _ hb h4,up_int _ _ _ _ _ hb h5,up_int _ _ _ _ _ hb h6⟩
abbrev kK:=fj 7 pH
def B8(w:World) (b o:Nat) (m:Mv):Prop:=pH w b o m.r/\gj w b (o+7) m.to
theorem up_move:Up B8:=fun _ _ _ _ _ hb h=>⟨up_round _ _ _ _ _ hb h.1,up_int _ _ _ _ _ hb h.2⟩
abbrev pI:=fj 8 B8
abbrev DX:=mK 8 B8
theorem up_moves:Up DX:=zU up_move
abbrev bu:=fj 1 DX
abbrev Gr.v(g:Gr):Value:=.agg #[.int .i64 g.n,.int .i64 g.h0,.int .i64 g.h1,.int .i64 g.h2,.int .i64 g.h3,.int .i64 g.h4]
abbrev Rd.v(r:Rd):Value:=.agg #[.int .i64 r.g.n,.int .i64 r.g.h0,.int .i64 r.g.h1,.int .i64 r.g.h2,.int .i64 r.g.h3,.int .i64 r.g.h4,.int .i64 r.f]
abbrev Mv.v(m:Mv):Value:=.agg #[.int .i64 m.r.g.n,.int .i64 m.r.g.h0,.int .i64 m.r.g.h1,.int .i64 m.r.g.h2,.int .i64 m.r.g.h3,.int .i64 m.r.g.h4,.int .i64 m.r.f,.int .i64 m.to]
structure ExtW (w:World) where
 val:World
 ext:Below w.heap.size w val
instance (w:World):Inhabited (ExtW w):=⟨⟨w,Below.refl _ _⟩⟩
theorem aB{P:Program} {id:Nat} {Q:Exit->Act->World->Prop} {a:Act} {w:World} {l:List Oper} (hm:P.follows .mixedOrders=true) (hB:Region.lexB .any l.toArray=true)
  (h:wpQuiet P l.toArray (fun w'=>∃ x:ExtW w,w'=x.val) (fun a'=>∀ w',(∃ x:ExtW w,w'=x.val)->Q .normal a' w') l a):(Code.region id l.toArray true).wp P Q a w:=
 wp_region_quiet (C:=fun w'=>∃ x:ExtW w,w'=x.val) hm hB ⟨⟨w.drew,(Below.refl _ _).drew⟩,rfl⟩ (by simpa using h)
theorem Calls.ext_of{P:Program} {f:FuncId} {args:Array Value} {w:World} {x:ExtW w} {v:Value}
  (h:Calls P f args x.val fun e w'=>e=.returned v/\Below x.val.heap.size x.val w'):Calls P f args x.val fun e w''=>e=.returned v/\∃ p:ExtW w,w''=p.val:=
 h.mono fun _ w'' ⟨he,hb⟩=>⟨he,⟨w'',ae x.ext hb⟩,rfl⟩
theorem ExtW.cell{w:World} (x:ExtW w) {a:Addr} {v:Value} (h:w.cell? a=some v):x.val.cell? a=some v:=ak x.ext h
end Go.Proofs.YtmeaoneaephjeaaGreatDoor
namespace Go.Proofs.YtmeaoneaephjeaaGreatDoor
open Go.RowKit Go Go.Shelf
def am(p:Prop):Prop:=p
theorem am.o{p:Prop} (h:am p):p:=h
theorem am.out{p:Prop} (h:am p):p:=h
theorem aa{p:Prop} (h:p):am p:=h
theorem dy{α:Type} {a b:α} (h:some a=some b):a=b:=Option.some.inj h
theorem fV{a:Value}:∀ c,some a=some c->a=c:=fun _ h=>Option.some.inj h
structure Chg (B:Nat) (A A':World):Prop where
 os:A'.os=A.os
 tape:A'.tape=A.tape
 output:A'.output=A.output
 size:A.heap.size<=A'.heap.size
 same:∀ (k:Nat) (o:Obj),A.heap[k]?=some o->(k<B\/o.isCells=true)->A'.heap[k]?=some o
theorem Chg.of_below{B:Nat} {A A':World} (h:Below A.heap.size A A'):Chg B A A':=⟨h.os,h.tape,h.output,h.size,fun _ _ hk _=>af h hk⟩
theorem Chg.ck{B:Nat} {A A':World} (h:Chg B A A'):CK A A':=fun k o hk ho=>h.same k o hk (.inr ho)
theorem Chg.put{B:Nat} {A:World} {l:Nat} {o:Obj} (o':Obj) (hl:A.heap[l]?=some o) (hB:B<=l) (ho:o.isCells=false):Chg B A (A.putObj l o'):=
 ⟨rfl,rfl,rfl,by simp,fun k x hk hx=>by
  by_cases e:k=l
  ·subst e;rw[hl]at hk;cases hk;rcases hx with hx|hx
   ·omega
   ·rw[ho]at hx;cases hx
  ·exact(World.putObj_heap_other e).trans hk⟩
theorem Chg.below{B n:Nat} {w A A':World} (h:Chg B A A') (hn:n<=B) (hs:n<=A.heap.size) (hb:Below n w A):Below n w A':=
 ⟨h.os.trans hb.os,h.tape.trans hb.tape,h.output.trans hb.output,Nat.le_trans hb.size h.size,fun k hk=>by
  have aC:k<A.heap.size:=by omega
  have h1:A.heap[k]?=some A.heap[k]:=Array.getElem?_eq_getElem aC
  rw[h.same k _ h1 (.inl (by omega)),<-h1];exact hb.block k hk⟩
def cI(B:Nat) (I:World->Prop):Prop:=∀ A A',Chg B A A'->I A->I A'
theorem cI.and{B:Nat} {I J:World->Prop} (h:cI B I) (k:cI B J):cI B (fun W=>I W/\J W):=fun A A' c x=>⟨h A A' c x.1,k A A' c x.2⟩
theorem cI.below{B:Nat} {w:World} (h:w.heap.size<=B):cI B (fun W=>Below w.heap.size w W):=fun _ _ c x=>c.below h x.size x
theorem cI.cells{B b:Nat} {c:Array Value} {t:TypeId} {f:Nat × Nat}:cI B (fun W=>W.heap[b]?=some (.cells c t f)):=fun _ _ c x=>c.same _ _ x (.inr rfl)
theorem cI.pure{B:Nat} {p:Prop}:cI B (fun _=>p):=fun _ _ _ x=>x
structure Bod (B:Nat) (S:Nat->Prop) (W W':World):Prop where
 size:W.heap.size<=W'.heap.size
 keep:∀ k,S k->W'.heap[k]?=W.heap[k]?
 same:∀ (k:Nat) (o:Obj),B<=k->W.heap[k]?=some o->o.isCells=false->W'.heap[k]?=some o
theorem Bod.refl(B:Nat) (S:Nat->Prop) (W:World):Bod B S W W:=⟨Nat.le_refl _,fun _ _=>rfl,fun _ _ _ h _=>h⟩
theorem Bod.trans{B:Nat} {S:Nat->Prop} {X Y Z:World} (h:Bod B S X Y) (k:Bod B S Y Z):Bod B S X Z:=
 ⟨Nat.le_trans h.size k.size,fun i hi=>(k.keep i hi).trans (h.keep i hi),fun i o hB hi ho=>k.same i o hB (h.same i o hB hi ho) ho⟩
theorem Bod.of_below{B:Nat} {S:Nat->Prop} {W W':World} (hS:∀ k,S k->k<W.heap.size) (h:Below W.heap.size W W'):Bod B S W W':=
 ⟨h.size,fun k hk=>h.block k (hS k hk),fun _ _ _ hk _=>af h hk⟩
theorem Bod.setCell{B:Nat} {S:Nat->Prop} (W:World) (p:Addr) (v:Value) (hp:¬ S p.block):Bod B S W (W.setCell p v):=
 ⟨by simp,fun k hk=>Below.heap_setCell _ _ _ _ (fun e=>hp (e ▸ hk)),fun k o _ hk ho=>(KeepsOthers.setCell W p v).same k o hk ho⟩
theorem Bod.put{S:Nat->Prop} (W:World) {l:Nat} (o':Obj) (hS:¬ S l):Bod (l+1) S W (W.putObj l o'):=
 ⟨by simp,fun k hk=>World.putObj_heap_other (fun e=>hS (e ▸ hk)),fun k x hk hx _=>(World.putObj_heap_other (by omega)).trans hx⟩
theorem Bod.mono{B C:Nat} {S:Nat->Prop} {W W':World} (h:Bod B S W W') (hB:B<=C):Bod C S W W':=⟨h.size,h.keep,fun k o hk hx ho=>h.same k o (Nat.le_trans hB hk) hx ho⟩
def sE(P:Program) (g:Nat) (lb:Array Value) (encs:Nat->Array Value) (N:Nat) (S:Nat->Prop) (w:World):Prop:=
 ∀ (l:Nat) (J Jx:Nat->World->Prop) (W:World),Below w.heap.size w W →
  (∀ i A A',J i A->Below A.heap.size A A'->J i A')->(∀ i A A',Jx i A->Below A.heap.size A A'->Jx i A') →
  (∀ i W1,i<N->J i W1->YieldAt Fence.wide 0 P l (encs i) W1 fun e W'=>
   (e=.returned (.bool true)/\J (i+1) W'/\W1.heap.size<=W'.heap.size/\∀ k,S k->W'.heap[k]?=W1.heap[k]?)\/(e=.returned (.bool false)/\Jx (i+1) W')) →
  J 0 W →
  Calls P g (#[.func (.yield l) #[] #[]]++lb) W fun e W'=>(∃ v,e=.returned v)/\(J N W'\/∃ i,i<=N/\Jx i W')
def Mh(B:Nat) (S:Nat->Prop) (I:Nat->World->Prop) (Ix:Code->Nat->World->Prop) (i:Nat) (W:World):Exit->Act->World->Prop
 | .normal,_,W'=>Bod B S W W'/\I i W'
 | .ret,_,W'=>Bod B S W W'/\Ix .ret i W'
 | .exit id,_,W'=>Bod B S W W'/\Ix (.exit id) i W'
 | .goto t,_,W'=>Bod B S W W'/\Ix (.goto t) i W'
 | .panic _,_,_=>False
 | .outgrown,_,_=>False
abbrev io(D:Nat):Deferred:={ target:=.collected D,args:=#[] }
theorem Ho{P:Program} {B:Nat} {S:Nat->Prop} {ps:Array Tmp} {assign body:Code} {tmps:Array Value} {l i:Nat} {I:Nat->World->Prop} {Ix:Code->Nat->World->Prop} {W:World} {args:Array Value} {r:Loop} (R:Ending->World->Prop)
  (ww:B<=l) (oY:¬ S l) (hr:r.params=ps/\r.assign=assign/\r.body=body/\r.tmps=tmps/\r.state=.ready/\r.pending=none) (hl:W.heap[l]?=some (.loop r)) (ze:args.size=ps.size)
  (lI:assign.wpIn (Fence.wide.inRound l) 0 P (Exit.then (fun a1 W1=>Bod B S W W1/\∃ Ax:World->Prop,cI B Ax/\Ax W1/\∀ W2,Ax W2->(∃ r,W2.heap[l]?=some (.loop r))->body.wpIn (Fence.wide.inRound l) 0 P (Mh B S I Ix (i+1) W2) a1 W2) (fun _ _ _=>False))
   { tmps:=(ps.zip args).foldl (fun t (p,v)=>t.setIfInBounds p v) tmps,defers:=[] } W)
  (sd:∀ W3 W4,W.heap.size<=W3.heap.size->Bod (l+1) S W W4->W4.heap[l]?=some (.loop r)->Chg B W3 W4->I (i+1) W3->(∀ k o,B<=k->k≠l->W.heap[k]?=some o->o.isCells=false->W4.heap[k]?=some o)->R (.returned (.bool true)) W4)
  (mn:∀ c W3 W4,W.heap.size<=W3.heap.size->Bod (l+1) S W W4->W4.heap[l]?=some (.loop { r with state:=.done,pending:=some c })->Chg B W3 W4->Ix c (i+1) W3->(∀ k o,B<=k->k≠l->W.heap[k]?=some o->o.isCells=false->W4.heap[k]?=some o)->R (.returned (.bool false)) W4) :
  YieldAt Fence.wide 0 P l args W R:=by
 obtain⟨h1,h2,h3,h4,h5,h6⟩:=hr;refine⟨r.fn,_,r.assign,r.body,run_yield hl (by rw[h1];exact ze),roundIn_of_wpIn trivial ?_⟩;rw[h1,h2,h3,h4];refine wpIn_mono lI ?_;rintro e a1 W1 hp;cases e<;>first|exact hp.elim|skip
 obtain⟨B7,Ax,X0,Yg,NZ⟩:=hp;have iz:W1.heap[l]?=some (.loop r):=B7.same l _ ww hl rfl;have nA:(W1.putObj l (.loop { r with state:=.busy })).heap[l]?=some (.loop { r with state:=.busy }):=World.putObj_heap_same (aD iz);have aT:Bod (l+1) S W (W1.putObj l (.loop { r with state:=.busy })):=(B7.mono (by omega)).trans (Bod.put _ _ oY)
 have mA:∀ k o,B<=k->k≠l->W.heap[k]?=some o->o.isCells=false->(W1.putObj l (.loop { r with state:=.busy })).heap[k]?=some o:=
  fun k o hk bK ho hc=>(World.putObj_heap_other bK).trans (B7.same k o hk ho hc)
 refine⟨_,run_beginRound iz h5,wpIn_mono (NZ _ (X0 _ _ (Chg.put _ iz ww rfl) Yg) ⟨_,nA⟩) ?_⟩;generalize W1.putObj l (.loop { r with state:=.busy })=W2 at nA aT mA;rintro e a3 W3 hp
 have fin:∀ (jump:Option Code),Bod B S W2 W3->(Instr.endRound l jump).run P W3=.ok (.bool jump.isNone) (W3.putObj l (.loop { r with state:=if jump.isNone then .ready else .done,pending:=jump })) ∧
   (W3.putObj l (.loop { r with state:=if jump.isNone then .ready else .done,pending:=jump })).heap[l]?=some (.loop { r with state:=if jump.isNone then .ready else .done,pending:=jump }) ∧
   Chg B W3 (W3.putObj l (.loop { r with state:=if jump.isNone then .ready else .done,pending:=jump }))/\Bod (l+1) S W (W3.putObj l (.loop { r with state:=if jump.isNone then .ready else .done,pending:=jump })) ∧
   (∀ k o,B<=k->k≠l->W.heap[k]?=some o->o.isCells=false->(W3.putObj l (.loop { r with state:=if jump.isNone then .ready else .done,pending:=jump })).heap[k]?=some o):=fun jump bG=>by
  have tJ:=bG.same l _ ww nA rfl
  exact⟨run_endRound (r:={ r with state:=.busy }) jump tJ,World.putObj_heap_same (aD tJ),Chg.put _ tJ ww rfl,(aT.trans (bG.mono (by omega))).trans (Bod.put _ _ oY),
   fun k o hk bK ho hc=>(World.putObj_heap_other bK).trans (bG.same k o hk (mA k o hk bK ho hc) hc)⟩
 cases e with
 | normal=>
  obtain⟨bG,hi⟩:=hp;obtain⟨f1,f2,f3,f4,f5⟩:=fin none bG;refine⟨_,_,f1,sd W3 _ (Nat.le_trans aT.size bG.size) f4 ?_ f3 hi f5⟩;rw[f2];cases r;simp_all
 | ret=>
  obtain⟨bG,hi⟩:=hp;obtain⟨f1,f2,f3,f4,f5⟩:=fin (some .ret) bG;exact⟨_,_,f1,mn .ret W3 _ (Nat.le_trans aT.size bG.size) f4 f2 f3 hi f5⟩
 | exit id=>
  obtain⟨bG,hi⟩:=hp;obtain⟨f1,f2,f3,f4,f5⟩:=fin (some (.exit id)) bG;exact⟨_,_,f1,mn (.exit id) W3 _ (Nat.le_trans aT.size bG.size) f4 f2 f3 hi f5⟩
 | goto t=>
  obtain⟨bG,hi⟩:=hp;obtain⟨f1,f2,f3,f4,f5⟩:=fin (some (.goto t)) bG;exact⟨_,_,f1,mn (.goto t) W3 _ (Nat.le_trans aT.size bG.size) f4 f2 f3 hi f5⟩
 | panic ch=>exact hp.elim
 | outgrown=>exact hp.elim
theorem mL{P:Program} {g:Operand} {ps:Array Tmp} {assign body:Code} {Q:Exit->Act->World->Prop} {a:Act} {w:World}
  {gf:Nat} {lb:Array Value} (hg:a.eval g=.func (.func gf) #[] lb) (eg:∀ args w,(callFunc gf args).run P w=.ok (.enter gf args) w)
  {encs:Nat->Array Value} {N:Nat} {S:Nat->Prop} {w0:World} (dg:sE P gf lb encs N S w0) (aG:Below w0.heap.size w0 w) (hS:∀ k,S k->k<w.heap.size) (ze:∀ i,(encs i).size=ps.size)
  (I:Nat->World->Prop) (Ix:Code->Nat->World->Prop) (hI:∀ i,cI w.heap.size (I i)) (tV:∀ c i,cI w.heap.size (Ix c i)) (h0:I 0 w)
  (lI:∀ l i W,i<N->w.heap.size<=l->I i W →
   assign.wpIn (Fence.wide.inRound l) 0 P (Exit.then (fun a1 W1=>Bod w.heap.size S W W1/\∃ Ax:World->Prop,cI w.heap.size Ax/\Ax W1/\∀ W2,Ax W2->(∃ r,W2.heap[l]?=some (.loop r))->body.wpIn (Fence.wide.inRound l) 0 P (Mh w.heap.size S I Ix (i+1) W2) a1 W2) (fun _ _ _=>False))
    { tmps:=(ps.zip (encs i)).foldl (fun t (p,v)=>t.setIfInBounds p v) a.tmps,defers:=[] } W)
  (xo:∀ D W,w.heap.size<=D->I N W->W.heap[D]?=some (.deferred (some []))->Q .normal { a with defers:=io D :: a.defers } W)
  (xh:∀ D c i W,w.heap.size<=D->i<=N->Ix c i W->W.heap[D]?=some (.deferred (some []))->c.wp P Q { a with defers:=io D :: a.defers } W) :
  (Code.rangeFunc g ps assign body).wp P Q a w:=by
 refine(wpIn_wide (n:=0)).1 (wpIn_rangeFunc ?_);intro fn _;obtain⟨rec,kJ⟩:∃ rec:Loop,rec={ state:=.ready,pending:=none,fn,tmps:=a.tmps,params:=ps,assign,body,defers:=w.heap.size }:=⟨_,rfl⟩;obtain⟨W1,cM⟩:∃ W1,(w.alloc (.deferred (some []))).alloc (.loop rec)=W1:=⟨_,rfl⟩
 have JZ:W1.heap[w.heap.size+1]?=some (.loop rec):=by
  rw[<-cM];have:=ap (w.alloc (.deferred (some []))) (.loop rec);rwa [World.size_alloc]at this
 have J2:W1.heap[w.heap.size]?=some (.deferred (some [])):=by rw[<-cM];exact ar _ (ap w _)
 have sv:Below w.heap.size w W1:=by rw[<-cM];exact((Below.refl _ w).alloc (Nat.le_refl _) _).alloc (by simp) _
 have QA:¬ S (w.heap.size+1):=fun h=>by have:=hS _ h;omega
 refine⟨w.heap.size+1,[io w.heap.size],W1,{ target:=.fn (.func gf) lb,args:=#[.func (.yield (w.heap.size+1)) #[] #[]] },W1,gf,
  #[.func (.yield (w.heap.size+1)) #[] #[]]++lb,W1,?_,?_,fun _ _=>trivial,?_,fun h=>(by simp[Fence.wide]at h),?_⟩
 ·rw[<-cM,kJ];exact run_enterLoop_outer _ _ _ _ _
 ·simp only[resolve,hg];simp[go_sem]
 ·simp[invoke,go_sem,eg]
 ·refine(callsIn_wide (n:=0 - 1)).2 ?_
  refine(dg (w.heap.size+1)
   (fun i W=>I i W/\W.heap[w.heap.size+1]?=some (.loop rec)/\W.heap[w.heap.size]?=some (.deferred (some [])))
   (fun i W=>∃ c,Ix c i W/\W.heap[w.heap.size+1]?=some (.loop { rec with state:=.done,pending:=some c })/\W.heap[w.heap.size]?=some (.deferred (some [])))
   W1 (ae aG sv)
   (fun i A A' h hb=>⟨hI i A A' (.of_below hb) h.1,af hb h.2.1,af hb h.2.2⟩)
   (fun i A A' h hb=>by obtain⟨c,h1,h2,h3⟩:=h;exact⟨c,tV c i A A' (.of_below hb) h1,af hb h2,af hb h3⟩)
   ?_ ⟨hI 0 _ _ (.of_below sv) h0,JZ,J2⟩).mono ?_
  ·rintro i W hi ⟨Jv,hl,hk⟩;refine Ho (B:=w.heap.size) (S:=S) (ps:=ps) (assign:=assign) (body:=body) (tmps:=a.tmps) (i:=i) (I:=I) (Ix:=Ix) _ (by omega) QA (by rw[kJ];simp) hl (ze i) (lI _ i W hi (by omega) Jv) ?_ ?_
   ·intro W3 W4 _ bS oV hc sf l4;exact .inl ⟨rfl,⟨hI _ _ _ hc sf,oV,l4 _ _ (Nat.le_refl _) (by omega) hk rfl⟩,bS.size,bS.keep⟩
   ·intro c W3 W4 _ _ oV hc sf l4;exact .inr ⟨rfl,c,tV _ _ _ _ hc sf,oV,l4 _ _ (Nat.le_refl _) (by omega) hk rfl⟩
  ·rintro e W2 ⟨⟨v,rfl⟩,(⟨hi,hl,hk⟩|⟨i,cZ,c,hi,hl,hk⟩)⟩
   ·exact⟨none,_,by have:=run_endLoop (P:=P) hl (by rw[kJ];simp);rw[this,kJ],xo _ _ (Nat.le_refl _) (hI _ _ _ (Chg.put _ hl (by omega) rfl) hi) ((World.putObj_heap_other (by omega)).trans hk)⟩
   ·exact⟨some c,_,by have:=run_endLoop (P:=P) hl (by simp);rw[this],wpIn_wide.2 (xh _ c i _ (Nat.le_refl _) cZ (tV _ _ _ _ (Chg.put _ hl (by omega) rfl) hi) ((World.putObj_heap_other (by omega)).trans hk))⟩
theorem gi{P:Program} {f:FuncId} {fn:Func} {c:Code} {args:Array Value} {w:World} {R:Ending->World->Prop}
  (hf:P.funcs[f]?=some fn) (hb:fn.body=some c)
  (h:c.wp P (bodyPostM Fence.wide 0 P fn R) { tmps:=args++Array.replicate (fn.ntmps - args.size) undef,defers:=[] } w):Calls P f args w R:=
 callsIn_wide.1 (callsIn_of_wp_marks hf hb trivial (wpIn_wide.2 h))
theorem iK{P:Program} {fn:Func} {R:Ending->World->Prop} {tmps:Array Value} {D:Nat} {W:World} {v:Value} (hK:W.heap[D]?=some (.deferred (some [])))
  (hv:(results fn tmps).run P (W.putObj D (.deferred none))=.ok v (W.putObj D (.deferred none))) (h:R (.returned v) (W.putObj D (.deferred none))) :
  bodyPostM Fence.wide 0 P fn R .ret { tmps:=tmps,defers:=[io D] } W:=
 ⟨by simp,.inl ⟨_,_,rfl,run_takeDeferred hK,⟨v,hv,h⟩⟩⟩
theorem Oo{P:Program} {fn:Func} {R:Ending->World->Prop} {tmps:Array Value} {D:Nat} {W:World} {v:Value} (hK:W.heap[D]?=some (.deferred (some [])))
  (hv:(results fn tmps).run P (W.putObj D (.deferred none))=.ok v (W.putObj D (.deferred none))) (h:R (.returned v) (W.putObj D (.deferred none))) :
  bodyPostM Fence.wide 0 P fn R .normal { tmps:=tmps,defers:=[io D] } W:=
 ⟨by simp,.inl ⟨_,_,rfl,run_takeDeferred hK,⟨v,hv,h⟩⟩⟩
theorem iA{P:Program} {fn:Func} {R:Ending->World->Prop} {tmps:Array Value} {W:World} {v:Value}
  (hv:(results fn tmps).run P W=.ok v W) (h:R (.returned v) W):bodyPostM Fence.wide 0 P fn R .ret { tmps:=tmps,defers:=[] } W:=⟨v,hv,h⟩
theorem eY{n:Nat} {w W:World} {D:Nat} {o:Obj} (hn:n<=D) (h:Below n w W):Below n w (W.putObj D o):=
 ⟨h.os,h.tape,h.output,by simpa using h.size,fun k hk=>(World.putObj_heap_other (by omega)).trans (h.block k hk)⟩
theorem xr{l n:Nat} {P:Program} {f:FuncId} {args:Array Value} {w:World} {R:Ending->World->Prop} (h:Calls P f args w R):CallsIn (Fence.wide.inRound l) n P f args w R:=(callsIn_wide (n:=n)).2 h
theorem xx{l l' n:Nat} {P:Program} {f:FuncId} {tmps:Array Value} {assign body:Code} {w:World} {R:Ending->World->Prop} (h:RoundIn Fence.wide n P l f tmps assign body w R):RoundIn (Fence.wide.inRound l') n P l f tmps assign body w R:=h
def pJ(ops:Array Oper):Bool:=ops.all fun o=>match o.op with|.defer _=>false|_=>true
theorem Hp{ops:Array Oper} (h:pJ ops=true) {i:Nat} {o:Oper} (ho:ops[i]?=some o):∀ c,o.op≠.defer c:=by
 intro c hc;have h1:=Array.all_eq_true'.1 h o (Array.mem_of_getElem? ho);rw[hc]at h1;cases h1
theorem Oq{P:Program} {yl n:Nat} {o:Oper} {a:Act} {w:World} {K K':Act->World->Prop} {Q:Exit->Act->World->Prop} (hd:∀ c,o.op≠.defer c) (_hQ:¬ LetsOut Q) (hK:∀ a w,K a w->K' a w)
  (h:o.wp P a w K Q):o.wpIn (Fence.wide.inRound yl) n P a w K' Q:=by
 refine⟨fun _ _=>trivial,?_⟩;rw[Oper.semAt_eq _ _ _ hd];unfold Oper.wp at h;generalize (execOp a.eval o).run P w=r at h;cases r with
 | ok x w'=>
  cases x with
  | value v=>exact hK _ _ h
  | skip=>exact hK _ _ h
  | defer d=>exact hK _ _ h
  | enter f args=>
   refine⟨fun h'=>(by simp[Fence.wide,Fence.inRound]at h'),CallsIn.inRound yl ((callsIn_wide (n:=n - 1)).2 ?_)⟩;refine Calls.mono h ?_;rintro e w'' he;cases e with
   | returned v=>exact hK _ _ he
   | panicked ch=>exact he
   | outgrown=>exact he
  | row r args=>
   refine⟨fun h'=>(by simp[Fence.wide,Fence.inRound]at h'),fun c cs _=>?_⟩;obtain⟨v,w'',hv,hs⟩:=h c cs;exact⟨v,w'',hK _ _ hv,stepsIn_wide.2 hs⟩
  | _=>exact h.elim
 | halt x w'=>
  cases x with
  | panic v=>exact h
  | _=>exact h.elim
theorem mM{P:Program} {yl n:Nat} {ops:Array Oper} {md:Region.Mode} {Q:Exit->Act->World->Prop} (hd:pJ ops=true) (hQ:¬ LetsOut Q) :
  ∀ (fuel:Nat) (listed:Array Bool) (a:Act) (w:World),wpAny P md ops Q fuel listed a w->wpAnyIn (Fence.wide.inRound yl) n P md ops Q fuel listed a w
 | 0,_,_,_,h=>h
 | fuel+1,listed,a,w,h=>⟨h.1,fun i hi=>by
  have h2:=h.2 i hi;unfold wpOp at h2;unfold wpOpIn;cases ho:ops[i]? with
  | none=>rw[ho]at h2;exact mM hd hQ fuel _ _ _ h2
  | some o=>
   rw[ho]at h2;dsimp only at h2 ⊢;split
   ·rename_i hw;rw[if_pos hw]at h2;rcases h2 with h2|h2
    ·exact Oq (Hp hd ho) hQ (fun a w h=>mM hd hQ fuel _ a w h) h2
    ·exact absurd h2.2 hQ
   ·rename_i hw;rw[if_neg hw]at h2
    exact⟨fun _ _=>trivial,mM hd hQ fuel _ _ _ h2⟩⟩
theorem qm{P:Program} {yl n:Nat} {id:Nat} {Q:Exit->Act->World->Prop} {a:Act} {w:World} {l:List Oper} (hQ:¬ LetsOut Q) (hm:P.follows .mixedOrders=true) (hB:Region.lexB .any l.toArray=true) (hd:pJ l.toArray=true)
  (h:wpQuiet P l.toArray (fun w'=>∃ x:ExtW w,w'=x.val) (fun a'=>∀ w',(∃ x:ExtW w,w'=x.val)->Q .normal a' w') l a):(Code.region id l.toArray true).wpIn (Fence.wide.inRound yl) n P Q a w:=by
 simp only[Region.lexB,Bool.and_eq_true]at hB;refine wpIn_region_any hm (mM hd hQ _ _ _ _ (wpAny_of_quiet (C:=fun w'=>∃ x:ExtW w,w'=x.val) (Q:=fun a'=>∀ w',(∃ x:ExtW w,w'=x.val)->Q .normal a' w') (fun _ w' eJ h=>h w' eJ) _ _ _ _ ⟨⟨w.drew,(Below.refl _ _).drew⟩,rfl⟩ ?_));have:=wpAnyQ_lex (C:=fun w'=>∃ x:ExtW w,w'=x.val) (md:=.any) hB.1 l 0 (Array.replicate l.toArray.size false) a (by simp) (by simpa using hB.2) h;simpa using this
theorem Ak{P:Program} {yl m:Nat} {id:Nat} {Q:Exit->Act->World->Prop} {a:Act} {w:World} {l:List Oper} (n:Nat) (hQ:¬ LetsOut Q) (hm:P.follows .mixedOrders=true) (hB:Region.lexTailB .any l.toArray n=true) (hd:pJ l.toArray=true)
  (h:wpStill P l.toArray w.drew (fun a'=>wpList P l.toArray Q (l.drop n) a' w.drew) (l.take n) a):(Code.region id l.toArray true).wpIn (Fence.wide.inRound yl) m P Q a w:=by
 simp only[Region.lexTailB,Bool.and_eq_true,decide_eq_true_eq]at hB;obtain⟨⟨⟨⟨hsel,hn⟩,hs⟩,hc⟩,hlex⟩:=hB;have zz:n<l.length:=by simpa using hn
 have L':(l.take n).length=n:=by simp;omega
 have hdl:(l.drop n).length=l.toArray.size - n:=by simp
 have inv0:HeadInv .any l.toArray n (Array.replicate l.toArray.size false):=
  ⟨by simp,fun j oj _ hl=>(by rw[getD_replicate_false]at hl;cases hl),fun t _ ht=>getD_in (by simpa using ht) (getD_replicate_false _ _)⟩
 have H:=wpAnyL_lex (md:=.any) (g:=l.toArray.size - n) hsel hs hc hn (l.take n) 0 _ a (fun j hj=>by
  have nD:j<n:=by rw[L']at hj;exact hj
  simp[nD]) (by simpa using L') inv0 (by rw[L'];exact hlex) h
 refine wpIn_region_any hm (mM hd hQ _ _ _ _ ?_)
 have:=wpAny_of_head (Q':=Q) (g:=l.toArray.size - n) (fun listed a' hL=>by
  have:=wpAny_of_seq (md:=.any) (Q':=Q) (l.drop n) n listed a' w.drew (fun j=>by simp[List.getElem?_drop]) (by rw[hdl];exact hL.1) hL.2
  rwa [hdl]at this) _ _ _ H
 rw[L',show n+(l.toArray.size - n)=l.toArray.size by omega]at this;exact this
theorem lu{P:Program} {yl m:Nat} {id:Nat} {Q:Exit->Act->World->Prop} {a:Act} {w:World} {l:List Oper} (n:Nat) (hQ:¬ LetsOut Q) (hm:P.follows .mixedOrders=true) (hB:Region.lexTailB .any l.toArray n=true) (hd:pJ l.toArray=true)
  (h:∀ (ops:Array Oper) (Lq:Act->Prop),ops=l.toArray->(∀ a',wpList P l.toArray Q (l.drop n) a' w.drew->Lq a')->wpStill P ops w.drew Lq (l.take n) a):(Code.region id l.toArray true).wpIn (Fence.wide.inRound yl) m P Q a w:=
 Ak n hQ hm hB hd (h _ _ rfl (fun _ h=>h))
def bJ(D:Nat->Bool) (i:Nat):Nat->Bool:=fun j=>if j=i then true else D j
theorem yg(D:Nat->Bool) (i:Nat) (hi:D i=false) (l:List Nat):l.countP (fun j=>!bJ D i j)+(if i∈l then 1 else 0)<=l.countP (fun j=>!D j):=by
 induction l with
 | nil=>simp
 | cons x t ih=>
  rw[List.countP_cons,List.countP_cons];by_cases hx:x=i
  ·subst hx;have h1:(!bJ D x x)=false:=by simp[bJ]
   have h2:(!D x)=true:=by simp[hi]
   rw[h1,h2];simp only[List.mem_cons,true_or,if_true]
   have:t.countP (fun j=>!bJ D x j)<=t.countP (fun j=>!D j):=by
    refine Nat.le_trans ?_ ih;omega
   simp;omega
  ·have h1:(!bJ D i x)=!D x:=by simp[bJ,hx]
   rw[h1]
   have hm:(if i∈x :: t then 1 else 0)=(if i∈t then 1 else 0):=by
    have:i∈x :: t↔i∈t:=by simp[Ne.symm hx]
    simp only[this]
   rw[hm];omega
def wA(ops:Array Oper) (n:Nat):Bool:=
 (List.range (n+1)).all (fun i=>match ops[i]? with|some o=>o.after.all fun e=>decide (e.on<i)|none=>false) &&
 (List.range n).all (fun j=>match ops[n]? with|some o=>o.after.any fun e=>Region.binds .any e&&decide (e.on=j)|none=>false)
theorem B'{ops:Array Oper} {n:Nat} (h:wA ops n=true) {i:Nat} {o:Oper} (hi:i<n+1) (ho:ops[i]?=some o):∀ e∈o.after,e.on<i:=by
 simp only[wA,Bool.and_eq_true,List.all_eq_true]at h;have:=h.1 i (List.mem_range.2 hi);rw[ho]at this;intro e he;have:=Array.all_eq_true'.1 this e he;simpa using this
theorem Mi{ops:Array Oper} {n:Nat} (h:wA ops n=true) {o:Oper} (ho:ops[n]?=some o) {j:Nat} (hj:j<n):∃ e∈o.after,Region.binds .any e=true/\e.on=j:=by
 simp only[wA,Bool.and_eq_true,List.all_eq_true]at h;have:=h.2 j (List.mem_range.2 hj);rw[ho]at this;obtain⟨e,he,h2⟩:=Array.any_eq_true'.1 this;simp at h2;exact⟨e,he,h2.1,h2.2⟩
theorem eH{P:Program} {ops:Array Oper} {Q:Exit->Act->World->Prop} {i:Nat} {K K':Act->World->Prop} {a:Act} {w:World} (h:∀ a w,K a w->K' a w) (hh:wpOp P ops Q i K a w):wpOp P ops Q i K' a w:=by
 unfold wpOp at hh ⊢;split at hh
 ·exact h _ _ hh
 ·split at hh
  ·rename_i hw;rw[if_pos hw];rcases hh with hh|hh
   ·exact .inl (Oper.wp_mono h hh)
   ·exact .inr hh
  ·rename_i hw;rw[if_neg hw];exact h _ _ hh
theorem Mj{P:Program} {ops:Array Oper} {Q:Exit->Act->World->Prop} {n:Nat} (hn:ops.size=n+1) (hB:wA ops n=true) (Inv:(Nat->Bool)->Act->World->Prop)
  (dJ:∀ D a w i o,i<n->ops[i]?=some o->D i=false->(∀ e∈o.after,Region.binds .any e=true->D e.on=true)->Inv D a w->wpOp P ops Q i (fun a' w'=>Inv (bJ D i) a' w') a w)
  (gQ:∀ D a w,(∀ j,j<n->D j=true)->Inv D a w->wpOp P ops Q n (fun a' w'=>Q .normal a' w') a w) :
  ∀ (fuel:Nat) (L:Array Bool) (a:Act) (w:World),L.size=n+1->(List.range (n+1)).countP (fun j=>!L.getD j false)<=fuel →
   ((L.getD n true=false/\Inv (fun j=>L.getD j false) a w)\/((∀ j,j<n+1->L.getD j false=true)/\Q .normal a w))->wpAny P .any ops Q fuel L a w:=by
 intro fuel;induction fuel with
 | zero=>
  rintro L a w hL hc (⟨h1,_⟩|⟨h1,h2⟩)
  ·have h3:(List.range (n+1)).countP (fun j=>!L.getD j false)=0:=by omega
   rw[List.countP_eq_zero]at h3;have:=h3 n (List.mem_range.2 (by omega));rw[show L.getD n false=L.getD n true by simp[Array.getD,hL]]at this;rw[h1]at this;simp at this
  ·refine⟨?_,h2⟩;refine List.eq_nil_iff_forall_not_mem.2 fun j hj=>?_
   obtain⟨xH,o,ho,_⟩:=mem_ready.1 hj;have vX:j<n+1:=by have:=(Array.getElem?_eq_some_iff.1 ho).1;omega
   have:=h1 j vX;rw[show L.getD j false=L.getD j true by simp[Array.getD,hL,vX]]at this;rw[xH]at this;cases this
 | succ fuel ih=>
  rintro L a w hL hc (⟨h1,h2⟩|⟨h1,h2⟩)
  ·have hDn:L.getD n false=false:=by rw[show L.getD n false=L.getD n true by simp[Array.getD,hL]];exact h1
   refine⟨fun hr=>?_,fun i hi=>?_⟩
   ·exfalso
    have key:∀ j,j<n+1->L.getD j false=true:=by
     intro j;induction j using Nat.strongRecOn with
     | ind j ihj=>
      intro hj;cases hv:L.getD j false with
      | true=>rfl
      | false=>
       exfalso;obtain⟨o,ho⟩:∃ o,ops[j]?=some o:=⟨ops[j]'(by omega),Array.getElem?_eq_getElem _⟩
       have:j∈Region.ready .any ops L:=mem_ready.2 ⟨by rw[show L.getD j true=L.getD j false by simp[Array.getD,hL,hj]];exact hv,o,ho,fun e he _=>by
        have:=B' hB hj ho e he
        exact ihj e.on this (by omega)⟩
       rw[hr]at this;cases this
    have:=key n (by omega);rw[hDn]at this;cases this
   ·obtain⟨pC,o,ho,aq⟩:=mem_ready.1 hi;have cZ:i<n+1:=by have:=(Array.getElem?_eq_some_iff.1 ho).1;omega
    have Gh:L.getD i false=false:=by rw[show L.getD i false=L.getD i true by simp[Array.getD,hL,cZ]];exact pC
    have uR:(fun j=>(L.setIfInBounds i true).getD j false)=bJ (fun j=>L.getD j false) i:=by
     funext j
     unfold bJ;by_cases pD:j=i
     ·subst pD;simp[Array.getD,hL,cZ]
     ·rw[if_neg pD];simp only[Array.getD,Array.size_setIfInBounds];split
      ·exact Array.getElem_setIfInBounds_ne _ (Ne.symm pD)
      ·rfl
    have lE:(List.range (n+1)).countP (fun j=>!(L.setIfInBounds i true).getD j false)<=fuel:=by
     have h3:=yg (fun j=>L.getD j false) i Gh (List.range (n+1));rw[if_pos (List.mem_range.2 cZ)]at h3
     have h4:(fun j=>!(L.setIfInBounds i true).getD j false)=fun j=>!bJ (fun j=>L.getD j false) i j:=by
      funext j;rw[<-uR]
     rw[h4];omega
    by_cases aC:i<n
    ·refine eH (fun a' w' h=>ih (L.setIfInBounds i true) a' w' (by simpa using hL) lE (.inl ⟨?_,by rw[uR];exact h⟩)) (dJ (fun j=>L.getD j false) a w i o aC ho Gh aq h2);have h5:=congrFun uR n;unfold bJ at h5;rw[if_neg (by omega)]at h5;dsimp only at h5;rw[hDn]at h5;rw[show (L.setIfInBounds i true).getD n true=(L.setIfInBounds i true).getD n false by simp[Array.getD,hL]];exact h5
    ·obtain rfl:i=n:=by omega
     have aU:∀ j,j<i->L.getD j false=true:=fun j hj=>by
      obtain⟨e,he,hb,rfl⟩:=Mi hB ho hj;exact aq e he hb
     refine eH (fun a' w' h=>ih (L.setIfInBounds i true) a' w' (by simpa using hL) lE (.inr ⟨fun j hj=>?_,h⟩)) (gQ (fun j=>L.getD j false) a w aU h2);have:=congrFun uR j;rw[this];unfold bJ;by_cases pD:j=i
     ·simp[pD]
     ·rw[if_neg pD];exact aU j (by omega)
  ·have hr:Region.ready .any ops L=[]:=by
    refine List.eq_nil_iff_forall_not_mem.2 fun j hj=>?_
    obtain⟨xH,o,ho,_⟩:=mem_ready.1 hj;have vX:j<n+1:=by have:=(Array.getElem?_eq_some_iff.1 ho).1;omega
    have:=h1 j vX;rw[show L.getD j false=L.getD j true by simp[Array.getD,hL,vX]]at this;rw[xH]at this;cases this
   exact⟨fun _=>h2,fun i hi=>by rw[hr]at hi;cases hi⟩
theorem DY{P:Program} {id:Nat} {l:List Oper} {Q:Exit->Act->World->Prop} {a:Act} {w:World} (n:Nat) (hm:P.follows .mixedOrders=true) (hn:l.toArray.size=n+1) (hB:wA l.toArray n=true) (Inv:(Nat->Bool)->Act->World->Prop)
  (h0:Inv (fun _=>false) a w.drew)
  (dJ:∀ D a w i o,i<n->l.toArray[i]?=some o->D i=false->(∀ e∈o.after,Region.binds .any e=true->D e.on=true)->Inv D a w->wpOp P l.toArray Q i (fun a' w'=>Inv (bJ D i) a' w') a w)
  (gQ:∀ D a w,(∀ j,j<n->D j=true)->Inv D a w->wpOp P l.toArray Q n (fun a' w'=>Q .normal a' w') a w):(Code.region id l.toArray true).wp P Q a w:=by
 refine wp_region_any hm ?_;refine Mj hn hB Inv dJ gQ _ _ _ _ (by rw[Array.size_replicate,hn]) ?_ (.inl ⟨?_,?_⟩)
 ·rw[hn];exact Nat.le_trans List.countP_le_length (by simp)
 ·simp[Array.getD,hn]
 ·have:(fun j=>(Array.replicate l.toArray.size false).getD j false)=fun _=>false:=by
   funext j
   simp only[Array.getD];split<;>simp
  rw[this];exact h0
theorem Or{P:Program} {o:Oper} {a:Act} {K next:Act->World->Prop} {Q:Exit->Act->World->Prop} {r:Result Next} (h:o.upon P a next (Exit.then K Q) r):o.upon P a next Q r:=by
 cases r with
 | ok x w'=>
  cases x with
  | enter f args=>
   refine Calls.mono h ?_;rintro e w'' he;cases e with
   | returned v=>exact he
   | panicked ch=>exact he
   | outgrown=>exact he
  | _=>exact h
 | halt x w'=>cases x<;>exact h
theorem jM{P:Program} {ops:Array Oper} {Q:Exit->Act->World->Prop} {i:Nat} {o:Oper} {K:Act->World->Prop} {a:Act} {w:World} (ho:ops[i]?=some o)
  (h:wpList P ops (Exit.then K Q) [o] a w):wpOp P ops Q i K a w:=by
 unfold wpOp;rw[ho];unfold wpList at h;dsimp only;split at h
 ·rename_i hw;rw[if_pos hw];rcases h with h|⟨h1,h2⟩
  ·exact .inl (Or h)
  ·exact .inr ⟨h1,h2⟩
 ·rename_i hw;rw[if_neg hw];exact h
structure MP where
 p:Value->World->Prop
 up:∀ v W W',p v W->Below W.heap.size W W'->p v W'
def MP.any:MP:=⟨fun _ _=>True,fun _ _ _ _ _=>trivial⟩
def MP.eq(c:Value):MP:=⟨fun v _=>v=c,fun _ _ _ h _=>h⟩
def cG(x:Nat->Value) (i:Nat) (v:Value):Nat->Value:=fun j=>if j=i then v else x j
theorem fF(x:Nat->Value) (i:Nat) (v:Value):cG x i v i=v:=by simp[cG]
theorem fW(x:Nat->Value) {i j:Nat} (v:Value) (h:j≠i):cG x i v j=x j:=by simp[cG,h]
def cW(x:Nat->Value):List Nat->Nat->Array Value->Array Value
 | [],_,T=>T
 | s :: r,j,T=>cW x r (j+1) (T.setIfInBounds s (x j))
def bA(T:Array Value) (S:List Nat) (x:Nat->Value):Array Value:=cW x S 0 T
theorem l5(x:Nat->Value) (S:List Nat):∀ (j:Nat) (T:Array Value) (k:Nat),k∉S->(cW x S j T)[k]?=T[k]?:=by
 induction S with
 | nil=>intro j T k _;rfl
 | cons s r ih=>
  intro j T k hk;simp at hk;unfold cW;rw[ih _ _ _ hk.2,Array.getElem?_setIfInBounds_ne (Ne.symm hk.1)]
theorem iW(x:Nat->Value) (S:List Nat):∀ (j:Nat) (T:Array Value),(cW x S j T).size=T.size:=by
 induction S with
 | nil=>intro j T;rfl
 | cons s r ih=>intro j T;unfold cW;rw[ih];simp
theorem nL(x:Nat->Value) (S:List Nat) (hS:S.Nodup):∀ (j:Nat) (T:Array Value) (i s:Nat),S[i]?=some s->s<T.size->(cW x S j T)[s]?=some (x (j+i)):=by
 induction S with
 | nil=>intro j T i s h;simp at h
 | cons s0 r ih=>
  intro j T i s h hs;rw[List.nodup_cons]at hS;unfold cW;cases i with
  | zero=>
   simp at h;subst h;rw[l5 _ _ _ _ _ hS.1,Array.getElem?_setIfInBounds_self_of_lt (by exact hs)];simp
  | succ i=>
   simp at h;rw[ih hS.2 (j+1) _ i s h (by simpa using hs)];congr 2;omega
theorem iB(T:Array Value) (S:List Nat) (hS:S.Nodup) (x:Nat->Value) (i s:Nat) (v:Value) (hi:S[i]?=some s):bA T S (cG x i v)=(bA T S x).setIfInBounds s v:=by
 unfold bA;apply Array.ext_getElem?;intro k;by_cases zm:k=s
 ·subst zm;by_cases aC:k<T.size
  ·rw[nL _ _ hS _ _ _ _ hi aC,Array.getElem?_setIfInBounds_self_of_lt (by rw[iW];exact aC)];simp[cG]
  ·rw[Array.getElem?_eq_none (by rw[iW];omega),Array.getElem?_eq_none (by rw[Array.size_setIfInBounds,iW];omega)]
 ·rw[Array.getElem?_setIfInBounds_ne (Ne.symm zm)];by_cases hm:k∈S
  ·obtain⟨i',nC⟩:=List.mem_iff_getElem?.1 hm;by_cases aC:k<T.size
   ·rw[nL _ _ hS _ _ _ _ nC aC,nL _ _ hS _ _ _ _ nC aC];have:i'≠i:=fun e=>by subst e;rw[hi]at nC;exact zm (dy nC).symm
    simp[cG,this]
   ·rw[Array.getElem?_eq_none (by rw[iW];omega),Array.getElem?_eq_none (by rw[iW];omega)]
  ·rw[l5 _ _ _ _ _ hm,l5 _ _ _ _ _ hm]
theorem iL(T:Array Value) (S:List Nat) (hS:S.Nodup) (x:Nat->Value) (hx:∀ i s,S[i]?=some s->s<T.size->x i=T[s]!):bA T S x=T:=by
 unfold bA;apply Array.ext_getElem?;intro k;by_cases hm:k∈S
 ·obtain⟨i,hi⟩:=List.mem_iff_getElem?.1 hm;by_cases aC:k<T.size
  ·rw[nL _ _ hS _ _ _ _ hi aC,Nat.zero_add,hx i k hi aC];simp[aC]
  ·rw[Array.getElem?_eq_none (by rw[iW];omega),Array.getElem?_eq_none (by omega)]
 ·rw[l5 _ _ _ _ _ hm]
def bh(F:Array Value) (d:List Deferred) (r:MP) (s:Nat) (W:World) (a':Act) (W':World):Prop:=
 ∃ v,a'={ tmps:=F.setIfInBounds s v,defers:=d }/\Below W.heap.size W W'/\r.p v W'
theorem bh.mk{F:Array Value} {d:List Deferred} {r:MP} {s:Nat} {W:World} {a':Act} {W':World} (v:Value) (hb:Below W.heap.size W W') (hr:r.p v W') (ha:a'={ tmps:=F.setIfInBounds s v,defers:=d }):bh F d r s W a' W':=⟨v,ha,hb,hr⟩
theorem Vc{P:Program} {id:Nat} {l:List Oper} {Q:Exit->Act->World->Prop} {T:Array Value} {d:List Deferred} {w:World} (n:Nat) (S:List Nat) (Rs:List MP) (hm:P.follows .mixedOrders=true) (hn:l.toArray.size=n+1) (hS:S.Nodup) (oY:S.length=n) (hB:wA l.toArray n=true)
  (dJ:∀ x W i o s F,i<n->l.toArray[i]?=some o->S[i]?=some s->Below w.heap.size w W->(∀ e∈o.after,Region.binds .any e=true->(Rs.getD e.on MP.any).p (x e.on) W)->F=bA T S x →
   wpList P l.toArray (Exit.then (bh F d (Rs.getD i MP.any) s W) Q) [o] { tmps:=F,defers:=d } W)
  (Ag:∀ x W o F,l.toArray[n]?=some o->Below w.heap.size w W->(∀ j,j<n->(Rs.getD j MP.any).p (x j) W)->F=bA T S x->wpList P l.toArray Q [o] { tmps:=F,defers:=d } W) :
  (Code.region id l.toArray true).wp P Q { tmps:=T,defers:=d } w:=by
 refine DY n hm hn hB (fun D a W=>∃ x,a={ tmps:=bA T S x,defers:=d }/\Below w.heap.size w W/\∀ j,j<n->D j=true->(Rs.getD j MP.any).p (x j) W) ?_ ?_ ?_
 ·refine⟨fun i=>T[S.getD i 0]!,?_,(Below.refl _ _).drew,fun j _ h=>by cases h⟩;rw[iL T S hS];intro i s hi hs;rw[List.getD_eq_getElem?_getD,hi];rfl
 ·rintro D a W i o hi ho hD aq ⟨x,rfl,hb,hx⟩;obtain⟨s,hs⟩:∃ s,S[i]?=some s:=⟨S[i],List.getElem?_eq_getElem (by omega)⟩;refine eH ?_ (jM ho (dJ x W i o s _ hi ho hs hb (fun e he kT=>hx e.on (by have:=B' hB (by omega) ho e he;omega) (aq e he kT)) rfl));rintro a' W' ⟨v,rfl,fS,hr⟩;refine⟨cG x i v,by rw[iB T S hS x i s v hs],ae hb fS,fun j hj hDj=>?_⟩;by_cases e:j=i
  ·subst e;rw[fF];exact hr
  ·rw[fW _ _ e];refine(Rs.getD j MP.any).up _ _ _ (hx j hj ?_) fS;simpa[bJ,e] using hDj
 ·rintro D a W aU ⟨x,rfl,hb,hx⟩;obtain⟨o,ho⟩:∃ o,l.toArray[n]?=some o:=⟨l.toArray[n],Array.getElem?_eq_getElem (by omega)⟩;refine jM ho ?_;have he:Exit.then (fun a' w'=>Q .normal a' w') Q=Q:=by funext e a w;cases e<;>rfl
  rw[he];exact Ag x W o _ ho hb (fun j hj=>hx j hj (aU j hj)) rfl
def Hb(ops:Array Oper) (n:Nat):Bool:=
 (List.range n).all (fun i=>match ops[i]? with|some o=>o.after.all fun e=>decide (e.on<i)|none=>false)
theorem Ca{ops:Array Oper} {n:Nat} (h:Hb ops n=true) {i:Nat} {o:Oper} (hi:i<n) (ho:ops[i]?=some o):∀ e∈o.after,e.on<i:=by
 simp only[Hb,List.all_eq_true]at h;have:=h i (List.mem_range.2 hi);rw[ho]at this;intro e he;have:=Array.all_eq_true'.1 this e he;simpa using this
theorem Ot{P:Program} {ops:Array Oper} {Q:Exit->Act->World->Prop} {n:Nat} (hn:ops.size=n) (hB:Hb ops n=true) (Inv:(Nat->Bool)->Act->World->Prop)
  (dJ:∀ D a w i o,i<n->ops[i]?=some o->D i=false->(∀ e∈o.after,Region.binds .any e=true->D e.on=true)->Inv D a w->wpOp P ops Q i (fun a' w'=>Inv (bJ D i) a' w') a w)
  (gQ:∀ D a w,(∀ j,j<n->D j=true)->Inv D a w->Q .normal a w) :
  ∀ (fuel:Nat) (L:Array Bool) (a:Act) (w:World),L.size=n->(List.range n).countP (fun j=>!L.getD j false)<=fuel->Inv (fun j=>L.getD j false) a w->wpAny P .any ops Q fuel L a w:=by
 have N3:∀ L:Array Bool,L.size=n->(∀ j,j<n->L.getD j false=true)->Region.ready .any ops L=[]:=by
  intro L hL h1;refine List.eq_nil_iff_forall_not_mem.2 fun j hj=>?_
  obtain⟨xH,o,ho,_⟩:=mem_ready.1 hj;have vX:j<n:=by have:=(Array.getElem?_eq_some_iff.1 ho).1;omega
  have:=h1 j vX;rw[show L.getD j false=L.getD j true by simp[Array.getD,hL,vX]]at this;rw[xH]at this;cases this
 intro fuel;induction fuel with
 | zero=>
  intro L a w hL hc h1;have h3:(List.range n).countP (fun j=>!L.getD j false)=0:=by omega
  rw[List.countP_eq_zero]at h3;have aU:∀ j,j<n->L.getD j false=true:=fun j hj=>by simpa using h3 j (List.mem_range.2 hj)
  exact⟨N3 L hL aU,gQ _ a w aU h1⟩
 | succ fuel ih=>
  intro L a w hL hc h2;refine⟨fun hr=>?_,fun i hi=>?_⟩
  ·refine gQ _ a w ?_ h2;intro j;induction j using Nat.strongRecOn with
   | ind j ihj=>
    intro hj;cases hv:L.getD j false with
    | true=>rfl
    | false=>
     exfalso;obtain⟨o,ho⟩:∃ o,ops[j]?=some o:=⟨ops[j]'(by omega),Array.getElem?_eq_getElem _⟩
     have:j∈Region.ready .any ops L:=mem_ready.2 ⟨by rw[show L.getD j true=L.getD j false by simp[Array.getD,hL,hj]];exact hv,o,ho,fun e he _=>by
      have:=Ca hB hj ho e he
      exact ihj e.on this (by omega)⟩
     rw[hr]at this;cases this
  ·obtain⟨pC,o,ho,aq⟩:=mem_ready.1 hi;have cZ:i<n:=by have:=(Array.getElem?_eq_some_iff.1 ho).1;omega
   have Gh:L.getD i false=false:=by rw[show L.getD i false=L.getD i true by simp[Array.getD,hL,cZ]];exact pC
   have uR:(fun j=>(L.setIfInBounds i true).getD j false)=bJ (fun j=>L.getD j false) i:=by
    funext j
    unfold bJ;by_cases pD:j=i
    ·subst pD;simp[Array.getD,hL,cZ]
    ·rw[if_neg pD];simp only[Array.getD,Array.size_setIfInBounds];split
     ·exact Array.getElem_setIfInBounds_ne _ (Ne.symm pD)
     ·rfl
   have lE:(List.range n).countP (fun j=>!(L.setIfInBounds i true).getD j false)<=fuel:=by
    have h3:=yg (fun j=>L.getD j false) i Gh (List.range n);rw[if_pos (List.mem_range.2 cZ)]at h3
    have h4:(fun j=>!(L.setIfInBounds i true).getD j false)=fun j=>!bJ (fun j=>L.getD j false) i j:=by
     funext j;rw[<-uR]
    rw[h4];omega
   exact eH (fun a' w' h=>ih (L.setIfInBounds i true) a' w' (by simpa using hL) lE (by rw[uR];exact h)) (dJ (fun j=>L.getD j false) a w i o cZ ho Gh aq h2)
theorem GM{P:Program} {id:Nat} {l:List Oper} {Q:Exit->Act->World->Prop} {T:Array Value} {d:List Deferred} {w:World} (n:Nat) (S:List Nat) (Rs:List MP) (hm:P.follows .mixedOrders=true) (hn:l.toArray.size=n) (hS:S.Nodup) (oY:S.length=n) (hB:Hb l.toArray n=true)
  (dJ:∀ x W i o s F,i<n->l.toArray[i]?=some o->S[i]?=some s->Below w.heap.size w W->(∀ e∈o.after,Region.binds .any e=true->(Rs.getD e.on MP.any).p (x e.on) W)->F=bA T S x →
   wpList P l.toArray (Exit.then (bh F d (Rs.getD i MP.any) s W) Q) [o] { tmps:=F,defers:=d } W)
  (gQ:∀ x W F,Below w.heap.size w W->(∀ j,j<n->(Rs.getD j MP.any).p (x j) W)->F=bA T S x->Q .normal { tmps:=F,defers:=d } W) :
  (Code.region id l.toArray true).wp P Q { tmps:=T,defers:=d } w:=by
 refine wp_region_any hm ?_;refine Ot hn hB (fun D a W=>∃ x,a={ tmps:=bA T S x,defers:=d }/\Below w.heap.size w W/\∀ j,j<n->D j=true->(Rs.getD j MP.any).p (x j) W) ?_ ?_ _ _ _ _ (by rw[Array.size_replicate,hn]) ?_ ?_
 ·rintro D a W i o hi ho hD aq ⟨x,rfl,hb,hx⟩;obtain⟨s,hs⟩:∃ s,S[i]?=some s:=⟨S[i],List.getElem?_eq_getElem (by omega)⟩;refine eH ?_ (jM ho (dJ x W i o s _ hi ho hs hb (fun e he kT=>hx e.on (by have:=Ca hB hi ho e he;omega) (aq e he kT)) rfl));rintro a' W' ⟨v,rfl,fS,hr⟩;refine⟨cG x i v,by rw[iB T S hS x i s v hs],ae hb fS,fun j hj hDj=>?_⟩;by_cases e:j=i
  ·subst e;rw[fF];exact hr
  ·rw[fW _ _ e];refine(Rs.getD j MP.any).up _ _ _ (hx j hj ?_) fS;simpa[bJ,e] using hDj
 ·rintro D a W aU ⟨x,rfl,hb,hx⟩;exact gQ x W _ hb (fun j hj=>hx j hj (aU j hj)) rfl
 ·rw[hn];exact Nat.le_trans List.countP_le_length (by simp)
 ·refine⟨fun i=>T[S.getD i 0]!,?_,(Below.refl _ _).drew,fun j hj h=>?_⟩
  ·rw[iL T S hS];intro i s hi hs;rw[List.getD_eq_getElem?_getD,hi];rfl
  ·exfalso;simp only[Array.getD]at h;split at h<;>simp at h
end Go.Proofs.YtmeaoneaephjeaaGreatDoor
namespace Go.Proofs.YtmeaoneaephjeaaGreatDoor
open Go.RowKit Go Go.Shelf
theorem k8{F:Array Value} {d:List Deferred} {r:MP} {s:Nat} {W:World} {a':Act} {W':World} (v:Value) (hb:Below W.heap.size W W') (hr:r.p v W') (ha:a'={ tmps:=F.setIfInBounds s v,defers:=d }:=by simp only[List.setIfInBounds_toArray,List.set_cons_succ,List.set_cons_zero]):bh F d r s W a' W':=⟨v,ha,hb,hr⟩
theorem pK{c v:Value} {W:World} (h:(MP.eq c).p v W):v=c:=h
def jW(ops:Array Oper) (n:Nat):Bool:=
 (List.range n).all (fun i=>match ops[i]? with|some o=>o.after.all fun e=>!Region.binds .any e || decide (e.on<i)|none=>false)
theorem uC{ops:Array Oper} {n:Nat} (h:jW ops n=true) {i:Nat} {o:Oper} (hi:i<n) (ho:ops[i]?=some o):∀ e∈o.after,Region.binds .any e=true->e.on<i:=by
 simp only[jW,List.all_eq_true]at h;have:=h i (List.mem_range.2 hi);rw[ho]at this;intro e he hb;have:=Array.all_eq_true'.1 this e he;rw[hb]at this;simpa using this
theorem rm{P:Program} {ops:Array Oper} {Q:Exit->Act->World->Prop} {n:Nat} (hn:ops.size=n) (hB:jW ops n=true) (Inv:(Nat->Bool)->Act->World->Prop)
  (dJ:∀ D a w i o,i<n->ops[i]?=some o->D i=false->(∀ e∈o.after,Region.binds .any e=true->D e.on=true)->Inv D a w->wpOp P ops Q i (fun a' w'=>Inv (bJ D i) a' w') a w)
  (gQ:∀ D a w,(∀ j,j<n->D j=true)->Inv D a w->Q .normal a w) :
  ∀ (fuel:Nat) (L:Array Bool) (a:Act) (w:World),L.size=n->(List.range n).countP (fun j=>!L.getD j false)<=fuel->Inv (fun j=>L.getD j false) a w->wpAny P .any ops Q fuel L a w:=by
 have N3:∀ L:Array Bool,L.size=n->(∀ j,j<n->L.getD j false=true)->Region.ready .any ops L=[]:=by
  intro L hL h1;refine List.eq_nil_iff_forall_not_mem.2 fun j hj=>?_
  obtain⟨xH,o,ho,_⟩:=mem_ready.1 hj;have vX:j<n:=by have:=(Array.getElem?_eq_some_iff.1 ho).1;omega
  have:=h1 j vX;rw[show L.getD j false=L.getD j true by simp[Array.getD,hL,vX]]at this;rw[xH]at this;cases this
 intro fuel;induction fuel with
 | zero=>
  intro L a w hL hc h1;have h3:(List.range n).countP (fun j=>!L.getD j false)=0:=by omega
  rw[List.countP_eq_zero]at h3;have aU:∀ j,j<n->L.getD j false=true:=fun j hj=>by simpa using h3 j (List.mem_range.2 hj)
  exact⟨N3 L hL aU,gQ _ a w aU h1⟩
 | succ fuel ih=>
  intro L a w hL hc h2;refine⟨fun hr=>?_,fun i hi=>?_⟩
  ·refine gQ _ a w ?_ h2;intro j;induction j using Nat.strongRecOn with
   | ind j ihj=>
    intro hj;cases hv:L.getD j false with
    | true=>rfl
    | false=>
     exfalso;obtain⟨o,ho⟩:∃ o,ops[j]?=some o:=⟨ops[j]'(by omega),Array.getElem?_eq_getElem _⟩
     have:j∈Region.ready .any ops L:=mem_ready.2 ⟨by rw[show L.getD j true=L.getD j false by simp[Array.getD,hL,hj]];exact hv,o,ho,fun e he jm=>by
      have:=uC hB hj ho e he jm
      exact ihj e.on this (by omega)⟩
     rw[hr]at this;cases this
  ·obtain⟨pC,o,ho,aq⟩:=mem_ready.1 hi;have cZ:i<n:=by have:=(Array.getElem?_eq_some_iff.1 ho).1;omega
   have Gh:L.getD i false=false:=by rw[show L.getD i false=L.getD i true by simp[Array.getD,hL,cZ]];exact pC
   have uR:(fun j=>(L.setIfInBounds i true).getD j false)=bJ (fun j=>L.getD j false) i:=by
    funext j
    unfold bJ;by_cases pD:j=i
    ·subst pD;simp[Array.getD,hL,cZ]
    ·rw[if_neg pD];simp only[Array.getD,Array.size_setIfInBounds];split
     ·exact Array.getElem_setIfInBounds_ne _ (Ne.symm pD)
     ·rfl
   have lE:(List.range n).countP (fun j=>!(L.setIfInBounds i true).getD j false)<=fuel:=by
    have h3:=yg (fun j=>L.getD j false) i Gh (List.range n);rw[if_pos (List.mem_range.2 cZ)]at h3
    have h4:(fun j=>!(L.setIfInBounds i true).getD j false)=fun j=>!bJ (fun j=>L.getD j false) i j:=by
     funext j;rw[<-uR]
    rw[h4];omega
   exact eH (fun a' w' h=>ih (L.setIfInBounds i true) a' w' (by simpa using hL) lE (by rw[uR];exact h)) (dJ (fun j=>L.getD j false) a w i o cZ ho Gh aq h2)
def bY(F:Array Value) (d:List Deferred) (V:List (Option Value)) (Core:(Nat->Bool)->(Nat->Value)->World->Prop) (D:Nat->Bool) (i s:Nat) (x:Nat->Value) (a':Act) (W':World):Prop:=
 ∃ v,a'={ tmps:=F.setIfInBounds s v,defers:=d }/\(∀ c,V.getD i none=some c->v=c)/\Core (bJ D i) (cG x i v) W'
theorem bY.mk{F:Array Value} {d:List Deferred} {V:List (Option Value)} {Core:(Nat->Bool)->(Nat->Value)->World->Prop} {D:Nat->Bool} {i s:Nat} {x:Nat->Value} {a':Act} {W':World} (v:Value) (hv:∀ c,V.getD i none=some c->v=c) (hc:Core (bJ D i) (cG x i v) W') (ha:a'={ tmps:=F.setIfInBounds s v,defers:=d }):bY F d V Core D i s x a' W':=⟨v,ha,hv,hc⟩
theorem uU{T:Array Value} {S:List Nat} {x:Nat->Value} {k:Nat} (hk:k∉S):(bA T S x).getD k undef=T.getD k undef:=by
 have:=l5 x S 0 T k hk;simp only[Array.getD_eq_getD_getElem?];exact congrArg (fun o=>Option.getD o undef) this
theorem Hq{T:Array Value} {S:List Nat} {x:Nat->Value} {i s:Nat} (hS:S.Nodup) (hi:S[i]?=some s):bA T S x=(bA T S x).setIfInBounds s (x i):=by
 have h:=iB T S hS x i s (x i) hi
 have e:cG x i (x i)=x:=by
  funext j
  by_cases e:j=i
  ·subst e;exact fF _ _ _
  ·exact fW _ _ e
 rw[e]at h;exact h
theorem l6{T:Array Value} {S:List Nat} {x:Nat->Value} {i k:Nat} (hS:S.Nodup) (hi:S[i]?=some k) (hT:k<T.size):(bA T S x).getD k undef=x i:=by
 rw[Hq (x:=x) hS hi];have:k<(bA T S x).size:=by unfold bA;rw[iW];exact hT
 simp[Array.getD,this]
theorem qo{P:Program} {ops:Array Oper} {o:Oper} {a:Act} {w:World} {Q:Exit->Act->World->Prop} (y:Operand) (hg:o.guard=none) (ho:o.op=.move y) (h:Q .normal (a.put o.dst (a.eval y)) w):wpList P ops Q [o] a w:=by
 refine wpList_plain hg fun _ hK=>?_
 unfold Oper.wp execOp;simp only[ho,Sem.run_pure];exact hK _ _ h
end Go.Proofs.YtmeaoneaephjeaaGreatDoor
namespace Go.Proofs.YtmeaoneaephjeaaGreatDoor
open Go.RowKit Go Go.Shelf
theorem fG{F T:Array Value} {S:List Nat} {x:Nat->Value} (hF:F=bA T S x) (i k:Nat) {v:Value} (hS:S.Nodup) (hi:S[i]?=some k) (hT:Nat.ble (k+1) T.size=true) (hv:x i=v):F.getD k undef=v:=by
  rw[<-hv,hF];exact l6 hS hi (Nat.le_of_ble_eq_true hT)
theorem lT{F T:Array Value} {S:List Nat} {x:Nat->Value} {k:Nat} {v:Value} (hF:F=bA T S x) (hk:k∉S) (hv:T.getD k undef=v):F.getD k undef=v:=by
  rw[hF,uU hk];exact hv
theorem dH{F:Array Value} {k:Nat} {v:Value} (h:F.getD k undef=v):F[k]?.getD undef=v:=by rw[<-h,Array.getD_eq_getD_getElem?]
theorem Kr{P:Program} {l:List Oper} {Q:Exit->Act->World->Prop} {T:Array Value} {d:List Deferred} {w:World} (n:Nat) (S:List Nat) (V:List (Option Value)) (Core:(Nat->Bool)->(Nat->Value)->World->Prop) (hn:l.toArray.size=n) (hS:S.Nodup) (oY:S.length=n) (hB:jW l.toArray n=true)
  (h0:∀ x,Core (fun _=>false) x w.drew)
  (dJ:∀ x W D i o s F,i<n->l.toArray[i]?=some o->S[i]?=some s->D i=false->(∀ j s',S[j]?=some s'->D j=false->x j=T[s']!)->(∀ j o',l.toArray[j]?=some o'->D j=true->∀ e∈o'.after,Region.binds .any e=true->D e.on=true)->(∀ e∈o.after,Region.binds .any e=true->D e.on=true)->(∀ j c,j<n->D j=true->V.getD j none=some c->x j=c)->Core D x W->F=bA T S x →
   wpList P l.toArray (Exit.then (bY F d V Core D i s x) Q) [o] { tmps:=F,defers:=d } W)
  (gQ:∀ x W D F,(∀ j,j<n->D j=true)->(∀ j c,j<n->V.getD j none=some c->x j=c)->Core D x W->F=bA T S x->Q .normal { tmps:=F,defers:=d } W) :
  wpAny P .any l.toArray Q l.toArray.size (Array.replicate l.toArray.size false) { tmps:=T,defers:=d } w.drew:=by
 refine rm hn hB (fun D a W=>∃ x,a={ tmps:=bA T S x,defers:=d }/\(∀ j s,S[j]?=some s->D j=false->x j=T[s]!)/\(∀ j o',l.toArray[j]?=some o'->D j=true->∀ e∈o'.after,Region.binds .any e=true->D e.on=true)/\(∀ j c,j<n->D j=true->V.getD j none=some c->x j=c)/\Core D x W) ?_ ?_ _ _ _ _ (by rw[Array.size_replicate,hn]) ?_ ?_
 ·rintro D a W i o hi ho hD aq ⟨x,rfl,dR,bW,hv,hc⟩;obtain⟨s,hs⟩:∃ s,S[i]?=some s:=⟨S[i],List.getElem?_eq_getElem (by omega)⟩;refine eH ?_ (jM ho (dJ x W D i o s _ hi ho hs hD dR bW aq hv hc rfl));rintro a' W' ⟨v,rfl,DM,lj⟩;refine⟨cG x i v,by rw[iB T S hS x i s v hs],fun j sj hsj hDj=>?_,fun j oj Yz hDj e he hb=>?_,fun j c hj hDj hV=>?_,lj⟩
  ·by_cases e:j=i
   ·subst e;simp[bJ]at hDj
   ·rw[fW _ _ e];exact dR j sj hsj (by simpa[bJ,e] using hDj)
  ·have pF:D e.on=true:=by
    by_cases ej:j=i
    ·subst ej;rw[ho]at Yz;cases Yz;exact aq e he hb
    ·exact bW j oj Yz (by simpa[bJ,ej] using hDj) e he hb
   unfold bJ;split
   ·rfl
   ·exact pF
  by_cases e:j=i
  ·subst e;rw[fF];exact DM c hV
  ·rw[fW _ _ e];exact hv j c hj (by simpa[bJ,e] using hDj) hV
 ·rintro D a W aU ⟨x,rfl,_,_,hv,hc⟩;exact gQ x W D _ aU (fun j c hj hV=>hv j c hj (aU j hj) hV) hc rfl
 ·rw[hn];exact Nat.le_trans List.countP_le_length (by simp)
 ·refine⟨fun i=>T[S.getD i 0]!,?_,fun j s hs _=>by(show T[S.getD j 0]! = _;rw[List.getD_eq_getElem?_getD,hs];rfl),fun j o' _ h=>?_,fun j c hj h=>?_,?_⟩
  ·rw[iL T S hS];intro i s hi hs;rw[List.getD_eq_getElem?_getD,hi];rfl
  ·exfalso;simp only[Array.getD]at h;split at h<;>simp at h
  ·exfalso;simp only[Array.getD]at h;split at h<;>simp at h
  ·have:(fun j=>(Array.replicate l.toArray.size false).getD j false)=fun _=>false:=by
    funext j
    simp only[Array.getD];split<;>simp
   rw[this];exact h0 _
theorem Cb{P:Program} {id:Nat} {l:List Oper} {Q:Exit->Act->World->Prop} {T:Array Value} {d:List Deferred} {w:World} (n:Nat) (S:List Nat) (V:List (Option Value)) (Core:(Nat->Bool)->(Nat->Value)->World->Prop) (hm:P.follows .mixedOrders=true) (hn:l.toArray.size=n) (hS:S.Nodup) (oY:S.length=n) (hB:jW l.toArray n=true)
  (h0:∀ x,Core (fun _=>false) x w.drew)
  (dJ:∀ x W D i o s F,i<n->l.toArray[i]?=some o->S[i]?=some s->D i=false->(∀ j s',S[j]?=some s'->D j=false->x j=T[s']!)->(∀ j o',l.toArray[j]?=some o'->D j=true->∀ e∈o'.after,Region.binds .any e=true->D e.on=true)->(∀ e∈o.after,Region.binds .any e=true->D e.on=true)->(∀ j c,j<n->D j=true->V.getD j none=some c->x j=c)->Core D x W->F=bA T S x →
   wpList P l.toArray (Exit.then (bY F d V Core D i s x) Q) [o] { tmps:=F,defers:=d } W)
  (gQ:∀ x W D F,(∀ j,j<n->D j=true)->(∀ j c,j<n->V.getD j none=some c->x j=c)->Core D x W->F=bA T S x->Q .normal { tmps:=F,defers:=d } W) :
  (Code.region id l.toArray true).wp P Q { tmps:=T,defers:=d } w:=
 wp_region_any hm (Kr n S V Core hn hS oY hB h0 dJ gQ)
theorem Fe{ops:Array Oper} {t j:Nat} (h:Region.waitsFor .any ops t j=true) {o:Oper} (ho:ops[t]?=some o):∃ e∈o.after,Region.binds .any e=true/\e.on=j:=by
 unfold Region.waitsFor at h;rw[ho]at h;obtain⟨e,he,h2⟩:=Array.any_eq_true'.1 h;simp at h2;exact⟨e,he,by grind⟩
theorem yh{P:Program} {l:List Oper} {Q:Exit->Act->World->Prop} {i:Nat} {a:Act} {w:World} (hi:i<l.length) (h:wpList P l.toArray Q (l.drop i) a w):wpOp P l.toArray Q i (fun a' w'=>wpList P l.toArray Q (l.drop (i+1)) a' w') a w:=by
 rw[List.drop_eq_getElem_cons hi]at h;unfold wpList at h;unfold wpOp;rw[show l.toArray[i]?=some l[i] by simp[hi]];exact h
theorem pL{P:Program} {l:List Oper} {Q:Exit->Act->World->Prop} (n:Nat) (hn:n<l.length) (hB:jW l.toArray l.length=true) (hs:Region.sinkB .any l.toArray n=true) (hc:Region.chainB .any l.toArray n=true) (Inv:(Nat->Bool)->Act->World->Prop)
  (dJ:∀ D a w i o,i<n->l.toArray[i]?=some o->D i=false->(∀ j o',l.toArray[j]?=some o'->D j=true->∀ e∈o'.after,Region.binds .any e=true->D e.on=true)->(∀ e∈o.after,Region.binds .any e=true->D e.on=true)->Inv D a w->wpOp P l.toArray Q i (fun a' w'=>Inv (bJ D i) a' w') a w)
  (htail:∀ D a w,(∀ j,j<n->D j=true)->Inv D a w->wpList P l.toArray Q (l.drop n) a w) {a:Act} {w:World} (h0:Inv (fun _=>false) a w) :
  wpAny P .any l.toArray Q l.toArray.size (Array.replicate l.toArray.size false) a w:=by
 have eT:l.toArray.size=l.length:=by simp
 refine rm (n:=l.length) eT hB (fun D a W=>(∀ j o',l.toArray[j]?=some o'->D j=true->∀ e∈o'.after,Region.binds .any e=true->D e.on=true) ∧
  (((∀ t,n<=t->D t=false)/\Inv D a W)\/∃ k,n<k/\(∀ j,j<k->D j=true)/\(∀ t,k<=t->D t=false)/\wpList P l.toArray Q (l.drop k) a W)) ?_ ?_ _ _ _ _ (by simp) (by simp only[Array.size_replicate,eT];exact Nat.le_trans List.countP_le_length (by simp)) ?_
 ·rintro D a W i o hi ho hD aq ⟨bW,Xy⟩
  have S5:∀ j o',l.toArray[j]?=some o'->bJ D i j=true->∀ e∈o'.after,Region.binds .any e=true->bJ D i e.on=true:=by
   intro j o' vU hj e he hb;unfold bJ at hj ⊢;by_cases h1:e.on=i
   ·simp[h1]
   ·rw[if_neg h1];by_cases h2:j=i
    ·subst h2;rw[ho]at vU;cases vU;exact aq e he hb
    ·rw[if_neg h2]at hj;exact bW j o' vU hj e he hb
  have hchain:∀ t o',n<t->l.toArray[t]?=some o'->∃ e∈o'.after,Region.binds .any e=true/\e.on=t - 1:=by
   intro t o' ht vU;have Jo:t<l.toArray.size:=(Array.getElem?_eq_some_iff.1 vU).1;unfold Region.chainB at hc;have:=List.all_eq_true.1 hc t (List.mem_range.2 Jo);simp only[Bool.or_eq_true,decide_eq_true_eq]at this;rcases this with h|h
   ·omega
   ·exact Fe h vU
  rcases Xy with ⟨ht,aW⟩|⟨k,hk,aU,fY,hl⟩
  ·by_cases cZ:i<n
   ·refine eH (fun a' w' h=>⟨S5,.inl ⟨fun t Kl=>?_,h⟩⟩) (dJ D a W i o cZ ho hD bW aq aW);unfold bJ;rw[if_neg (by omega)];exact ht t Kl
   ·have hin':i=n:=by
     by_cases e:i=n
     ·exact e
     ·exfalso;obtain⟨e1,Gq,aK,h1⟩:=hchain i o (by omega) ho;have h2:=aq e1 Gq aK;rw[h1,ht _ (by omega)]at h2;cases h2
    subst hin'
    have hallj:∀ d j,j<i->i - j<=d->D j=true:=by
     intro d;induction d with
     | zero=>intro j hj hd;omega
     | succ d ih=>
      intro j hj hd;unfold Region.sinkB at hs;have:=List.all_eq_true.1 hs j (List.mem_range.2 hj);obtain⟨j',nD,h3⟩:=List.any_eq_true.1 this;simp only[Bool.and_eq_true,decide_eq_true_eq]at h3;have hj'':=List.mem_range.1 nD;obtain⟨o',vU⟩:∃ o',l.toArray[j']?=some o':=⟨l.toArray[j']'(by omega),Array.getElem?_eq_getElem _⟩;obtain⟨e1,Gq,aK,h1⟩:=Fe h3.2 vU;by_cases e:j'=i
      ·subst e;rw[ho]at vU;cases vU;have:=aq e1 Gq aK
       rwa [h1]at this
      ·have:=bW j' o' vU (ih j' (by omega) (by omega)) e1 Gq aK
       rwa [h1]at this
    have hallj':∀ j,j<i->D j=true:=fun j hj=>hallj (i - j) j hj (Nat.le_refl _)
    refine eH (fun a' w' h=>⟨S5,.inr ⟨i+1,by omega,fun j hj=>?_,fun t Kl=>?_,h⟩⟩) (yh hn (htail D a W hallj' aW))
    ·unfold bJ;split
     ·rfl
     ·exact hallj' j (by omega)
    ·unfold bJ;rw[if_neg (by omega)];exact ht t (by omega)
  ·have kQ:i=k:=by
    by_cases e:i=k
    ·exact e
    ·exfalso
     have:k<=i:=by
      by_cases h:i<k
      ·rw[aU i h]at hD;cases hD
      ·omega
     obtain⟨e1,Gq,aK,h1⟩:=hchain i o (by omega) ho;have h2:=aq e1 Gq aK;rw[h1,fY _ (by omega)]at h2;cases h2
   subst kQ;refine eH (fun a' w' h=>⟨S5,.inr ⟨i+1,by omega,fun j hj=>?_,fun t Kl=>?_,h⟩⟩) (yh hi hl)
   ·unfold bJ;split
    ·rfl
    ·exact aU j (by omega)
   ·unfold bJ;rw[if_neg (by omega)];exact fY t (by omega)
 ·rintro D a W aU ⟨bW,Xy⟩;rcases Xy with ⟨ht,_⟩|⟨k,hk,_,fY,hl⟩
  ·have:=aU n hn;rw[ht n (Nat.le_refl _)]at this;cases this
  ·have mq:l.length<=k:=by
    by_cases h:k<l.length
    ·have:=aU k h;rw[fY k (Nat.le_refl _)]at this;cases this
    ·omega
   rw[List.drop_of_length_le mq]at hl;exact hl
 ·have hf:(fun j=>(Array.replicate l.toArray.size false).getD j false)=fun _=>false:=by
   funext j
   simp only[Array.getD];split<;>simp
  rw[hf];exact⟨fun j o' _ h=>(by cases h),.inl ⟨fun _ _=>rfl,h0⟩⟩
theorem gk{P:Program} {id:Nat} {l:List Oper} {Q:Exit->Act->World->Prop} {T:Array Value} {d:List Deferred} {w:World} (n:Nat) (S:List Nat) (Rs:List MP) (hm:P.follows .mixedOrders=true) (hn:n<l.length) (hS:S.Nodup) (oY:S.length=n)
  (hB:jW l.toArray l.length=true) (hs:Region.sinkB .any l.toArray n=true) (hc:Region.chainB .any l.toArray n=true)
  (dJ:∀ x W i o s F,i<n->l.toArray[i]?=some o->S[i]?=some s->Below w.heap.size w W->(∀ e∈o.after,Region.binds .any e=true->(Rs.getD e.on MP.any).p (x e.on) W)->F=bA T S x →
   wpList P l.toArray (Exit.then (bh F d (Rs.getD i MP.any) s W) Q) [o] { tmps:=F,defers:=d } W)
  (Ag:∀ x W F,Below w.heap.size w W->(∀ j,j<n->(Rs.getD j MP.any).p (x j) W)->F=bA T S x->wpList P l.toArray Q (l.drop n) { tmps:=F,defers:=d } W) :
  (Code.region id l.toArray true).wp P Q { tmps:=T,defers:=d } w:=by
 refine wp_region_any hm (pL n hn hB hs hc (fun D a W=>∃ x,a={ tmps:=bA T S x,defers:=d }/\Below w.heap.size w W/\∀ j,j<n->D j=true->(Rs.getD j MP.any).p (x j) W) ?_ ?_ ?_)
 ·rintro D a W i o hi ho hD bW aq ⟨x,rfl,hb,hx⟩;obtain⟨s,Bq⟩:∃ s,S[i]?=some s:=⟨S[i],List.getElem?_eq_getElem (by omega)⟩;refine eH ?_ (jM ho (dJ x W i o s _ hi ho Bq hb (fun e he kT=>hx e.on (by have:=uC hB (by omega) ho e he kT;omega) (aq e he kT)) rfl));rintro a' W' ⟨v,rfl,fS,hr⟩;refine⟨cG x i v,by rw[iB T S hS x i s v Bq],ae hb fS,fun j hj hDj=>?_⟩;by_cases e:j=i
  ·subst e;rw[fF];exact hr
  ·rw[fW _ _ e];refine(Rs.getD j MP.any).up _ _ _ (hx j hj ?_) fS;simpa[bJ,e] using hDj
 ·rintro D a W aU ⟨x,rfl,hb,hx⟩;exact Ag x W _ hb (fun j hj=>hx j hj (aU j hj)) rfl
 ·refine⟨fun i=>T[S.getD i 0]!,?_,(Below.refl _ _).drew,fun j _ h=>by cases h⟩;rw[iL T S hS];intro i s hi hs;rw[List.getD_eq_getElem?_getD,hi];rfl
theorem mO{P:Program} {id:Nat} {l:List Oper} {Q:Exit->Act->World->Prop} {T:Array Value} {d:List Deferred} {w:World} (n:Nat) (S:List Nat) (V:List (Option Value)) (Core:(Nat->Bool)->(Nat->Value)->World->Prop) (hm:P.follows .mixedOrders=true) (hn:decide (n<l.length)=true) (hS:S.Nodup) (oY:S.length=n)
  (hB:jW l.toArray l.length=true) (hs:Region.sinkB .any l.toArray n=true) (hc:Region.chainB .any l.toArray n=true)
  (h0:∀ x,Core (fun _=>false) x w.drew)
  (dJ:∀ x W D i o s F,i<n->l.toArray[i]?=some o->S[i]?=some s->D i=false->(∀ j s',S[j]?=some s'->D j=false->x j=T[s']!)->(∀ j o',l.toArray[j]?=some o'->D j=true->∀ e∈o'.after,Region.binds .any e=true->D e.on=true)->(∀ e∈o.after,Region.binds .any e=true->D e.on=true)->(∀ j c,j<n->D j=true->V.getD j none=some c->x j=c)->Core D x W->F=bA T S x →
   wpList P l.toArray (Exit.then (bY F d V Core D i s x) Q) [o] { tmps:=F,defers:=d } W)
  (gQ:∀ x W D F,(∀ j,j<n->D j=true)->(∀ j c,j<n->V.getD j none=some c->x j=c)->Core D x W->F=bA T S x->wpList P l.toArray Q (l.drop n) { tmps:=F,defers:=d } W) :
  (Code.region id l.toArray true).wp P Q { tmps:=T,defers:=d } w:=by
 have zz:n<l.length:=by simpa using hn
 refine wp_region_any hm (pL n zz hB hs hc (fun D a W=>∃ x,a={ tmps:=bA T S x,defers:=d }/\(∀ j s,S[j]?=some s->D j=false->x j=T[s]!)/\(∀ j c,j<n->D j=true->V.getD j none=some c->x j=c)/\Core D x W) ?_ ?_ ?_)
 ·rintro D a W i o hi ho hD bW aq ⟨x,rfl,dR,hv,q7⟩;obtain⟨s,Bq⟩:∃ s,S[i]?=some s:=⟨S[i],List.getElem?_eq_getElem (by omega)⟩;refine eH ?_ (jM ho (dJ x W D i o s _ hi ho Bq hD dR bW aq hv q7 rfl));rintro a' W' ⟨v,rfl,DM,lj⟩;refine⟨cG x i v,by rw[iB T S hS x i s v Bq],fun j sj hsj hDj=>?_,fun j c hj hDj hV=>?_,lj⟩
  ·by_cases e:j=i
   ·subst e;simp[bJ]at hDj
   ·rw[fW _ _ e];exact dR j sj hsj (by simpa[bJ,e] using hDj)
  ·by_cases e:j=i
   ·subst e;rw[fF];exact DM c hV
   ·rw[fW _ _ e];exact hv j c hj (by simpa[bJ,e] using hDj) hV
 ·rintro D a W aU ⟨x,rfl,_,hv,q7⟩;exact gQ x W D _ aU (fun j c hj hV=>hv j c hj (aU j hj) hV) q7 rfl
 ·refine⟨fun i=>T[S.getD i 0]!,?_,fun j s hsj _=>by(show T[S.getD j 0]! = _;rw[List.getD_eq_getElem?_getD,hsj];rfl),fun j c _ h=>(by cases h),h0 _⟩;rw[iL T S hS];intro i s hi eT;rw[List.getD_eq_getElem?_getD,hi];rfl
theorem xY{P:Program} {yl nn:Nat} {id:Nat} {l:List Oper} {Q:Exit->Act->World->Prop} {T:Array Value} {d:List Deferred} {w:World} (n:Nat) (S:List Nat) (V:List (Option Value)) (Core:(Nat->Bool)->(Nat->Value)->World->Prop) (hm:P.follows .mixedOrders=true) (hn:decide (n<l.length)=true) (hS:S.Nodup) (oY:S.length=n)
  (hB:jW l.toArray l.length=true) (hs:Region.sinkB .any l.toArray n=true) (hc:Region.chainB .any l.toArray n=true) (hQ:¬ LetsOut Q) (hd:pJ l.toArray=true)
  (h0:∀ x,Core (fun _=>false) x w.drew)
  (dJ:∀ x W D i o s F,i<n->l.toArray[i]?=some o->S[i]?=some s->D i=false->(∀ j s',S[j]?=some s'->D j=false->x j=T[s']!)->(∀ j o',l.toArray[j]?=some o'->D j=true->∀ e∈o'.after,Region.binds .any e=true->D e.on=true)->(∀ e∈o.after,Region.binds .any e=true->D e.on=true)->(∀ j c,j<n->D j=true->V.getD j none=some c->x j=c)->Core D x W->F=bA T S x →
   wpList P l.toArray (Exit.then (bY F d V Core D i s x) Q) [o] { tmps:=F,defers:=d } W)
  (gQ:∀ x W D F,(∀ j,j<n->D j=true)->(∀ j c,j<n->V.getD j none=some c->x j=c)->Core D x W->F=bA T S x->wpList P l.toArray Q (l.drop n) { tmps:=F,defers:=d } W) :
  (Code.region id l.toArray true).wpIn (Fence.wide.inRound yl) nn P Q { tmps:=T,defers:=d } w:=by
 have zz:n<l.length:=by simpa using hn
 refine wpIn_region_any hm (mM hd hQ _ _ _ _ (pL n zz hB hs hc (fun D a W=>∃ x,a={ tmps:=bA T S x,defers:=d }/\(∀ j s,S[j]?=some s->D j=false->x j=T[s]!)/\(∀ j c,j<n->D j=true->V.getD j none=some c->x j=c)/\Core D x W) ?_ ?_ ?_))
 ·rintro D a W i o hi ho hD bW aq ⟨x,rfl,dR,hv,q7⟩;obtain⟨s,Bq⟩:∃ s,S[i]?=some s:=⟨S[i],List.getElem?_eq_getElem (by omega)⟩;refine eH ?_ (jM ho (dJ x W D i o s _ hi ho Bq hD dR bW aq hv q7 rfl));rintro a' W' ⟨v,rfl,DM,lj⟩;refine⟨cG x i v,by rw[iB T S hS x i s v Bq],fun j sj hsj hDj=>?_,fun j c hj hDj hV=>?_,lj⟩
  ·by_cases e:j=i
   ·subst e;simp[bJ]at hDj
   ·rw[fW _ _ e];exact dR j sj hsj (by simpa[bJ,e] using hDj)
  ·by_cases e:j=i
   ·subst e;rw[fF];exact DM c hV
   ·rw[fW _ _ e];exact hv j c hj (by simpa[bJ,e] using hDj) hV
 ·rintro D a W aU ⟨x,rfl,_,hv,q7⟩;exact gQ x W D _ aU (fun j c hj hV=>hv j c hj (aU j hj) hV) q7 rfl
 ·refine⟨fun i=>T[S.getD i 0]!,?_,fun j s hsj _=>by(show T[S.getD j 0]! = _;rw[List.getD_eq_getElem?_getD,hsj];rfl),fun j c _ h=>(by cases h),h0 _⟩;rw[iL T S hS];intro i s hi eT;rw[List.getD_eq_getElem?_getD,hi];rfl
theorem aS{F T:Array Value} {S:List Nat} {x:Nat->Value} (hF:F=bA T S x) (i k:Nat) (v:Value) (hS:S.Nodup) (hi:S[i]?=some k) (hT:decide (k<T.size)=true) (hv:x i=v):F.getD k undef=v/\F[k]?.getD undef=v:=by
 have h:F.getD k undef=v:=by rw[hF,l6 hS hi (of_decide_eq_true hT)];exact hv
 exact⟨h,by rw[<-h,Array.getD_eq_getD_getElem?]⟩
theorem cJ{F T:Array Value} {S:List Nat} {x:Nat->Value} (hF:F=bA T S x) (k:Nat) (v:Value) (hk:k∉S) (hv:T.getD k undef=v):F.getD k undef=v/\F[k]?.getD undef=v:=by
 have h:F.getD k undef=v:=by rw[hF,uU hk];exact hv
 exact⟨h,by rw[<-h,Array.getD_eq_getD_getElem?]⟩
theorem fB{F T:Array Value} {S:List Nat} {x:Nat->Value} (hF:F=bA T S x) (i k:Nat) (v:Value) (hS:S.Nodup) (hi:S[i]?=some k) (hT:decide (k<T.size)=true) (hv:x i=v):F[k]?=some v:=by
 rw[<-hv,hF,bA,nL _ _ hS _ _ _ _ hi (of_decide_eq_true hT),Nat.zero_add]
theorem Hr{P:Program} {l:List Oper} {Q:Exit->Act->World->Prop} {T:Array Value} {d:List Deferred} {w:World} (n:Nat) (S:List Nat) (Rs:List MP) (hn:l.toArray.size=n) (hS:S.Nodup) (oY:S.length=n) (hB:jW l.toArray n=true)
  (dJ:∀ x W i o s F,i<n->l.toArray[i]?=some o->S[i]?=some s->Below w.heap.size w W->(∀ e∈o.after,Region.binds .any e=true->(Rs.getD e.on MP.any).p (x e.on) W)->F=bA T S x →
   wpList P l.toArray (Exit.then (bh F d (Rs.getD i MP.any) s W) Q) [o] { tmps:=F,defers:=d } W)
  (gQ:∀ x W F,Below w.heap.size w W->(∀ j,j<n->(Rs.getD j MP.any).p (x j) W)->F=bA T S x->Q .normal { tmps:=F,defers:=d } W) :
  wpAny P .any l.toArray Q l.toArray.size (Array.replicate l.toArray.size false) { tmps:=T,defers:=d } w.drew:=by
 refine rm hn hB (fun D a W=>∃ x,a={ tmps:=bA T S x,defers:=d }/\Below w.heap.size w W/\∀ j,j<n->D j=true->(Rs.getD j MP.any).p (x j) W) ?_ ?_ _ _ _ _ (by rw[Array.size_replicate,hn]) ?_ ?_
 ·rintro D a W i o hi ho hD aq ⟨x,rfl,hb,hx⟩;obtain⟨s,hs⟩:∃ s,S[i]?=some s:=⟨S[i],List.getElem?_eq_getElem (by omega)⟩;refine eH ?_ (jM ho (dJ x W i o s _ hi ho hs hb (fun e he kT=>hx e.on (by have:=uC hB hi ho e he kT;omega) (aq e he kT)) rfl));rintro a' W' ⟨v,rfl,fS,hr⟩;refine⟨cG x i v,by rw[iB T S hS x i s v hs],ae hb fS,fun j hj hDj=>?_⟩;by_cases e:j=i
  ·subst e;rw[fF];exact hr
  ·rw[fW _ _ e];refine(Rs.getD j MP.any).up _ _ _ (hx j hj ?_) fS;simpa[bJ,e] using hDj
 ·rintro D a W aU ⟨x,rfl,hb,hx⟩;exact gQ x W _ hb (fun j hj=>hx j hj (aU j hj)) rfl
 ·rw[hn];exact Nat.le_trans List.countP_le_length (by simp)
 ·refine⟨fun i=>T[S.getD i 0]!,?_,(Below.refl _ _).drew,fun j hj h=>?_⟩
  ·rw[iL T S hS];intro i s hi hs;rw[List.getD_eq_getElem?_getD,hi];rfl
  ·exfalso;simp only[Array.getD]at h;split at h<;>simp at h
theorem uV{P:Program} {id:Nat} {l:List Oper} {Q:Exit->Act->World->Prop} {T:Array Value} {d:List Deferred} {w:World} (n:Nat) (S:List Nat) (Rs:List MP) (hm:P.follows .mixedOrders=true) (hn:l.toArray.size=n) (hS:S.Nodup) (oY:S.length=n) (hB:jW l.toArray n=true)
  (dJ:∀ x W i o s F,i<n->l.toArray[i]?=some o->S[i]?=some s->Below w.heap.size w W->(∀ e∈o.after,Region.binds .any e=true->(Rs.getD e.on MP.any).p (x e.on) W)->F=bA T S x →
   wpList P l.toArray (Exit.then (bh F d (Rs.getD i MP.any) s W) Q) [o] { tmps:=F,defers:=d } W)
  (gQ:∀ x W F,Below w.heap.size w W->(∀ j,j<n->(Rs.getD j MP.any).p (x j) W)->F=bA T S x->Q .normal { tmps:=F,defers:=d } W) :
  (Code.region id l.toArray true).wp P Q { tmps:=T,defers:=d } w:=wp_region_any hm (Hr n S Rs hn hS oY hB dJ gQ)
theorem Al{yl nn:Nat} {P:Program} {id:Nat} {l:List Oper} {Q:Exit->Act->World->Prop} {T:Array Value} {d:List Deferred} {w:World} (n:Nat) (S:List Nat) (Rs:List MP) (hm:P.follows .mixedOrders=true) (hn:l.toArray.size=n) (hS:S.Nodup) (oY:S.length=n) (hB:jW l.toArray n=true) (hQ:¬ LetsOut Q) (hd:pJ l.toArray=true)
  (dJ:∀ x W i o s F,i<n->l.toArray[i]?=some o->S[i]?=some s->Below w.heap.size w W->(∀ e∈o.after,Region.binds .any e=true->(Rs.getD e.on MP.any).p (x e.on) W)->F=bA T S x →
   wpList P l.toArray (Exit.then (bh F d (Rs.getD i MP.any) s W) Q) [o] { tmps:=F,defers:=d } W)
  (gQ:∀ x W F,Below w.heap.size w W->(∀ j,j<n->(Rs.getD j MP.any).p (x j) W)->F=bA T S x->Q .normal { tmps:=F,defers:=d } W) :
  (Code.region id l.toArray true).wpIn (Fence.wide.inRound yl) nn P Q { tmps:=T,defers:=d } w:=wpIn_region_any hm (mM hd hQ _ _ _ _ (Hr n S Rs hn hS oY hB dJ gQ))
def gS(A A':World) (T T':Nat->Prop):Prop:=(∀ k,T k->T' k)/\∀ k,T' k->T k\/(A.heap.size<=k/\k<A'.heap.size)
theorem gS.refl(A A':World) (T:Nat->Prop):gS A A' T T:=⟨fun _ h=>h,fun _ h=>.inl h⟩
def TM(P:Program) (g:Nat) (lb:Array Value) (E:Nat->Array Value->(Nat->Prop)->World->Prop) (N:Nat) (S:Nat->Prop) (w:World):Prop:=
 ∀ (l:Nat) (J Jx:Nat->(Nat->Prop)->World->Prop) (W:World),Below w.heap.size w W->l<W.heap.size →
  (∀ i T T' A A',J i T A->Below A.heap.size A A'->gS A A' T T'->J i T' A')->(∀ i T T' A A',Jx i T A->Below A.heap.size A A'->gS A A' T T'->Jx i T' A') →
  (∀ i T W1 args,i<N->E i args T W1->J i T W1->YieldAt Fence.wide 0 P l args W1 fun e W'=>
   W1.heap.size<=W'.heap.size/\(∀ k,T k->W'.heap[k]?=W1.heap[k]?)/\((e=.returned (.bool true)/\J (i+1) T W')\/(e=.returned (.bool false)/\Jx (i+1) T W'))) →
  J 0 S W →
  Calls P g (#[.func (.yield l) #[] #[]]++lb) W fun e W'=>(∃ v,e=.returned v)/\∃ T,J N T W'\/∃ i,i<=N/\Jx i T W'
theorem Mk{P:Program} {g:Operand} {ps:Array Tmp} {assign body:Code} {Q:Exit->Act->World->Prop} {a:Act} {w:World}
  {gf:Nat} {lb:Array Value} (hg:a.eval g=.func (.func gf) #[] lb) (eg:∀ args w,(callFunc gf args).run P w=.ok (.enter gf args) w)
  {E:Nat->Array Value->(Nat->Prop)->World->Prop} {N:Nat} {S:Nat->Prop} {w0:World} (dg:TM P gf lb E N S w0) (aG:Below w0.heap.size w0 w) (hS:∀ k,S k->k<w.heap.size) (ze:∀ i args T W,E i args T W->args.size=ps.size)
  (I:Nat->(Nat->Prop)->World->Prop) (Ix:Code->Nat->(Nat->Prop)->World->Prop)
  (hI:∀ i T T' A A',I i T A->Chg w.heap.size A A'->gS A A' T T'->I i T' A') (tV:∀ c i T T' A A',Ix c i T A->Chg w.heap.size A A'->gS A A' T T'->Ix c i T' A') (h0:I 0 S w)
  (lI:∀ l i T W args,i<N->w.heap.size<l->l<W.heap.size->¬ T l->E i args T W->I i T W →
   assign.wpIn (Fence.wide.inRound l) 0 P (Exit.then (fun a1 W1=>Bod w.heap.size T W W1/\∃ Ax:World->Prop,cI w.heap.size Ax/\Ax W1/\∀ W2,Ax W2->(∃ r,W2.heap[l]?=some (.loop r))->body.wpIn (Fence.wide.inRound l) 0 P (Mh w.heap.size T (fun i=>I i T) (fun c i=>Ix c i T) (i+1) W2) a1 W2) (fun _ _ _=>False))
    { tmps:=(ps.zip args).foldl (fun t (p,v)=>t.setIfInBounds p v) a.tmps,defers:=[] } W)
  (xo:∀ D T W,w.heap.size<=D->I N T W->W.heap[D]?=some (.deferred (some []))->Q .normal { a with defers:=io D :: a.defers } W)
  (xh:∀ D c i T W,w.heap.size<=D->i<=N->Ix c i T W->W.heap[D]?=some (.deferred (some []))->c.wp P Q { a with defers:=io D :: a.defers } W) :
  (Code.rangeFunc g ps assign body).wp P Q a w:=by
 refine(wpIn_wide (n:=0)).1 (wpIn_rangeFunc ?_);intro fn _;obtain⟨rec,kJ⟩:∃ rec:Loop,rec={ state:=.ready,pending:=none,fn,tmps:=a.tmps,params:=ps,assign,body,defers:=w.heap.size }:=⟨_,rfl⟩;obtain⟨W1,cM⟩:∃ W1,(w.alloc (.deferred (some []))).alloc (.loop rec)=W1:=⟨_,rfl⟩
 have JZ:W1.heap[w.heap.size+1]?=some (.loop rec):=by
  rw[<-cM];have:=ap (w.alloc (.deferred (some []))) (.loop rec);rwa [World.size_alloc]at this
 have J2:W1.heap[w.heap.size]?=some (.deferred (some [])):=by rw[<-cM];exact ar _ (ap w _)
 have bX:W1.heap.size=w.heap.size+2:=by rw[<-cM];simp
 have sv:Below w.heap.size w W1:=by rw[<-cM];exact((Below.refl _ w).alloc (Nat.le_refl _) _).alloc (by simp) _
 have QA:¬ S (w.heap.size+1):=fun h=>by have:=hS _ h;omega
 refine⟨w.heap.size+1,[io w.heap.size],W1,{ target:=.fn (.func gf) lb,args:=#[.func (.yield (w.heap.size+1)) #[] #[]] },W1,gf,
  #[.func (.yield (w.heap.size+1)) #[] #[]]++lb,W1,?_,?_,fun _ _=>trivial,?_,fun h=>(by simp[Fence.wide]at h),?_⟩
 ·rw[<-cM,kJ];exact run_enterLoop_outer _ _ _ _ _
 ·simp only[resolve,hg];simp[go_sem]
 ·simp[invoke,go_sem,eg]
 ·refine(callsIn_wide (n:=0 - 1)).2 ?_
  refine(dg (w.heap.size+1)
   (fun i T W=>I i T W/\W.heap[w.heap.size+1]?=some (.loop rec)/\W.heap[w.heap.size]?=some (.deferred (some []))/\¬ T (w.heap.size+1))
   (fun i T W=>∃ c,Ix c i T W/\W.heap[w.heap.size+1]?=some (.loop { rec with state:=.done,pending:=some c })/\W.heap[w.heap.size]?=some (.deferred (some [])))
   W1 (ae aG sv) (by omega)
   (fun i T T' A A' h hb hw=>⟨hI i T T' A A' h.1 (.of_below hb) hw,af hb h.2.1,af hb h.2.2.1,fun ht=>by
    rcases hw.2 _ ht with h1|h1
    ·exact h.2.2.2 h1
    ·have:=aD h.2.1;have:=h1.1;omega⟩)
   (fun i T T' A A' h hb hw=>by obtain⟨c,h1,h2,h3⟩:=h;exact⟨c,tV c i T T' A A' h1 (.of_below hb) hw,af hb h2,af hb h3⟩)
   ?_ ⟨hI 0 S S _ _ h0 (.of_below sv) (gS.refl _ _ _),JZ,J2,QA⟩).mono ?_
  ·rintro i T W args hi hE ⟨Jv,hl,hk,hT⟩;refine Ho (B:=w.heap.size) (S:=T) (ps:=ps) (assign:=assign) (body:=body) (tmps:=a.tmps) (i:=i) (I:=fun i=>I i T) (Ix:=fun c i=>Ix c i T) _ (by omega) hT (by rw[kJ];simp) hl (ze i args T W hE) (lI _ i T W args hi (by omega) (aD hl) hT hE Jv) ?_ ?_
   ·intro W3 W4 _ bS oV hc sf l4;exact⟨bS.size,bS.keep,.inl ⟨rfl,hI _ _ _ _ _ sf hc (gS.refl _ _ _),oV,l4 _ _ (Nat.le_refl _) (by omega) hk rfl,hT⟩⟩
   ·intro c W3 W4 _ bS oV hc sf l4;exact⟨bS.size,bS.keep,.inr ⟨rfl,c,tV _ _ _ _ _ _ sf hc (gS.refl _ _ _),oV,l4 _ _ (Nat.le_refl _) (by omega) hk rfl⟩⟩
  ·rintro e W2 ⟨⟨v,rfl⟩,T,(⟨hi,hl,hk,_⟩|⟨i,cZ,c,hi,hl,hk⟩)⟩
   ·exact⟨none,_,by have:=run_endLoop (P:=P) hl (by rw[kJ];simp);rw[this,kJ],xo _ T _ (Nat.le_refl _) (hI _ _ _ _ _ hi (Chg.put _ hl (by omega) rfl) (gS.refl _ _ _)) ((World.putObj_heap_other (by omega)).trans hk)⟩
   ·exact⟨some c,_,by have:=run_endLoop (P:=P) hl (by simp);rw[this],wpIn_wide.2 (xh _ c i T _ (Nat.le_refl _) cZ (tV _ _ _ _ _ _ hi (Chg.put _ hl (by omega) rfl) (gS.refl _ _ _)) ((World.putObj_heap_other (by omega)).trans hk))⟩
abbrev m7(Ds:List Nat):List Deferred:=Ds.map io
def cU(B:Nat) (Ds:List Nat) (W:World):Prop:=Ds.Nodup/\∀ D∈Ds,B<=D/\W.heap[D]?=some (.deferred (some []))
theorem cU.nil(B:Nat) (W:World):cU B [] W:=⟨List.nodup_nil,fun D h=>by simp at h⟩
theorem cU.up{B:Nat} {Ds:List Nat} {W W':World} (h:cU B Ds W) (hb:Below W.heap.size W W'):cU B Ds W':=⟨h.1,fun D hD=>⟨(h.2 D hD).1,af hb (h.2 D hD).2⟩⟩
theorem cU.keep{B:Nat} {Ds:List Nat} {W W':World} (h:cU B Ds W) (hk:∀ (k:Nat) (o:Obj),W.heap[k]?=some o->o.isCells=false->W'.heap[k]?=some o):cU B Ds W':=⟨h.1,fun D hD=>⟨(h.2 D hD).1,hk _ _ (h.2 D hD).2 rfl⟩⟩
theorem cU.cons{B:Nat} {Ds:List Nat} {W:World} {D:Nat} (h:cU B Ds W) (hD:B<=D) (hk:W.heap[D]?=some (.deferred (some []))) (hn:∀ E∈Ds,E<D):cU B (D :: Ds) W:=
 ⟨List.nodup_cons.2 ⟨fun e=>Nat.lt_irrefl _ (hn _ e),h.1⟩,fun E hE=>by
  rcases List.mem_cons.1 hE with rfl|hE
  ·exact⟨hD,hk⟩
  ·exact h.2 E hE⟩
def jX(Ds:List Nat) (W:World):World:=Ds.foldl (fun W D=>W.putObj D (.deferred none)) W
theorem GN(Ds:List Nat) (W:World) {k:Nat} (hk:k∉Ds):(jX Ds W).heap[k]?=W.heap[k]?:=by
 unfold jX;induction Ds generalizing W with
 | nil=>rfl
 | cons D r ih=>
  simp at hk;rw[List.foldl_cons,ih _ hk.2];exact World.putObj_heap_other hk.1
theorem mD{B n:Nat} {w W:World} {Ds:List Nat} (h:∀ D∈Ds,B<=D) (hn:n<=B) (hb:Below n w W):Below n w (jX Ds W):=by
 unfold jX;induction Ds generalizing W with
 | nil=>exact hb
 | cons D r ih=>exact ih (fun E hE=>h E (by simp[hE])) (eY (Nat.le_trans hn (h D (by simp))) hb)
theorem ro{B:Nat} {Ds:List Nat} {W:World} (h:cU B Ds W):CK W (jX Ds W):=fun k o hk ho=>by
 rw[GN]
 ·exact hk
 ·intro hm;have:=(h.2 k hm).2;rw[hk]at this;cases this;cases ho
theorem Hs{P:Program} {fn:Func} {R:Ending->World->Prop} {tmps:Array Value} (Ds:List Nat):∀ (W:World),Ds.Nodup->(∀ D∈Ds,W.heap[D]?=some (.deferred (some [])))->∀ {v:Value},
  (results fn tmps).run P (jX Ds W)=.ok v (jX Ds W)->R (.returned v) (jX Ds W)->LeavesInM Fence.wide 0 P fn tmps R (m7 Ds) .returning W:=by
 induction Ds with
 | nil=>intro W _ _ v hv h;exact⟨v,hv,h⟩
 | cons D r ih=>
  intro W Uz hk v hv h;rw[List.nodup_cons]at Uz;refine⟨by simp,.inl ⟨_,_,rfl,run_takeDeferred (hk D (by simp)),?_⟩⟩;exact ih _ Uz.2 (fun E hE=>(World.putObj_heap_other (by rintro rfl;exact Uz.1 hE)).trans (hk E (by simp[hE]))) hv h
theorem rp{P:Program} {fn:Func} {R:Ending->World->Prop} {tmps:Array Value} {B:Nat} {Ds:List Nat} {W:World} {v:Value} (hm:cU B Ds W)
  (hv:(results fn tmps).run P (jX Ds W)=.ok v (jX Ds W)) (h:R (.returned v) (jX Ds W)):bodyPostM Fence.wide 0 P fn R .ret { tmps:=tmps,defers:=m7 Ds } W:=
 Hs Ds W hm.1 (fun D hD=>(hm.2 D hD).2) hv h
def dC(F:Array Value) (d:List Deferred) (Core:(Nat->Bool)->(Nat->Value)->World->Prop) (D:Nat->Bool) (i s:Nat) (x:Nat->Value) (a':Act) (W':World):Prop:=
 ∃ v,a'={ tmps:=F.setIfInBounds s v,defers:=d }/\Core (bJ D i) (cG x i v) W'
def YL(F:Array Value) (d:List Deferred) (Core:(Nat->Bool)->(Nat->Value)->World->Prop) (D:Nat->Bool) (i:Nat) (x:Nat->Value) (a':Act) (W':World):Prop:=
 a'={ tmps:=F,defers:=d }/\Core (bJ D i) x W'
theorem dC.mk{F:Array Value} {d:List Deferred} {Core:(Nat->Bool)->(Nat->Value)->World->Prop} {D:Nat->Bool} {i s:Nat} {x:Nat->Value} {a':Act} {W':World} (v:Value) (hc:Core (bJ D i) (cG x i v) W') (ha:a'={ tmps:=F.setIfInBounds s v,defers:=d }):dC F d Core D i s x a' W':=⟨v,ha,hc⟩
theorem pM{P:Program} {id:Nat} {l:List Oper} {Q:Exit->Act->World->Prop} {T:Array Value} {d:List Deferred} {w:World} (n:Nat) (S:List Nat) (Core:(Nat->Bool)->(Nat->Value)->World->Prop) (hm:P.follows .mixedOrders=true) (hn:l.toArray.size=n) (hS:S.Nodup)
  (hB:jW l.toArray n=true) (h0:∀ x,Core (fun _=>false) x w.drew)
  (dJ:∀ x W D i o s F,l.toArray[i]?=some o->S[i]?=some s->D i=false->(∀ e∈o.after,Region.binds .any e=true->D e.on=true)->Core D x W->F=bA T S x →
   wpList P l.toArray (Exit.then (dC F d Core D i s x) Q) [o] { tmps:=F,defers:=d } W)
  (hfree:∀ x W D i o F,l.toArray[i]?=some o->S.length<=i->i<n->D i=false->(∀ e∈o.after,Region.binds .any e=true->D e.on=true)->Core D x W->F=bA T S x →
   wpList P l.toArray (Exit.then (YL F d Core D i x) Q) [o] { tmps:=F,defers:=d } W)
  (gQ:∀ x W D F,(∀ j,j<n->D j=true)->Core D x W->F=bA T S x->Q .normal { tmps:=F,defers:=d } W) :
  (Code.region id l.toArray true).wp P Q { tmps:=T,defers:=d } w:=by
 refine wp_region_any hm ?_;refine rm hn hB (fun D a W=>∃ x,a={ tmps:=bA T S x,defers:=d }/\Core D x W) ?_ ?_ _ _ _ _ (by rw[Array.size_replicate,hn]) ?_ ?_
 ·rintro D a W i o hi ho hD aq ⟨x,rfl,hc⟩;by_cases his:i<S.length
  ·obtain⟨s,hs⟩:∃ s,S[i]?=some s:=⟨S[i],List.getElem?_eq_getElem his⟩;refine eH ?_ (jM ho (dJ x W D i o s _ ho hs hD aq hc rfl));rintro a' W' ⟨v,rfl,lj⟩;exact⟨cG x i v,by rw[iB T S hS x i s v hs],lj⟩
  ·refine eH ?_ (jM ho (hfree x W D i o _ ho (by omega) hi hD aq hc rfl));rintro a' W' ⟨rfl,lj⟩;exact⟨x,rfl,lj⟩
 ·rintro D a W aU ⟨x,rfl,hc⟩;exact gQ x W D _ aU hc rfl
 ·rw[hn];exact Nat.le_trans List.countP_le_length (by simp)
 ·have hf:(fun j=>(Array.replicate l.toArray.size false).getD j false)=fun _=>false:=by
   funext j
   simp only[Array.getD];split<;>simp
  rw[hf];refine⟨fun i=>T[S.getD i 0]!,?_,h0 _⟩;rw[iL T S hS];intro i s hi hs;rw[List.getD_eq_getElem?_getD,hi];rfl
theorem cV{w:World} {v:Value} {l:List Int} (h:aQ w v l):∃ a c,v=.slice a l.length c/\∀ i,i<l.length->∃ b o,a=some ⟨b,o,none⟩/\w.cell? ⟨b,o+i,none⟩=some (.int .i64 (l.getD i 0)):=by
 obtain⟨a,c,e,_,_,el⟩:=h.at;refine⟨a,c,e,fun i hi=>?_⟩;obtain⟨b,o,e1,c1,_⟩:=el i hi;rw[Nat.mul_one,<-az 0 hi]at c1;exact⟨b,o,e1,c1⟩
theorem Cc{p:Nat->Prop} (h:∃ n,p n):∃ n,p n/\∀ m,p m->n<=m:=by
 obtain⟨n,hn⟩:=h;induction n using Nat.strongRecOn with
 | _ n ih=>
  by_cases h:∃ m,m<n/\p m
  ·obtain⟨m,h1,h2⟩:=h;exact ih m h1 h2
  ·exact⟨n,hn,fun m hm=>Nat.le_of_not_lt fun h'=>h ⟨m,h',hm⟩⟩
open Classical in
noncomputable def zV(I:Nat->Act->World->Prop) (a:Act) (w:World):Nat:=if h:∃ n,I n a w then Classical.choose (Cc h) else 0
theorem yk{I:Nat->Act->World->Prop} {a:Act} {w:World} (h:∃ n,I n a w):I (zV I a w) a w/\∀ m,I m a w->zV I a w<=m:=by
 unfold zV;rw[dif_pos h];exact Classical.choose_spec (Cc h)
theorem BC{P:Program} {c:Code} {a:Act} {w:World} {Q:Exit->Act->World->Prop} (I:Nat->Act->World->Prop) (n0:Nat) (h0:I n0 a w)
  (round:∀ n a w,I n a w->c.wp P (Exit.then (fun a' w'=>∃ m,m<n/\I m a' w') Q) a w):(Code.loop c).wp P Q a w:=by
 refine wp_loop (fun a w=>∃ n,I n a w) (zV I) ⟨n0,h0⟩ fun a w h=>?_
 obtain⟨h1,h2⟩:=yk h;refine wp_mono (round _ a w h1) ?_;rintro e a' w' he;cases e<;>first|exact he|skip
 obtain⟨m,hm,hi⟩:=he;exact⟨⟨m,hi⟩,Nat.lt_of_le_of_lt ((yk ⟨m,hi⟩).2 m hi) hm⟩
structure ChT (n:Nat) (T:Nat->Prop) (A A':World):Prop where
 os:A'.os=A.os
 tape:A'.tape=A.tape
 output:A'.output=A.output
 size:A.heap.size<=A'.heap.size
 low:∀ k,k<n->A'.heap[k]?=A.heap[k]?
 same:∀ k o,A.heap[k]?=some o->o.isCells=true->¬ T k->A'.heap[k]?=some o
theorem ChT.of_below{n:Nat} {T:Nat->Prop} {A A':World} (hn:n<=A.heap.size) (h:Below A.heap.size A A'):ChT n T A A':=
 ⟨h.os,h.tape,h.output,h.size,fun k hk=>h.block k (by omega),fun _ _ hk _ _=>af h hk⟩
theorem ChT.of_chg{n B:Nat} {T:Nat->Prop} {A A':World} (h:Chg B A A') (hB:n<=B) (hn:n<=A.heap.size):ChT n T A A':=
 ⟨h.os,h.tape,h.output,h.size,fun k hk=>by
  have h1:A.heap[k]?=some A.heap[k]:=Array.getElem?_eq_getElem (by omega)
  rw[h.same k _ h1 (.inl (by omega)),h1],fun _ _ hk ho _=>h.same _ _ hk (.inr ho)⟩
theorem ChT.mono{n m:Nat} {T:Nat->Prop} {A A':World} (h:ChT n T A A') (hm:m<=n):ChT m T A A':=⟨h.os,h.tape,h.output,h.size,fun k hk=>h.low k (by omega),h.same⟩
theorem ChT.below{n m:Nat} {T:Nat->Prop} {w A A':World} (h:ChT n T A A') (hm:m<=n) (hb:Below m w A):Below m w A':=
 ⟨h.os.trans hb.os,h.tape.trans hb.tape,h.output.trans hb.output,Nat.le_trans hb.size h.size,fun k hk=>(h.low k (by omega)).trans (hb.block k hk)⟩
theorem ChT.set{n b:Nat} {T:Nat->Prop} {A:World} (hT:T b) (hn:n<=b) (o:Nat) (v:Value):ChT n T A (A.setCell ⟨b,o,none⟩ v):=
 ⟨rfl,rfl,rfl,by simp,fun k hk=>Below.heap_setCell _ _ _ _ (by dsimp only;omega),fun k x hk _ ht=>by
  rw[Below.heap_setCell _ _ _ _ (show k≠b from fun e=>ht (e ▸ hT))];exact hk⟩
structure Bdx (B:Nat) (W W':World):Prop where
 size:W.heap.size<=W'.heap.size
 same:∀ (k:Nat) (o:Obj),B<=k->W.heap[k]?=some o->o.isCells=false->W'.heap[k]?=some o
theorem Bod.out{B:Nat} {S:Nat->Prop} {W W':World} (h:Bod B S W W'):Bdx B W W':=⟨h.size,h.same⟩
theorem Bdx.trans{B:Nat} {X Y Z:World} (h:Bdx B X Y) (k:Bdx B Y Z):Bdx B X Z:=⟨Nat.le_trans h.size k.size,fun i o hB hi ho=>k.same i o hB (h.same i o hB hi ho) ho⟩
def Ht(B:Nat) (S:Nat->Prop) (I:Nat->World->Prop) (Ix:Code->Nat->World->Prop) (i:Nat) (W:World):Exit->Act->World->Prop
 | .normal,_,W'=>Bod B S W W'/\I i W'
 | .ret,_,W'=>Bdx B W W'/\Ix .ret i W'
 | .exit id,_,W'=>Bdx B W W'/\Ix (.exit id) i W'
 | .goto t,_,W'=>Bdx B W W'/\Ix (.goto t) i W'
 | .panic _,_,_=>False
 | .outgrown,_,_=>False
theorem Ff{P:Program} {B:Nat} {S:Nat->Prop} {ps:Array Tmp} {assign body:Code} {tmps:Array Value} {l i:Nat} {I:Nat->World->Prop} {Ix:Code->Nat->World->Prop} {W:World} {args:Array Value} {r:Loop} (R:Ending->World->Prop)
  (ww:B<=l) (oY:¬ S l) (hr:r.params=ps/\r.assign=assign/\r.body=body/\r.tmps=tmps/\r.state=.ready/\r.pending=none) (hl:W.heap[l]?=some (.loop r)) (ze:args.size=ps.size)
  (lI:assign.wpIn (Fence.wide.inRound l) 0 P (Exit.then (fun a1 W1=>Bod B S W W1/\∃ Ax:World->Prop,cI B Ax/\Ax W1/\∀ W2,Ax W2->(∃ r,W2.heap[l]?=some (.loop r))->body.wpIn (Fence.wide.inRound l) 0 P (Ht B S I Ix (i+1) W2) a1 W2) (fun _ _ _=>False))
   { tmps:=(ps.zip args).foldl (fun t (p,v)=>t.setIfInBounds p v) tmps,defers:=[] } W)
  (sd:∀ W3 W4,W.heap.size<=W3.heap.size->Bod (l+1) S W W4->W4.heap[l]?=some (.loop r)->Chg B W3 W4->I (i+1) W3->(∀ k o,B<=k->k≠l->W.heap[k]?=some o->o.isCells=false->W4.heap[k]?=some o)->R (.returned (.bool true)) W4)
  (mn:∀ c W3 W4,W.heap.size<=W3.heap.size->W.heap.size<=W4.heap.size->W4.heap[l]?=some (.loop { r with state:=.done,pending:=some c })->Chg B W3 W4->Ix c (i+1) W3->(∀ k o,B<=k->k≠l->W.heap[k]?=some o->o.isCells=false->W4.heap[k]?=some o)->R (.returned (.bool false)) W4) :
  YieldAt Fence.wide 0 P l args W R:=by
 obtain⟨h1,h2,h3,h4,h5,h6⟩:=hr;refine⟨r.fn,_,r.assign,r.body,run_yield hl (by rw[h1];exact ze),roundIn_of_wpIn trivial ?_⟩;rw[h1,h2,h3,h4];refine wpIn_mono lI ?_;rintro e a1 W1 hp;cases e<;>first|exact hp.elim|skip
 obtain⟨B7,Ax,X0,Yg,NZ⟩:=hp;have iz:W1.heap[l]?=some (.loop r):=B7.same l _ ww hl rfl;have nA:(W1.putObj l (.loop { r with state:=.busy })).heap[l]?=some (.loop { r with state:=.busy }):=World.putObj_heap_same (aD iz);have aT:Bod (l+1) S W (W1.putObj l (.loop { r with state:=.busy })):=(B7.mono (by omega)).trans (Bod.put _ _ oY)
 have mA:∀ k o,B<=k->k≠l->W.heap[k]?=some o->o.isCells=false->(W1.putObj l (.loop { r with state:=.busy })).heap[k]?=some o:=
  fun k o hk bK ho hc=>(World.putObj_heap_other bK).trans (B7.same k o hk ho hc)
 refine⟨_,run_beginRound iz h5,wpIn_mono (NZ _ (X0 _ _ (Chg.put _ iz ww rfl) Yg) ⟨_,nA⟩) ?_⟩;generalize W1.putObj l (.loop { r with state:=.busy })=W2 at nA aT mA;rintro e a3 W3 hp
 have fin:∀ (jump:Option Code),Bod B S W2 W3->(Instr.endRound l jump).run P W3=.ok (.bool jump.isNone) (W3.putObj l (.loop { r with state:=if jump.isNone then .ready else .done,pending:=jump })) ∧
   (W3.putObj l (.loop { r with state:=if jump.isNone then .ready else .done,pending:=jump })).heap[l]?=some (.loop { r with state:=if jump.isNone then .ready else .done,pending:=jump }) ∧
   Chg B W3 (W3.putObj l (.loop { r with state:=if jump.isNone then .ready else .done,pending:=jump }))/\Bod (l+1) S W (W3.putObj l (.loop { r with state:=if jump.isNone then .ready else .done,pending:=jump })) ∧
   (∀ k o,B<=k->k≠l->W.heap[k]?=some o->o.isCells=false->(W3.putObj l (.loop { r with state:=if jump.isNone then .ready else .done,pending:=jump })).heap[k]?=some o):=fun jump bG=>by
  have tJ:=bG.same l _ ww nA rfl
  exact⟨run_endRound (r:={ r with state:=.busy }) jump tJ,World.putObj_heap_same (aD tJ),Chg.put _ tJ ww rfl,(aT.trans (bG.mono (by omega))).trans (Bod.put _ _ oY),
   fun k o hk bK ho hc=>(World.putObj_heap_other bK).trans (bG.same k o hk (mA k o hk bK ho hc) hc)⟩
 have fin2:∀ (jump:Option Code),Bdx B W2 W3->(Instr.endRound l jump).run P W3=.ok (.bool jump.isNone) (W3.putObj l (.loop { r with state:=if jump.isNone then .ready else .done,pending:=jump })) ∧
   (W3.putObj l (.loop { r with state:=if jump.isNone then .ready else .done,pending:=jump })).heap[l]?=some (.loop { r with state:=if jump.isNone then .ready else .done,pending:=jump }) ∧
   Chg B W3 (W3.putObj l (.loop { r with state:=if jump.isNone then .ready else .done,pending:=jump }))/\W.heap.size<=(W3.putObj l (.loop { r with state:=if jump.isNone then .ready else .done,pending:=jump })).heap.size ∧
   (∀ k o,B<=k->k≠l->W.heap[k]?=some o->o.isCells=false->(W3.putObj l (.loop { r with state:=if jump.isNone then .ready else .done,pending:=jump })).heap[k]?=some o):=fun jump bG=>by
  have tJ:=bG.same l _ ww nA rfl
  exact⟨run_endRound (r:={ r with state:=.busy }) jump tJ,World.putObj_heap_same (aD tJ),Chg.put _ tJ ww rfl,by simpa using Nat.le_trans aT.size bG.size,
   fun k o hk bK ho hc=>(World.putObj_heap_other bK).trans (bG.same k o hk (mA k o hk bK ho hc) hc)⟩
 cases e with
 | normal=>
  obtain⟨bG,hi⟩:=hp;obtain⟨f1,f2,f3,f4,f5⟩:=fin none bG;refine⟨_,_,f1,sd W3 _ (Nat.le_trans aT.size bG.size) f4 ?_ f3 hi f5⟩;rw[f2];cases r;simp_all
 | ret=>
  obtain⟨bG,hi⟩:=hp;obtain⟨f1,f2,f3,f4,f5⟩:=fin2 (some .ret) bG;exact⟨_,_,f1,mn .ret W3 _ (Nat.le_trans aT.size bG.size) f4 f2 f3 hi f5⟩
 | exit id=>
  obtain⟨bG,hi⟩:=hp;obtain⟨f1,f2,f3,f4,f5⟩:=fin2 (some (.exit id)) bG;exact⟨_,_,f1,mn (.exit id) W3 _ (Nat.le_trans aT.size bG.size) f4 f2 f3 hi f5⟩
 | goto t=>
  obtain⟨bG,hi⟩:=hp;obtain⟨f1,f2,f3,f4,f5⟩:=fin2 (some (.goto t)) bG;exact⟨_,_,f1,mn (.goto t) W3 _ (Nat.le_trans aT.size bG.size) f4 f2 f3 hi f5⟩
 | panic ch=>exact hp.elim
 | outgrown=>exact hp.elim
theorem Ou{P:Program} {g:Operand} {ps:Array Tmp} {assign body:Code} {Q:Exit->Act->World->Prop} {a:Act} {w:World}
  {gf:Nat} {lb:Array Value} (hg:a.eval g=.func (.func gf) #[] lb) (eg:∀ args w,(callFunc gf args).run P w=.ok (.enter gf args) w)
  {encs:Nat->Array Value} {N:Nat} {S:Nat->Prop} {w0:World} (dg:sE P gf lb encs N S w0) (aG:Below w0.heap.size w0 w) (hS:∀ k,S k->k<w.heap.size) (ze:∀ i,(encs i).size=ps.size)
  (I:Nat->World->Prop) (Ix:Code->Nat->World->Prop) (hI:∀ i,cI w.heap.size (I i)) (tV:∀ c i,cI w.heap.size (Ix c i)) (h0:I 0 w)
  (lI:∀ l i W,i<N->w.heap.size<=l->I i W →
   assign.wpIn (Fence.wide.inRound l) 0 P (Exit.then (fun a1 W1=>Bod w.heap.size S W W1/\∃ Ax:World->Prop,cI w.heap.size Ax/\Ax W1/\∀ W2,Ax W2->(∃ r,W2.heap[l]?=some (.loop r))->body.wpIn (Fence.wide.inRound l) 0 P (Ht w.heap.size S I Ix (i+1) W2) a1 W2) (fun _ _ _=>False))
    { tmps:=(ps.zip (encs i)).foldl (fun t (p,v)=>t.setIfInBounds p v) a.tmps,defers:=[] } W)
  (xo:∀ D W,w.heap.size<=D->I N W->W.heap[D]?=some (.deferred (some []))->Q .normal { a with defers:=io D :: a.defers } W)
  (xh:∀ D c i W,w.heap.size<=D->i<=N->Ix c i W->W.heap[D]?=some (.deferred (some []))->c.wp P Q { a with defers:=io D :: a.defers } W) :
  (Code.rangeFunc g ps assign body).wp P Q a w:=by
 refine(wpIn_wide (n:=0)).1 (wpIn_rangeFunc ?_);intro fn _;obtain⟨rec,kJ⟩:∃ rec:Loop,rec={ state:=.ready,pending:=none,fn,tmps:=a.tmps,params:=ps,assign,body,defers:=w.heap.size }:=⟨_,rfl⟩;obtain⟨W1,cM⟩:∃ W1,(w.alloc (.deferred (some []))).alloc (.loop rec)=W1:=⟨_,rfl⟩
 have JZ:W1.heap[w.heap.size+1]?=some (.loop rec):=by
  rw[<-cM];have:=ap (w.alloc (.deferred (some []))) (.loop rec);rwa [World.size_alloc]at this
 have J2:W1.heap[w.heap.size]?=some (.deferred (some [])):=by rw[<-cM];exact ar _ (ap w _)
 have sv:Below w.heap.size w W1:=by rw[<-cM];exact((Below.refl _ w).alloc (Nat.le_refl _) _).alloc (by simp) _
 have QA:¬ S (w.heap.size+1):=fun h=>by have:=hS _ h;omega
 refine⟨w.heap.size+1,[io w.heap.size],W1,{ target:=.fn (.func gf) lb,args:=#[.func (.yield (w.heap.size+1)) #[] #[]] },W1,gf,
  #[.func (.yield (w.heap.size+1)) #[] #[]]++lb,W1,?_,?_,fun _ _=>trivial,?_,fun h=>(by simp[Fence.wide]at h),?_⟩
 ·rw[<-cM,kJ];exact run_enterLoop_outer _ _ _ _ _
 ·simp only[resolve,hg];simp[go_sem]
 ·simp[invoke,go_sem,eg]
 ·refine(callsIn_wide (n:=0 - 1)).2 ?_
  refine(dg (w.heap.size+1)
   (fun i W=>I i W/\W.heap[w.heap.size+1]?=some (.loop rec)/\W.heap[w.heap.size]?=some (.deferred (some [])))
   (fun i W=>∃ c,Ix c i W/\W.heap[w.heap.size+1]?=some (.loop { rec with state:=.done,pending:=some c })/\W.heap[w.heap.size]?=some (.deferred (some [])))
   W1 (ae aG sv)
   (fun i A A' h hb=>⟨hI i A A' (.of_below hb) h.1,af hb h.2.1,af hb h.2.2⟩)
   (fun i A A' h hb=>by obtain⟨c,h1,h2,h3⟩:=h;exact⟨c,tV c i A A' (.of_below hb) h1,af hb h2,af hb h3⟩)
   ?_ ⟨hI 0 _ _ (.of_below sv) h0,JZ,J2⟩).mono ?_
  ·rintro i W hi ⟨Jv,hl,hk⟩;refine Ff (B:=w.heap.size) (S:=S) (ps:=ps) (assign:=assign) (body:=body) (tmps:=a.tmps) (i:=i) (I:=I) (Ix:=Ix) _ (by omega) QA (by rw[kJ];simp) hl (ze i) (lI _ i W hi (by omega) Jv) ?_ ?_
   ·intro W3 W4 _ bS oV hc sf l4;exact .inl ⟨rfl,⟨hI _ _ _ hc sf,oV,l4 _ _ (Nat.le_refl _) (by omega) hk rfl⟩,bS.size,bS.keep⟩
   ·intro c W3 W4 _ _ oV hc sf l4;exact .inr ⟨rfl,c,tV _ _ _ _ hc sf,oV,l4 _ _ (Nat.le_refl _) (by omega) hk rfl⟩
  ·rintro e W2 ⟨⟨v,rfl⟩,(⟨hi,hl,hk⟩|⟨i,cZ,c,hi,hl,hk⟩)⟩
   ·exact⟨none,_,by have:=run_endLoop (P:=P) hl (by rw[kJ];simp);rw[this,kJ],xo _ _ (Nat.le_refl _) (hI _ _ _ (Chg.put _ hl (by omega) rfl) hi) ((World.putObj_heap_other (by omega)).trans hk)⟩
   ·exact⟨some c,_,by have:=run_endLoop (P:=P) hl (by simp);rw[this],wpIn_wide.2 (xh _ c i _ (Nat.le_refl _) cZ (tV _ _ _ _ (Chg.put _ hl (by omega) rfl) hi) ((World.putObj_heap_other (by omega)).trans hk))⟩
def TN(P:Program) (g:Nat) (lb:Array Value) (E:Nat->Array Value->Prop) (N:Nat) (S:Nat->Prop) (w:World):Prop:=
 ∀ (l:Nat) (J Jx:Nat->(Nat->Prop)->World->Prop) (W:World),Below w.heap.size w W->l<W.heap.size →
  (∀ i T T' A A',J i T A->ChT W.heap.size T A A'->gS A A' T T'->J i T' A')->(∀ i T T' A A',Jx i T A->ChT W.heap.size T A A'->gS A A' T T'->Jx i T' A') →
  (∀ i T W1 args,i<N->E i args->J i T W1->W.heap.size<=W1.heap.size->YieldAt Fence.wide 0 P l args W1 fun e W'=>
   W1.heap.size<=W'.heap.size/\(∀ k o,W.heap.size<=k->W1.heap[k]?=some o->o.isCells=false->W'.heap[k]?=some o)/\((e=.returned (.bool true)/\(∀ k,T k\/S k->k<W1.heap.size->W'.heap[k]?=W1.heap[k]?)/\J (i+1) T W')\/(e=.returned (.bool false)/\Jx (i+1) T W'))) →
  J 0 (fun _=>False) W →
  Calls P g (#[.func (.yield l) #[] #[]]++lb) W fun e W'=>(∃ v,e=.returned v)/\∃ T,J N T W'\/∃ i,i<=N/\Jx i T W'
theorem Ml{P:Program} {g:Operand} {ps:Array Tmp} {assign body:Code} {Q:Exit->Act->World->Prop} {a:Act} {w:World}
  {gf:Nat} {lb:Array Value} (hg:a.eval g=.func (.func gf) #[] lb) (eg:∀ args w,(callFunc gf args).run P w=.ok (.enter gf args) w)
  {E:Nat->Array Value->Prop} {N:Nat} {S:Nat->Prop} {w0:World} (dg:TN P gf lb E N S w0) (aG:Below w0.heap.size w0 w) (hS:∀ k,S k->k<w.heap.size) (ze:∀ i args,E i args->args.size=ps.size)
  (I:Nat->(Nat->Prop)->World->Prop) (Ix:Code->Nat->(Nat->Prop)->World->Prop)
  (hI:∀ i T T' A A',I i T A->ChT w.heap.size T A A'->gS A A' T T'->I i T' A') (tV:∀ c i T T' A A',Ix c i T A->ChT w.heap.size T A A'->gS A A' T T'->Ix c i T' A') (h0:I 0 (fun _=>False) w)
  (lI:∀ l i T W args,i<N->w.heap.size<l->l<W.heap.size->(∀ k,T k->w.heap.size+2<=k)->E i args->I i T W →
   assign.wpIn (Fence.wide.inRound l) 0 P (Exit.then (fun a1 W1=>Bod w.heap.size (fun k=>(T k\/S k)/\k<W.heap.size) W W1/\∃ Ax:World->Prop,cI w.heap.size Ax/\Ax W1/\∀ W2,Ax W2->(∃ r,W2.heap[l]?=some (.loop r))->body.wpIn (Fence.wide.inRound l) 0 P (Ht w.heap.size (fun k=>(T k\/S k)/\k<W.heap.size) (fun i=>I i T) (fun c i=>Ix c i T) (i+1) W2) a1 W2) (fun _ _ _=>False))
    { tmps:=(ps.zip args).foldl (fun t (p,v)=>t.setIfInBounds p v) a.tmps,defers:=[] } W)
  (xo:∀ D T W,w.heap.size<=D->I N T W->W.heap[D]?=some (.deferred (some []))->Q .normal { a with defers:=io D :: a.defers } W)
  (xh:∀ D c i T W,w.heap.size<=D->i<=N->Ix c i T W->W.heap[D]?=some (.deferred (some []))->c.wp P Q { a with defers:=io D :: a.defers } W) :
  (Code.rangeFunc g ps assign body).wp P Q a w:=by
 refine(wpIn_wide (n:=0)).1 (wpIn_rangeFunc ?_);intro fn _;obtain⟨rec,kJ⟩:∃ rec:Loop,rec={ state:=.ready,pending:=none,fn,tmps:=a.tmps,params:=ps,assign,body,defers:=w.heap.size }:=⟨_,rfl⟩;obtain⟨W1,cM⟩:∃ W1,(w.alloc (.deferred (some []))).alloc (.loop rec)=W1:=⟨_,rfl⟩
 have JZ:W1.heap[w.heap.size+1]?=some (.loop rec):=by
  rw[<-cM];have:=ap (w.alloc (.deferred (some []))) (.loop rec);rwa [World.size_alloc]at this
 have J2:W1.heap[w.heap.size]?=some (.deferred (some [])):=by rw[<-cM];exact ar _ (ap w _)
 have bX:W1.heap.size=w.heap.size+2:=by rw[<-cM];simp
 have sv:Below w.heap.size w W1:=by rw[<-cM];exact((Below.refl _ w).alloc (Nat.le_refl _) _).alloc (by simp) _
 have NL:∀ {T:Nat->Prop} {A A':World},ChT W1.heap.size T A A'->ChT w.heap.size T A A':=fun h=>h.mono (by omega)
 have xI:∀ {i:Nat} {T:Nat->Prop} {A A':World},Chg w.heap.size A A'->w.heap.size<=A.heap.size->I i T A->I i T A':=fun hc hs h=>hI _ _ _ _ _ h (.of_chg hc (Nat.le_refl _) hs) (gS.refl _ _ _)
 have hIx1:∀ {c:Code} {i:Nat} {T:Nat->Prop} {A A':World},Chg w.heap.size A A'->w.heap.size<=A.heap.size->Ix c i T A->Ix c i T A':=fun hc hs h=>tV _ _ _ _ _ _ h (.of_chg hc (Nat.le_refl _) hs) (gS.refl _ _ _)
 have hTw:∀ {T T':Nat->Prop} {A A':World},gS A A' T T'->w.heap.size+2<=A.heap.size->(∀ k,T k->w.heap.size+2<=k)->∀ k,T' k->w.heap.size+2<=k:=fun hw hs h k hk=>by
  rcases hw.2 k hk with h1|h1
  ·exact h k h1
  ·omega
 refine⟨w.heap.size+1,[io w.heap.size],W1,{ target:=.fn (.func gf) lb,args:=#[.func (.yield (w.heap.size+1)) #[] #[]] },W1,gf,
  #[.func (.yield (w.heap.size+1)) #[] #[]]++lb,W1,?_,?_,fun _ _=>trivial,?_,fun h=>(by simp[Fence.wide]at h),?_⟩
 ·rw[<-cM,kJ];exact run_enterLoop_outer _ _ _ _ _
 ·simp only[resolve,hg];simp[go_sem]
 ·simp[invoke,go_sem,eg]
 ·refine(callsIn_wide (n:=0 - 1)).2 ?_
  refine(dg (w.heap.size+1)
   (fun i T W=>I i T W/\W.heap[w.heap.size+1]?=some (.loop rec)/\W.heap[w.heap.size]?=some (.deferred (some []))/\∀ k,T k->w.heap.size+2<=k)
   (fun i T W=>∃ c,Ix c i T W/\W.heap[w.heap.size+1]?=some (.loop { rec with state:=.done,pending:=some c })/\W.heap[w.heap.size]?=some (.deferred (some [])))
   W1 (ae aG sv) (by omega)
   (fun i T T' A A' h hb hw=>⟨hI i T T' A A' h.1 (NL hb) hw,(hb.low _ (by omega)).trans h.2.1,(hb.low _ (by omega)).trans h.2.2.1,hTw hw (by have:=aD h.2.1;omega) h.2.2.2⟩)
   (fun i T T' A A' h hb hw=>by obtain⟨c,h1,h2,h3⟩:=h;exact⟨c,tV c i T T' A A' h1 (NL hb) hw,(hb.low _ (by omega)).trans h2,(hb.low _ (by omega)).trans h3⟩)
   ?_ ⟨hI 0 _ _ _ _ h0 (.of_below (Nat.le_refl _) sv) (gS.refl _ _ _),JZ,J2,fun k h=>h.elim⟩).mono ?_
  ·rintro i T W args hi hE ⟨Jv,hl,hk,hT⟩ eT;have aC:=aD hl
   have hnl:¬ ((T (w.heap.size+1)\/S (w.heap.size+1))/\w.heap.size+1<W.heap.size):=fun h=>by
    rcases h.1 with h|h
    ·have:=hT _ h;omega
    ·have:=hS _ h;omega
   refine Ff (B:=w.heap.size) (S:=fun k=>(T k\/S k)/\k<W.heap.size) (ps:=ps) (assign:=assign) (body:=body) (tmps:=a.tmps) (i:=i) (I:=fun i=>I i T) (Ix:=fun c i=>Ix c i T) _ (by omega) hnl (by rw[kJ];simp) hl (ze i args hE) (lI _ i T W args hi (by omega) aC hT hE Jv) ?_ ?_
   ·intro W3 W4 nK bS oV hc sf l4;exact⟨bS.size,fun k o hk ho hc=>bS.same k o (by omega) ho hc,.inl ⟨rfl,fun k hk aC=>bS.keep k ⟨hk,aC⟩,xI hc (by omega) sf,oV,l4 _ _ (Nat.le_refl _) (by omega) hk rfl,hT⟩⟩
   ·intro c W3 W4 nK Q6 oV hc sf l4;exact⟨Q6,fun k o hk ho hc=>l4 k o (by omega) (by omega) ho hc,.inr ⟨rfl,c,hIx1 hc (by omega) sf,oV,l4 _ _ (Nat.le_refl _) (by omega) hk rfl⟩⟩
  ·rintro e W2 ⟨⟨v,rfl⟩,T,(⟨hi,hl,hk,_⟩|⟨i,cZ,c,hi,hl,hk⟩)⟩
   ·have nA:=aD hl;exact⟨none,_,by have:=run_endLoop (P:=P) hl (by rw[kJ];simp);rw[this,kJ],xo _ T _ (Nat.le_refl _) (xI (Chg.put _ hl (by omega) rfl) (by omega) hi) ((World.putObj_heap_other (by omega)).trans hk)⟩
   ·have nA:=aD hl;exact⟨some c,_,by have:=run_endLoop (P:=P) hl (by simp);rw[this],wpIn_wide.2 (xh _ c i T _ (Nat.le_refl _) cZ (hIx1 (Chg.put _ hl (by omega) rfl) (by omega) hi) ((World.putObj_heap_other (by omega)).trans hk))⟩
theorem ym{F:Fence} {d:Nat} {P:Program} {ops:Array Oper} {rest:List Oper} {o:Oper} {a:Act} {w:World} {Q:Exit->Act->World->Prop} (lL:o.guard=none) (ty:TypeId) (x y:Operand) (ho:o.op=.store ty x y)
  (g:Nat) (cells:Array Value) (hx:a.eval x=.pointer (some ⟨g,0,none⟩)) (hy:a.eval y=.agg cells)
  (t:TypeId) (old:Array Value) (hg:w.heap[g]?=some (.cells old t (0,0))) (hi:(P.info? ty).map (·.size)=some cells.size)
  (qT:old.size=cells.size) (h1:cells.all (·.oneCell')=true)
  (h:wpListIn F d P ops Q rest (a.put o.dst undef) (w.setRow g cells)):wpListIn F d P ops Q (o :: rest) a w:=by
 refine wpListIn_plain lL fun K hK'=>?_
 unfold Oper.wpIn;refine⟨?_,?_⟩
 ·simp[Oper.about,ho]
 ·rw[Oper.semAt_plain F _ _ (by rw[ho];intro c lj;cases lj)];unfold execOp;simp only[ho,hx,hy,Instr.storeAt,Instr.sureAddr,Sem.run_bind,Sem.run_pure,Result.andThen_ok,run_storeVar_row w g t ty old cells hg hi qT h1];exact hK' _ _ h
theorem GO{F:Fence} {d:Nat} {P:Program} {ops:Array Oper} {Q:Exit->Act->World->Prop} {l:List Oper} {a:Act} {W:World} (I:World->Prop) (h:I W) (k:∀ W0,I W0->wpListIn F d P ops Q l a W0):wpListIn F d P ops Q l a W:=k W h
end Go.Proofs.YtmeaoneaephjeaaGreatDoor
namespace Go.Proofs.YtmeaoneaephjeaaGreatDoor
def iM(s:Nat):List (List Mv)->List (Nat × Mv)
 | []=>[]
 | l :: r=>l.map (fun m=>(s,m))++iM (s+1) r
def uW(l:List (List Mv)):List (Nat × Mv):=iM 0 l
theorem BD(s:Nat) (l:List (List Mv)):(iM s l).length=movesN l:=by
 induction l generalizing s with
 | nil=>rfl
 | cons x r ih=>simp[iM,movesN,ih]
theorem xy(l:List (List Mv)):(uW l).length=movesN l:=BD 0 l
def cnt(l:List (List Mv)) (s:Nat):Nat:=movesN (l.take s)
theorem pN(l:List (List Mv)):cnt l 0=0:=by simp[cnt,movesN]
theorem uX(l:List (List Mv)) (s:Nat) (h:l.length<=s):cnt l s=movesN l:=by simp[cnt,List.take_of_length_le h]
theorem pO(l:List (List Mv)) (s:Nat) (h:s<l.length):cnt l (s+1)=cnt l s+l[s].length:=by
 unfold cnt movesN;rw[List.take_succ_eq_append_getElem h];simp only[List.map_append,List.sum_append,List.map_cons,List.map_nil,List.sum_cons,List.sum_nil,Nat.add_zero]
theorem Hu(l:List (List Mv)) (s:Nat) (h:s<l.length):cnt l s+l[s].length<=movesN l:=by
 rw[<-pO l s h];have:movesN l=movesN (l.take (s+1))+movesN (l.drop (s+1)):=by unfold movesN;rw[<-List.sum_append,<-List.map_append,List.take_append_drop]
 unfold cnt;omega
theorem Hv(t:Nat) (l:List (List Mv)) (s j:Nat) (hs:s<l.length) (hj:j<l[s].length):(iM t l)[cnt l s+j]?=some (t+s,l[s][j]):=by
 induction l generalizing t s with
 | nil=>simp at hs
 | cons x r ih=>
  cases s with
  | zero=>
   simp only[List.getElem_cons_zero]at hj ⊢;simp[iM,pN,List.getElem?_append,hj]
  | succ s=>
   have vM:s<r.length:=by simpa using hs
   have nD:j<r[s].length:=by simpa using hj
   have e:cnt (x :: r) (s+1)=x.length+cnt r s:=by simp[cnt,movesN]
   rw[e];simp only[iM,List.getElem_cons_succ];rw[List.getElem?_append_right (by simp;omega)];have:x.length+cnt r s+j - (x.map fun m=>(t,m)).length=cnt r s+j:=by simp;omega
   rw[this,ih (t+1) s vM nD];simp;omega
theorem Ov(l:List (List Mv)) (s j:Nat) (hs:s<l.length) (hj:j<l[s].length):(uW l)[cnt l s+j]?=some (s,l[s][j]):=by
 have:=Hv 0 l s j hs hj;rw[Nat.zero_add]at this;exact this
def mvAt(l:List (List Mv)) (i:Nat):Nat × Mv:=(uW l).getD i (0,default)
theorem zW(l:List (List Mv)) (s j:Nat) (hs:s<l.length) (hj:j<l[s].length):mvAt l (cnt l s+j)=(s,l[s][j]):=by
 unfold mvAt;rw[List.getD_eq_getElem?_getD,Ov l s j hs hj];rfl
def nM(a:Adv) (i:Nat):List Mv:=a.states.getD (mvAt a.states i).2.to.toNat []
def qd(a:Adv) (i:Nat):Bool:=anyLt (nM a i).length fun k=>!iU (mvAt a.states i).2.r.f ((nM a i).getD k default).r.f
def growsB(a:Adv):Bool:=!anyLt (movesN a.states) (qd a)
def advE(a:Adv):Int:=
 if a.n<1\/5<a.n then 2
 else if a.states.length<1\/256<a.states.length\/4096<movesN a.states then 5
 else if bm a.states.length (fun s=>stateE a (a.states.getD s []))≠0 then bm a.states.length (fun s=>stateE a (a.states.getD s []))
 else if growsB a then 0 else 21
def probE(p:Pb):Int:=
 if taskE p.t≠0 then taskE p.t else if advE p.a≠0 then advE p.a
 else if p.t.n≠p.a.n then 22 else if p.rounds<0\/6<p.rounds then 2 else 0
theorem Vd{n f:Int} (h:ky n f=0):0<=f/\f<32:=by
 unfold ky iV at h;by_cases hn:n<1\/5<n
 ·rw[if_pos hn]at h;simp at h
 ·rw[if_neg hn]at h;simp only[ne_eq,not_true_eq_false,if_false]at h;by_cases hf:f<0\/¬ f / 2 ^ n.toNat=0
  ·rw[if_pos hf]at h;simp at h
  ·have h0:0<=f:=by omega
   have hq:f / 2 ^ n.toNat=0:=by omega
   have aC:f<2 ^ n.toNat:=by
    by_cases h':f<2 ^ n.toNat
    ·exact h'
    ·have h1:(1:Int)<=f / 2 ^ n.toNat:=(Int.le_ediv_iff_mul_le (Int.pow_pos (by decide))).2 (by omega);omega
   have hp:(2:Int) ^ n.toNat<=32:=by
    have:n=1\/n=2\/n=3\/n=4\/n=5:=by omega
    rcases this with h|h|h|h|h<;>subst h<;>decide
   exact⟨h0,by omega⟩
theorem DZ{a:Adv} {l:List Mv} {j:Nat} (h:dW a l j=0):(0<=(l.getD j default).r.f/\(l.getD j default).r.f<32)/\0<=(l.getD j default).to/\(l.getD j default).to<a.states.length:=by
 unfold dW at h;split at h
 ·omega
 ·rename_i h1;have L2:roundE (l.getD j default).r=0:=by simpa using h1
  have hp:ky (l.getD j default).r.g.n (l.getD j default).r.f=0:=by
   unfold roundE at L2;split at L2
   ·omega
   ·exact L2
  split at h
  ·omega
  ·split at h
   ·omega
   ·split at h
    ·omega
    ·exact⟨Vd hp,by omega,by omega⟩
theorem lw{a:Adv} (h:∀ s,s<a.states.length->stateE a (a.states.getD s [])=0) {s j:Nat} (hs:s<a.states.length) (hj:j<a.states[s].length) :
  (0<=a.states[s][j].r.f/\a.states[s][j].r.f<32)/\0<=a.states[s][j].to/\a.states[s][j].to<a.states.length:=by
 have h1:=h s hs;rw[show a.states.getD s []=a.states[s] by simp[hs]]at h1;unfold stateE at h1;rw[if_neg (by omega)]at h1;have:=DZ (fH h1 j hj)
 rwa [show a.states[s].getD j default=a.states[s][j] by simp[hj]]at this
theorem K7(l:List (List Mv)) (i:Nat) (h:i<movesN l):∃ s j,∃ hs:s<l.length,∃ _:j<l[s].length,i=cnt l s+j:=by
 have key:∀ n,n<=l.length->i<cnt l n->∃ s j,∃ hs:s<l.length,∃ _:j<l[s].length,i=cnt l s+j:=by
  intro n;induction n with
  | zero=>intro _ h;rw[pN]at h;omega
  | succ n ih=>
   intro hn h;by_cases aC:i<cnt l n
   ·exact ih (by omega) aC
   ·have zz:n<l.length:=by omega
    rw[pO l n zz]at h;exact⟨n,i - cnt l n,zz,by omega,by omega⟩
 exact key l.length (Nat.le_refl _) (by rw[uX l _ (Nat.le_refl _)];exact h)
theorem Vf{a:Adv} (h:∀ s,s<a.states.length->stateE a (a.states.getD s [])=0) {i:Nat} (hi:i<movesN a.states) :
  (0<=(mvAt a.states i).2.r.f/\(mvAt a.states i).2.r.f<32)/\0<=(mvAt a.states i).2.to/\(mvAt a.states i).2.to<a.states.length:=by
 obtain⟨s,j,hs,hj,rfl⟩:=K7 a.states i hi;rw[zW a.states s j hs hj];exact lw h hs hj
end Go.Proofs.YtmeaoneaephjeaaGreatDoor
