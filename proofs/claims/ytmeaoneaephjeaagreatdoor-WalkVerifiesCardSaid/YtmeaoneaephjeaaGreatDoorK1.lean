/-
  A part of the proof: lemmas and contracts that the parts behind it use. Each one's conditions are its own premises.
-/
import Derived.Handy
import Derived.LoopTactic
import Derived.Outline
import Derived.Lib.Hide
import Derived.Deep.QuietTactic
import Derived.BigQuiet
import Derived.Deep.Cut
import Derived.Deep.Light
import Derived.Shelf.Abstract
import Derived.RangeFuncNested
import Derived.WalkKit
import Derived.ProofKit
import Derived.OpenShut
import Derived.ShutString
import Derived.ChangeOld
import Derived.Below
import Derived.SizedLaws
import Derived.Deep.Slices
import Derived.Test.YtmeaoneaephjeaaGreatDoorRows
import Derived.Test.YtmeaoneaephjeaaGreatDoorProg
import Derived.ChangeKeysEq
import Derived.OwnWalkIn
import Derived.TacticsInMore
import Derived.LoopNIn
import Derived.LoopIn
import Derived.ArgAppend
import Derived.Laws.IdiomStrings
import Derived.Lib.SliceRun
import Derived.StillTailTactics
set_option maxRecDepth 100000
set_option maxHeartbeats 8000000
set_option linter.unusedVariables false
set_option linter.unusedSimpArgs false
namespace Go.Proofs.YtmeaoneaephjeaaGreatDoor
structure Gr where
 n:Int
 h0:Int
 h1:Int
 h2:Int
 h3:Int
 h4:Int
structure Rd where
 g:Gr
 f:Int
structure Mv where
 r:Rd
 to:Int
structure Adv where
 n:Int
 states:List (List Mv)
structure Cs where
 inp:List Int
 out:List (List Int)
 calm:List (List Int)
structure Tk where
 n:Int
 ins:Int
 outs:Int
 cases:List Cs
structure Pb where
 t:Tk
 a:Adv
 rounds:Int
instance:Inhabited Gr:=⟨⟨0,0,0,0,0,0⟩⟩
instance:Inhabited Rd:=⟨⟨default,0⟩⟩
instance:Inhabited Mv:=⟨⟨default,0⟩⟩
instance:Inhabited Cs:=⟨⟨[],[],[]⟩⟩
instance:DecidableEq Gr:=fun a b=>decidable_of_iff (a.n=b.n/\a.h0=b.h0/\a.h1=b.h1/\a.h2=b.h2/\a.h3=b.h3/\a.h4=b.h4) (by cases a;cases b;simp)
instance:DecidableEq Rd:=fun a b=>decidable_of_iff (a.g=b.g/\a.f=b.f) (by cases a;cases b;simp)
def Gr.hear(g:Gr) (k:Nat):Int:=match k with|0=>g.h0|1=>g.h1|2=>g.h2|3=>g.h3|4=>g.h4|_=>0
def a8(n:Nat) (f:Nat->Int):Int:=match n with|0=>0|m+1=>if a8 m f≠0 then a8 m f else f m
theorem cH(n:Nat) (f:Nat->Int) (h:∀ j,j<n->f j=0):a8 n f=0:=by
 induction n with
 | zero=>rfl
 | succ m ih=>unfold a8;rw[ih (fun j hj=>h j (by omega))];simp;exact h m (by omega)
theorem Li(n k:Nat) (f:Nat->Int) (hk:k<n) (h:∀ j,j<k->f j=0) (hz:f k≠0):a8 n f=f k:=by
 induction n with
 | zero=>omega
 | succ m ih=>
  unfold a8;by_cases e:k=m
  ·subst e;rw[cH k f h];simp
  ·rw[ih (by omega)];simp[hz]
theorem bH{n:Nat} {f:Nat->Int} (k:Nat) (v:Int) (hk:k<n) (h:∀ j,j<k->f j=0) (hv:f k=v) (hz:v≠0):v=a8 n f:=by
 subst hv;exact(Li n k f hk h hz).symm
theorem aT{p:Nat->Prop} {k:Nat} (h:∀ j,j<k->p j) (hk:p k):∀ j,j<k+1->p j:=fun j hj=>by
 by_cases e:j=k
 ·subst e;exact hk
 ·exact h j (by omega)
theorem eV{n:Nat} {f:Nat->Int} (h:a8 n f=0):∀ j,j<n->f j=0:=by
 induction n with
 | zero=>intro j hj;omega
 | succ m ih=>
  unfold a8 at h;by_cases e:a8 m f=0
  ·simp[e]at h
   intro j hj;by_cases ej:j=m
   ·subst ej;exact h
   ·exact ih e j (by omega)
  ·simp[e]at h
def firstIx(n:Nat) (p:Nat->Bool):Int:=match n with|0=>-1|m+1=>if firstIx m p≠-1 then firstIx m p else if p m then m else -1
theorem eC(n:Nat) (p:Nat->Bool) (h:∀ j,j<n->p j=false):firstIx n p=-1:=by
 induction n with
 | zero=>rfl
 | succ m ih=>unfold firstIx;rw[ih (fun j hj=>h j (by omega))];simp[h m (by omega)]
theorem dF(n k:Nat) (p:Nat->Bool) (hk:k<n) (h:∀ j,j<k->p j=false) (hz:p k=true):firstIx n p=k:=by
 induction n with
 | zero=>omega
 | succ m ih=>
  unfold firstIx;by_cases e:k=m
  ·subst e;rw[eC k p h];simp[hz]
  ·rw[ih (by omega)];simp
theorem bD(n:Nat) (p:Nat->Bool):(firstIx n p=-1/\∀ j,j<n->p j=false)\/∃ k,k<n/\firstIx n p=k/\p k=true/\∀ j,j<k->p j=false:=by
 induction n with
 | zero=>exact .inl ⟨rfl,fun j hj=>by omega⟩
 | succ m ih=>
  rcases ih with ⟨h,hn⟩|⟨k,hk,h,hp,hn⟩
  ·by_cases e:p m=true
   ·exact .inr ⟨m,by omega,by rw[dF (m+1) m p (by omega) hn e],e,hn⟩
   ·refine .inl ⟨eC _ _ (fun j hj=>?_),fun j hj=>?_⟩ <;>
    ·by_cases ej:j=m
     ·subst ej;simpa using e
     ·exact hn j (by omega)
  ·exact .inr ⟨k,by omega,by rw[dF (m+1) k p (by omega) hn hp],hp,hn⟩
theorem lX(n:Nat) (f g:Nat->Bool) (h:∀ j,j<n->f j=g j):firstIx n f=firstIx n g:=by
 induction n with
 | zero=>rfl
 | succ m ih=>unfold firstIx;rw[ih (fun j hj=>h j (by omega)),h m (by omega)]
def anyLt(n:Nat) (p:Nat->Bool):Bool:=match n with|0=>false|m+1=>anyLt m p || p m
theorem eD(n:Nat) (p:Nat->Bool) (h:∀ j,j<n->p j=false):anyLt n p=false:=by
 induction n with
 | zero=>rfl
 | succ m ih=>unfold anyLt;rw[ih (fun j hj=>h j (by omega)),h m (by omega)];rfl
theorem dV(n k:Nat) (p:Nat->Bool) (hk:k<n) (h:p k=true):anyLt n p=true:=by
 induction n with
 | zero=>omega
 | succ m ih=>
  unfold anyLt;by_cases e:k=m
  ·subst e;simp[h]
  ·rw[ih (by omega)];rfl
theorem kI(n:Nat) (p:Nat->Bool):anyLt n p=true↔∃ k,k<n/\p k=true:=by
 constructor
 ·intro h
  induction n with
  | zero=>simp[anyLt]at h
  | succ m ih=>
   unfold anyLt at h;cases hm:anyLt m p with
   | true=>obtain⟨k,hk,hp⟩:=ih hm;exact⟨k,by omega,hp⟩
   | false=>rw[hm]at h;exact⟨m,by omega,by simpa using h⟩
 ·rintro⟨k,hk,hp⟩;exact dV n k p hk hp
theorem fH(n:Nat) (p:Nat->Bool):anyLt n p=false↔∀ k,k<n->p k=false:=by
 constructor
 ·intro h k hk
  cases hp:p k with
  | false=>rfl
  | true=>rw[dV n k p hk hp]at h;cases h
 ·exact eD n p
theorem Jw(n:Nat) (f g:Nat->Bool) (h:∀ j,j<n->f j=g j):anyLt n f=anyLt n g:=by
 induction n with
 | zero=>rfl
 | succ m ih=>unfold anyLt;rw[ih (fun j hj=>h j (by omega)),h m (by omega)]
theorem oT(n:Nat) (p:Nat->Bool):decide (0<=firstIx n p)=anyLt n p:=by
 rcases bD n p with ⟨h,hn⟩|⟨k,hk,h,hp,_⟩
 ·rw[h,eD n p hn];rfl
 ·rw[h,dV n k p hk hp];simp
def iF(n:Int):Int:=if n<1\/5<n then 1 else 0
def jQ(n set:Int):Int:=if iF n≠0 then iF n else if set<0\/set / 2 ^ n.toNat≠0 then 2 else 0
def hasB(set:Int) (p:Nat):Bool:=set / 2 ^ p % 2 == 1
def lY(n x:Int) (p:Nat):Int:=
 if n<=p then(if x≠0 then 3 else 0) else if x<0\/2 ^ n.toNat - 1<x then 2 else if hasB x p then 0 else 3
def gH(g:Gr):Int:=if g.n<1\/5<g.n then 2 else a8 5 fun p=>lY g.n (g.hear p) p
def cmpI(a b:Int):Int:=if a<b then -1 else if b<a then 1 else 0
def eZ(a b:Gr):Int:=if cmpI a.n b.n≠0 then cmpI a.n b.n else a8 5 fun p=>cmpI (a.hear p) (b.hear p)
def roundE(r:Rd):Int:=if gH r.g≠0 then gH r.g else jQ r.g.n r.f
def roundC(a b:Rd):Int:=if eZ a.g b.g≠0 then eZ a.g b.g else cmpI a.f b.f
theorem rF{α:Type} {l:List α} {k:Nat} (h:k<l.length):l.drop k=l[k] :: l.drop (k+1):=(List.drop_eq_getElem_cons h)
def ordV:List Int->List Int->Int
 | [],[]=>0
 | [],_ :: _=>-1
 | _ :: _,[]=>1
 | a :: r,b :: s=>if a<b then -1 else if b<a then 1 else ordV r s
theorem wo(b:List Int):ordV [] b=if 0<b.length then -1 else 0:=by cases b<;>simp[ordV]
theorem rG(a:List Int):ordV a a=0:=by induction a with|nil=>rfl|cons x r ih=>simp[ordV,ih]
theorem Nb{a b:List Int} (h:ordV a b=0):a=b:=by
 induction a generalizing b with
 | nil=>cases b with|nil=>rfl|cons y s=>simp[ordV]at h
 | cons x r ih=>
  cases b with
  | nil=>simp[ordV]at h
  | cons y s=>
   unfold ordV at h;split at h
   ·omega
   ·split at h
    ·omega
    ·rw[ih h,show x=y by omega]
def vectorE(v:List Int) (n most:Int):Int:=if (v.length:Int)≠n then 15 else if anyLt v.length (fun i=>decide (v.getD i 0<0) || decide (most<=v.getD i 0)) then 2 else 0
def unordB(l:List (List Int)) (i:Nat):Bool:=decide (0<i)&&decide (0<=ordV (l.getD (i - 1) []) (l.getD i []))
def eqV(a b:List Int):Bool:=decide (a=b)
def hasV(l:List (List Int)) (v:List Int):Bool:=anyLt l.length fun i=>eqV (l.getD i []) v
def iY(t:Tk) (c:Cs) (i:Nat):Int:=if vectorE (c.out.getD i []) t.n t.outs≠0 then vectorE (c.out.getD i []) t.n t.outs else if unordB c.out i then 14 else 0
def iP(c:Cs) (i:Nat):Int:=if hasV c.out (c.calm.getD i []) then(if unordB c.calm i then 14 else 0) else 6
def vectorsE(t:Tk) (c:Cs):Int:=
 if c.out.length<1\/1024<c.out.length then 5
 else if a8 c.out.length (iY t c)≠0 then a8 c.out.length (iY t c) else a8 c.calm.length (iP c)
def eH(t:Tk) (i:Nat):Int:=
 if vectorE (t.cases.getD i default).inp t.n t.ins≠0 then vectorE (t.cases.getD i default).inp t.n t.ins
 else if 0<i/\0<=ordV (t.cases.getD (i - 1) default).inp (t.cases.getD i default).inp then 14 else vectorsE t (t.cases.getD i default)
def taskE(t:Tk):Int:=
 if t.n<1\/5<t.n\/t.ins<1\/8<t.ins\/t.outs<1\/8<t.outs then 2
 else if t.cases.length<1\/1024<t.cases.length then 5 else a8 t.cases.length (eH t)
def movesN(l:List (List Mv)):Nat:=(l.map List.length).sum
def dG(a:Adv) (l:List Mv) (i:Nat):Int:=
 if roundE (l.getD i default).r≠0 then roundE (l.getD i default).r
 else if (l.getD i default).r.g.n≠a.n then 22
 else if 0<i/\0<=roundC (l.getD (i - 1) default).r (l.getD i default).r then 14
 else if (l.getD i default).to<0\/(a.states.length:Int)<=(l.getD i default).to then 2 else 0
def stateE(a:Adv) (l:List Mv):Int:=if l.length=0 then 19 else a8 l.length (dG a l)
def iE(x y:Int):Bool:=!anyLt 5 fun p=>hasB x p&&!hasB y p
end Go.Proofs.YtmeaoneaephjeaaGreatDoor
namespace Go.Proofs.YtmeaoneaephjeaaGreatDoor
open Go.RowKit Go Go.Shelf
def bI(x:Int):Prop:=-9223372036854775808<=x/\x<=9223372036854775807
theorem fj{w:World} {a:Addr} {v:Value} (h:w.cell? a=some v):a.block<w.heap.size:=by
 unfold World.cell? at h;split at h
 ·rename_i hb;exact(Array.getElem?_eq_some_iff.1 hb).1
 ·cases h
theorem ai{w w':World} (hb:Below w.heap.size w w') {a:Addr} {v:Value} (h:w.cell? a=some v):w'.cell? a=some v:=(hb.cell (fj h)).trans h
theorem Lj{B:Nat} {W w1:World} (hb:Below B W w1):(∀ b o,b<B->w1.cell? ⟨b,o,none⟩=W.cell? ⟨b,o,none⟩)/\(∀ b o,b<B->w1.frozen? ⟨b,o,none⟩=W.frozen? ⟨b,o,none⟩):=
 ⟨fun b o h=>hb.cell (p:=⟨b,o,none⟩) h,fun b o h=>hb.frozen (p:=⟨b,o,none⟩) h⟩
theorem aA{k:IntKind} {a b:Int} (h:a=b):Ending.returned (.int k a)=.returned (.int k b):=by rw[h]
theorem aN{a b:Bool} (h:a=b):Ending.returned (.bool a)=.returned (.bool b):=by rw[h]
theorem ae{a b c:World} (h:Below a.heap.size a b) (k:Below b.heap.size b c):Below a.heap.size a c:=h.trans (k.mono h.size)
theorem dZ{B:Nat} {a w:World} (h:Below B a w) (n:Nat):Below B a (w.drewN n):=⟨h.os,h.tape,h.output,h.size,h.block⟩
theorem ak(w:World) (o:Obj):(w.alloc o).heap[w.heap.size]?=some o:=by
 show (w.heap.push o)[w.heap.size]?=some o
 simp
theorem am{w:World} {k:Nat} {x:Obj} (o:Obj) (h:w.heap[k]?=some x):(w.alloc o).heap[k]?=some x:=
 (Below.heap_alloc w o k (Array.getElem?_eq_some_iff.1 h).1).trans h
theorem ar{w:World} {k:Nat} {x:Obj} (h:w.heap[k]?=some x):k<w.heap.size:=(Array.getElem?_eq_some_iff.1 h).1
theorem af{w w':World} (hb:Below w.heap.size w w') {k:Nat} {x:Obj} (h:w.heap[k]?=some x):w'.heap[k]?=some x:=
 (hb.block k (Array.getElem?_eq_some_iff.1 h).1).trans h
theorem ab{w:World} {B:Nat} {cs:Array Value} {t:TypeId} {f:Nat × Nat} (h:w.heap[B]?=some (.cells cs t f)) (o:Nat):w.cell? ⟨B,o,none⟩=cs[o]?:=by
 simp[World.cell?,h]
theorem aE{w:World} {B:Nat} {cs:Array Value} {t:TypeId} (h:w.heap[B]?=some (.cells cs t (0,0))) (o:Nat):w.frozen? ⟨B,o,none⟩=false:=by
 simp[World.frozen?,h]
theorem bj{P:Program} {c:Code} {Q:Exit->Act->World->Prop} {a:Act} {W:World} (I:World->Prop) (h:I W) (k:∀ W0,I W0->c.wp P Q a W0):c.wp P Q a W:=k W h
def CK(w w':World):Prop:=∀ (k:Nat) (o:Obj),w.heap[k]?=some o->o.isCells=true->w'.heap[k]?=some o
theorem CK.of_below{w w':World} (h:Below w.heap.size w w'):CK w w':=fun _ _ hk _=>af h hk
theorem CK.cell{w w':World} (h:CK w w') {a:Addr} {v:Value} (hc:w.cell? a=some v):w'.cell? a=some v:=by
 unfold World.cell? at hc ⊢;cases ho:w.heap[a.block]? with
 | none=>simp[ho]at hc
 | some o=>cases o<;>simp only[ho]at hc<;>first|(rw[h _ _ ho rfl];exact hc)|cases hc
def Up{α:Type} (R:World->Nat->Nat->α->Prop):Prop:=∀ (w w':World) (b o:Nat) (x:α),CK w w'->R w b o x->R w' b o x
theorem aL{P:Program} {f:FuncId} {args:Array Value} {R:Ending->World->Prop} {W:World} (I:World->Prop) (h:I W) (k:∀ W0,I W0->Calls P f args W0 R):Calls P f args W R:=k W h
def eM{α:Type} (k:Nat) (R:World->Nat->Nat->α->Prop) (w:World) (v:Value) (l:List α):Prop:=
 ∃ a cap,v=.slice a l.length cap/\(l.length<=cap/\cap<=9223372036854775807/\(a=none->cap=0))/\l.length<=17592186044416/\∀ i x,l[i]?=some x->∃ b off,a=some ⟨b,off,none⟩/\R w b (off+i * k) x
theorem eM.ck{α:Type} {k:Nat} {R:World->Nat->Nat->α->Prop} (hR:Up R) {w w':World} {v:Value} {l:List α} (hb:CK w w') (h:eM k R w v l):eM k R w' v l:=by
 obtain⟨a,cap,rfl,h1,h2,h3⟩:=h;refine⟨a,cap,rfl,h1,h2,fun i x hx=>?_⟩;obtain⟨b,off,ha,hr⟩:=h3 i x hx;exact⟨b,off,ha,hR _ _ _ _ _ hb hr⟩
theorem eM.up{α:Type} {k:Nat} {R:World->Nat->Nat->α->Prop} (hR:Up R) {w w':World} {v:Value} {l:List α} (hb:Below w.heap.size w w') (h:eM k R w v l):eM k R w' v l:=h.ck hR (.of_below hb)
theorem eM.at{α:Type} {k:Nat} {R:World->Nat->Nat->α->Prop} {w:World} {v:Value} {l:List α} (h:eM k R w v l) :
  ∃ a cap,v=.slice a l.length cap/\l.length<=cap/\l.length<=17592186044416/\∀ i (hi:i<l.length),∃ b off,a=some ⟨b,off,none⟩/\R w b (off+i * k) l[i]:=by
 obtain⟨a,cap,rfl,h1,h2,h3⟩:=h;exact⟨a,cap,rfl,h1.1,h2,fun i hi=>h3 i _ (List.getElem?_eq_getElem hi)⟩
theorem ap{α:Type} {l:List α} {i:Nat} (d:α) (h:i<l.length):l.getD i d=l[i]:=by simp[h]
def mf{α:Type} (k:Nat) (R:World->Nat->Nat->α->Prop) (w:World) (b o:Nat) (l:List α):Prop:=∃ v,w.cell? ⟨b,o,none⟩=some v/\eM k R w v l
theorem zg{α:Type} {k:Nat} {R:World->Nat->Nat->α->Prop} (hR:Up R):Up (mf k R):=fun _ _ _ _ _ hb ⟨v,hc,hs⟩=>⟨v,hb.cell hc,hs.ck hR hb⟩
def fU(w:World) (b o:Nat) (x:Int):Prop:=w.cell? ⟨b,o,none⟩=some (.int .i64 x)/\bI x
theorem up_int:Up fU:=fun _ _ _ _ _ hb h=>⟨hb.cell h.1,h.2⟩
abbrev aY:=eM 1 fU
abbrev xo:=mf 1 fU
theorem up_ints:Up xo:=zg up_int
abbrev dR:=eM 1 xo
abbrev tW:=mf 1 xo
theorem up_vecs:Up tW:=zg up_ints
def Gj(w:World) (b o:Nat) (c:Cs):Prop:=xo w b o c.inp/\tW w b (o+1) c.out/\tW w b (o+2) c.calm
theorem up_case:Up Gj:=fun _ _ _ _ _ hb h=>⟨up_ints _ _ _ _ _ hb h.1,up_vecs _ _ _ _ _ hb h.2.1,up_vecs _ _ _ _ _ hb h.2.2⟩
abbrev bK:=eM 3 Gj
def mo(w:World) (b o:Nat) (r:Rd):Prop:=
 fU w b o r.g.n/\fU w b (o+1) r.g.h0/\fU w b (o+2) r.g.h1/\fU w b (o+3) r.g.h2/\fU w b (o+4) r.g.h3/\fU w b (o+5) r.g.h4/\fU w b (o+6) r.f
theorem up_round:Up mo:=fun _ _ _ _ _ hb ⟨h0,h1,h2,h3,h4,h5,h6⟩=>
 ⟨up_int _ _ _ _ _ hb h0,up_int _ _ _ _ _ hb h1,up_int _ _ _ _ _ hb h2,up_int _ _ _ _ _ hb h3,up_int _ _ _ _ _ hb h4,up_int _ _ _ _ _ hb h5,up_int _ _ _ _ _ hb h6⟩
abbrev ka:=eM 7 mo
def Bm(w:World) (b o:Nat) (m:Mv):Prop:=mo w b o m.r/\fU w b (o+7) m.to
theorem up_move:Up Bm:=fun _ _ _ _ _ hb h=>⟨up_round _ _ _ _ _ hb h.1,up_int _ _ _ _ _ hb h.2⟩
abbrev og:=eM 8 Bm
abbrev De:=mf 8 Bm
theorem up_moves:Up De:=zg up_move
abbrev bk:=eM 1 De
abbrev Gr.v(g:Gr):Value:=.agg #[.int .i64 g.n,.int .i64 g.h0,.int .i64 g.h1,.int .i64 g.h2,.int .i64 g.h3,.int .i64 g.h4]
abbrev Rd.v(r:Rd):Value:=.agg #[.int .i64 r.g.n,.int .i64 r.g.h0,.int .i64 r.g.h1,.int .i64 r.g.h2,.int .i64 r.g.h3,.int .i64 r.g.h4,.int .i64 r.f]
abbrev Mv.v(m:Mv):Value:=.agg #[.int .i64 m.r.g.n,.int .i64 m.r.g.h0,.int .i64 m.r.g.h1,.int .i64 m.r.g.h2,.int .i64 m.r.g.h3,.int .i64 m.r.g.h4,.int .i64 m.r.f,.int .i64 m.to]
structure ExtW (w:World) where
 val:World
 ext:Below w.heap.size w val
instance (w:World):Inhabited (ExtW w):=⟨⟨w,Below.refl _ _⟩⟩
theorem aB{P:Program} {id:Nat} {Q:Exit->Act->World->Prop} {a:Act} {w:World} {l:List Oper} (hm:P.follows .mixedOrders=true) (hB:Region.lexB .any l.toArray=true)
  (h:wpQuiet P l.toArray (fun w'=>∃ x:ExtW w,w'=x.val) (fun a'=>∀ w',(∃ x:ExtW w,w'=x.val)->Q .normal a' w') l a):(Code.region id l.toArray true).wp P Q a w:=
 wp_region_quiet (C:=fun w'=>∃ x:ExtW w,w'=x.val) hm hB ⟨⟨w.drew,(Below.refl _ _).drew⟩,rfl⟩ (by simpa using h)
theorem Calls.ext_of{P:Program} {f:FuncId} {args:Array Value} {w:World} {x:ExtW w} {v:Value}
  (h:Calls P f args x.val fun e w'=>e=.returned v/\Below x.val.heap.size x.val w'):Calls P f args x.val fun e w''=>e=.returned v/\∃ p:ExtW w,w''=p.val:=
 h.mono fun _ w'' ⟨he,hb⟩=>⟨he,⟨w'',ae x.ext hb⟩,rfl⟩
theorem ExtW.cell{w:World} (x:ExtW w) {a:Addr} {v:Value} (h:w.cell? a=some v):x.val.cell? a=some v:=ai x.ext h
end Go.Proofs.YtmeaoneaephjeaaGreatDoor
namespace Go.Proofs.YtmeaoneaephjeaaGreatDoor
open Go.RowKit Go Go.Shelf
theorem aa{p:Prop} (h:p):Hid p:=Lib.hid h
theorem cU{α:Type} {a b:α} (h:some a=some b):a=b:=Option.some.inj h
theorem fI{a:Value}:∀ c,some a=some c->a=c:=fun _ h=>Option.some.inj h
end Go.Proofs.YtmeaoneaephjeaaGreatDoor
namespace Go.Proofs.YtmeaoneaephjeaaGreatDoor
open Go.ChangeShapes Go.WideShapes Go.ChangeAt Go.RowKit Go Go.Deep
section
variable {H : Type} {enc : TypeId × Value → H} {w : World}
abbrev fA(enc:TypeId × Value->H) (w:World) (fuel:Nat) (t:TypeId) (cs:List Value) (x:DataW H × List MemPlace):Prop:=DataW.trod enc Tryz.prog w 0 (fun _=>true) true fuel t cs=some x
def lH(t:TypeId) (d:DataW H):Prop:=∀ n∈d.weights Tryz.prog t,n<=reachBytes
theorem mR{n:Int} (h:(Lit.int .i64 n).wf=true):bI n:=by
 simp[Lit.wf,IntKind.min,IntKind.max,IntKind.bits,IntKind.signed]at h;unfold bI;omega
theorem Bq{ts:List TypeId} {ds:List (DataW H)} {j:Nat} {t:TypeId} {d:DataW H} (ht:ts[j]?=some t) (hd:ds[j]?=some d) {n:Nat} (hn:n∈d.weights Tryz.prog t):n∈DataW.weightsEach Tryz.prog ts ds:=DataW.weights_mem_each ht hd n hn
theorem Df{e:TypeId} {ds:List (DataW H)} {d:DataW H} (hd:d∈ds) {n:Nat} (hn:n∈d.weights Tryz.prog e):n∈DataW.weightsAll Tryz.prog e ds:=by
 induction ds with
 | nil=>cases hd
 | cons x r ih=>
  simp only[DataW.weightsAll,List.mem_append];rcases List.mem_cons.1 hd with rfl|h
  ·exact .inl hn
  ·exact .inr (ih h)
theorem gy{fs:Array Field} {t:TypeId} {fuel:Nat} {cs:List Value} {x:DataW H × List MemPlace} (ht:Tryz.prog.underlying t=some (.struct fs)) (h:fA enc w fuel t cs x) (hz:lH t x.1) :
  cs.length=Tryz.prog.cellsOf t/\∃ n,∀ (i:Nat) (f:Field),fs[i]?=some f->∃ y,fA enc w n f.type ((cs.drop f.offset).take (Tryz.prog.cellsOf f.type)) y/\lH f.type y.1:=by
 obtain⟨xs,n,_,rfl,hl,hx,hf⟩:=DataW.trod_struct ht h;refine⟨hl,n,fun i f hi=>?_⟩;have az:i<xs.length:=by have:=(Array.getElem?_eq_some_iff.1 hi).1;omega
 refine⟨xs[i],(hf i f hi).trans (List.getElem?_eq_getElem az),fun m hm=>hz m ?_⟩;simp only[DataW.weights,ht];exact Bq (j:=i) (by simp[hi]) (by simp[az]) hm
def pg(enc:TypeId × Value->H) (w:World) (t:TypeId) (k:Nat):Prop:=∀ fuel cs x,fA enc w fuel t cs x->cs.length=k/\∀ j,j<k->∃ n,cs[j]?=some (.int .i64 n)/\bI n
theorem vg{t:TypeId} (ht:Tryz.prog.underlying t=some (.int .i64)):pg enc w t 1:=fun fuel cs x h=>by
 obtain⟨n,rfl,_,hw⟩:=DataW.trod_int ht h;refine⟨rfl,fun j hj=>⟨n,?_,mR hw⟩⟩;obtain rfl:j=0:=by omega
 rfl
theorem xp{t e:TypeId} {m:Nat} (ht:Tryz.prog.underlying t=some (.array m e)) (he:Tryz.prog.underlying e=some (.int .i64)) (h1:Tryz.prog.cellsOf e=1) (hk:Tryz.prog.cellsOf t=m):pg enc w t m:=fun fuel cs x h=>by
 obtain⟨xs,n,_,_,hl,hx,hf⟩:=DataW.trod_array ht h;refine⟨by rw[hl,hk],fun j hj=>?_⟩;have h2:=hf j hj;rw[h1,Nat.mul_one,List.getElem?_eq_getElem (by omega)]at h2;obtain⟨v,e1,_,hw⟩:=DataW.trod_int he h2;refine⟨v,?_,mR hw⟩;have h3:((cs.drop j).take 1)[0]?=cs[j]?:=by simp
 rw[<-h3,e1];rfl
theorem vh{t:TypeId} {f0 f1:Field} {k0 k1:Nat} (ht:Tryz.prog.underlying t=some (.struct #[f0,f1])) (o0:f0.offset=0) (o1:f1.offset=k0) (c0:Tryz.prog.cellsOf f0.type=k0) (c1:Tryz.prog.cellsOf f1.type=k1) (ct:Tryz.prog.cellsOf t=k0+k1)
  (h0:pg enc w f0.type k0) (h1:pg enc w f1.type k1):pg enc w t (k0+k1):=fun fuel cs x h=>by
 obtain⟨xs,n,_,_,hl,hx,hf⟩:=DataW.trod_struct ht h;refine⟨by rw[hl,ct],fun j hj=>?_⟩;have g0:=hf 0 f0 rfl;have g1:=hf 1 f1 rfl;have dU:xs.length=2:=hx;rw[o0,c0,List.getElem?_eq_getElem (by omega)]at g0;rw[o1,c1,List.getElem?_eq_getElem (by omega)]at g1;by_cases nC:j<k0
 ·obtain⟨v,e,hv⟩:=(h0 _ _ _ g0).2 j nC
  refine⟨v,?_,hv⟩;rw[<-e];simp[List.getElem?_take_of_lt nC]
 ·obtain⟨v,e,hv⟩:=(h1 _ _ _ g1).2 (j - k0) (by omega)
  refine⟨v,?_,hv⟩;rw[<-e,List.getElem?_take_of_lt (by omega),List.getElem?_drop,show k0+(j - k0)=j by omega]
def tY{α:Type} (enc:TypeId × Value->H) (w:World) (t:TypeId) (k:Nat) (R:World->Nat->Nat->α->Prop):Prop:=
 ∀ fuel cs x b off,fA enc w fuel t cs x->lH t x.1->(∀ j,j<k->w.cell? ⟨b,off+j,none⟩=cs[j]?)->∃ a:α,R w b off a
theorem opn_int:tY enc w 3 1 fU:=fun fuel cs x b off h _ hc=>by
 obtain⟨n,rfl,_,hw⟩:=DataW.trod_int Tryz.underlying3 h;exact⟨n,(hc 0 (by omega)).trans rfl,mR hw⟩
theorem wu{a:Addr} {j:Nat} (h:a.spot=none):a.add j=⟨a.block,a.off+j,none⟩:=by
 obtain⟨b,o,s⟩:=a;simp at h;subst h;unfold Addr.add;split<;>simp_all
theorem mq{α:Type} {t e:TypeId} {k:Nat} {R:World->Nat->Nat->α->Prop} (hu:Tryz.prog.underlying t=some (.slice e)) (hk:Tryz.prog.cellsOf e=k) (eT:0<k) (gw:8<=Tryz.prog.bytesOf e) (he:tY enc w e k R)
  {fuel:Nat} {cs:List Value} {x:DataW H × List MemPlace} (h:fA enc w fuel t cs x) (hz:lH t x.1):∃ v l,cs=[v]/\eM k R w v l:=by
 rcases open_slice hu h with ⟨rfl,_⟩|⟨a,len,cap,m,n,D,Pl,rfl,_,hl,hm,CT,rfl,hi⟩
 ·exact⟨_,[],rfl,none,0,rfl,⟨by simp,by omega,fun _=>rfl⟩,by simp,fun i x hx=>by simp at hx⟩
 ·have sQ:m=cap:=by rw[CT];rfl
  subst sQ
  have hw:(((List.range len).map D).length+((List.range (m - len)).map fun j=>D (len+j)).length) * Tryz.prog.bytesOf e<=reachBytes:=by
   refine hz _ ?_;simp only[DataW.weights,hu];exact List.mem_cons_self
  have xg:m * 8<=reachBytes:=by
   refine Nat.le_trans (Nat.mul_le_mul_left m gw) ?_;refine Nat.le_trans ?_ hw;rw[List.length_map,List.length_map,List.length_range,List.length_range];exact Nat.mul_le_mul_right _ (by omega)
  have hw3:m<=17592186044416:=by unfold reachBytes at xg;omega
  have hsp0:0<len->a.spot=none:=fun h0=>by
   obtain⟨cs',hc,ht⟩:=hi 0 (by omega);rw[hk]at hc;obtain⟨_,bU,CO⟩:=World.cells?_some hc;have h1:=CO 0 eT;rw[List.getElem?_eq_getElem (by omega)]at h1;have:=World.cell?_spot h1;simpa[Addr.add] using this
  have key:∀ i:Fin len,∃ y:α,a.spot=none/\R w a.block (a.off+i.1 * k) y:=fun i=>by
   obtain⟨cs',hc,ht⟩:=hi i.1 (by have:=i.2;omega);rw[hk]at hc;obtain⟨_,bU,CO⟩:=World.cells?_some hc;have hsp:=hsp0 (by have:=i.2;omega)
   have bP:lH e (D i.1):=fun q hq=>hz q (by
    simp only[DataW.weights,hu];refine List.mem_cons_of_mem _ (List.mem_append_left _ (Df (d:=D i.1) ?_ hq))
    exact List.mem_map.2 ⟨i.1,List.mem_range.2 i.2,rfl⟩)
   obtain⟨y,hy⟩:=he _ _ _ a.block (a.off+i.1 * k) ht bP (fun j hj=>by
    rw[<-CO j hj,wu hsp,wu rfl])
   exact⟨y,hsp,hy⟩
  refine⟨_,List.ofFn fun i=>Classical.choose (key i),rfl,some a,m,by rw[List.length_ofFn],⟨by rw[List.length_ofFn];omega,by omega,fun h=>by cases h⟩,by rw[List.length_ofFn];omega,fun i y hy=>?_⟩;have gN:i<len:=by have:=(List.getElem?_eq_some_iff.1 hy).1;simpa using this
  have e1:y=Classical.choose (key ⟨i,gN⟩):=by
   rw[List.getElem?_ofFn]at hy;simp[gN]at hy;exact hy.symm
  obtain⟨hs,hr⟩:=Classical.choose_spec (key ⟨i,gN⟩);refine⟨a.block,a.off,?_,by rw[e1];exact hr⟩;obtain⟨b,o,s⟩:=a;simp at hs;subst hs;rfl
theorem xr{α:Type} {t e:TypeId} {k:Nat} {R:World->Nat->Nat->α->Prop} (hu:Tryz.prog.underlying t=some (.slice e)) (hk:Tryz.prog.cellsOf e=k) (eT:0<k) (gw:8<=Tryz.prog.bytesOf e) (he:tY enc w e k R):tY enc w t 1 (mf k R):=fun fuel cs x b off h hz hc=>by
 obtain⟨v,l,rfl,hl⟩:=mq hu hk eT gw he h hz;exact⟨l,v,(hc 0 (by omega)).trans rfl,hl⟩
theorem Gk{cs:List Value} {j:Nat} (h:j<cs.length):(cs.drop j).take 1=[cs[j]]:=by
 rw[List.drop_eq_getElem_cons h];rfl
theorem Tryz.cInt:Tryz.prog.cellsOf 3=1:=by kernel_rfl
theorem Tryz.cInts:Tryz.prog.cellsOf 38=1:=by kernel_rfl
theorem Tryz.cVecs:Tryz.prog.cellsOf 56=1:=by kernel_rfl
theorem Tryz.cCase:Tryz.prog.cellsOf 135=3:=by kernel_rfl
theorem Tryz.cGraph:Tryz.prog.cellsOf 139=6:=by kernel_rfl
theorem Tryz.cRound:Tryz.prog.cellsOf 141=7:=by kernel_rfl
theorem Tryz.cMove:Tryz.prog.cellsOf 143=8:=by kernel_rfl
theorem Tryz.cMoves:Tryz.prog.cellsOf 136=1:=by kernel_rfl
theorem opn_ints:tY enc w 38 1 xo:=xr Tryz.underlying38 Tryz.cInt (by omega) (of_decide_eq_true (by kernel_rfl)) opn_int
theorem opn_vecs:tY enc w 56 1 tW:=xr Tryz.underlying56 Tryz.cInts (by omega) (of_decide_eq_true (by kernel_rfl)) opn_ints
theorem opn_case:tY enc w 135 3 Gj:=fun fuel cs x b off h hz hc=>by
 obtain⟨hl,n,hf⟩:=gy Tryz.underlying135 h hz;rw[Tryz.cCase]at hl;obtain⟨y0,r0,z0⟩:=hf 0 _ rfl;obtain⟨y1,r1,z1⟩:=hf 1 _ rfl;obtain⟨y2,r2,z2⟩:=hf 2 _ rfl;change fA enc w n 38 ((cs.drop 0).take (Tryz.prog.cellsOf 38)) y0 at r0;change fA enc w n 56 ((cs.drop 1).take (Tryz.prog.cellsOf 56)) y1 at r1;change fA enc w n 56 ((cs.drop 2).take (Tryz.prog.cellsOf 56)) y2 at r2;rw[Tryz.cInts,Gk (by omega)]at r0;rw[Tryz.cVecs,Gk (by omega)]at r1 r2
 obtain⟨a0,h0⟩:=opn_ints _ _ _ b off r0 z0 (fun j hj=>by obtain rfl:j=0:=by omega
                                                         rw[hc 0 (by omega),List.getElem?_eq_getElem (by omega)];rfl)
 obtain⟨a1,h1⟩:=opn_vecs _ _ _ b (off+1) r1 z1 (fun j hj=>by obtain rfl:j=0:=by omega
                                                             rw[show off+1+0=off+1 by omega,hc 1 (by omega),List.getElem?_eq_getElem (by omega)];rfl)
 obtain⟨a2,h2⟩:=opn_vecs _ _ _ b (off+2) r2 z2 (fun j hj=>by obtain rfl:j=0:=by omega
                                                             rw[show off+2+0=off+2 by omega,hc 2 (by omega),List.getElem?_eq_getElem (by omega)];rfl)
 exact⟨⟨a0,a1,a2⟩,h0,h1,h2⟩
theorem allInt_graph:pg enc w 139 6:=vh (k0:=1) (k1:=5) Tryz.underlying139 rfl rfl Tryz.cInt (by kernel_rfl) Tryz.cGraph (vg Tryz.underlying3) (xp Tryz.underlying137 Tryz.underlying3 Tryz.cInt (by kernel_rfl))
theorem allInt_round:pg enc w 141 7:=vh (k0:=6) (k1:=1) Tryz.underlying141 rfl rfl Tryz.cGraph Tryz.cInt Tryz.cRound allInt_graph (vg Tryz.underlying3)
theorem allInt_move:pg enc w 143 8:=vh (k0:=7) (k1:=1) Tryz.underlying143 rfl rfl Tryz.cRound Tryz.cInt Tryz.cMove allInt_round (vg Tryz.underlying3)
theorem opn_round:tY enc w 141 7 mo:=fun fuel cs x b off h _ hc=>by
 have ha:=(allInt_round _ _ _ h).2;obtain⟨n0,e0,i0⟩:=ha 0 (by omega);obtain⟨n1,e1,i1⟩:=ha 1 (by omega);obtain⟨n2,e2,i2⟩:=ha 2 (by omega);obtain⟨n3,e3,i3⟩:=ha 3 (by omega);obtain⟨n4,e4,i4⟩:=ha 4 (by omega);obtain⟨n5,e5,i5⟩:=ha 5 (by omega);obtain⟨n6,e6,i6⟩:=ha 6 (by omega);exact⟨⟨⟨n0,n1,n2,n3,n4,n5⟩,n6⟩,⟨(hc 0 (by omega)).trans e0,i0⟩,⟨(hc 1 (by omega)).trans e1,i1⟩,⟨(hc 2 (by omega)).trans e2,i2⟩,⟨(hc 3 (by omega)).trans e3,i3⟩,⟨(hc 4 (by omega)).trans e4,i4⟩,⟨(hc 5 (by omega)).trans e5,i5⟩,⟨(hc 6 (by omega)).trans e6,i6⟩⟩
theorem opn_move:tY enc w 143 8 Bm:=fun fuel cs x b off h _ hc=>by
 have ha:=(allInt_move _ _ _ h).2;obtain⟨n0,e0,i0⟩:=ha 0 (by omega);obtain⟨n1,e1,i1⟩:=ha 1 (by omega);obtain⟨n2,e2,i2⟩:=ha 2 (by omega);obtain⟨n3,e3,i3⟩:=ha 3 (by omega);obtain⟨n4,e4,i4⟩:=ha 4 (by omega);obtain⟨n5,e5,i5⟩:=ha 5 (by omega);obtain⟨n6,e6,i6⟩:=ha 6 (by omega);obtain⟨n7,e7,i7⟩:=ha 7 (by omega);exact⟨⟨⟨⟨n0,n1,n2,n3,n4,n5⟩,n6⟩,n7⟩,⟨⟨(hc 0 (by omega)).trans e0,i0⟩,⟨(hc 1 (by omega)).trans e1,i1⟩,⟨(hc 2 (by omega)).trans e2,i2⟩,⟨(hc 3 (by omega)).trans e3,i3⟩,⟨(hc 4 (by omega)).trans e4,i4⟩,⟨(hc 5 (by omega)).trans e5,i5⟩,⟨(hc 6 (by omega)).trans e6,i6⟩⟩,(hc 7 (by omega)).trans e7,i7⟩
theorem opn_moves:tY enc w 136 1 De:=xr Tryz.underlying136 Tryz.cMove (by omega) (of_decide_eq_true (by kernel_rfl)) opn_move
theorem XD{l:List Value} (h:l.length=7):∃ c0 c1 c2 c3 c4 c5 c6,l=[c0,c1,c2,c3,c4,c5,c6]:=by
 match l,h with
 | [c0,c1,c2,c3,c4,c5,c6],_=>exact⟨c0,c1,c2,c3,c4,c5,c6,rfl⟩
theorem Tryz.cProb:Tryz.prog.cellsOf 29=7:=by kernel_rfl
theorem Tryz.cTask:Tryz.prog.cellsOf 24=4:=by kernel_rfl
theorem Tryz.cAdv:Tryz.prog.cellsOf 27=2:=by kernel_rfl
theorem Tryz.cCases:Tryz.prog.cellsOf 22=1:=by kernel_rfl
theorem Tryz.cStates:Tryz.prog.cellsOf 25=1:=by kernel_rfl
theorem Nc{fuel:Nat} {c0 c1 c2 c3:Value} {x:DataW H × List MemPlace} (h:fA enc w fuel 24 [c0,c1,c2,c3] x) (hz:lH 24 x.1) :
  ∃ (t:Tk),c0=.int .i64 t.n/\c1=.int .i64 t.ins/\c2=.int .i64 t.outs/\bK w c3 t.cases:=by
 obtain⟨_,n,hf⟩:=gy Tryz.underlying24 h hz;obtain⟨u0,s0,_⟩:=hf 0 _ rfl;obtain⟨u1,s1,_⟩:=hf 1 _ rfl;obtain⟨u2,s2,_⟩:=hf 2 _ rfl;obtain⟨u3,s3,q3⟩:=hf 3 _ rfl;change fA enc w n 3 (([c0,c1,c2,c3].drop 0).take (Tryz.prog.cellsOf 3)) u0 at s0;change fA enc w n 3 (([c0,c1,c2,c3].drop 1).take (Tryz.prog.cellsOf 3)) u1 at s1;change fA enc w n 3 (([c0,c1,c2,c3].drop 2).take (Tryz.prog.cellsOf 3)) u2 at s2;change fA enc w n 22 (([c0,c1,c2,c3].drop 3).take (Tryz.prog.cellsOf 22)) u3 at s3;change lH 22 u3.1 at q3;rw[Tryz.cInt]at s0 s1 s2;rw[Tryz.cCases]at s3;obtain⟨m0,e0,_,_⟩:=DataW.trod_int Tryz.underlying3 s0;obtain⟨m1,e1,_,_⟩:=DataW.trod_int Tryz.underlying3 s1;obtain⟨m2,e2,_,_⟩:=DataW.trod_int Tryz.underlying3 s2;obtain⟨vc,cases,e3,g3⟩:=mq Tryz.underlying22 Tryz.cCase (by omega) (of_decide_eq_true (by kernel_rfl)) opn_case s3 q3;simp at e0 e1 e2 e3;subst e3;exact⟨⟨m0,m1,m2,cases⟩,e0,e1,e2,g3⟩
theorem P9{fuel:Nat} {c0 c1:Value} {x:DataW H × List MemPlace} (h:fA enc w fuel 27 [c0,c1] x) (hz:lH 27 x.1) :
  ∃ (a:Adv),c0=.int .i64 a.n/\bk w c1 a.states:=by
 obtain⟨_,n,hf⟩:=gy Tryz.underlying27 h hz;obtain⟨u0,s0,_⟩:=hf 0 _ rfl;obtain⟨u1,s1,q1⟩:=hf 1 _ rfl;change fA enc w n 3 (([c0,c1].drop 0).take (Tryz.prog.cellsOf 3)) u0 at s0;change fA enc w n 25 (([c0,c1].drop 1).take (Tryz.prog.cellsOf 25)) u1 at s1;change lH 25 u1.1 at q1;rw[Tryz.cInt]at s0;rw[Tryz.cStates]at s1;obtain⟨m0,e0,_,_⟩:=DataW.trod_int Tryz.underlying3 s0;obtain⟨vs,states,e1,g1⟩:=mq Tryz.underlying25 Tryz.cMoves (by omega) (of_decide_eq_true (by kernel_rfl)) opn_moves s1 q1;simp at e0 e1;subst e1;exact⟨⟨m0,states⟩,e0,g1⟩
theorem Nd{fuel:Nat} {cs:List Value} {x:DataW H × List MemPlace} (h:fA enc w fuel 29 cs x) (hz:lH 29 x.1) :
  ∃ (p:Pb) (vc vs:Value),cs=[.int .i64 p.t.n,.int .i64 p.t.ins,.int .i64 p.t.outs,vc,.int .i64 p.a.n,vs,.int .i64 p.rounds]/\bK w vc p.t.cases/\bk w vs p.a.states:=by
 obtain⟨hl,n,hf⟩:=gy Tryz.underlying29 h hz;rw[Tryz.cProb]at hl;obtain⟨c0,c1,c2,c3,c4,c5,c6,rfl⟩:=XD hl;obtain⟨y0,r0,z0⟩:=hf 0 _ rfl;obtain⟨y1,r1,z1⟩:=hf 1 _ rfl;obtain⟨y2,r2,z2⟩:=hf 2 _ rfl;change fA enc w n 24 (([c0,c1,c2,c3,c4,c5,c6].drop 0).take (Tryz.prog.cellsOf 24)) y0 at r0;change fA enc w n 27 (([c0,c1,c2,c3,c4,c5,c6].drop 4).take (Tryz.prog.cellsOf 27)) y1 at r1;change fA enc w n 3 (([c0,c1,c2,c3,c4,c5,c6].drop 6).take (Tryz.prog.cellsOf 3)) y2 at r2;rw[Tryz.cTask]at r0;rw[Tryz.cAdv]at r1;rw[Tryz.cInt]at r2;obtain⟨t,rfl,rfl,rfl,g0⟩:=Nc r0 z0;obtain⟨a,rfl,g1⟩:=P9 r1 z1;obtain⟨m6,e6,_,_⟩:=DataW.trod_int Tryz.underlying3 r2;simp at e6;subst e6;exact⟨⟨t,a,m6⟩,c3,c5,rfl,g0,g1⟩
end
end Go.Proofs.YtmeaoneaephjeaaGreatDoor
namespace Go.Proofs.YtmeaoneaephjeaaGreatDoor
def im(s:Nat):List (List Mv)->List (Nat × Mv)
 | []=>[]
 | l :: r=>l.map (fun m=>(s,m))++im (s+1) r
def tZ(l:List (List Mv)):List (Nat × Mv):=im 0 l
theorem AR(s:Nat) (l:List (List Mv)):(im s l).length=movesN l:=by
 induction l generalizing s with
 | nil=>rfl
 | cons x r ih=>simp[im,movesN,ih]
theorem ww(l:List (List Mv)):(tZ l).length=movesN l:=AR 0 l
def cnt(l:List (List Mv)) (s:Nat):Nat:=movesN (l.take s)
theorem oh(l:List (List Mv)):cnt l 0=0:=by simp[cnt,movesN]
theorem ud(l:List (List Mv)) (s:Nat) (h:l.length<=s):cnt l s=movesN l:=by simp[cnt,List.take_of_length_le h]
theorem ol(l:List (List Mv)) (s:Nat) (h:s<l.length):cnt l (s+1)=cnt l s+l[s].length:=by
 unfold cnt movesN;rw[List.take_succ_eq_append_getElem h];simp only[List.map_append,List.sum_append,List.map_cons,List.map_nil,List.sum_cons,List.sum_nil,Nat.add_zero]
theorem Gl(l:List (List Mv)) (s:Nat) (h:s<l.length):cnt l s+l[s].length<=movesN l:=by
 rw[<-ol l s h];have:movesN l=movesN (l.take (s+1))+movesN (l.drop (s+1)):=by unfold movesN;rw[<-List.sum_append,<-List.map_append,List.take_append_drop]
 unfold cnt;omega
theorem Gm(t:Nat) (l:List (List Mv)) (s j:Nat) (hs:s<l.length) (hj:j<l[s].length):(im t l)[cnt l s+j]?=some (t+s,l[s][j]):=by
 induction l generalizing t s with
 | nil=>simp at hs
 | cons x r ih=>
  cases s with
  | zero=>
   simp only[List.getElem_cons_zero]at hj ⊢;simp[im,oh,List.getElem?_append,hj]
  | succ s=>
   have uS:s<r.length:=by simpa using hs
   have qC:j<r[s].length:=by simpa using hj
   have e:cnt (x :: r) (s+1)=x.length+cnt r s:=by simp[cnt,movesN]
   rw[e];simp only[im,List.getElem_cons_succ];rw[List.getElem?_append_right (by simp;omega)];have:x.length+cnt r s+j - (x.map fun m=>(t,m)).length=cnt r s+j:=by simp;omega
   rw[this,ih (t+1) s uS qC];simp;omega
theorem Nf(l:List (List Mv)) (s j:Nat) (hs:s<l.length) (hj:j<l[s].length):(tZ l)[cnt l s+j]?=some (s,l[s][j]):=by
 have:=Gm 0 l s j hs hj;rw[Nat.zero_add]at this;exact this
def mvAt(l:List (List Mv)) (i:Nat):Nat × Mv:=(tZ l).getD i (0,default)
theorem zi(l:List (List Mv)) (s j:Nat) (hs:s<l.length) (hj:j<l[s].length):mvAt l (cnt l s+j)=(s,l[s][j]):=by
 unfold mvAt;rw[List.getD_eq_getElem?_getD,Nf l s j hs hj];rfl
def mS(a:Adv) (i:Nat):List Mv:=a.states.getD (mvAt a.states i).2.to.toNat []
def oU(a:Adv) (i:Nat):Bool:=anyLt (mS a i).length fun k=>!iE (mvAt a.states i).2.r.f ((mS a i).getD k default).r.f
def growsB(a:Adv):Bool:=!anyLt (movesN a.states) (oU a)
def advE(a:Adv):Int:=
 if a.n<1\/5<a.n then 2
 else if a.states.length<1\/256<a.states.length\/4096<movesN a.states then 5
 else if a8 a.states.length (fun s=>stateE a (a.states.getD s []))≠0 then a8 a.states.length (fun s=>stateE a (a.states.getD s []))
 else if growsB a then 0 else 21
def probE(p:Pb):Int:=
 if taskE p.t≠0 then taskE p.t else if advE p.a≠0 then advE p.a
 else if p.t.n≠p.a.n then 22 else if p.rounds<0\/6<p.rounds then 2 else 0
theorem Ub{n f:Int} (h:jQ n f=0):0<=f/\f<32:=by
 unfold jQ iF at h;by_cases hn:n<1\/5<n
 ·rw[if_pos hn]at h;simp at h
 ·rw[if_neg hn]at h
  simp only[ne_eq,not_true_eq_false,if_false]at h;by_cases hf:f<0\/¬ f / 2 ^ n.toNat=0
  ·rw[if_pos hf]at h;simp at h
  ·have h0:0<=f:=by omega
   have hq:f / 2 ^ n.toNat=0:=by omega
   have az:f<2 ^ n.toNat:=by
    by_cases h':f<2 ^ n.toNat
    ·exact h'
    ·have h1:(1:Int)<=f / 2 ^ n.toNat:=(Int.le_ediv_iff_mul_le (Int.pow_pos (by decide))).2 (by omega)
     omega
   have hp:(2:Int) ^ n.toNat<=32:=by
    have:n=1\/n=2\/n=3\/n=4\/n=5:=by omega
    rcases this with h|h|h|h|h<;>subst h<;>decide
   exact⟨h0,by omega⟩
theorem Dg{a:Adv} {l:List Mv} {j:Nat} (h:dG a l j=0):(0<=(l.getD j default).r.f/\(l.getD j default).r.f<32)/\0<=(l.getD j default).to/\(l.getD j default).to<a.states.length:=by
 unfold dG at h;split at h
 ·omega
 ·rename_i h1
  have Lc:roundE (l.getD j default).r=0:=by simpa using h1
  have hp:jQ (l.getD j default).r.g.n (l.getD j default).r.f=0:=by
   unfold roundE at Lc;split at Lc
   ·omega
   ·exact Lc
  split at h
  ·omega
  ·split at h
   ·omega
   ·split at h
    ·omega
    ·exact⟨Ub hp,by omega,by omega⟩
theorem kJ{a:Adv} (h:∀ s,s<a.states.length->stateE a (a.states.getD s [])=0) {s j:Nat} (hs:s<a.states.length) (hj:j<a.states[s].length) :
  (0<=a.states[s][j].r.f/\a.states[s][j].r.f<32)/\0<=a.states[s][j].to/\a.states[s][j].to<a.states.length:=by
 have h1:=h s hs;rw[show a.states.getD s []=a.states[s] by simp[hs]]at h1;unfold stateE at h1;rw[if_neg (by omega)]at h1;have:=Dg (eV h1 j hj)
 rwa [show a.states[s].getD j default=a.states[s][j] by simp[hj]]at this
theorem J9(l:List (List Mv)) (i:Nat) (h:i<movesN l):∃ s j,∃ hs:s<l.length,∃ _:j<l[s].length,i=cnt l s+j:=by
 have key:∀ n,n<=l.length->i<cnt l n->∃ s j,∃ hs:s<l.length,∃ _:j<l[s].length,i=cnt l s+j:=by
  intro n;induction n with
  | zero=>intro _ h;rw[oh]at h;omega
  | succ n ih=>
   intro hn h;by_cases az:i<cnt l n
   ·exact ih (by omega) az
   ·have ze:n<l.length:=by omega
    rw[ol l n ze]at h;exact⟨n,i - cnt l n,ze,by omega,by omega⟩
 exact key l.length (Nat.le_refl _) (by rw[ud l _ (Nat.le_refl _)];exact h)
theorem Uc{a:Adv} (h:∀ s,s<a.states.length->stateE a (a.states.getD s [])=0) {i:Nat} (hi:i<movesN a.states) :
  (0<=(mvAt a.states i).2.r.f/\(mvAt a.states i).2.r.f<32)/\0<=(mvAt a.states i).2.to/\(mvAt a.states i).2.to<a.states.length:=by
 obtain⟨s,j,hs,hj,rfl⟩:=J9 a.states i hi;rw[zi a.states s j hs hj];exact kJ h hs hj
def bS(a:Adv):Nat->Nat->List (List Rd)
 | 0,_=>[[]]
 | k+1,s=>(a.states.getD s []).flatMap fun m=>(bS a k m.to.toNat).map (m.r :: ·)
theorem jR(a:Adv) (k:Nat):∀ s,∀ x∈bS a k s,x.length=k:=by
 induction k with
 | zero=>intro s x hx;simp[bS]at hx;rw[hx];rfl
 | succ k ih=>
  intro s x hx;simp only[bS,List.mem_flatMap,List.mem_map]at hx;obtain⟨m,_,y,hy,rfl⟩:=hx;simp[ih _ y hy]
def oV(L:Int) (c:List Int) (n:Int) (m:Mv):Int:=min (n+c.getD m.to.toNat 0) (L+1)
def AS(L:Int) (c:List Int) (l:List Mv):Int:=l.foldl (oV L c) 0
def zj(L:Int) (a:Adv) (c:List Int):List Int:=a.states.map (AS L c)
def dQ(L:Int) (a:Adv):Nat->List Int
 | 0=>List.replicate a.states.length 1
 | k+1=>zj L a (dQ L a k)
def numberL(L:Int) (a:Adv) (k:Nat):Int:=(dQ L a k).getD 0 0
theorem Ed(L:Int) (a:Adv) (k:Nat):(dQ L a k).length=a.states.length:=by
 cases k with
 | zero=>simp[dQ]
 | succ k=>simp[dQ,zj]
def Bt(L:Int) (c:List Int):Prop:=∀ x∈c,0<=x/\x<=L+1
theorem uf{L:Int} (hL:0<=L) {c:List Int} (h:Bt L c) (i:Nat):0<=c.getD i 0/\c.getD i 0<=L+1:=by
 by_cases hi:i<c.length
 ·rw[List.getD_eq_getElem?_getD,List.getElem?_eq_getElem hi];exact h _ (List.getElem_mem hi)
 ·rw[List.getD_eq_getElem?_getD,List.getElem?_eq_none (by omega)];simp;omega
theorem Gn{L:Int} (hL:0<=L) {c:List Int} (h:Bt L c) {n:Int} (hn:0<=n/\n<=L+1) (m:Mv):0<=oV L c n m/\oV L c n m<=L+1:=by
 have:=uf hL h m.to.toNat;unfold oV;omega
theorem Qa{L:Int} (hL:0<=L) {c:List Int} (h:Bt L c) (l:List Mv):∀ n:Int,(0<=n/\n<=L+1)->0<=l.foldl (oV L c) n/\l.foldl (oV L c) n<=L+1:=by
 induction l with
 | nil=>intro n hn;exact hn
 | cons m r ih=>intro n hn;exact ih _ (Gn hL h hn m)
theorem Ud{L:Int} (hL:0<=L) {c:List Int} (h:Bt L c) (l:List Mv):0<=AS L c l/\AS L c l<=L+1:=Qa hL h l 0 (by omega)
theorem AT{L:Int} (hL:0<=L) (a:Adv) (k:Nat):Bt L (dQ L a k):=by
 induction k with
 | zero=>intro x hx;rw[(List.mem_replicate.1 hx).2];omega
 | succ k ih=>intro x hx;obtain⟨l,_,rfl⟩:=List.mem_map.1 hx;exact Ud hL ih l
theorem Ng{L:Int} (hL:0<=L) (c:List Int) (f:Mv->Int) (l:List Mv) (hc:∀ m∈l,c.getD m.to.toNat 0=min (f m) (L+1)) (hf:∀ m∈l,0<=f m):∀ n s:Int,0<=s->n=min s (L+1) →
  l.foldl (oV L c) n=min (s+(l.map f).sum) (L+1):=by
 induction l with
 | nil=>intro n s _ hn;simp[hn]
 | cons m r ih=>
  intro n s hs hn;have h1:=hc m (by simp);have h2:=hf m (by simp);rw[List.foldl_cons,ih (fun x hx=>hc x (by simp[hx])) (fun x hx=>hf x (by simp[hx])) _ (s+f m) (by omega) ?_,List.map_cons,List.sum_cons]
  ·rw[Int.add_assoc]
  ·unfold oV
   rw[h1,hn];omega
theorem Jy{α β:Type} (l:List α) (f:α->List β):((l.flatMap f).length:Int)=(l.map fun x=>((f x).length:Int)).sum:=by
 induction l with
 | nil=>rfl
 | cons a r ih=>rw[List.flatMap_cons,List.length_append,List.map_cons,List.sum_cons,<-ih];omega
theorem Nh{L:Int} (hL:0<=L) (a:Adv) (od:∀ s,s<a.states.length->∀ m∈a.states.getD s [],m.to.toNat<a.states.length) (k:Nat):∀ s,s<a.states.length->(dQ L a k).getD s 0=min ((bS a k s).length:Int) (L+1):=by
 induction k with
 | zero=>
  intro s hs;simp[dQ,bS,hs];omega
 | succ k ih=>
  intro s hs
  have h1:(dQ L a (k+1)).getD s 0=AS L (dQ L a k) (a.states.getD s []):=by
   simp[dQ,zj,hs]
  rw[h1];unfold AS;rw[Ng hL (dQ L a k) (fun m=>((bS a k m.to.toNat).length:Int)) _ (fun m hm=>ih _ (od s hs m hm)) (fun m _=>by omega) 0 0 (by omega) (by omega)];simp only[bS];rw[Jy];simp
theorem qF{L:Int} (hL:0<=L) (a:Adv) (od:∀ s,s<a.states.length->∀ m∈a.states.getD s [],m.to.toNat<a.states.length) (h0:0<a.states.length) (k:Nat):numberL L a k=min ((bS a k 0).length:Int) (L+1):=Nh hL a od k 0 h0
theorem XE{a:Adv} (h:∀ s,s<a.states.length->stateE a (a.states.getD s [])=0):∀ s,s<a.states.length->∀ m∈a.states.getD s [],m.to.toNat<a.states.length:=fun s hs m hm=>by
 obtain⟨j,hj,rfl⟩:=List.mem_iff_getElem.1 hm;have h1:=h s hs;unfold stateE at h1;split at h1
 ·cases h1
 have h2:=eV h1 j hj;have h3:=(Dg h2).2;have e:(a.states.getD s []).getD j default=(a.states.getD s [])[j]:=by rw[List.getD_eq_getElem?_getD,List.getElem?_eq_getElem hj];rfl
 rw[e]at h3;omega
structure Vw where
 p:Int
 k:Int
 i:Int
 h0:Int
 h1:Int
 h2:Int
 h3:Int
 h4:Int
instance:Inhabited Vw:=⟨⟨0,0,0,0,0,0,0,0⟩⟩
instance:DecidableEq Vw:=fun a b=>decidable_of_iff (a.p=b.p/\a.k=b.k/\a.i=b.i/\a.h0=b.h0/\a.h1=b.h1/\a.h2=b.h2/\a.h3=b.h3/\a.h4=b.h4) (by cases a;cases b;simp)
structure Ex where
 c:Int
 word:List Rd
 views:List (List Int)
structure Sys where
 prob:Pb
 n:Int
 tab:List Vw
 ex:List Ex
def putV(tb:List Vw) (v:Vw):List Vw × Nat:=if v∈tb then(tb,tb.idxOf v) else(tb++[v],tb.length)
def gQ(st:List Vw × List Int) (v:Vw):List Vw × List Int:=((putV st.1 v).1,st.2++[((putV st.1 v).2:Int)])
def addAll(tb:List Vw) (vs:List Vw):List Vw × List Int:=vs.foldl gQ (tb,[])
theorem sY(tb:List Vw) (vs:List Vw) (k:Nat) (hk:k<vs.length):addAll tb (vs.take (k+1))=gQ (addAll tb (vs.take k)) vs[k]:=by
 unfold addAll;rw[List.take_succ_eq_append_getElem hk,List.foldl_append];rfl
theorem Ee(st:List Vw × List Int) (v:Vw):(gQ st v).2.length=st.2.length+1/\(gQ st v).1.length<=st.1.length+1:=by
 unfold gQ putV;refine⟨by simp,?_⟩;split<;>simp
theorem fr(vs:List Vw):∀ st:List Vw × List Int,(vs.foldl gQ st).2.length=st.2.length+vs.length/\(vs.foldl gQ st).1.length<=st.1.length+vs.length:=by
 induction vs with
 | nil=>intro st;simp
 | cons v r ih=>
  intro st;have h1:=ih (gQ st v);have h2:=Ee st v;simp only[List.foldl_cons,List.length_cons];omega
def dS(inp:List Int) (p:Nat):Vw:=⟨p,0,inp.getD p 0,-1,-1,-1,-1,-1⟩
def lI(n:Nat) (r:Rd) (now:List Int) (p q:Nat):Int:=if q<n/\hasB (r.g.hear p) q=true then now.getD q 0 else -1
def nextV(n k:Nat) (r:Rd) (now:List Int) (p:Nat):Vw:=⟨p,k+1,0,lI n r now p 0,lI n r now p 1,lI n r now p 2,lI n r now p 3,lI n r now p 4⟩
def ug(n:Nat) (inp:List Int) (tb:List Vw):List Vw × List Int:=addAll tb ((List.range n).map (dS inp))
def Ll(n k:Nat) (r:Rd) (st:List Vw × List (List Int)):List Vw × List (List Int):=
 let a:=addAll st.1 ((List.range n).map (nextV n k r (st.2.getLastD [])))
 (a.1,st.2++[a.2])
def playTo(n:Nat) (inp:List Int) (word:List Rd) (tb:List Vw):Nat->List Vw × List (List Int)
 | 0=>let a:=ug n inp tb;(a.1,[a.2])
 | k+1=>Ll n k (word.getD k default) (playTo n inp word tb k)
def gi(n:Nat) (inp:List Int) (word:List Rd) (tb:List Vw):List Vw × List (List Int):=playTo n inp word tb word.length
def jd(cases words:Nat):List (Nat × Nat):=(List.range cases).flatMap fun c=>(List.range words).map fun w=>(c,w)
def jS(p:Pb) (words:List (List Rd)) (st:List Vw × List Ex) (x:Nat × Nat):List Vw × List Ex:=
 let a:=gi p.t.n.toNat (p.t.cases.getD x.1 default).inp (words.getD x.2 []) st.1
 (a.1,st.2++[⟨x.1,words.getD x.2 [],a.2⟩])
def execsS(p:Pb) (words:List (List Rd)) (l:List (Nat × Nat)):List Vw × List Ex:=l.foldl (jS p words) ([],[])
def aI(p:Pb):List (List Rd):=bS p.a p.rounds.toNat 0
def aM(p:Pb):Sys:=
 let a:=execsS p (aI p) (jd p.t.cases.length (aI p).length)
 ⟨p,p.t.n,a.1,a.2⟩
def buildE(p:Pb):Int:=if probE p≠0 then probE p else if 4096<p.t.cases.length * (aI p).length then 17 else if 8192<(aM p).tab.length then 17 else 0
end Go.Proofs.YtmeaoneaephjeaaGreatDoor
namespace Go.Proofs.YtmeaoneaephjeaaGreatDoor
open Go.RowKit Go Go.Shelf
structure Chg (B:Nat) (A A':World):Prop where
 os:A'.os=A.os
 tape:A'.tape=A.tape
 output:A'.output=A.output
 size:A.heap.size<=A'.heap.size
 same:∀ (k:Nat) (o:Obj),A.heap[k]?=some o->(k<B\/o.isCells=true)->A'.heap[k]?=some o
theorem Chg.of_below{B:Nat} {A A':World} (h:Below A.heap.size A A'):Chg B A A':=⟨h.os,h.tape,h.output,h.size,fun _ _ hk _=>af h hk⟩
theorem Chg.ck{B:Nat} {A A':World} (h:Chg B A A'):CK A A':=fun k o hk ho=>h.same k o hk (.inr ho)
theorem Chg.put{B:Nat} {A:World} {l:Nat} {o:Obj} (o':Obj) (hl:A.heap[l]?=some o) (hB:B<=l) (ho:o.isCells=false):Chg B A (A.putObj l o'):=
 ⟨rfl,rfl,rfl,by simp,fun k x hk hx=>by
  by_cases e:k=l
  ·subst e;rw[hl]at hk;cases hk
   rcases hx with hx|hx
   ·omega
   ·rw[ho]at hx;cases hx
  ·exact(World.putObj_heap_other e).trans hk⟩
theorem Chg.below{B n:Nat} {w A A':World} (h:Chg B A A') (hn:n<=B) (hs:n<=A.heap.size) (hb:Below n w A):Below n w A':=
 ⟨h.os.trans hb.os,h.tape.trans hb.tape,h.output.trans hb.output,Nat.le_trans hb.size h.size,fun k hk=>by
  have az:k<A.heap.size:=by omega
  have h1:A.heap[k]?=some A.heap[k]:=Array.getElem?_eq_getElem az
  rw[h.same k _ h1 (.inl (by omega)),<-h1];exact hb.block k hk⟩
def cI(B:Nat) (I:World->Prop):Prop:=∀ A A',Chg B A A'->I A->I A'
theorem cI.and{B:Nat} {I J:World->Prop} (h:cI B I) (k:cI B J):cI B (fun W=>I W/\J W):=fun A A' c x=>⟨h A A' c x.1,k A A' c x.2⟩
theorem cI.below{B:Nat} {w:World} (h:w.heap.size<=B):cI B (fun W=>Below w.heap.size w W):=fun _ _ c x=>c.below h x.size x
theorem cI.cells{B b:Nat} {c:Array Value} {t:TypeId} {f:Nat × Nat}:cI B (fun W=>W.heap[b]?=some (.cells c t f)):=fun _ _ c x=>c.same _ _ x (.inr rfl)
theorem cI.pure{B:Nat} {p:Prop}:cI B (fun _=>p):=fun _ _ _ x=>x
structure Bod (B:Nat) (S:Nat->Prop) (W W':World):Prop where
 size:W.heap.size<=W'.heap.size
 keep:∀ k,S k->W'.heap[k]?=W.heap[k]?
 same:∀ (k:Nat) (o:Obj),B<=k->W.heap[k]?=some o->o.isCells=false->W'.heap[k]?=some o
theorem Bod.refl(B:Nat) (S:Nat->Prop) (W:World):Bod B S W W:=⟨Nat.le_refl _,fun _ _=>rfl,fun _ _ _ h _=>h⟩
theorem Bod.trans{B:Nat} {S:Nat->Prop} {X Y Z:World} (h:Bod B S X Y) (k:Bod B S Y Z):Bod B S X Z:=
 ⟨Nat.le_trans h.size k.size,fun i hi=>(k.keep i hi).trans (h.keep i hi),fun i o hB hi ho=>k.same i o hB (h.same i o hB hi ho) ho⟩
theorem Bod.of_below{B:Nat} {S:Nat->Prop} {W W':World} (hS:∀ k,S k->k<W.heap.size) (h:Below W.heap.size W W'):Bod B S W W':=
 ⟨h.size,fun k hk=>h.block k (hS k hk),fun _ _ _ hk _=>af h hk⟩
theorem Bod.setCell{B:Nat} {S:Nat->Prop} (W:World) (p:Addr) (v:Value) (hp:¬ S p.block):Bod B S W (W.setCell p v):=
 ⟨by simp,fun k hk=>Below.heap_setCell _ _ _ _ (fun e=>hp (e ▸ hk)),fun k o _ hk ho=>(KeepsOthers.setCell W p v).same k o hk ho⟩
theorem Bod.put{S:Nat->Prop} (W:World) {l:Nat} (o':Obj) (hS:¬ S l):Bod (l+1) S W (W.putObj l o'):=
 ⟨by simp,fun k hk=>World.putObj_heap_other (fun e=>hS (e ▸ hk)),fun k x hk hx _=>(World.putObj_heap_other (by omega)).trans hx⟩
theorem Bod.mono{B C:Nat} {S:Nat->Prop} {W W':World} (h:Bod B S W W') (hB:B<=C):Bod C S W W':=⟨h.size,h.keep,fun k o hk hx ho=>h.same k o (Nat.le_trans hB hk) hx ho⟩
def rH(P:Program) (g:Nat) (lb:Array Value) (encs:Nat->Array Value) (N:Nat) (S:Nat->Prop) (w:World):Prop:=
 ∀ (l:Nat) (J Jx:Nat->World->Prop) (W:World),Below w.heap.size w W →
  (∀ i A A',J i A->Below A.heap.size A A'->J i A')->(∀ i A A',Jx i A->Below A.heap.size A A'->Jx i A') →
  (∀ i W1,i<N->J i W1->YieldAt Fence.wide 0 P l (encs i) W1 fun e W'=>
   (e=.returned (.bool true)/\J (i+1) W'/\W1.heap.size<=W'.heap.size/\∀ k,S k->W'.heap[k]?=W1.heap[k]?)\/(e=.returned (.bool false)/\Jx (i+1) W')) →
  J 0 W →
  Calls P g (#[.func (.yield l) #[] #[]]++lb) W fun e W'=>(∃ v,e=.returned v)/\(J N W'\/∃ i,i<=N/\Jx i W')
def Lm(B:Nat) (S:Nat->Prop) (I:Nat->World->Prop) (Ix:Code->Nat->World->Prop) (i:Nat) (W:World):Exit->Act->World->Prop
 | .normal,_,W'=>Bod B S W W'/\I i W'
 | .ret,_,W'=>Bod B S W W'/\Ix .ret i W'
 | .exit id,_,W'=>Bod B S W W'/\Ix (.exit id) i W'
 | .goto t,_,W'=>Bod B S W W'/\Ix (.goto t) i W'
 | .panic _,_,_=>False
 | .outgrown,_,_=>False
abbrev gZ(D:Nat):Deferred:={ target:=.collected D,args:=#[] }
theorem Gp{P:Program} {B:Nat} {S:Nat->Prop} {ps:Array Tmp} {assign body:Code} {tmps:Array Value} {l i:Nat} {I:Nat->World->Prop} {Ix:Code->Nat->World->Prop} {W:World} {args:Array Value} {r:Loop} (R:Ending->World->Prop)
  (uJ:B<=l) (qp:¬ S l) (hr:r.params=ps/\r.assign=assign/\r.body=body/\r.tmps=tmps/\r.state=.ready/\r.pending=none) (hl:W.heap[l]?=some (.loop r)) (yv:args.size=ps.size)
  (kS:assign.wpIn (Fence.wide.inRound l) 0 P (Exit.then (fun a1 W1=>Bod B S W W1/\∃ Ax:World->Prop,cI B Ax/\Ax W1/\∀ W2,Ax W2->(∃ r,W2.heap[l]?=some (.loop r))->body.wpIn (Fence.wide.inRound l) 0 P (Lm B S I Ix (i+1) W2) a1 W2) (fun _ _ _=>False))
   { tmps:=(ps.zip args).foldl (fun t (p,v)=>t.setIfInBounds p v) tmps,defers:=[] } W)
  (rj:∀ W3 W4,W.heap.size<=W3.heap.size->Bod (l+1) S W W4->W4.heap[l]?=some (.loop r)->Chg B W3 W4->I (i+1) W3->(∀ k o,B<=k->k≠l->W.heap[k]?=some o->o.isCells=false->W4.heap[k]?=some o)->R (.returned (.bool true)) W4)
  (lV:∀ c W3 W4,W.heap.size<=W3.heap.size->Bod (l+1) S W W4->W4.heap[l]?=some (.loop { r with state:=.done,pending:=some c })->Chg B W3 W4->Ix c (i+1) W3->(∀ k o,B<=k->k≠l->W.heap[k]?=some o->o.isCells=false->W4.heap[k]?=some o)->R (.returned (.bool false)) W4) :
  YieldAt Fence.wide 0 P l args W R:=by
 obtain⟨h1,h2,h3,h4,h5,h6⟩:=hr;refine⟨r.fn,_,r.assign,r.body,run_yield hl (by rw[h1];exact yv),roundIn_of_wpIn trivial ?_⟩;rw[h1,h2,h3,h4];refine wpIn_mono kS ?_;rintro e a1 W1 hp;cases e<;>first|exact hp.elim|skip
 obtain⟨Bh,Ax,VN,VL,Mr⟩:=hp;have gt:W1.heap[l]?=some (.loop r):=Bh.same l _ uJ hl rfl;have mD:(W1.putObj l (.loop { r with state:=.busy })).heap[l]?=some (.loop { r with state:=.busy }):=World.putObj_heap_same (ar gt);have aV:Bod (l+1) S W (W1.putObj l (.loop { r with state:=.busy })):=(Bh.mono (by omega)).trans (Bod.put _ _ qp)
 have ku:∀ k o,B<=k->k≠l->W.heap[k]?=some o->o.isCells=false->(W1.putObj l (.loop { r with state:=.busy })).heap[k]?=some o:=
  fun k o hk bM ho hc=>(World.putObj_heap_other bM).trans (Bh.same k o hk ho hc)
 refine⟨_,run_beginRound gt h5,wpIn_mono (Mr _ (VN _ _ (Chg.put _ gt uJ rfl) VL) ⟨_,mD⟩) ?_⟩;generalize W1.putObj l (.loop { r with state:=.busy })=W2 at mD aV ku;rintro e a3 W3 hp
 have fin:∀ (jump:Option Code),Bod B S W2 W3->(Instr.endRound l jump).run P W3=.ok (.bool jump.isNone) (W3.putObj l (.loop { r with state:=if jump.isNone then .ready else .done,pending:=jump })) ∧
   (W3.putObj l (.loop { r with state:=if jump.isNone then .ready else .done,pending:=jump })).heap[l]?=some (.loop { r with state:=if jump.isNone then .ready else .done,pending:=jump }) ∧
   Chg B W3 (W3.putObj l (.loop { r with state:=if jump.isNone then .ready else .done,pending:=jump }))/\Bod (l+1) S W (W3.putObj l (.loop { r with state:=if jump.isNone then .ready else .done,pending:=jump })) ∧
   (∀ k o,B<=k->k≠l->W.heap[k]?=some o->o.isCells=false->(W3.putObj l (.loop { r with state:=if jump.isNone then .ready else .done,pending:=jump })).heap[k]?=some o):=fun jump bA=>by
  have sN:=bA.same l _ uJ mD rfl
  exact⟨run_endRound (r:={ r with state:=.busy }) jump sN,World.putObj_heap_same (ar sN),Chg.put _ sN uJ rfl,(aV.trans (bA.mono (by omega))).trans (Bod.put _ _ qp),
   fun k o hk bM ho hc=>(World.putObj_heap_other bM).trans (bA.same k o hk (ku k o hk bM ho hc) hc)⟩
 cases e with
 | normal=>
  obtain⟨bA,hi⟩:=hp;obtain⟨f1,f2,f3,f4,f5⟩:=fin none bA;refine⟨_,_,f1,rj W3 _ (Nat.le_trans aV.size bA.size) f4 ?_ f3 hi f5⟩;rw[f2];cases r;simp_all
 | ret=>
  obtain⟨bA,hi⟩:=hp;obtain⟨f1,f2,f3,f4,f5⟩:=fin (some .ret) bA;exact⟨_,_,f1,lV .ret W3 _ (Nat.le_trans aV.size bA.size) f4 f2 f3 hi f5⟩
 | exit id=>
  obtain⟨bA,hi⟩:=hp;obtain⟨f1,f2,f3,f4,f5⟩:=fin (some (.exit id)) bA;exact⟨_,_,f1,lV (.exit id) W3 _ (Nat.le_trans aV.size bA.size) f4 f2 f3 hi f5⟩
 | goto t=>
  obtain⟨bA,hi⟩:=hp;obtain⟨f1,f2,f3,f4,f5⟩:=fin (some (.goto t)) bA;exact⟨_,_,f1,lV (.goto t) W3 _ (Nat.le_trans aV.size bA.size) f4 f2 f3 hi f5⟩
 | panic ch=>exact hp.elim
 | outgrown=>exact hp.elim
theorem mg{P:Program} {g:Operand} {ps:Array Tmp} {assign body:Code} {Q:Exit->Act->World->Prop} {a:Act} {w:World}
  {gf:Nat} {lb:Array Value} (hg:a.eval g=.func (.func gf) #[] lb) (eg:∀ args w,(callFunc gf args).run P w=.ok (.enter gf args) w)
  {encs:Nat->Array Value} {N:Nat} {S:Nat->Prop} {w0:World} (da:rH P gf lb encs N S w0) (aC:Below w0.heap.size w0 w) (hS:∀ k,S k->k<w.heap.size) (yv:∀ i,(encs i).size=ps.size)
  (I:Nat->World->Prop) (Ix:Code->Nat->World->Prop) (hI:∀ i,cI w.heap.size (I i)) (sC:∀ c i,cI w.heap.size (Ix c i)) (h0:I 0 w)
  (kS:∀ l i W,i<N->w.heap.size<=l->I i W →
   assign.wpIn (Fence.wide.inRound l) 0 P (Exit.then (fun a1 W1=>Bod w.heap.size S W W1/\∃ Ax:World->Prop,cI w.heap.size Ax/\Ax W1/\∀ W2,Ax W2->(∃ r,W2.heap[l]?=some (.loop r))->body.wpIn (Fence.wide.inRound l) 0 P (Lm w.heap.size S I Ix (i+1) W2) a1 W2) (fun _ _ _=>False))
    { tmps:=(ps.zip (encs i)).foldl (fun t (p,v)=>t.setIfInBounds p v) a.tmps,defers:=[] } W)
  (wj:∀ D W,w.heap.size<=D->I N W->W.heap[D]?=some (.deferred (some []))->Q .normal { a with defers:=gZ D :: a.defers } W)
  (wh:∀ D c i W,w.heap.size<=D->i<=N->Ix c i W->W.heap[D]?=some (.deferred (some []))->c.wp P Q { a with defers:=gZ D :: a.defers } W) :
  (Code.rangeFunc g ps assign body).wp P Q a w:=by
 refine(wpIn_wide (n:=0)).1 (wpIn_rangeFunc ?_);intro fn _;obtain⟨rec,j7⟩:∃ rec:Loop,rec={ state:=.ready,pending:=none,fn,tmps:=a.tmps,params:=ps,assign,body,defers:=w.heap.size }:=⟨_,rfl⟩;obtain⟨W1,cC⟩:∃ W1,(w.alloc (.deferred (some []))).alloc (.loop rec)=W1:=⟨_,rfl⟩
 have Js:W1.heap[w.heap.size+1]?=some (.loop rec):=by
  rw[<-cC];have:=ak (w.alloc (.deferred (some []))) (.loop rec);rwa [World.size_alloc]at this
 have Ji:W1.heap[w.heap.size]?=some (.deferred (some [])):=by rw[<-cC];exact am _ (ak w _)
 have rq:Below w.heap.size w W1:=by rw[<-cC];exact((Below.refl _ w).alloc (Nat.le_refl _) _).alloc (by simp) _
 have Py:¬ S (w.heap.size+1):=fun h=>by have:=hS _ h;omega
 refine⟨w.heap.size+1,[gZ w.heap.size],W1,{ target:=.fn (.func gf) lb,args:=#[.func (.yield (w.heap.size+1)) #[] #[]] },W1,gf,
  #[.func (.yield (w.heap.size+1)) #[] #[]]++lb,W1,?_,?_,fun _ _=>trivial,?_,fun h=>(by simp[Fence.wide]at h),?_⟩
 ·rw[<-cC,j7];exact run_enterLoop_outer _ _ _ _ _
 ·simp only[resolve,hg]
  simp[go_sem]
 ·simp[invoke,go_sem,eg]
 ·refine(callsIn_wide (n:=0 - 1)).2 ?_
  refine(da (w.heap.size+1)
   (fun i W=>I i W/\W.heap[w.heap.size+1]?=some (.loop rec)/\W.heap[w.heap.size]?=some (.deferred (some [])))
   (fun i W=>∃ c,Ix c i W/\W.heap[w.heap.size+1]?=some (.loop { rec with state:=.done,pending:=some c })/\W.heap[w.heap.size]?=some (.deferred (some [])))
   W1 (ae aC rq)
   (fun i A A' h hb=>⟨hI i A A' (.of_below hb) h.1,af hb h.2.1,af hb h.2.2⟩)
   (fun i A A' h hb=>by obtain⟨c,h1,h2,h3⟩:=h;exact⟨c,sC c i A A' (.of_below hb) h1,af hb h2,af hb h3⟩)
   ?_ ⟨hI 0 _ _ (.of_below rq) h0,Js,Ji⟩).mono ?_
  ·rintro i W hi ⟨Iz,hl,hk⟩
   refine Gp (B:=w.heap.size) (S:=S) (ps:=ps) (assign:=assign) (body:=body) (tmps:=a.tmps) (i:=i) (I:=I) (Ix:=Ix) _ (by omega) Py (by rw[j7];simp) hl (yv i) (kS _ i W hi (by omega) Iz) ?_ ?_
   ·intro W3 W4 _ cg ny hc ri lF
    exact .inl ⟨rfl,⟨hI _ _ _ hc ri,ny,lF _ _ (Nat.le_refl _) (by omega) hk rfl⟩,cg.size,cg.keep⟩
   ·intro c W3 W4 _ _ ny hc ri lF
    exact .inr ⟨rfl,c,sC _ _ _ _ hc ri,ny,lF _ _ (Nat.le_refl _) (by omega) hk rfl⟩
  ·rintro e W2 ⟨⟨v,rfl⟩,(⟨hi,hl,hk⟩|⟨i,cP,c,hi,hl,hk⟩)⟩
   ·exact⟨none,_,by have:=run_endLoop (P:=P) hl (by rw[j7];simp);rw[this,j7],wj _ _ (Nat.le_refl _) (hI _ _ _ (Chg.put _ hl (by omega) rfl) hi) ((World.putObj_heap_other (by omega)).trans hk)⟩
   ·exact⟨some c,_,by have:=run_endLoop (P:=P) hl (by simp);rw[this],wpIn_wide.2 (wh _ c i _ (Nat.le_refl _) cP (sC _ _ _ _ (Chg.put _ hl (by omega) rfl) hi) ((World.putObj_heap_other (by omega)).trans hk))⟩
theorem fT{P:Program} {f:FuncId} {fn:Func} {c:Code} {args:Array Value} {w:World} {R:Ending->World->Prop}
  (hf:P.funcs[f]?=some fn) (hb:fn.body=some c)
  (h:c.wp P (bodyPostM Fence.wide 0 P fn R) { tmps:=args++Array.replicate (fn.ntmps - args.size) undef,defers:=[] } w):Calls P f args w R:=
 callsIn_wide.1 (callsIn_of_wp_marks hf hb trivial (wpIn_wide.2 h))
theorem io{P:Program} {fn:Func} {R:Ending->World->Prop} {tmps:Array Value} {D:Nat} {W:World} {v:Value} (hK:W.heap[D]?=some (.deferred (some [])))
  (hv:(results fn tmps).run P (W.putObj D (.deferred none))=.ok v (W.putObj D (.deferred none))) (h:R (.returned v) (W.putObj D (.deferred none))) :
  bodyPostM Fence.wide 0 P fn R .ret { tmps:=tmps,defers:=[gZ D] } W:=
 ⟨by simp,.inl ⟨_,_,rfl,run_takeDeferred hK,⟨v,hv,h⟩⟩⟩
theorem Ni{P:Program} {fn:Func} {R:Ending->World->Prop} {tmps:Array Value} {D:Nat} {W:World} {v:Value} (hK:W.heap[D]?=some (.deferred (some [])))
  (hv:(results fn tmps).run P (W.putObj D (.deferred none))=.ok v (W.putObj D (.deferred none))) (h:R (.returned v) (W.putObj D (.deferred none))) :
  bodyPostM Fence.wide 0 P fn R .normal { tmps:=tmps,defers:=[gZ D] } W:=
 ⟨by simp,.inl ⟨_,_,rfl,run_takeDeferred hK,⟨v,hv,h⟩⟩⟩
theorem ie{P:Program} {fn:Func} {R:Ending->World->Prop} {tmps:Array Value} {W:World} {v:Value}
  (hv:(results fn tmps).run P W=.ok v W) (h:R (.returned v) W):bodyPostM Fence.wide 0 P fn R .ret { tmps:=tmps,defers:=[] } W:=⟨v,hv,h⟩
theorem eE{n:Nat} {w W:World} {D:Nat} {o:Obj} (hn:n<=D) (h:Below n w W):Below n w (W.putObj D o):=
 ⟨h.os,h.tape,h.output,by simpa using h.size,fun k hk=>(World.putObj_heap_other (by omega)).trans (h.block k hk)⟩
end Go.Proofs.YtmeaoneaephjeaaGreatDoor
namespace Go.Proofs.YtmeaoneaephjeaaGreatDoor
open Go
theorem zL(a b:Nat) (ha:a<9223372036854775808) (hb:b<9223372036854775808):bits .and .i64 (a:Int) (b:Int)=((a &&& b:Nat):Int):=by
 have hx:a &&& b<2 ^ 63:=Nat.and_lt_two_pow _ (by omega)
 show IntKind.i64.wrap ((BitVec.ofInt 64 (a:Int) &&& BitVec.ofInt 64 (b:Int)).toNat:Int)=_
 rw[BitVec.toNat_and,ofInt_u64 a (by omega),ofInt_u64 b (by omega)];simp[IntKind.wrap,IntKind.bits,IntKind.signed];omega
theorem vj(a b:Nat) (ha:a<9223372036854775808) (hb:b<9223372036854775808):bits .or .i64 (a:Int) (b:Int)=((a ||| b:Nat):Int):=by
 have hx:a ||| b<2 ^ 63:=Nat.or_lt_two_pow (by omega) (by omega)
 show IntKind.i64.wrap ((BitVec.ofInt 64 (a:Int) ||| BitVec.ofInt 64 (b:Int)).toNat:Int)=_
 rw[BitVec.toNat_or,ofInt_u64 a (by omega),ofInt_u64 b (by omega)];simp[IntKind.wrap,IntKind.bits,IntKind.signed];omega
theorem Gq(a:Int):bits .and .i64 a 1=a % 2:=by
 show IntKind.i64.wrap ((BitVec.ofInt 64 a &&& BitVec.ofInt 64 ((1:Nat):Int)).toNat:Int)=_
 rw[BitVec.toNat_and,ofInt_u64 1 (by omega),Nat.and_one_is_mod,BitVec.toNat_ofInt];simp[IntKind.wrap,IntKind.bits,IntKind.signed];omega
theorem rI(x:Int) (p:Nat):(bits .and .i64 (x / 2 ^ p) 1 == 0)=!hasB x p:=by
 rw[Gq];unfold hasB;rcases (show x / 2 ^ p % 2=0\/x / 2 ^ p % 2=1 by omega) with h|h<;>rw[h]<;>rfl
theorem qG(x:Int) (p:Nat):(bits .and .i64 (x / 2 ^ p) 1 == 1)=hasB x p:=by
 rw[Gq];unfold hasB;rfl
theorem mT(x:Int) (h0:0<=x) (p:Nat):hasB x p=x.toNat.testBit p:=by
 obtain⟨A,rfl⟩:=Int.eq_ofNat_of_zero_le h0;unfold hasB;rw[Int.toNat_natCast,Nat.testBit_eq_decide_div_mod_eq];have:((A:Int) / 2 ^ p % 2)=((A / 2 ^ p % 2:Nat):Int):=by simp
 rw[this,Bool.eq_iff_iff];simp only[beq_iff_eq,decide_eq_true_eq];omega
theorem FP(x y:Int) (cS:0<=x) (hx:x<32) (iV:0<=y) (hy:y<32):(bits .andNot .i64 x y != 0)=!iE x y:=by
 obtain⟨A,rfl⟩:=Int.eq_ofNat_of_zero_le cS;obtain⟨B,rfl⟩:=Int.eq_ofNat_of_zero_le iV;have hA:A<32:=by omega
 have hB:B<32:=by omega
 have key:∀ a:Fin 32,∀ b:Fin 32,(bits .andNot .i64 ((a.val:Nat):Int) ((b.val:Nat):Int) != 0)=!iE ((a.val:Nat):Int) ((b.val:Nat):Int):=by decide +kernel
 exact key ⟨A,hA⟩ ⟨B,hB⟩
end Go.Proofs.YtmeaoneaephjeaaGreatDoor
namespace Go.Proofs.YtmeaoneaephjeaaGreatDoor
open Go.RowKit Go
theorem Ef(n:Int) (w:World) :
  Calls Tryz.prog 226 #[.int .i64 n] w fun e w'=>e=.returned (.int .i64 (iF n))/\w=w':=by
 go_enter Tryz.func226,Tryz.ntmps226
 go_wp2
 all_goals go_ret;exact⟨aA (by unfold iF;first|rw[if_pos (by omega)]|rw[if_neg (by omega)]),rfl⟩
theorem AU(n x:Int) (w:World) :
  Calls Tryz.prog 223 #[.int .i64 n,.int .i64 x] w fun e w'=>e=.returned (.int .i64 (jQ n x))/\w=w':=by
 by_cases hn:n<1\/5<n
 ·have hp:iF n=1:=by unfold iF;rw[if_pos hn]
  have hc:=Ef n w;rw[hp]at hc;have H:=aa hp;clear hp
  go_enter Tryz.func223,Tryz.ntmps223
  go_wp2_with (go_at_call 226;refine hc.mono ?_;rintro e w' ⟨rfl,rfl⟩)
  go_ret;exact⟨aA (by unfold jQ;rw[H.out];rfl),rfl⟩
 ·have hp:iF n=0:=by unfold iF;rw[if_neg hn]
  have hc:=Ef n w;rw[hp]at hc;have H:=aa hp;clear hp;have h1:1<=n:=by omega
  have h2:n<=5:=by omega
  clear hn
  go_enter Tryz.func223,Tryz.ntmps223
  go_wp2_with (go_at_call 226;refine hc.mono ?_;rintro e w' ⟨rfl,rfl⟩)
  all_goals
   go_ret
   refine⟨aA ?_,rfl⟩
   go_light
   unfold jQ;rw[H.out]
   grind
theorem Ln(g:Gr) (k:Nat) (hk:k<5) (w:World):(Instr.index 137 (.agg #[.int .i64 g.h0,.int .i64 g.h1,.int .i64 g.h2,.int .i64 g.h3,.int .i64 g.h4]) (.int .i64 k)).run Tryz.prog w=.ok (.int .i64 (g.hear k)) w:=by
 have:k=0\/k=1\/k=2\/k=3\/k=4:=by omega
 rcases this with h|h|h|h|h<;>(subst h;with_reducible refine Eq.trans ?_ (Eq.refl _);kernel_rfl)
theorem Qb(n:Int) (w:World) (h1:1<=n) (h2:n<=5) :
  Calls Tryz.prog 225 #[.int .i64 n] w fun e w'=>e=.returned (.int .i64 (2 ^ n.toNat - 1))/\w=w':=by
 have:n=1\/n=2\/n=3\/n=4\/n=5:=by omega
 rcases this with rfl|rfl|rfl|rfl|rfl
 all_goals
  go_enter Tryz.func225,Tryz.ntmps225
  go_wp2
  go_ret
  exact⟨rfl,rfl⟩
theorem Dh(g:Gr) (w:World) :
  Calls Tryz.prog 222 #[g.v] w fun e w'=>e=.returned (.int .i64 (gH g))/\Below w.heap.size w w':=by
 obtain⟨n,h0,h1,h2,h3,h4⟩:=g;by_cases hn:n<1\/5<n
 ·have H:Hid (gH ⟨n,h0,h1,h2,h3,h4⟩=2):=by unfold gH;rw[if_pos hn];rfl
  rcases hn with hn|hn
  ·go_enter Tryz.func222,Tryz.ntmps222
   go_wp2
   go_ret;exact⟨aA H.out.symm,by go_grown⟩
  ·have ze:¬ n<1:=by omega
   go_enter Tryz.func222,Tryz.ntmps222
   go_wp2
   go_ret;exact⟨aA H.out.symm,by go_grown⟩
 have kG:1<=n:=by omega
 have nU:n<=5:=by omega
 have HE:Hid (gH ⟨n,h0,h1,h2,h3,h4⟩=a8 5 fun p=>lY n (Gr.hear ⟨n,h0,h1,h2,h3,h4⟩ p) p):=by unfold gH;rw[if_neg hn];rfl
 clear hn
 go_enter Tryz.func222,Tryz.ntmps222
 go_wp2
 go_loop [15] (fun i=>∃ k:Nat,k<=5/\i=.int .i64 k/\∀ j,j<k->lY n (Gr.hear ⟨n,h0,h1,h2,h3,h4⟩ j) j=0) (fun i=>5 - (intOf i).toNat)
 case atStart=>exact⟨0,by omega,rfl,by simp⟩
 case round=>
  obtain⟨k,hk,rfl,aS⟩:=hrel;have H:=aa aS;clear aS;by_cases az:k<5
  ·have hx:=Ln ⟨n,h0,h1,h2,h3,h4⟩ k az
   have hEx:∃ x,x=Gr.hear ⟨n,h0,h1,h2,h3,h4⟩ k:=⟨_,rfl⟩;obtain⟨x,nP⟩:=hEx;rw[<-nP]at hx;have HX:=aa nP;clear nP;have gq:=rI x k
   go_wp2_with (go_at_call 225;refine(Qb _ _ (by omega) (by omega)).mono ?_;rintro e w' ⟨rfl,rfl⟩)
   all_goals first
    | (go_ret
       refine⟨aA ?_,by go_grown⟩
       rw[HE.out]
       go_light
       refine bH k _ az H.out ?_ (by decide)
       rw[<-HX.out]
       unfold lY
       grind)
    | (go_round
       case rel=>
        refine⟨k+1,by omega,by go_num,aT H.out ?_⟩
        go_light
        rw[<-HX.out]
        unfold lY
        grind
       case measure=>simp[intOf];omega)
  ·go_wp2
   go_ret;exact⟨aA (by rw[HE.out,cH];intro j hj;exact H.out j (by omega)),by go_grown⟩
theorem zk(a b:Int) (w:World) :
  Calls Tryz.prog 203 #[.int .i64 a,.int .i64 b] w fun e w'=>e=.returned (.int .i64 (cmpI a b))/\w=w':=by
 go_enter Tryz.func203,Tryz.ntmps203
 go_wp2
 all_goals
  go_ret
  refine⟨aA ?_,rfl⟩
  go_light
  unfold cmpI
  grind
theorem Gs(d:Nat) (a0 a1 a2 a3 a4 b0 b1 b2 b3 b4:Int) (w:World):(Op.equalIn (d+2) 137 (.agg #[.int .i64 a0,.int .i64 a1,.int .i64 a2,.int .i64 a3,.int .i64 a4]) (.agg #[.int .i64 b0,.int .i64 b1,.int .i64 b2,.int .i64 b3,.int .i64 b4])).run Tryz.prog w=.ok (decide (a0=b0/\a1=b1/\a2=b2/\a3=b3/\a4=b4)) w:=by
 obtain⟨i,hi⟩:∃ i,Tryz.prog.info? 3=some i:=Option.isSome_iff_exists.1 (by kernel_rfl);have hc:Tryz.prog.cellsOf 3=1:=by kernel_rfl
 rw[run_equalIn_array w (d+1) _ _ Tryz.underlying137 hi,hc];have ag:=Tryz.isAgg3;have u3:=Tryz.underlying3;have hr:List.range 5=[0,1,2,3,4]:=rfl;rw[hr];simp only[Op.eqItems,Sem.run_bind,part,ag,Result.andThen_ok];simp[run_equalIn_int w d 3 _ .i64 _ _ u3];by_cases h0:a0=b0
 case neg=>simp[h0]
 by_cases h1:a1=b1
 case neg=>simp[h0,h1]
 by_cases h2:a2=b2
 case neg=>simp[h0,h1,h2]
 by_cases h3:a3=b3
 case neg=>simp[h0,h1,h2,h3]
 by_cases h4:a4=b4<;>simp[h0,h1,h2,h3,h4]
theorem Di(d:Nat) (a b:Gr) (w:World):(Op.equalIn (d+3) 139 a.v b.v).run Tryz.prog w=.ok (decide (a=b)) w:=by
 have hS:Tryz.prog.underlying 139=some (.struct (Tryz.prog.fieldsOf 139)):=by kernel_rfl
 have hp:Tryz.prog.stoodInHeld 139=false:=by kernel_rfl
 rw[run_equalIn_struct w (d+2) 139 _ _ hS hp];have ag:=Tryz.isAgg3;have ah:=Tryz.isAgg137;have zh:=Tryz.sizeOf137;have u3:=Tryz.underlying3;simp only[Program.fieldsOf,Tryz.underlying139];simp[Op.eqFields,part,ag,ah,zh,run_equalIn_int w (d+1) 3 _ .i64 _ _ u3,Gs d];obtain⟨n,h0,h1,h2,h3,h4⟩:=a;obtain⟨m,g0,g1,g2,g3,g4⟩:=b;by_cases hn:n=m
 case neg=>simp[hn]
 by_cases hh:h0=g0/\h1=g1/\h2=g2/\h3=g3/\h4=g4<;>simp[hn,hh]
theorem Dj(d:Nat) (a b:Rd) (w:World):(Op.equalIn (d+4) 141 a.v b.v).run Tryz.prog w=.ok (decide (a=b)) w:=by
 have hS:Tryz.prog.underlying 141=some (.struct (Tryz.prog.fieldsOf 141)):=by kernel_rfl
 have hp:Tryz.prog.stoodInHeld 141=false:=by kernel_rfl
 rw[run_equalIn_struct w (d+3) 141 _ _ hS hp];have ag:=Tryz.isAgg3;have ah:=Tryz.isAgg139;have zh:=Tryz.sizeOf139;have u3:=Tryz.underlying3;have hg:=Di d a.g b.g w;simp only[Program.fieldsOf,Tryz.underlying141];simp[Op.eqFields,part,ag,ah,zh,run_equalIn_int w (d+2) 3 _ .i64 _ _ u3,hg];obtain⟨ga,fa⟩:=a;obtain⟨gb,fb⟩:=b;by_cases hn:ga=gb
 case neg=>simp[hn]
 by_cases hh:fa=fb<;>simp[hn,hh]
theorem Nj(a b:Gr) (w:World):(binOp .eql 139 a.v b.v).run Tryz.prog w=.ok (.bool (decide (a=b))) w:=by
 rw[run_eql_struct,Di 9997];rfl
theorem Nk(a b:Gr) (w:World):(binOp .neq 139 a.v b.v).run Tryz.prog w=.ok (.bool (!decide (a=b))) w:=by
 rw[run_neq_struct,Di 9997];rfl
theorem Nl(a b:Rd) (w:World):(binOp .eql 141 a.v b.v).run Tryz.prog w=.ok (.bool (decide (a=b))) w:=by
 rw[run_eql_struct,Dj 9996];rfl
theorem ph(a:Int):cmpI a a=0:=by unfold cmpI;grind
theorem kK{a b:Int} (h:cmpI a b=0):a=b:=by unfold cmpI at h;grind
theorem sZ(a:Gr):eZ a a=0:=by
 unfold eZ;rw[ph];simp;exact cH _ _ (fun j _=>ph _)
theorem mr(g:Gr) (k:Nat) (hk:k<5) (w:World) (B:Nat) (hw:w.heap[B]?=some (.cells #[.int .i64 g.n,.int .i64 g.h0,.int .i64 g.h1,.int .i64 g.h2,.int .i64 g.h3,.int .i64 g.h4] 139)) :
  w.cell? ⟨B,1+k,none⟩=some (.int .i64 (g.hear k)):=by
 have:k=0\/k=1\/k=2\/k=3\/k=4:=by omega
 rcases this with h|h|h|h|h<;>subst h<;>simp[World.cell?,hw,Gr.hear]
theorem AV(a b:Gr) (w:World) :
  Calls Tryz.prog 224 #[a.v,b.v] w fun e w'=>e=.returned (.int .i64 (eZ a b))/\Below w.heap.size w w':=by
 by_cases Aq:a=b
 ·subst Aq
  have jK:∀ w,(binOp .eql 139 a.v a.v).run Tryz.prog w=.ok (.bool true) w:=fun w=>by rw[Nj];simp
  have H:=aa (sZ a);obtain⟨n,h0,h1,h2,h3,h4⟩:=a
  go_enter Tryz.func224,Tryz.ntmps224
  go_wp2
  go_ret;exact⟨aA H.out.symm,by go_grown⟩
 have jK:∀ w,(binOp .eql 139 a.v b.v).run Tryz.prog w=.ok (.bool false) w:=fun w=>by rw[Nj];simp[Aq]
 clear Aq;by_cases hn:a.n=b.n
 ·have iz:(a.n != b.n)=false:=by simp[hn]
  have HC:Hid (eZ a b=a8 5 fun p=>cmpI (a.hear p) (b.hear p)):=by(have h:eZ a b=a8 5 fun p=>cmpI (a.hear p) (b.hear p):=by(unfold eZ;rw[hn,ph];simp));exact h
  clear hn
  go_enter Tryz.func224,Tryz.ntmps224
  go_wp2
  refine bj (fun W=>Below w.heap.size w W/\W.heap[w.heap.size]?=some (.cells #[.int .i64 a.n,.int .i64 a.h0,.int .i64 a.h1,.int .i64 a.h2,.int .i64 a.h3,.int .i64 a.h4] 139)/\W.heap[w.heap.size+1]?=some (.cells #[.int .i64 b.n,.int .i64 b.h0,.int .i64 b.h1,.int .i64 b.h2,.int .i64 b.h3,.int .i64 b.h4] 139))
   ⟨by go_grown,am _ (ak _ _),by have:=ak (w.alloc (.cells #[.int .i64 a.n,.int .i64 a.h0,.int .i64 a.h1,.int .i64 a.h2,.int .i64 a.h3,.int .i64 a.h4] 139));rw[World.size_alloc]at this;exact this _⟩ (fun W0 aW=>?_)
  obtain⟨aC,hA,hB⟩:=aW;have HA:=aa hA;clear hA;have HB:=aa hB;clear hB
  go_loopw [20] (fun i wr=>Below W0.heap.size W0 wr/\∃ k:Nat,k<=5/\i=.int .i64 k/\∀ j,j<k->cmpI (a.hear j) (b.hear j)=0) (fun i _=>5 - (intOf i).toNat)
  case atStart=>exact⟨Below.refl _ _,0,by omega,rfl,by simp⟩
  case round=>
   obtain⟨aq,k,hk,rfl,aS⟩:=hrel;have H:=aa aS;clear aS;by_cases az:k<5
   ·have c1:∀ x:ExtW wr,x.val.cell? ⟨w.heap.size,1+k,none⟩=some (.int .i64 (a.hear k)):=fun x=>x.cell (mr a k az wr _ (af aq HA.out))
    have c2:∀ x:ExtW wr,x.val.cell? ⟨w.heap.size+1,1+k,none⟩=some (.int .i64 (b.hear k)):=fun x=>x.cell (mr b k az wr _ (af aq HB.out))
    go_wp2
    refine aB (by kernel_rfl) (by kernel_rfl) ?_
    repeat (quiet_step ((go_at_call 203;exact Calls.ext_of ((zk _ _ _).mono fun _ _ ⟨h1,h2⟩=>⟨h1,h2 ▸ Below.refl _ _⟩))))
    refine wpQuiet_nil ?_;intro _ dY;obtain⟨xq,cZ⟩:=dY;subst cZ
    go_wp2
    ·have ht:(cmpI (a.hear k) (b.hear k) != 0)=true:=by assumption
     go_ret
     exact⟨aA (by rw[HC.out];exact bH k _ az H.out rfl (by simpa using ht)),ae aC (ae aq xq.ext)⟩
    ·have ht:(cmpI (a.hear k) (b.hear k) != 0)=false:=by assumption
     go_roundw
     case rel=>exact⟨ae aq xq.ext,k+1,by omega,by go_num,aT H.out (by simpa using ht)⟩
     case measure=>simp[intOf];omega
   ·go_wp2
    go_ret;exact⟨aA (by rw[HC.out,cH];intro j hj;exact H.out j (by omega)),ae aC aq⟩
 ·have iz:(a.n != b.n)=true:=by simp[hn]
  have HC:Hid (eZ a b=cmpI a.n b.n):=by unfold eZ;rw[if_pos];exact rfl;intro h;exact hn (kK h)
  clear hn
  go_enter Tryz.func224,Tryz.ntmps224
  go_wp2_with (go_at_call 203;refine(zk _ _ _).mono ?_;rintro e w' ⟨rfl,rfl⟩)
  go_ret;exact⟨aA HC.out.symm,by go_grown⟩
theorem Dk(r:Rd) (w:World) :
  Calls Tryz.prog 219 #[r.v] w fun e w'=>e=.returned (.int .i64 (roundE r))/\Below w.heap.size w w':=by
 obtain⟨⟨n,h0,h1,h2,h3,h4⟩,f⟩:=r
 go_enter Tryz.func219,Tryz.ntmps219
 go_wp2_with (first
  | (go_at_call 222;refine(Dh ⟨_,_,_,_,_,_⟩ _).mono ?_;rintro e w1 ⟨rfl,hb⟩;obtain⟨hc,hf⟩:=Lj hb)
  | (go_at_call 223;refine(AU _ _ _).mono ?_;rintro e w2 ⟨rfl,rfl⟩))
 all_goals
  go_ret
  refine⟨aA ?_,?_⟩
  ·go_light
   unfold roundE
   grind
  ·exact ae (by go_grown) hb
theorem Jz(a:Rd):roundC a a=0:=by
 unfold roundC;rw[sZ,ph];simp
theorem Qc{a b:Gr} (hn:a.n=b.n) (h:∀ j,j<5->cmpI (a.hear j) (b.hear j)=0):a=b:=by
 obtain⟨n,h0,h1,h2,h3,h4⟩:=a;obtain⟨m,g0,g1,g2,g3,g4⟩:=b;have e0:=kK (h 0 (by omega));have e1:=kK (h 1 (by omega));have e2:=kK (h 2 (by omega));have e3:=kK (h 3 (by omega));have e4:=kK (h 4 (by omega));simp[Gr.hear]at e0 e1 e2 e3 e4 hn;simp[e0,e1,e2,e3,e4,hn]
theorem JA{a b:Gr} (h:eZ a b=0):a=b:=by
 unfold eZ at h;by_cases hc:cmpI a.n b.n=0
 ·rw[if_neg (by simpa using hc)]at h
  exact Qc (kK hc) (eV h)
 ·rw[if_pos hc]at h;exact absurd h hc
theorem AW(a b:Rd) (w:World) :
  Calls Tryz.prog 220 #[a.v,b.v] w fun e w'=>e=.returned (.int .i64 (roundC a b))/\Below w.heap.size w w':=by
 by_cases Aq:a=b
 ·subst Aq
  have jK:∀ w,(binOp .eql 141 a.v a.v).run Tryz.prog w=.ok (.bool true) w:=fun w=>by rw[Nl];simp
  have H:=aa (Jz a)
  go_enter Tryz.func220,Tryz.ntmps220
  go_wp2
  go_ret;exact⟨aA H.out.symm,by go_grown⟩
 have jK:∀ w,(binOp .eql 141 a.v b.v).run Tryz.prog w=.ok (.bool false) w:=fun w=>by rw[Nl];simp[Aq]
 by_cases hg:a.g=b.g
 ·have bM:∀ w,(binOp .neq 139 a.g.v b.g.v).run Tryz.prog w=.ok (.bool false) w:=fun w=>by rw[Nk];simp[hg]
  have HC:Hid (roundC a b=cmpI a.f b.f):=by(have h:roundC a b=cmpI a.f b.f:=by(unfold roundC;rw[hg,sZ];simp));exact h
  clear hg Aq
  go_enter Tryz.func220,Tryz.ntmps220
  go_wp2_with (go_at_call 203;refine(zk _ _ _).mono ?_;rintro e w' ⟨rfl,rfl⟩)
  go_ret;exact⟨aA HC.out.symm,by go_grown⟩
 ·have bM:∀ w,(binOp .neq 139 a.g.v b.g.v).run Tryz.prog w=.ok (.bool true) w:=fun w=>by rw[Nk];simp[hg]
  have HC:Hid (roundC a b=eZ a.g b.g):=by(have h:roundC a b=eZ a.g b.g:=by(unfold roundC;rw[if_pos (fun h=>hg (JA h))]));exact h
  clear hg Aq
  go_enter Tryz.func220,Tryz.ntmps220
  go_wp2_with (go_at_call 224;refine(AV a.g b.g _).mono ?_;rintro e w1 ⟨rfl,hb⟩)
  go_ret;exact⟨aA HC.out.symm,ae (by go_grown) hb⟩
end Go.Proofs.YtmeaoneaephjeaaGreatDoor
namespace Go.Proofs.YtmeaoneaephjeaaGreatDoor
open Go.RowKit Go Go.Shelf
attribute [local go_sem] Oper.semAt_some
theorem aF{W:World} {B:Nat} {cs:Array Value} {t:TypeId} {f:Nat × Nat} (h:W.heap[B]?=some (.cells cs t f)) (o:Nat) (v:Value):(W.setCell ⟨B,o,none⟩ v).heap[B]?=some (.cells (cs.setIfInBounds o v) t f):=by
 simp[World.setCell,Array.getElem?_modify,h]
theorem aH{W:World} {B C:Nat} {x:Obj} (h:W.heap[C]?=some x) (bM:C≠B) (o:Nat) (v:Value):(W.setCell ⟨B,o,none⟩ v).heap[C]?=some x:=
 (Below.heap_setCell W ⟨B,o,none⟩ v C bM).trans h
def iZ(n:Nat) (w w':World):Prop:=∀ k,k<n->w'.heap[k]?=w.heap[k]?
theorem iZ.cell{w w':World} (h:iZ w.heap.size w w') {a:Addr} {v:Value} (hc:w.cell? a=some v):w'.cell? a=some v:=by
 have:=fj hc;rw[World.cell?_of_block (w:=w) (h a.block this)];exact hc
theorem iZ.ck{w w':World} (h:iZ w.heap.size w w'):CK w w':=fun k _ hk _=>(h k (ar hk)).trans hk
theorem iZ.of_below{w w':World} (h:Below w.heap.size w w'):iZ w.heap.size w w':=h.block
theorem iZ.alloc{w w':World} (h:iZ w.heap.size w w') (o:Obj):iZ w.heap.size w (w'.alloc o):=fun k hk=>by
 have h1:w.heap[k]?=some w.heap[k]:=Array.getElem?_eq_getElem hk;rw[h1];exact am o ((h k hk).trans h1)
theorem iZ.trans{n:Nat} {a b c:World} (h:iZ n a b) (k:iZ n b c):iZ n a c:=fun i hi=>(k i hi).trans (h i hi)
theorem xx(n:Int) (p:Option Addr) (len cap:Nat) (w:World) :
  Calls Tryz.prog 218 #[.agg #[.int .i64 n,.slice p len cap]] w fun e w'=>e=.returned (.func (.func 221) #[] #[.pointer (some ⟨w.heap.size,0,none⟩)])/\w'=w.alloc (.cells #[.int .i64 n,.slice p len cap] 27):=by
 go_enter Tryz.func218,Tryz.ntmps218
 go_wp2
 go_ret
 exact⟨rfl,rfl⟩
def Gt(l:List (List Mv)) (i:Nat):Array Value:=#[.int .i64 (mvAt l i).1,(mvAt l i).2.v]
theorem vm(wd:World) (v:Value) (l:List (List Mv)) (hv:bk wd v l) (w:World) (hb:Below wd.heap.size wd w) (Bx:Nat) (hx:w.cell? ⟨Bx,1,none⟩=some v) :
  rH Tryz.prog 221 #[.pointer (some ⟨Bx,0,none⟩)] (Gt l) (movesN l) (fun k=>k<wd.heap.size) w:=by
 intro yl J Jx W hW hJ nV hY h0;have dj:=ai hW hx;have eT:iZ wd.heap.size wd W:=(iZ.of_below hb).trans (fun k hk=>hW.block k (Nat.lt_of_lt_of_le hk hb.size));obtain⟨pa,ca,rfl,la1,la2,ea⟩:=hv.at;clear hv hx hW hb;have EA:=aa ea;clear ea;have HJ:=aa hJ;clear hJ;have Jh:=aa nV;clear nV;have HY:=aa hY;clear hY;refine(callsIn_wide (n:=0)).1 ?_;refine callsIn_of_wp Tryz.func221 rfl trivial ?_ rfl;simp only[Tryz.ntmps221,List.size_toArray,List.length_cons,List.length_nil,Nat.reduceAdd,Nat.reduceSub,Array.replicate_succ,Array.replicate_zero,List.push_toArray,List.append_toArray,List.nil_append,List.cons_append]
 gi_wp2
 gi_loopw [10] (fun i wr=>∃ s:Nat,s<=l.length/\i=.int .i64 s/\iZ wd.heap.size wd wr/\J (cnt l s) wr) (fun i _=>l.length - (intOf i).toNat)
 case atStart=>exact⟨0,by omega,rfl,eT,by rw[oh];exact h0⟩
 case round=>
  obtain⟨s,hs,rfl,fM,hj⟩:=hrel;have jP:=aa fM;clear fM;have iX:=aa hj;clear hj;by_cases az:s<l.length
  ·obtain⟨b1,o1,rfl,x,cx,hxs⟩:=EA.out s az
   rw[Nat.mul_one]at cx;have d1:=jP.out.cell cx;obtain⟨p2,c2,rfl,m1,m2,e2⟩:=hxs.at;clear hxs cx;have E2:=aa e2;clear e2
   gi_wp2
   obtain⟨W0,aW⟩:∃ W0:World,W0=wr:=⟨_,rfl⟩;rw[<-aW]at jP iX d1 ⊢;clear aW wr
   gi_loopw [17] (fun i wr=>∃ j:Nat,j<=l[s].length/\i=.int .i64 j/\iZ wd.heap.size wd wr/\J (cnt l s+j) wr) (fun i _=>l[s].length - (intOf i).toNat)
   case atStart=>exact⟨0,by omega,rfl,jP.out,iX.out⟩
   case round=>
    obtain⟨j,hj,rfl,fM,yN⟩:=hrel;have nD:=aa fM;clear fM;have ID:=aa yN;clear yN;by_cases K5:j<l[s].length
    ·obtain⟨b2,o2,rfl,⟨⟨c0,_⟩,⟨c1,_⟩,⟨c2,_⟩,⟨c3,_⟩,⟨c4,_⟩,⟨c5,_⟩,⟨c6,_⟩⟩,c7,_⟩:=E2.out j K5
     have d0:=nD.out.cell c0;have d1:=nD.out.cell c1;have d2:=nD.out.cell c2;have d3:=nD.out.cell c3;have d4:=nD.out.cell c4;have d5:=nD.out.cell c5;have d6:=nD.out.cell c6;have d7:=nD.out.cell c7;clear c0 c1 c2 c3 c4 c5 c6 c7;have S8:=zi l s j az K5;have lu:=Gl l s az;generalize hm:l[s][j]=m at d0 d1 d2 d3 d4 d5 d6 d7 S8;obtain⟨fn,tmps,assign,body,hy,hR⟩:=HY.out (cnt l s+j) (wr.alloc (.cells #[.int .i64 m.r.g.n,.int .i64 m.r.g.h0,.int .i64 m.r.g.h1,.int .i64 m.r.g.h2,.int .i64 m.r.g.h3,.int .i64 m.r.g.h4,.int .i64 m.r.f,.int .i64 m.to] 143)) (by omega) (HJ.out _ _ _ ID.out (by go_grown));unfold Gt at hy;rw[S8]at hy;dsimp only at hy;have HR:=aa hR;clear hR S8 hm
     gi_wp2
     refine⟨rfl,HR.out.mono ?_⟩;rintro e W3 (⟨rfl,Cn,Cm,hZ⟩|⟨rfl,rB⟩)
     ·gi_wp2
      go_roundw
      case rel=>exact⟨j+1,by omega,by go_num,iZ.trans (nD.out.alloc _) hZ,Cn⟩
      case measure=>simp[intOf];omega
     ·gi_wp2
      refine bodyPost_ret (results_none rfl _ _ _) rfl ?_;exact⟨⟨_,rfl⟩,.inr ⟨_,by omega,rB⟩⟩
    ·gi_wp2
     go_roundw
     case rel=>
      refine⟨s+1,by omega,by go_num,nD.out,?_⟩;have e:l[s].length=j:=by omega
      rw[ol l s az,e];exact ID.out
     case measure=>simp[intOf];omega
  ·gi_wp2
   go_end0
   exact⟨⟨_,rfl⟩,.inl (by rw[<-ud l s (by omega)];exact iX.out)⟩
def sizedE(a:Adv):Int:=if a.states.length<1\/256<a.states.length\/4096<movesN a.states then 5 else 0
theorem Nm(a:Adv) (v:Value) (w:World) (hv:bk w v a.states) (hN:movesN a.states<1099511627776) :
  Calls Tryz.prog 216 #[.agg #[.int .i64 a.n,v]] w fun e w'=>e=.returned (.int .i64 (sizedE a))/\Below w.heap.size w w':=by
 have G:=aa hv;obtain⟨pa,ca,rfl,la1,la2,_⟩:=hv.at;clear hv;refine fT Tryz.func216 rfl ?_;simp only[Tryz.ntmps216,List.size_toArray,List.length_cons,List.length_nil,Nat.reduceAdd,Nat.reduceSub,Array.replicate_succ,Array.replicate_zero,List.push_toArray,List.append_toArray,List.nil_append,List.cons_append]
 go_wp2_with fail
 refine(xx _ _ _ _ _).mono ?_;rintro e w1 ⟨rfl,rfl⟩
 go_wp2_with fail
 refine bj (fun W=>Below w.heap.size w W/\W.heap[w.heap.size]?=some (.cells #[.int .i64 a.n,.slice pa a.states.length ca] 27)/\W.heap[w.heap.size+1]?=some (.cells #[.int .i64 0] 3)/\W.heap[w.heap.size+1+1]?=some (.cells #[.int .i64 a.n,.slice pa a.states.length ca] 27))
  ⟨by go_grown,am _ (am _ (ak _ _)),am _ (by simpa using ak (w.alloc (.cells #[.int .i64 a.n,.slice pa a.states.length ca] 27)) (.cells #[.int .i64 0] 3)),by simpa using ak ((w.alloc (.cells #[.int .i64 a.n,.slice pa a.states.length ca] 27)).alloc (.cells #[.int .i64 0] 3)) (.cells #[.int .i64 a.n,.slice pa a.states.length ca] 27)⟩ (fun W0 aW=>?_)
 obtain⟨aC,hA,lS,hX⟩:=aW;have da:=vm w _ a.states G.out W0 aC (w.heap.size+1+1) (by simp[ab hX]);have eK:=ar hX
 refine mg (gf:=221) (lb:=#[.pointer (some ⟨w.heap.size+1+1,0,none⟩)]) rfl (enters_of Tryz.func221 (by kernel_rfl) rfl) da (Below.refl _ _) (fun k hk=>Nat.lt_of_lt_of_le hk aC.size) (fun i=>rfl)
  (fun i W=>Below w.heap.size w W/\W.heap[w.heap.size]?=some (.cells #[.int .i64 a.n,.slice pa a.states.length ca] 27)/\W.heap[w.heap.size+1]?=some (.cells #[.int .i64 i] 3))
  (fun _ _ _=>False) (fun i=>(cI.below (by omega)).and (cI.cells.and cI.cells)) (fun _ _=>cI.pure) ⟨aC,hA,lS⟩ ?round ?done ?stop
 case round=>
  intro l i W hi hl hI;unfold Gt
  gi_wp2
  refine⟨Bod.refl _ _ _,_,(cI.below (w:=w) (by omega)).and (cI.cells.and cI.cells),hI,fun W2 h2 _=>?_⟩;obtain⟨g1,g2,g3⟩:=h2;have c1:=ab g3 0;have f1:=aE g3 0;simp at c1;have HG:=aa (And.intro g1 (And.intro g2 g3));clear g1 g2 g3 hI da
  gi_wp2
  obtain⟨g1,g2,g3⟩:=HG.out;refine⟨Bod.setCell _ _ _ (by simp),g1.setCell (by simp) _,aH g2 (by omega) _ _,?_⟩;rw[aF g3];simp
 case done=>
  intro D W hD hI hK;obtain⟨g1,g2,g3⟩:=hI;have HG:=aa (And.intro g1 (And.intro g2 g3));have t1:=ab g2;have t2:=ab g3;clear g1 g2 g3 da
  go_wp2
  all_goals
   refine io hK (results_tmp rfl _ _ _) ?_;refine⟨aA ?_,eE (by omega) HG.out.1⟩
   go_light
   unfold sizedE
   grind
 case stop=>
  intro D c i W _ _ h;exact h.elim
end Go.Proofs.YtmeaoneaephjeaaGreatDoor
namespace Go.Proofs.YtmeaoneaephjeaaGreatDoor
open Go.RowKit Go Go.Shelf
theorem ld(g:Nat):∀ (vs:List Value) (o:Nat) (w:World),(∀ k,k≠g->(w.setCells g o vs).heap[k]?=w.heap[k]?)/\(w.setCells g o vs).os=w.os/\(w.setCells g o vs).tape=w.tape/\(w.setCells g o vs).output=w.output/\(w.setCells g o vs).heap.size=w.heap.size
 | [],o,w=>⟨fun _ _=>rfl,rfl,rfl,rfl,rfl⟩
 | v :: r,o,w=>by
  obtain⟨h1,h2,h3,h4,h5⟩:=ld g r (o+1) (w.setCell ⟨g,o,none⟩ v);exact⟨fun k hk=>(h1 k hk).trans (Below.heap_setCell w ⟨g,o,none⟩ v k hk),h2,h3,h4,h5.trans (by simp)⟩
theorem lZ(g:Nat) (e:TypeId) (fz:Nat × Nat):∀ (vs:List Value) (o:Nat) (w:World) (cur:Array Value),w.heap[g]?=some (.cells cur e fz)->o+vs.length<=cur.size →
  ∃ cur',(w.setCells g o vs).heap[g]?=some (.cells cur' e fz)/\cur'.size=cur.size/\cur'.toList.take (o+vs.length)=cur.toList.take o++vs
 | [],o,w,cur,hg,_=>⟨cur,hg,rfl,by simp⟩
 | v :: r,o,w,cur,hg,hl=>by
  simp only[List.length_cons]at hl;obtain⟨cur',h1,h2,h3⟩:=lZ g e fz r (o+1) (w.setCell ⟨g,o,none⟩ v) (cur.setIfInBounds o v) (aF hg o v) (by simp;omega);refine⟨cur',h1,by simpa using h2,?_⟩;rw[show o+(v :: r).length=o+1+r.length by simp;omega,h3,Array.toList_setIfInBounds,List.take_succ_eq_append_getElem (by simp;omega),List.take_set_of_le (by omega),List.getElem_set_self];simp
def aD(w:World) (base:Nat) (e:TypeId) (size:Nat) (v:Value) (n:Nat) (xs:List Value):Prop:=
 xs.length=n * size/\((v=.slice none 0 0/\n=0)\/∃ g cap cur fz,v=.slice (some ⟨g,0,none⟩) n cap/\base<=g/\w.heap[g]?=some (.cells cur e fz)/\(∀ i,i<cur.size->¬ (fz.1<=i/\i<fz.2))/\n<=cap/\cap<=maxLen/\cur.size=cap * size/\cur.toList.take (n * size)=xs)
theorem aD.nil(w:World) (base:Nat) (e:TypeId) (size:Nat):aD w base e size (.slice none 0 0) 0 []:=⟨by simp,.inl ⟨rfl,rfl⟩⟩
theorem aD.of_owns{w:World} {base:Nat} {e:TypeId} {size:Nat} {v:Value} {n:Nat} {xs:List Value} (h:w.ownsRow base e size v n xs):aD w base e size v n xs:=by
 refine⟨h.1,?_⟩;rcases h.2 with hn|⟨g,cap,cur,hv,hb,hg,rest⟩
 ·exact .inl hn
 ·exact .inr ⟨g,cap,cur,(0,0),hv,hb,hg,fun i _ h=>by have:=h.2;simp at this,rest⟩
theorem aD.slice{w:World} {base size:Nat} {e:TypeId} {v:Value} {n:Nat} {xs:List Value} (h:aD w base e size v n xs):∃ a c,v=.slice a n c:=by
 rcases h.2 with ⟨rfl,rfl⟩|⟨g,cap,cur,fz,rfl,_⟩
 ·exact⟨_,_,rfl⟩
 ·exact⟨_,_,rfl⟩
theorem aD.ck{w w':World} {base size:Nat} {e:TypeId} {v:Value} {n:Nat} {xs:List Value} (h:aD w base e size v n xs) (hb:CK w w'):aD w' base e size v n xs:=by
 obtain⟨hl,h⟩:=h;refine⟨hl,?_⟩;rcases h with h|⟨g,cap,cur,fz,h1,h2,h3,h4⟩
 ·exact .inl h
 ·exact .inr ⟨g,cap,cur,fz,h1,h2,hb _ _ h3 rfl,h4⟩
theorem aD.up{w w':World} {base size:Nat} {e:TypeId} {v:Value} {n:Nat} {xs:List Value} (h:aD w base e size v n xs) (hb:Below w.heap.size w w'):aD w' base e size v n xs:=h.ck (.of_below hb)
theorem aD.lt{w:World} {base size:Nat} {e:TypeId} {v:Value} {n:Nat} {xs:List Value} (h:aD w base e size v n xs):∀ k,v.ownBlock=some k->base<=k/\k<w.heap.size:=by
 intro k hk;rcases h.2 with ⟨rfl,_⟩|⟨g,cap,cur,fz,rfl,hb,hg,_⟩
 ·simp[Value.ownBlock]at hk
 ·simp[Value.ownBlock]at hk
  subst hk;exact⟨hb,ar hg⟩
theorem aD.ne{w:World} {base sz:Nat} {e e':TypeId} {v:Value} {n:Nat} {xs:List Value} {B:Nat} {cs:Array Value} {f:Nat × Nat} (h:aD w base e sz v n xs) (hB:w.heap[B]?=some (.cells cs e' f)) (bM:e≠e'):∀ g,v.ownBlock=some g->g≠B:=by
 intro g hg hgB;rcases h.2 with ⟨rfl,_⟩|⟨g',cap,cur,fz,rfl,_,h3,_⟩
 ·cases hg
 ·have:g'=g:=by simpa[Value.ownBlock] using hg
  rw[this,hgB,hB]at h3;cases h3;exact bM rfl
theorem aD.isCells{w:World} {base sz:Nat} {e:TypeId} {v:Value} {n:Nat} {xs:List Value} {B:Nat} {o:Obj} (h:aD w base e sz v n xs) (hB:w.heap[B]?=some o) (ho:o.isCells=false):some B≠v.ownBlock:=by
 intro hg;rcases h.2 with ⟨rfl,_⟩|⟨g',cap,cur,fz,rfl,_,h3,_⟩
 ·cases hg
 ·have:B=g':=by simpa[Value.ownBlock] using hg
  rw[<-this,hB]at h3;cases h3;cases ho
theorem aD.put{w:World} {base sz:Nat} {e:TypeId} {v:Value} {n:Nat} {xs:List Value} {B:Nat} (h:aD w base e sz v n xs) (bM:∀ g,v.ownBlock=some g->g≠B) (o:Nat) (x:Value):aD (w.setCell ⟨B,o,none⟩ x) base e sz v n xs:=by
 obtain⟨hl,h⟩:=h;refine⟨hl,?_⟩;rcases h with h|⟨g,cap,cur,fz,rfl,h2,h3,h4⟩
 ·exact .inl h
 ·exact .inr ⟨g,cap,cur,fz,rfl,h2,aH h3 (bM g rfl) _ _,h4⟩
theorem aD.base{w:World} {base base':Nat} {e:TypeId} {sz:Nat} {v:Value} {n:Nat} {xs:List Value} (h:aD w base e sz v n xs) (hb:base'<=base):aD w base' e sz v n xs:=by
 obtain⟨hl,h⟩:=h;refine⟨hl,?_⟩;rcases h with h|⟨g,cap,cur,fz,h1,h2,h3⟩
 ·exact .inl h
 ·exact .inr ⟨g,cap,cur,fz,h1,Nat.le_trans hb h2,h3⟩
theorem aD.cell{w:World} {base size:Nat} {e:TypeId} {v:Value} {n:Nat} {xs:List Value} (h:aD w base e size v n xs) (j:Nat) (u:Value) (hu:xs[j]?=some u):∃ g c,v=.slice (some ⟨g,0,none⟩) n c/\w.cell? ⟨g,j,none⟩=some u:=by
 rcases h.2 with ⟨rfl,hn⟩|⟨g,cap,cur,fz,rfl,_,hg,_,_,_,_,ht⟩
 ·subst hn
  have:xs=[]:=List.eq_nil_of_length_eq_zero (by simpa using h.1);rw[this]at hu;simp at hu
 ·refine⟨g,cap,rfl,?_⟩
  rw[ab hg];rw[<-ht,List.getElem?_take]at hu;split at hu
  ·simpa using hu
  ·cases hu
section
variable {P : Program} (w : World)
theorem qV(base:Nat) (t ty e:TypeId) (i:TypeInfo) (z:Value) (size bytes:Nat) (ht:P.underlying t=some (.slice e)) (hi:P.info? e=some i) (hz:i.zero=some z)
  (eJ:i.size=size) (gw:i.bytes=bytes) (rm:z.cells.size=size) (eK:0<size)
  (v:Value) (n:Nat) (xs:List Value) (aX:aD w base e size v n xs)
  (a:Addr) (m c:Nat) (news:List Value) (hl:news.length=m * size) (bN:∀ j u,news[j]?=some u->w.cell? (a.add j)=some u) (h1:∀ u∈news,u.oneCell'=true)
  (nX:n+m<=maxLen) (gl:(n+m) * bytes<=140737488355328) (l7:base<=w.heap.size) :
  ∃ v' w',(Builtin.append_ #[t,t] ty #[v,.slice (some a) m c]).run P w=.ok v' w'/\aD w' base e size v' (n+m) (xs++news)/\w.grownBy w' v.ownBlock/\(v'.ownBlock=v.ownBlock\/v'.ownBlock=some w.heap.size):=by
 rcases aX.2 with ⟨rfl,rfl⟩|⟨g,cap,cur,fz,rfl,IF,hg,mI,jO,pT,jv,Mq⟩
 ·have hx:xs=[]:=List.eq_nil_of_length_eq_zero (by simpa using aX.1)
  subst hx;by_cases hm:m=0
  ·obtain⟨v',w',q1,q2,q3,q4⟩:=run_append_own (P:=P) w base t ty e i z size bytes ht hi hz eJ gw rm eK (.slice none 0 0) 0 [] (World.ownsRow_nil w base e size) a m c news hl bN h1 nX gl l7
   have:=q4.2 ⟨rfl,hm⟩;exact⟨v',w',q1,.of_owns q2,q3,.inl (by rw[this])⟩
  ·obtain⟨v',w',q1,q2,q3,q4⟩:=run_append_own (P:=P) w w.heap.size t ty e i z size bytes ht hi hz eJ gw rm eK (.slice none 0 0) 0 [] (World.ownsRow_nil w _ e size) a m c news hl bN h1 nX gl (Nat.le_refl _)
   subst eJ gw;have hr:=run_append_nil (P:=P) w t ty e i z ht hi hz a m c news hl bN (by omega) (by simp only[maxLen]at nX;omega) (by have hb:=gl;simp only[Nat.zero_add]at hb;omega);have e1:=hr.symm.trans q1;injection e1 with e1 e2
   subst e1 e2;exact⟨_,_,hr,(aD.of_owns q2).base l7,q3,.inr rfl⟩
 ·subst eJ
  have cK:(xs++news).length=(n+m) * i.size:=by rw[List.length_append,aX.1,hl,Nat.add_mul]
  by_cases l6:n+m<=cap
  ·have Ij:n * i.size+news.length<=cur.size:=by rw[hl,jv,<-Nat.add_mul];exact Nat.mul_le_mul_right _ l6
   have hr:=run_append_room_cells (P:=P) w t ty e i ht hi g 0 n cap a m c news hl bN h1 l6 (fun j hj=>by rw[Nat.zero_add,ab hg];simp;omega)
    (fun j hj=>by
     simp only[World.frozen?,hg,Nat.zero_add];have:=mI (n * i.size+j) (by omega)
     simpa using this)
   rw[Nat.zero_add]at hr;obtain⟨cur',g1,g2,g3⟩:=lZ g e fz news (n * i.size) w cur hg Ij;obtain⟨o1,o2,o3,o4,o5⟩:=ld g news (n * i.size) w;refine⟨_,_,hr,⟨cK,.inr ⟨g,cap,cur',fz,rfl,IF,g1,fun k hk=>mI k (by omega),l6,pT,by omega,?_⟩⟩,⟨o2,o3,o4,by omega,fun k _ hk=>o1 k (fun e=>hk (by rw[e];rfl))⟩,.inl rfl⟩;rw[Nat.add_mul,<-hl,g3,Mq]
  ·subst gw
   have CL:∀ j u,xs[j]?=some u->w.cell? ((⟨g,0,none⟩:Addr).add j)=some u:=fun j u hu=>by
    obtain⟨g',c',e1,hc⟩:=aX.cell j u hu;have:g'=g:=by simp at e1;exact e1.1.symm
    subst this;rw[<-hc];congr 1;unfold Addr.add;split<;>simp_all
   have hr:=run_append_grow (P:=P) w t ty e i z ht hi hz ⟨g,0,none⟩ n cap xs aX.1 CL a m c news hl bN (by omega) (by simp only[maxLen]at nX;omega) (growslice_fits (by omega) gl);obtain⟨v',w',q1,q2,q3⟩:=run_append_arg_grows (P:=P) w t ty e i z i.size i.bytes ht hi hz rfl rfl rm eK ⟨g,0,none⟩ n cap xs aX.1 CL a m c news hl bN (by omega) nX gl;have e1:=hr.symm.trans q1;injection e1 with e1 e2
   subst e1 e2;exact⟨_,_,hr,(aD.of_owns q2).base l7,⟨q3.os,q3.tape,q3.output,q3.size,fun k hk _=>q3.block k hk (by simp)⟩,.inr rfl⟩
theorem aZ{ops:Array Oper} {rest:List Oper} {o:Oper} {a:Act} {Q:Exit->Act->World->Prop} (k9:o.guard=none) (s x:Operand) (t:TypeId)
  (ho:o.op=.call { callee:=.builtin .append,args:=#[s,x],argTypes:=#[t,t] })
  (base:Nat) (e:TypeId) (i:TypeInfo) (z:Value) (size bytes:Nat) (ht:P.underlying t=some (.slice e)) (hi:P.info? e=some i) (hz:i.zero=some z)
  (eJ:i.size=size) (gw:i.bytes=bytes) (rm:z.cells.size=size) (eK:0<size)
  (v:Value) (n:Nat) (xs:List Value) (hs:a.eval s=v) (aX:aD w base e size v n xs)
  (ad:Addr) (m c:Nat) (news:List Value) (hx:a.eval x=.slice (some ad) m c) (hl:news.length=m * size) (bN:∀ j u,news[j]?=some u->w.cell? (ad.add j)=some u) (h1:∀ u∈news,u.oneCell'=true)
  (nX:n+m<=maxLen) (gl:(n+m) * bytes<=140737488355328) (l7:base<=w.heap.size)
  (h:∀ v' w',aD w' base e size v' (n+m) (xs++news)->w.grownBy w' v.ownBlock->(v'.ownBlock=v.ownBlock\/v'.ownBlock=some w.heap.size)->wpList P ops Q rest (a.put o.dst v') w'):wpList P ops Q (o :: rest) a w:=by
 refine wpList_plain k9 fun _ hK=>?_
 obtain⟨v',w',hr,h2,h3,h4⟩:=qV (P:=P) w base t o.type e i z size bytes ht hi hz eJ gw rm eK v n xs aX ad m c news hl bN h1 nX gl l7;unfold Oper.wp execOp;simp only[ho,resolve,invoke,builtin,Sem.run_bind,Sem.run_pure,Result.andThen_ok,List.map_toArray,List.map_cons,List.map_nil,hs,hx,hr];exact hK _ _ (h v' w' h2 h3 h4)
theorem qg{F:Fence} {d:Nat} {ops:Array Oper} {rest:List Oper} {o:Oper} {a:Act} {Q:Exit->Act->World->Prop} (k9:o.guard=none) (s x:Operand) (t:TypeId)
  (ho:o.op=.call { callee:=.builtin .append,args:=#[s,x],argTypes:=#[t,t] })
  (base:Nat) (e:TypeId) (i:TypeInfo) (z:Value) (size bytes:Nat) (ht:P.underlying t=some (.slice e)) (hi:P.info? e=some i) (hz:i.zero=some z)
  (eJ:i.size=size) (gw:i.bytes=bytes) (rm:z.cells.size=size) (eK:0<size)
  (v:Value) (n:Nat) (xs:List Value) (hs:a.eval s=v) (aX:aD w base e size v n xs)
  (ad:Addr) (m c:Nat) (news:List Value) (hx:a.eval x=.slice (some ad) m c) (hl:news.length=m * size) (bN:∀ j u,news[j]?=some u->w.cell? (ad.add j)=some u) (h1:∀ u∈news,u.oneCell'=true)
  (nX:n+m<=maxLen) (gl:(n+m) * bytes<=140737488355328) (l7:base<=w.heap.size)
  (h:∀ v' w',aD w' base e size v' (n+m) (xs++news)->w.grownBy w' v.ownBlock->(v'.ownBlock=v.ownBlock\/v'.ownBlock=some w.heap.size)->wpListIn F d P ops Q rest (a.put o.dst v') w'):wpListIn F d P ops Q (o :: rest) a w:=by
 refine wpListIn_plain k9 fun K hK'=>?_
 obtain⟨v',w',Rx,r1,r2,r3⟩:=qV (P:=P) w base t o.type e i z size bytes ht hi hz eJ gw rm eK v n xs aX ad m c news hl bN h1 nX gl l7;unfold Oper.wpIn;refine⟨?_,?_⟩
 ·simp[Oper.about,ho,resolve,Target.leads,Sem.run_pure]
 ·rw[Oper.semAt_plain F _ _ (by rw[ho];intro c kH;cases kH)]
  simp[execOp,ho,resolve,invoke,builtin,hs,hx,Rx,Result.andThen];exact hK' _ _ (h v' w' r1 r2 r3)
end
theorem aD.apart{w w':World} {base base' k k':Nat} {e e':TypeId} {u v:Value} {n m:Nat} {xs ys:List Value} (h:aD w base e k u n xs) (hv:aD w base' e' k' v m ys) (bM:e≠e') (hg:w.grownBy w' v.ownBlock):aD w' base e k u n xs:=by
 obtain⟨hl,h⟩:=h;refine⟨hl,?_⟩;rcases h with h|⟨g,cap,cur,fz,h1,h2,h3,h4⟩
 ·exact .inl h
 ·refine .inr ⟨g,cap,cur,fz,h1,h2,(hg.block g (ar h3) (fun e1=>?_)).trans h3,h4⟩
  exact hv.ne h3 (Ne.symm bM) g e1.symm rfl
def bW{α:Type} (to ti:TypeId) (k:Nat) (flat:List α->List Value) (w:World) (base:Nat) (v:Value) (l:List (List α)):Prop:=
 ∃ xs:List Value,aD w base to 1 v l.length xs/\∀ i (hi:i<l.length),∃ x,xs[i]?=some x/\aD w base ti k x l[i].length (flat l[i])
section
variable {α : Type} {to ti : TypeId} {k : Nat} {flat : List α → List Value} {w w' : World} {base : Nat} {v : Value} {l : List (List α)}
theorem bW.nil(w:World) (base:Nat):bW to ti k flat w base (.slice none 0 0) []:=⟨[],aD.nil _ _ _ _,fun i hi=>by simp at hi⟩
theorem bW.ck(h:bW to ti k flat w base v l) (hb:CK w w'):bW to ti k flat w' base v l:=by
 obtain⟨xs,h1,h2⟩:=h;exact⟨xs,h1.ck hb,fun i hi=>by obtain⟨x,q1,q2⟩:=h2 i hi;exact⟨x,q1,q2.ck hb⟩⟩
theorem bW.up(h:bW to ti k flat w base v l) (hb:Below w.heap.size w w'):bW to ti k flat w' base v l:=h.ck (.of_below hb)
theorem bW.snoc{xs:List Value} (h1:aD w base to 1 v l.length xs) (h2:∀ i (hi:i<l.length),∃ x,xs[i]?=some x/\aD w base ti k x l[i].length (flat l[i])) (bM:ti≠to) {x:Value} {a:List α} (hx:aD w base ti k x a.length (flat a))
  (hg:w.grownBy w' v.ownBlock) {v':Value} (ho:aD w' base to 1 v' (l.length+1) (xs++[x])):bW to ti k flat w' base v' (l++[a]):=by
 have hl:xs.length=l.length:=by have:=h1.1;omega
 refine⟨xs++[x],by simpa using ho,fun i hi=>?_⟩;simp at hi;by_cases az:i<l.length
 ·obtain⟨y,q1,q2⟩:=h2 i az
  refine⟨y,by rw[List.getElem?_append_left (by omega)];exact q1,?_⟩;rw[List.getElem_append_left az];exact q2.apart h1 bM hg
 ·obtain rfl:i=l.length:=by omega
  refine⟨x,by rw[<-hl,List.getElem?_append_right (Nat.le_refl _)];simp,?_⟩;have e:(l++[a])[l.length]'(by simp)=a:=by simp
  rw[e];exact hx.apart h1 bM hg
theorem bW.sl{R:World->Nat->Nat->α->Prop} (h:bW to ti k flat w base v l) (hr:∀ (x:Value) (a:List α),a∈l->aD w base ti k x a.length (flat a)->eM k R w x a) (hn:l.length<=17592186044416):eM 1 (mf k R) w v l:=by
 obtain⟨xs,h1,h2⟩:=h;rcases h1.2 with ⟨rfl,h0⟩|⟨g,cap,cur,fz,rfl,_,hg,_,jO,pT,_,ht⟩
 ·have:l=[]:=List.eq_nil_of_length_eq_zero h0
  subst this;exact⟨none,0,rfl,⟨by simp,by omega,fun _=>rfl⟩,by simp,fun i x hx=>by simp at hx⟩
 ·refine⟨some ⟨g,0,none⟩,cap,rfl,⟨jO,by unfold maxLen at pT;omega,fun e=>by cases e⟩,hn,fun i a ha=>⟨g,0,rfl,?_⟩⟩
  obtain⟨hi,rfl⟩:=List.getElem?_eq_some_iff.1 ha;obtain⟨x,q1,q2⟩:=h2 i hi;refine⟨x,?_,hr x _ (List.getElem_mem hi) q2⟩;rw[Nat.zero_add,Nat.mul_one,ab hg];rw[<-ht,List.getElem?_take]at q1;split at q1
  ·simpa using q1
  ·cases q1
end
theorem Nn(a:Adv) (ps:Option Addr) (cs:Nat) (v:Value) (l:List Mv) (w:World) (hv:og w v l) :
  Calls Tryz.prog 217 #[.agg #[.int .i64 a.n,.slice ps a.states.length cs],v] w fun e w'=>e=.returned (.int .i64 (stateE a l))/\Below w.heap.size w w':=by
 obtain⟨pa,ca,rfl,l1,m1,e1⟩:=hv.at;clear hv;have E:=aa e1;clear e1;by_cases hz:l.length=0
 ·have bP:((l.length:Int) == 0)=true:=beq_iff_eq.2 (by omega)
  have HV:Hid (stateE a l=19):=by(have h:stateE a l=19:=by(unfold stateE;rw[if_pos hz]));exact h
  clear hz
  go_enter Tryz.func217,Tryz.ntmps217
  go_wp2_with fail
  go_ret
  exact⟨aA HV.out.symm,by go_grown⟩
 have bP:((l.length:Int) == 0)=false:=beq_eq_false_iff_ne.2 (by omega);have HV:Hid (stateE a l=a8 l.length (dG a l)):=by(have h:stateE a l=a8 l.length (dG a l):=by(unfold stateE;rw[if_neg hz]));exact h
 clear hz
 go_enter Tryz.func217,Tryz.ntmps217
 go_wp2_with fail
 refine bj (fun W=>Below w.heap.size w W/\W.heap[w.heap.size]?=some (.cells #[.int .i64 a.n,.slice ps a.states.length cs] 27))
  ⟨by go_grown,ak _ _⟩ (fun W0 aW=>?_)
 obtain⟨aC,hT⟩:=aW;have HT:=aa hT;clear hT bP
 go_loopw [13] (fun i wr=>Below W0.heap.size W0 wr/\∃ k:Nat,k<=l.length/\i=.int .i64 k/\∀ j,j<k->dG a l j=0) (fun i _=>l.length - (intOf i).toNat)
 case atStart=>exact⟨Below.refl _ _,0,by omega,rfl,by simp⟩
 case round=>
  obtain⟨aq,k,hk,rfl,aS⟩:=hrel;have H:=aa aS;clear aS;have dq:=ae aC aq;by_cases az:k<l.length
  ·obtain⟨b1,o1,rfl,⟨⟨c0,_⟩,⟨c1,_⟩,⟨c2,_⟩,⟨c3,_⟩,⟨c4,_⟩,⟨c5,_⟩,⟨c6,_⟩⟩,c7,_⟩:=E.out k az
   have d0:=ai dq c0;have d1:=ai dq c1;have d2:=ai dq c2;have d3:=ai dq c3;have d4:=ai dq c4;have d5:=ai dq c5;have d6:=ai dq c6;have d7:=ai dq c7;clear c0 c1 c2 c3 c4 c5 c6 c7
   have HO:Hid (dG a l k=if roundE l[k].r≠0 then roundE l[k].r else if l[k].r.g.n≠a.n then 22 else if 0<k/\0<=roundC (l.getD (k - 1) default).r l[k].r then 14 else if l[k].to<0\/(a.states.length:Int)<=l[k].to then 2 else 0):=by
    have h:dG a l k=if roundE l[k].r≠0 then roundE l[k].r else if l[k].r.g.n≠a.n then 22 else if 0<k/\0<=roundC (l.getD (k - 1) default).r l[k].r then 14 else if l[k].to<0\/(a.states.length:Int)<=l[k].to then 2 else 0:=by unfold dG;rw[ap default az]
    exact h
   generalize l[k]=m at d0 d1 d2 d3 d4 d5 d6 d7 HO
   go_wp2_with fail
   refine aL (fun W=>Below wr.heap.size wr W/\W.heap[wr.heap.size]?=some (.cells #[.int .i64 m.r.g.n,.int .i64 m.r.g.h0,.int .i64 m.r.g.h1,.int .i64 m.r.g.h2,.int .i64 m.r.g.h3,.int .i64 m.r.g.h4,.int .i64 m.r.f,.int .i64 m.to] 143)) ⟨by go_grown,ak _ _⟩ (fun V hV=>?_);obtain⟨qB,hC⟩:=hV;have HC:=aa hC;clear hC;have TJ:=ae dq qB;refine(Dk m.r _).mono ?_;rintro e w1 ⟨rfl,aG⟩;clear d0 d1 d2 d3 d4 d5 d6 d7;have iS:=ae TJ aG;have yt:=ae aq (ae qB aG);have s1:=ab (af yt HT.out);have s2:=ab (af aG HC.out);generalize roundE m.r=er at HO;by_cases Fq:er=0
   case neg=>
    have her':(er != 0)=true:=by simpa using Fq
    go_wp2_with fail
    go_ret
    exact⟨aA (by rw[HV.out,<-bH k er az H.out (by rw[HO.out,if_pos Fq]) Fq]),iS⟩
   subst Fq;by_cases uY:m.r.g.n=a.n
   case neg=>
    have Iu:(m.r.g.n != a.n)=true:=by simpa using uY
    go_wp2_with fail
    go_ret
    exact⟨aA (by rw[HV.out,<-bH k 22 az H.out (by rw[HO.out,if_neg (by simp),if_pos uY]) (by decide)]),iS⟩
   have Iu:(m.r.g.n != a.n)=false:=by simpa using uY
   have gm:Hid (dG a l k=if 0<k/\0<=roundC (l.getD (k - 1) default).r m.r then 14 else if m.to<0\/(a.states.length:Int)<=m.to then 2 else 0):=by
    have h:dG a l k=if 0<k/\0<=roundC (l.getD (k - 1) default).r m.r then 14 else if m.to<0\/(a.states.length:Int)<=m.to then 2 else 0:=by rw[HO.out,if_neg (by simp),if_neg (by simpa using uY)]
    exact h
   clear HO uY
   go_wp2_with fail
   clear Iu;by_cases eT:k=0
   ·have eU:Hid (dG a l k=if m.to<0\/(a.states.length:Int)<=m.to then 2 else 0):=by(have h:dG a l k=if m.to<0\/(a.states.length:Int)<=m.to then 2 else 0:=by(rw[gm.out,if_neg (by omega)]));exact h
    have hd:decide ((0:Int)<(k:Int))=false:=by simp;omega
    have fS:decide (0<k)=false:=by simp;omega
    clear gm eT s1 s2;refine aB (by kernel_rfl) (by kernel_rfl) ?_
    repeat (go_big_quiet_step (fail))
    refine wpQuiet_nil ?_;intro _ dY;obtain⟨xq,cZ⟩:=dY;subst cZ;clear hd fS;have r1:=ab (af (ae yt xq.ext) HT.out);have r2:=ab (af (ae aG xq.ext) HC.out);have sw:=ae iS xq.ext
    go_wp2_with fail
    all_goals first
     | (go_ret
        refine⟨aA ?_,sw⟩
        rw[HV.out]
        go_light
        refine bH k _ az H.out ?_ (by decide)
        rw[eU.out]
        grind)
     | (go_roundw
        case rel=>
         refine⟨ae (ae yt xq.ext) (Below.refl _ _),k+1,by omega,by go_num,aT H.out ?_⟩
         go_light
         rw[eU.out]
         grind
        case measure=>simp[intOf];omega)
   ·obtain⟨j,hj⟩:∃ j,k=j+1:=⟨k - 1,by omega⟩
    have gR:j<l.length:=by omega
    have HJ:=aa hj;obtain⟨b2,o2,e2,⟨⟨c0,_⟩,⟨c1,_⟩,⟨c2,_⟩,⟨c3,_⟩,⟨c4,_⟩,⟨c5,_⟩,⟨c6,_⟩⟩,_⟩:=E.out j gR;obtain⟨rfl,rfl⟩:b1=b2/\o1=o2:=by simpa using e2
    clear e2;have hd:decide ((0:Int)<(k:Int))=true:=by simp;omega
    have fS:0<k:=by omega
    have eU:Hid (dG a l k=if 0<=roundC l[j].r m.r then 14 else if m.to<0\/(a.states.length:Int)<=m.to then 2 else 0):=by
     have h:dG a l k=if 0<=roundC l[j].r m.r then 14 else if m.to<0\/(a.states.length:Int)<=m.to then 2 else 0:=by
      rw[gm.out];have e:k - 1=j:=by omega
      rw[e,ap default gR]
      grind
     exact h
    clear gm eT hj s1 s2;have jn:IntKind.i64.wrap ((k:Int) - 1)=(j:Int):=by rw[HJ.out];rw[IntWalk.i64_in _ (by omega)];omega
    generalize l[j]=m2 at c0 c1 c2 c3 c4 c5 c6 eU;have q1:∀ x:ExtW w1,∀ o,x.val.cell? ⟨w.heap.size,o,none⟩=_:=fun x=>ab (af (ae yt x.ext) HT.out)
    have q2:∀ x:ExtW w1,∀ o,x.val.cell? ⟨wr.heap.size,o,none⟩=_:=fun x=>ab (af (ae aG x.ext) HC.out)
    have k0:∀ x:ExtW w1,x.val.cell? _=_:=fun x=>x.cell (ai iS c0)
    have k1:∀ x:ExtW w1,x.val.cell? _=_:=fun x=>x.cell (ai iS c1)
    have k2:∀ x:ExtW w1,x.val.cell? _=_:=fun x=>x.cell (ai iS c2)
    have k3:∀ x:ExtW w1,x.val.cell? _=_:=fun x=>x.cell (ai iS c3)
    have k4:∀ x:ExtW w1,x.val.cell? _=_:=fun x=>x.cell (ai iS c4)
    have k5:∀ x:ExtW w1,x.val.cell? _=_:=fun x=>x.cell (ai iS c5)
    have k6:∀ x:ExtW w1,x.val.cell? _=_:=fun x=>x.cell (ai iS c6)
    clear c0 c1 c2 c3 c4 c5 c6;refine aB (by kernel_rfl) (by kernel_rfl) ?_
    repeat (go_big_quiet_step ((go_at_call 220;exact Calls.ext_of (AW m2.r m.r _))))
    refine wpQuiet_nil ?_;intro _ dY;obtain⟨xq,cZ⟩:=dY;subst cZ;have r1:=q1 xq;have r2:=q2 xq;clear q1 q2 k0 k1 k2 k3 k4 k5 k6 hd fS jn;have sw:=ae iS xq.ext;generalize roundC m2.r m.r=oo at eU
    go_wp2_with fail
    all_goals first
     | (go_ret
        refine⟨aA ?_,sw⟩
        rw[HV.out]
        go_light
        refine bH k _ az H.out ?_ (by decide)
        rw[eU.out]
        grind)
     | (go_roundw
        case rel=>
         refine⟨ae (ae yt xq.ext) (Below.refl _ _),k+1,by omega,by go_num,aT H.out ?_⟩
         go_light
         rw[eU.out]
         grind
        case measure=>simp[intOf];omega)
  ·go_wp2_with fail
   go_ret
   exact⟨aA (by rw[HV.out,cH];intro j hj;exact H.out j (by omega)),dq⟩
end Go.Proofs.YtmeaoneaephjeaaGreatDoor
namespace Go.Proofs.YtmeaoneaephjeaaGreatDoor
open Go.RowKit Go Go.Shelf
attribute [local go_sem] Oper.semAt_some
theorem ba(w:World) (a b:Obj):((w.alloc a).alloc b).heap[w.heap.size+1]?=some b:=by simpa using ak (w.alloc a) b
theorem dH(w:World) (a b c:Obj):(((w.alloc a).alloc b).alloc c).heap[w.heap.size+1+1]?=some c:=by simpa using ak ((w.alloc a).alloc b) c
theorem jc(tmps:Array Value) (B:Nat) (W:World) (x:Int) (ty:TypeId) (ht:tmps[2]?.getD undef=.pointer (some ⟨B,0,none⟩)) (hb:W.heap[B]?=some (.cells #[.int .i64 x] ty)) :
  (results Tryz.f211 tmps).run Tryz.prog W=.ok (.int .i64 x) W:=by
 have c:=ab hb 0;simp at c;simp[results,Tryz.results211,go_sem,ht,c]
theorem xy(a:Adv) (v:Value) (w:World) (hv:bk w v a.states) (hN:movesN a.states<1099511627776) :
  Calls Tryz.prog 211 #[.agg #[.int .i64 a.n,v]] w fun e w'=>e=.returned (.int .i64 (advE a))/\Below w.heap.size w w':=by
 have G:=aa hv;obtain⟨pa,ca,rfl,la1,la2,ea⟩:=hv.at;clear hv;have E:=aa ea;clear ea;refine fT Tryz.func211 rfl ?_;simp only[Tryz.ntmps211,List.size_toArray,List.length_cons,List.length_nil,Nat.reduceAdd,Nat.reduceSub,Array.replicate_succ,Array.replicate_zero,List.push_toArray,List.append_toArray,List.nil_append,List.cons_append];by_cases hn:a.n<1\/5<a.n
 ·have HV:Hid (advE a=2):=by(have h:advE a=2:=by(unfold advE;rw[if_pos hn]));exact h
  rcases hn with hn|hn
  ·go_wp2_with fail
   refine ie (jc _ _ _ 2 _ rfl (ba _ _ _)) ?_;exact⟨aA HV.out.symm,by go_grown⟩
  ·go_wp2_with fail
   refine ie (jc _ _ _ 2 _ rfl (ba _ _ _)) ?_;exact⟨aA HV.out.symm,by go_grown⟩
 have kG:1<=a.n:=by omega
 have nU:a.n<=5:=by omega
 have HV:Hid (advE a=if sizedE a≠0 then sizedE a else if a8 a.states.length (fun s=>stateE a (a.states.getD s []))≠0 then a8 a.states.length (fun s=>stateE a (a.states.getD s [])) else if growsB a then 0 else 21):=by
  have h:advE a=if sizedE a≠0 then sizedE a else if a8 a.states.length (fun s=>stateE a (a.states.getD s []))≠0 then a8 a.states.length (fun s=>stateE a (a.states.getD s [])) else if growsB a then 0 else 21:=by
   unfold advE sizedE;rw[if_neg hn];grind
  exact h
 clear hn
 go_wp2_with fail
 refine aL (fun W=>Below w.heap.size w W/\W.heap[w.heap.size]?=some (.cells #[.int .i64 a.n,.slice pa a.states.length ca] 27)/\W.heap[w.heap.size+1]?=some (.cells #[.int .i64 0] 39)) ⟨by go_grown,am _ (ak _ _),ba _ _ _⟩ (fun W0 aW=>?_);obtain⟨aC,br,gJ⟩:=aW;refine(Nm a _ W0 (G.out.up up_moves aC) hN).mono ?_;rintro e w1 ⟨rfl,aG⟩;have dM:=af aG br;have rj:=af aG gJ;have jb:=ae aC aG;have c1:=ab rj 0;have f1:=aE rj 0;simp at c1;have t1:=ab dM;generalize sizedE a=es at HV;have dy:=aa dM;have cX:=aa rj;clear br gJ aC aG W0 dM rj;by_cases iN:es=0
 case neg=>
  have hes':(es != 0)=true:=by simpa using iN
  go_wp2_with fail
  refine ie (jc _ _ _ es _ rfl (by rw[aF cX.out];rfl)) ?_;exact⟨aA (by rw[HV.out,if_pos iN]),jb.setCell (by simp) _⟩
 subst iN
 go_wp2_with fail
 clear t1 c1 f1
 go_loopw [27] (fun i wr=>Below w1.heap.size w1 wr/\∃ k:Nat,k<=a.states.length/\i=.int .i64 k/\∀ j,j<k->stateE a (a.states.getD j [])=0) (fun i _=>a.states.length - (intOf i).toNat)
 case atStart=>exact⟨Below.refl _ _,0,by omega,rfl,by simp⟩
 case round=>
  obtain⟨aq,k,hk,rfl,aS⟩:=hrel;have H:=aa aS;clear aS;have dq:=ae jb aq;have sv:=af aq dy.out;have Tc:=af aq cX.out;have t1:=ab sv;by_cases az:k<a.states.length
  ·obtain⟨b1,o1,rfl,x,cx,hx⟩:=E.out k az
   rw[Nat.mul_one]at cx;have d1:=ai dq cx;have HX:=aa (hx.up up_move dq);obtain⟨px,qx,rfl,_⟩:=hx;clear cx;have S5:=aa Tc;clear sv Tc
   go_wp2_with fail
   refine(Nn a _ _ _ _ _ HX.out).mono ?_;rintro e w2 ⟨rfl,aV⟩;have lV:=af aV S5.out;have c1:=ab lV 0;have f1:=aE lV 0;simp at c1;have dE:=aa lV;clear lV;have HS:Hid (stateE a (a.states.getD k [])=stateE a a.states[k]):=by(have h:stateE a (a.states.getD k [])=stateE a a.states[k]:=by(rw[ap [] az]));exact h
   generalize stateE a a.states[k]=ek at HS;clear t1 d1;by_cases sS:ek=0
   ·subst sS
    go_wp2_with fail
    go_roundw
    case rel=>exact⟨ae aq aV,k+1,by omega,by go_num,aT H.out HS.out⟩
    case measure=>simp[intOf];omega
   ·have Sn:(ek != 0)=true:=by simpa using sS
    go_wp2_with fail
    refine ie (jc _ _ _ ek _ rfl (by rw[aF dE.out];rfl)) ?_;exact⟨aA (by rw[HV.out,if_neg (by simp),<-bH (f:=fun s=>stateE a (a.states.getD s [])) k ek az H.out HS.out sS,if_pos sS]),(ae dq aV).setCell (by simp) _⟩
  ·have aP:∀ j,j<a.states.length->stateE a (a.states.getD j [])=0:=fun j hj=>H.out j (by omega)
   have cT:Hid (advE a=if growsB a then 0 else 21):=by
    have h:advE a=if growsB a then 0 else 21:=by rw[HV.out,if_neg (by simp),cH _ _ aP];simp
    exact h
   have oR:=aa aP;clear aP H HV;have HAr:=aa sv;have S5:=aa Tc;clear sv Tc
   go_wp2_with fail
   refine(xx _ _ _ _ _).mono ?_;rintro e w2 ⟨rfl,rfl⟩;clear t1
   go_wp2_with fail
   refine bj (fun W=>Below w.heap.size w W/\W.heap[w.heap.size]?=some (.cells #[.int .i64 a.n,.slice pa a.states.length ca] 27)/\W.heap[w.heap.size+1]?=some (.cells #[.int .i64 0] 39)/\W.heap[wr.heap.size]?=some (.cells #[.int .i64 a.n,.slice pa a.states.length ca] 27))
    ⟨dq.alloc dq.size _,am _ HAr.out,am _ S5.out,ak _ _⟩ (fun W0 aW=>?_)
   obtain⟨aC,hA,hR,hX⟩:=aW;have da:=vm w _ a.states G.out W0 aC wr.heap.size (by simp[ab hX]);have eK:=ar hX;have hsw:=dq.size;have hsR:=ar S5.out
   refine mg (gf:=221) (lb:=#[.pointer (some ⟨wr.heap.size,0,none⟩)]) rfl (enters_of Tryz.func221 (by kernel_rfl) rfl) da (Below.refl _ _) (fun k hk=>Nat.lt_of_lt_of_le hk aC.size) (fun i=>rfl)
    (fun i W=>Below w.heap.size w W/\W.heap[w.heap.size]?=some (.cells #[.int .i64 a.n,.slice pa a.states.length ca] 27)/\W.heap[w.heap.size+1]?=some (.cells #[.int .i64 0] 39)/\∀ j,j<i->oU a j=false)
    (fun c _ W=>c=.ret/\Below w.heap.size w W/\W.heap[w.heap.size+1]?=some (.cells #[.int .i64 21] 39)/\growsB a=false)
    (fun i=>(cI.below (by omega)).and (cI.cells.and (cI.cells.and cI.pure))) (fun c i=>cI.pure.and ((cI.below (by omega)).and (cI.cells.and cI.pure))) ⟨aC,hA,hR,by simp⟩ ?round ?done ?stop
   case round=>
    intro yl i W hi hl hI;unfold Gt;have gg:=Uc oR.out hi;have HB:Hid (oU a i=anyLt (mS a i).length fun k=>!iE (mvAt a.states i).2.r.f ((mS a i).getD k default).r.f):=by(have h:oU a i=anyLt (mS a i).length fun k=>!iE (mvAt a.states i).2.r.f ((mS a i).getD k default).r.f:=rfl);exact h
    have PJ:Hid (mS a i=a.states.getD (mvAt a.states i).2.to.toNat []):=by(have h:mS a i=a.states.getD (mvAt a.states i).2.to.toNat []:=rfl);exact h
    generalize mvAt a.states i=sm at gg HB PJ;obtain⟨sx,m⟩:=sm;dsimp only at gg HB PJ;obtain⟨⟨gP,ez⟩,ht0,ht1⟩:=gg;have HI:=aa hI;clear hI;have RB:=HI.out.1.size
    gi_wp2
    refine⟨Bod.of_below (fun k hk=>Nat.lt_of_lt_of_le hk RB) (by go_grown),(fun W'=>Below w.heap.size w W'/\W'.heap[w.heap.size]?=some (.cells #[.int .i64 a.n,.slice pa a.states.length ca] 27)/\W'.heap[w.heap.size+1]?=some (.cells #[.int .i64 0] 39)/\W'.heap[W.heap.size]?=some (.cells #[.int .i64 m.r.g.n,.int .i64 m.r.g.h0,.int .i64 m.r.g.h1,.int .i64 m.r.g.h2,.int .i64 m.r.g.h3,.int .i64 m.r.g.h4,.int .i64 m.r.f,.int .i64 m.to] 143)),
     (cI.below (by omega)).and (cI.cells.and (cI.cells.and cI.cells)),⟨HI.out.1.alloc RB _,am _ HI.out.2.1,am _ HI.out.2.2.1,ak _ _⟩,fun W2 h2 _=>?_⟩
    obtain⟨g1,g2,g3,g4⟩:=h2;have qd:=aa HI.out.2.2.2;have Je:=g1.size;have hszR:=ar g3;have hszM:=ar g4;have tA:=ab g2;have tM:=ab g4;have pU:=aa g1;have Cv:=aa g3;have rA:=aa g2;have HG4:=aa g4;clear g1 g2 g3 g4 HI da hA hR hX;obtain⟨b1,o1,rfl,x,cx,hx⟩:=E.out m.to.toNat (by omega);have HL:Hid (mS a i=a.states[m.to.toNat]):=by(have h:mS a i=a.states[m.to.toNat]:=by(rw[PJ.out,ap [] (by omega)]));exact h
    rw[Nat.mul_one]at cx;have d1:=ai pU.out cx;obtain⟨p2,c2,rfl,m1,m2,e2⟩:=hx.at;clear hx cx;have E2:=aa e2;clear e2;generalize hLL:a.states[m.to.toNat]=L at HL E2 d1 m1 m2;have kU:=aa hLL;clear hLL
    gi_wp2
    clear tA tM d1
    gi_loopw [49] (fun i wr=>Below W2.heap.size W2 wr/\∃ q:Nat,q<=L.length/\i=.int .i64 q/\∀ j,j<q->iE m.r.f (L.getD j default).r.f=true) (fun i _=>L.length - (intOf i).toNat)
    case atStart=>exact⟨Below.refl _ _,0,by omega,rfl,by simp⟩
    case round=>
     obtain⟨jJ,q,hq,rfl,oZ⟩:=hrel;have H2:=aa oZ;clear oZ;have tM:=ab (af jJ HG4.out);have CN:=af jJ Cv.out;have c1':=ab CN 0;have f1':=aE CN 0;simp at c1';have fZ:=aa CN;clear CN;have kr:=ae pU.out jJ;have iL:=jJ.size;have rC:W.heap.size<wr.heap.size:=by omega
     have hR3':w.heap.size+1<wr.heap.size:=by omega
     by_cases AF:q<L.length
     ·have Mp:0<=L[q].r.f/\L[q].r.f<32:=by
       have:=(kJ oR.out (s:=m.to.toNat) (j:=q) (by omega) (by rw[kU.out];exact AF)).1;simpa[kU.out] using this
      have VQ:Hid (L.getD q default=L[q]):=ap default AF;obtain⟨b2,o2,rfl,⟨⟨c0,_⟩,⟨c1,_⟩,⟨c2,_⟩,⟨c3,_⟩,⟨c4,_⟩,⟨c5,_⟩,⟨c6,_⟩⟩,c7,_⟩:=E2.out q AF;have d0:=ai kr c0;have d1:=ai kr c1;have d2:=ai kr c2;have d3:=ai kr c3;have d4:=ai kr c4;have d5:=ai kr c5;have d6:=ai kr c6;have d7:=ai kr c7;clear c0 c1 c2 c3 c4 c5 c6 c7;generalize L[q]=y at Mp VQ d0 d1 d2 d3 d4 d5 d6 d7;have gq:=FP m.r.f y.r.f gP ez Mp.1 Mp.2;clear Mp;cases cP:iE m.r.f y.r.f with
      | true=>
       rw[cP]at gq;have gu:=aa cP;clear cP
       gi_wp2
       go_roundw
       case rel=>exact⟨jJ.alloc jJ.size _,q+1,by omega,by go_num,aT H2.out (by rw[VQ.out];exact gu.out)⟩
       case measure=>simp[intOf];omega
      | false=>
       rw[cP]at gq;have gu:=aa cP;clear cP
       gi_wp2
       refine⟨((Bod.of_below (fun k hk=>Nat.lt_of_lt_of_le hk Je) jJ).trans (Bod.setCell _ ⟨w.heap.size+1,0,none⟩ _ (fun h=>by dsimp only at h;omega))).trans (Bod.of_below (fun k hk=>by simp only[World.size_setCell];omega) (by go_grown)),rfl,(kr.setCell (p:=⟨w.heap.size+1,0,none⟩) (by dsimp only;omega) _).alloc (by simp only[World.size_setCell];omega) _,?_,?_⟩
       ·exact am _ (by rw[aF fZ.out];rfl)
       ·unfold growsB
        rw[dV _ i _ hi (by rw[HB.out,HL.out];exact dV _ q _ AF (by rw[VQ.out,gu.out];rfl))];rfl
     ·gi_wp2
      refine⟨Bod.of_below (fun k hk=>Nat.lt_of_lt_of_le hk Je) jJ,kr,af jJ rA.out,fZ.out,aT qd.out ?_⟩;rw[HB.out,HL.out];exact eD _ _ (fun j hj=>by rw[H2.out j (by omega)];rfl)
   case done=>
    intro D W hD hI hK;obtain⟨g1,g2,g3,g4⟩:=hI;have HG:=aa (And.intro g1 (And.intro g2 (And.intro g3 g4)));have c1:=ab g3 0;have f1:=aE g3 0;simp at c1;clear g1 g2 g3 g4 da hA hR hX
    go_wp2_with fail
    refine io (by rw[<-hK];exact Below.heap_setCell _ _ _ _ (by dsimp only;omega)) (jc _ _ _ 0 _ rfl ((World.putObj_heap_other (by omega)).trans (by rw[aF HG.out.2.2.1];rfl))) ?_;refine⟨aA ?_,eE (by omega) (HG.out.1.setCell (by simp) _)⟩;rw[cT.out];unfold growsB;rw[eD _ _ HG.out.2.2.2];rfl
   case stop=>
    rintro D c i W hD hi ⟨rfl,g1,g2,g3⟩ hK;have HG:=aa (And.intro g1 (And.intro g2 g3));clear g1 g2 g3 da hA hR hX
    go_wp2_with fail
    refine io hK (jc _ _ _ 21 _ rfl ((World.putObj_heap_other (by omega)).trans HG.out.2.1)) ?_;exact⟨aA (by rw[cT.out,HG.out.2.2];rfl),eE (by omega) HG.out.1⟩
end Go.Proofs.YtmeaoneaephjeaaGreatDoor
namespace Go.Proofs.YtmeaoneaephjeaaGreatDoor
open Go.RowKit Go Go.Shelf
theorem wz{l n:Nat} {P:Program} {f:FuncId} {args:Array Value} {w:World} {R:Ending->World->Prop} (h:Calls P f args w R):CallsIn (Fence.wide.inRound l) n P f args w R:=(callsIn_wide (n:=n)).2 h
theorem wA{l l' n:Nat} {P:Program} {f:FuncId} {tmps:Array Value} {assign body:Code} {w:World} {R:Ending->World->Prop} (h:RoundIn Fence.wide n P l f tmps assign body w R):RoundIn (Fence.wide.inRound l') n P l f tmps assign body w R:=h
end Go.Proofs.YtmeaoneaephjeaaGreatDoor
namespace Go.Proofs.YtmeaoneaephjeaaGreatDoor
theorem No(x y:Int) (r s:List Int):ordV (x :: r) (y :: s)=if cmpI x y≠0 then cmpI x y else ordV r s:=by
 rw[ordV];unfold cmpI;grind
theorem jB(n:Nat) (f:Nat->Int):a8 (n+1) f=if f 0≠0 then f 0 else a8 n (fun j=>f (j+1)):=by
 induction n with
 | zero=>simp[a8]
 | succ n ih=>
  rw[a8,ih]
  conv=>rhs;rw[a8]
  grind
def Rd.list(r:Rd):List Int:=[r.g.n,r.g.h0,r.g.h1,r.g.h2,r.g.h3,r.g.h4,r.f]
theorem JB(a b:Rd):roundC a b=ordV a.list b.list:=by
 unfold Rd.list roundC eZ;rw[jB,jB,jB,jB,jB];simp only[No,a8,Gr.hear];have h0:ordV [] []=0:=rfl;rw[h0];generalize cmpI a.g.n b.g.n=c0;generalize cmpI a.g.h0 b.g.h0=c1;generalize cmpI a.g.h1 b.g.h1=c2;generalize cmpI a.g.h2 b.g.h2=c3;generalize cmpI a.g.h3 b.g.h3=c4;generalize cmpI a.g.h4 b.g.h4=c5;generalize cmpI a.f b.f=c6
 grind
theorem Lo{a b c:List Int} (h1:ordV a b<0) (h2:ordV b c<0):ordV a c<0:=by
 induction a generalizing b c with
 | nil=>
  cases b with
  | nil=>simp[ordV]at h1
  | cons y s=>
   cases c with
   | nil=>simp[ordV]at h2
   | cons z t=>simp[ordV]
 | cons x r ih=>
  cases b with
  | nil=>simp[ordV]at h1
  | cons y s=>
   cases c with
   | nil=>simp[ordV]at h2
   | cons z t=>
    unfold ordV at h1 h2 ⊢;by_cases cO:x<y
    ·by_cases V8:y<z
     ·rw[if_pos (by omega)];omega
     ·rw[if_neg V8]at h2
      by_cases SP:z<y
      ·rw[if_pos SP]at h2;omega
      ·rw[if_pos (by omega)];omega
    ·rw[if_neg cO]at h1
     by_cases nY:y<x
     ·rw[if_pos nY]at h1;omega
     ·rw[if_neg nY]at h1
      by_cases V8:y<z
      ·rw[if_pos (by omega)];omega
      ·rw[if_neg V8]at h2
       by_cases SP:z<y
       ·rw[if_pos SP]at h2;omega
       ·rw[if_neg SP]at h2
        rw[if_neg (by omega),if_neg (by omega)];exact ih h1 h2
theorem hH{a:Adv} (h:advE a=0):(1<=a.states.length/\a.states.length<=256)/\(∀ s,s<a.states.length->stateE a (a.states.getD s [])=0)/\growsB a=true/\1<=a.n/\a.n<=5:=by
 unfold advE at h;by_cases h1:a.n<1\/5<a.n
 ·rw[if_pos h1]at h;omega
 ·rw[if_neg h1]at h
  by_cases h2:a.states.length<1\/256<a.states.length\/4096<movesN a.states
  ·rw[if_pos h2]at h;omega
  ·rw[if_neg h2]at h
   by_cases h3:a8 a.states.length (fun s=>stateE a (a.states.getD s []))=0
   ·rw[if_neg (by simpa using h3)]at h
    refine⟨by omega,eV h3,?_,by omega,by omega⟩;cases hg:growsB a with
    | true=>rfl
    | false=>rw[hg]at h;simp at h
   ·rw[if_pos h3]at h;exact absurd h h3
structure Pl where
 rd:Int
 pr:Int
 h0:Int
 h1:Int
 h2:Int
 h3:Int
 h4:Int
instance:DecidableEq Pl:=fun a b=>decidable_of_iff (a.rd=b.rd/\a.pr=b.pr/\a.h0=b.h0/\a.h1=b.h1/\a.h2=b.h2/\a.h3=b.h3/\a.h4=b.h4) (by cases a;cases b;simp)
end Go.Proofs.YtmeaoneaephjeaaGreatDoor
namespace Go.Proofs.YtmeaoneaephjeaaGreatDoor
open Go.RowKit Go Go.Shelf
attribute [local go_sem] Oper.semAt_some
abbrev Rd.c(r:Rd):Array Value:=#[.int .i64 r.g.n,.int .i64 r.g.h0,.int .i64 r.g.h1,.int .i64 r.g.h2,.int .i64 r.g.h3,.int .i64 r.g.h4,.int .i64 r.f]
end Go.Proofs.YtmeaoneaephjeaaGreatDoor
