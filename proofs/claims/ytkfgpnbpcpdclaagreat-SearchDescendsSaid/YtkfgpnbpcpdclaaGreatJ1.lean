/-
  A part of the proof: lemmas and contracts that the parts behind it use. Each one's conditions are its own premises.
-/
import Derived.Handy
import Derived.LoopTactic
import Derived.Outline
import Derived.Lib.Hide
import Derived.Deep.QuietTactic
import Derived.BigQuiet
import Derived.Deep.Cut
import Derived.Deep.Light
import Derived.Shelf.Abstract
import Derived.RangeFuncNested
import Derived.WalkKit
import Derived.ProofKit
import Derived.OpenShut
import Derived.ShutString
import Derived.ChangeOld
import Derived.Below
import Derived.SizedLaws
import Derived.Deep.Slices
import Derived.Test.YtkfgpnbpcpdclaaGreatRows
import Derived.Test.YtkfgpnbpcpdclaaGreatProg
import Derived.ChangeKeysEq
import Derived.StillTailTactics
set_option maxRecDepth 100000
set_option maxHeartbeats 8000000
set_option linter.unusedVariables false
namespace Go.Proofs.YtkfgpnbpcpdclaaGreat
structure Gr where
 n:Int
 h0:Int
 h1:Int
 h2:Int
 h3:Int
 h4:Int
structure Rd where
 g:Gr
 f:Int
structure Mv where
 r:Rd
 to:Int
structure Adv where
 n:Int
 states:List (List Mv)
structure Cs where
 inp:List Int
 out:List (List Int)
 calm:List (List Int)
structure Tk where
 n:Int
 ins:Int
 outs:Int
 cases:List Cs
structure Pb where
 t:Tk
 a:Adv
 rounds:Int
instance:Inhabited Gr:=⟨⟨0,0,0,0,0,0⟩⟩
instance:Inhabited Rd:=⟨⟨default,0⟩⟩
instance:Inhabited Mv:=⟨⟨default,0⟩⟩
instance:Inhabited Cs:=⟨⟨[],[],[]⟩⟩
instance:DecidableEq Gr:=fun a b=>decidable_of_iff (a.n=b.n/\a.h0=b.h0/\a.h1=b.h1/\a.h2=b.h2/\a.h3=b.h3/\a.h4=b.h4) (by cases a;cases b;simp)
instance:DecidableEq Rd:=fun a b=>decidable_of_iff (a.g=b.g/\a.f=b.f) (by cases a;cases b;simp)
def Gr.hear(g:Gr) (k:Nat):Int:=match k with|0=>g.h0|1=>g.h1|2=>g.h2|3=>g.h3|4=>g.h4|_=>0
def aP(n:Nat) (f:Nat->Int):Int:=match n with|0=>0|m+1=>if aP m f≠0 then aP m f else f m
theorem cp(n:Nat) (f:Nat->Int) (h:∀ j,j<n->f j=0):aP n f=0:=by
 induction n with
 | zero=>rfl
 | succ m ih=>unfold aP;rw[ih (fun j hj=>h j (by omega))];simp;exact h m (by omega)
theorem La(n k:Nat) (f:Nat->Int) (hk:k<n) (h:∀ j,j<k->f j=0) (hz:f k≠0):aP n f=f k:=by
 induction n with
 | zero=>omega
 | succ m ih=>
  unfold aP;by_cases e:k=m
  ·subst e;rw[cp k f h];simp
  ·rw[ih (by omega)];simp[hz]
theorem bh{n:Nat} {f:Nat->Int} (k:Nat) (v:Int) (hk:k<n) (h:∀ j,j<k->f j=0) (hv:f k=v) (hz:v≠0):v=aP n f:=by
 subst hv;exact(La n k f hk h hz).symm
theorem aQ{p:Nat->Prop} {k:Nat} (h:∀ j,j<k->p j) (hk:p k):∀ j,j<k+1->p j:=fun j hj=>by
 by_cases e:j=k
 ·subst e;exact hk
 ·exact h j (by omega)
theorem gX{n:Nat} {f:Nat->Int} (h:aP n f=0):∀ j,j<n->f j=0:=by
 induction n with
 | zero=>intro j hj;omega
 | succ m ih=>
  unfold aP at h;by_cases e:aP m f=0
  ·simp[e]at h
   intro j hj;by_cases ej:j=m
   ·subst ej;exact h
   ·exact ih e j (by omega)
  ·simp[e]at h
def firstIx(n:Nat) (p:Nat->Bool):Int:=match n with|0=>-1|m+1=>if firstIx m p≠-1 then firstIx m p else if p m then m else -1
theorem fT(n:Nat) (p:Nat->Bool) (h:∀ j,j<n->p j=false):firstIx n p=-1:=by
 induction n with
 | zero=>rfl
 | succ m ih=>unfold firstIx;rw[ih (fun j hj=>h j (by omega))];simp[h m (by omega)]
theorem gY(n k:Nat) (p:Nat->Bool) (hk:k<n) (h:∀ j,j<k->p j=false) (hz:p k=true):firstIx n p=k:=by
 induction n with
 | zero=>omega
 | succ m ih=>
  unfold firstIx;by_cases e:k=m
  ·subst e;rw[fT k p h];simp[hz]
  ·rw[ih (by omega)];simp
theorem dN(n:Nat) (p:Nat->Bool):(firstIx n p=-1/\∀ j,j<n->p j=false)\/∃ k,k<n/\firstIx n p=k/\p k=true/\∀ j,j<k->p j=false:=by
 induction n with
 | zero=>exact .inl ⟨rfl,fun j hj=>by omega⟩
 | succ m ih=>
  rcases ih with ⟨h,hn⟩|⟨k,hk,h,hp,hn⟩
  ·by_cases e:p m=true
   ·exact .inr ⟨m,by omega,by rw[gY (m+1) m p (by omega) hn e],e,hn⟩
   ·refine .inl ⟨fT _ _ (fun j hj=>?_),fun j hj=>?_⟩ <;>
    ·by_cases ej:j=m
     ·subst ej;simpa using e
     ·exact hn j (by omega)
  ·exact .inr ⟨k,by omega,by rw[gY (m+1) k p (by omega) hn hp],hp,hn⟩
def anyLt(n:Nat) (p:Nat->Bool):Bool:=match n with|0=>false|m+1=>anyLt m p || p m
theorem eG(n:Nat) (p:Nat->Bool) (h:∀ j,j<n->p j=false):anyLt n p=false:=by
 induction n with
 | zero=>rfl
 | succ m ih=>unfold anyLt;rw[ih (fun j hj=>h j (by omega)),h m (by omega)];rfl
theorem dP(n k:Nat) (p:Nat->Bool) (hk:k<n) (h:p k=true):anyLt n p=true:=by
 induction n with
 | zero=>omega
 | succ m ih=>
  unfold anyLt;by_cases e:k=m
  ·subst e;simp[h]
  ·rw[ih (by omega)];rfl
theorem D9(n:Nat) (p:Nat->Bool):anyLt n p=true↔∃ k,k<n/\p k=true:=by
 constructor
 ·intro h
  induction n with
  | zero=>simp[anyLt]at h
  | succ m ih=>
   unfold anyLt at h;cases hm:anyLt m p with
   | true=>obtain⟨k,hk,hp⟩:=ih hm;exact⟨k,by omega,hp⟩
   | false=>rw[hm]at h;exact⟨m,by omega,by simpa using h⟩
 ·rintro⟨k,hk,hp⟩;exact dP n k p hk hp
theorem cB(n:Nat) (p:Nat->Bool):anyLt n p=false↔∀ k,k<n->p k=false:=by
 constructor
 ·intro h k hk
  cases hp:p k with
  | false=>rfl
  | true=>rw[dP n k p hk hp]at h;cases h
 ·exact eG n p
theorem ph(n:Nat) (p:Nat->Bool):decide (0<=firstIx n p)=anyLt n p:=by
 rcases dN n p with ⟨h,hn⟩|⟨k,hk,h,hp,_⟩
 ·rw[h,eG n p hn];rfl
 ·rw[h,dP n k p hk hp];simp
def iO(n:Int):Int:=if n<1\/5<n then 1 else 0
def ld(n set:Int):Int:=if iO n≠0 then iO n else if set<0\/set / 2 ^ n.toNat≠0 then 2 else 0
def cS(set:Int) (p:Nat):Bool:=set / 2 ^ p % 2 == 1
def mL(n x:Int) (p:Nat):Int:=
 if n<=p then(if x≠0 then 3 else 0) else if x<0\/2 ^ n.toNat - 1<x then 2 else if cS x p then 0 else 3
def ic(g:Gr):Int:=if g.n<1\/5<g.n then 2 else aP 5 fun p=>mL g.n (g.hear p) p
def cmpI(a b:Int):Int:=if a<b then -1 else if b<a then 1 else 0
def dK(a b:Gr):Int:=if cmpI a.n b.n≠0 then cmpI a.n b.n else aP 5 fun p=>cmpI (a.hear p) (b.hear p)
def roundE(r:Rd):Int:=if ic r.g≠0 then ic r.g else ld r.g.n r.f
def roundC(a b:Rd):Int:=if dK a.g b.g≠0 then dK a.g b.g else cmpI a.f b.f
theorem pN{α:Type} {l:List α} {k:Nat} (h:k<l.length):l.drop k=l[k] :: l.drop (k+1):=(List.drop_eq_getElem_cons h)
def ordV:List Int->List Int->Int
 | [],[]=>0
 | [],_ :: _=>-1
 | _ :: _,[]=>1
 | a :: r,b :: s=>if a<b then -1 else if b<a then 1 else ordV r s
theorem vE(b:List Int):ordV [] b=if 0<b.length then -1 else 0:=by cases b<;>simp[ordV]
theorem pO(a:List Int):ordV a a=0:=by induction a with|nil=>rfl|cons x r ih=>simp[ordV,ih]
theorem Ea{a b:List Int} (h:ordV a b=0):a=b:=by
 induction a generalizing b with
 | nil=>cases b with|nil=>rfl|cons y s=>simp[ordV]at h
 | cons x r ih=>
  cases b with
  | nil=>simp[ordV]at h
  | cons y s=>
   unfold ordV at h;split at h
   ·omega
   ·split at h
    ·omega
    ·rw[ih h,show x=y by omega]
def vectorE(v:List Int) (n most:Int):Int:=if (v.length:Int)≠n then 15 else if anyLt v.length (fun i=>decide (v.getD i 0<0) || decide (most<=v.getD i 0)) then 2 else 0
def unordB(l:List (List Int)) (i:Nat):Bool:=decide (0<i)&&decide (0<=ordV (l.getD (i - 1) []) (l.getD i []))
def eqV(a b:List Int):Bool:=decide (a=b)
def hasV(l:List (List Int)) (v:List Int):Bool:=anyLt l.length fun i=>eqV (l.getD i []) v
def jE(t:Tk) (c:Cs) (i:Nat):Int:=if vectorE (c.out.getD i []) t.n t.outs≠0 then vectorE (c.out.getD i []) t.n t.outs else if unordB c.out i then 14 else 0
def iZ(c:Cs) (i:Nat):Int:=if hasV c.out (c.calm.getD i []) then(if unordB c.calm i then 14 else 0) else 6
def vectorsE(t:Tk) (c:Cs):Int:=
 if c.out.length<1\/1024<c.out.length then 5
 else if aP c.out.length (jE t c)≠0 then aP c.out.length (jE t c) else aP c.calm.length (iZ c)
def eU(t:Tk) (i:Nat):Int:=
 if vectorE (t.cases.getD i default).inp t.n t.ins≠0 then vectorE (t.cases.getD i default).inp t.n t.ins
 else if 0<i/\0<=ordV (t.cases.getD (i - 1) default).inp (t.cases.getD i default).inp then 14 else vectorsE t (t.cases.getD i default)
def taskE(t:Tk):Int:=
 if t.n<1\/5<t.n\/t.ins<1\/8<t.ins\/t.outs<1\/8<t.outs then 2
 else if t.cases.length<1\/1024<t.cases.length then 5 else aP t.cases.length (eU t)
def movesN(l:List (List Mv)):Nat:=(l.map List.length).sum
def dF(a:Adv) (l:List Mv) (i:Nat):Int:=
 if roundE (l.getD i default).r≠0 then roundE (l.getD i default).r
 else if (l.getD i default).r.g.n≠a.n then 22
 else if 0<i/\0<=roundC (l.getD (i - 1) default).r (l.getD i default).r then 14
 else if (l.getD i default).to<0\/(a.states.length:Int)<=(l.getD i default).to then 2 else 0
def stateE(a:Adv) (l:List Mv):Int:=if l.length=0 then 19 else aP l.length (dF a l)
def cL(x y:Int):Bool:=!anyLt 5 fun p=>cS x p&&!cS y p
end Go.Proofs.YtkfgpnbpcpdclaaGreat
namespace Go.Proofs.YtkfgpnbpcpdclaaGreat
open Go.RowKit Go Go.Shelf
def bK(x:Int):Prop:=-9223372036854775808<=x/\x<=9223372036854775807
theorem gc{w:World} {a:Addr} {v:Value} (h:w.cell? a=some v):a.block<w.heap.size:=by
 unfold World.cell? at h;split at h
 ·rename_i hb;exact(Array.getElem?_eq_some_iff.1 hb).1
 ·cases h
theorem ay{w w':World} (hb:Below w.heap.size w w') {a:Addr} {v:Value} (h:w.cell? a=some v):w'.cell? a=some v:=(hb.cell (gc h)).trans h
theorem Lb{B:Nat} {W w1:World} (hb:Below B W w1):(∀ b o,b<B->w1.cell? ⟨b,o,none⟩=W.cell? ⟨b,o,none⟩)/\(∀ b o,b<B->w1.frozen? ⟨b,o,none⟩=W.frozen? ⟨b,o,none⟩):=
 ⟨fun b o h=>hb.cell (p:=⟨b,o,none⟩) h,fun b o h=>hb.frozen (p:=⟨b,o,none⟩) h⟩
theorem aC{k:IntKind} {a b:Int} (h:a=b):Ending.returned (.int k a)=.returned (.int k b):=by rw[h]
theorem aV{a b:Bool} (h:a=b):Ending.returned (.bool a)=.returned (.bool b):=by rw[h]
theorem aj{a b c:World} (h:Below a.heap.size a b) (k:Below b.heap.size b c):Below a.heap.size a c:=h.trans (k.mono h.size)
theorem dC{B:Nat} {a w:World} (h:Below B a w) (n:Nat):Below B a (w.drewN n):=⟨h.os,h.tape,h.output,h.size,h.block⟩
theorem ar(w:World) (o:Obj):(w.alloc o).heap[w.heap.size]?=some o:=by
 show (w.heap.push o)[w.heap.size]?=some o
 simp
theorem aq{w:World} {k:Nat} {x:Obj} (o:Obj) (h:w.heap[k]?=some x):(w.alloc o).heap[k]?=some x:=
 (Below.heap_alloc w o k (Array.getElem?_eq_some_iff.1 h).1).trans h
theorem aB{w:World} {k:Nat} {x:Obj} (h:w.heap[k]?=some x):k<w.heap.size:=(Array.getElem?_eq_some_iff.1 h).1
theorem ak{w w':World} (hb:Below w.heap.size w w') {k:Nat} {x:Obj} (h:w.heap[k]?=some x):w'.heap[k]?=some x:=
 (hb.block k (Array.getElem?_eq_some_iff.1 h).1).trans h
theorem ae{w:World} {B:Nat} {cs:Array Value} {t:TypeId} {f:Nat × Nat} (h:w.heap[B]?=some (.cells cs t f)) (o:Nat):w.cell? ⟨B,o,none⟩=cs[o]?:=by
 simp[World.cell?,h]
theorem aD{w:World} {B:Nat} {cs:Array Value} {t:TypeId} (h:w.heap[B]?=some (.cells cs t (0,0))) (o:Nat):w.frozen? ⟨B,o,none⟩=false:=by
 simp[World.frozen?,h]
theorem bw{P:Program} {c:Code} {Q:Exit->Act->World->Prop} {a:Act} {W:World} (I:World->Prop) (h:I W) (k:∀ W0,I W0->c.wp P Q a W0):c.wp P Q a W:=k W h
def CK(w w':World):Prop:=∀ (k:Nat) (o:Obj),w.heap[k]?=some o->o.isCells=true->w'.heap[k]?=some o
theorem CK.of_below{w w':World} (h:Below w.heap.size w w'):CK w w':=fun _ _ hk _=>ak h hk
theorem CK.cell{w w':World} (h:CK w w') {a:Addr} {v:Value} (hc:w.cell? a=some v):w'.cell? a=some v:=by
 unfold World.cell? at hc ⊢;cases ho:w.heap[a.block]? with
 | none=>simp[ho]at hc
 | some o=>cases o<;>simp only[ho]at hc<;>first|(rw[h _ _ ho rfl];exact hc)|cases hc
def Up{α:Type} (R:World->Nat->Nat->α->Prop):Prop:=∀ (w w':World) (b o:Nat) (x:α),CK w w'->R w b o x->R w' b o x
theorem aT{P:Program} {f:FuncId} {args:Array Value} {R:Ending->World->Prop} {W:World} (I:World->Prop) (h:I W) (k:∀ W0,I W0->Calls P f args W0 R):Calls P f args W R:=k W h
def eO{α:Type} (k:Nat) (R:World->Nat->Nat->α->Prop) (w:World) (v:Value) (l:List α):Prop:=
 ∃ a cap,v=.slice a l.length cap/\(l.length<=cap/\cap<=9223372036854775807/\(a=none->cap=0))/\l.length<=17592186044416/\∀ i x,l[i]?=some x->∃ b off,a=some ⟨b,off,none⟩/\R w b (off+i * k) x
theorem eO.ck{α:Type} {k:Nat} {R:World->Nat->Nat->α->Prop} (hR:Up R) {w w':World} {v:Value} {l:List α} (hb:CK w w') (h:eO k R w v l):eO k R w' v l:=by
 obtain⟨a,cap,rfl,h1,h2,h3⟩:=h;refine⟨a,cap,rfl,h1,h2,fun i x hx=>?_⟩;obtain⟨b,off,ha,hr⟩:=h3 i x hx;exact⟨b,off,ha,hR _ _ _ _ _ hb hr⟩
theorem eO.up{α:Type} {k:Nat} {R:World->Nat->Nat->α->Prop} (hR:Up R) {w w':World} {v:Value} {l:List α} (hb:Below w.heap.size w w') (h:eO k R w v l):eO k R w' v l:=h.ck hR (.of_below hb)
theorem eO.at{α:Type} {k:Nat} {R:World->Nat->Nat->α->Prop} {w:World} {v:Value} {l:List α} (h:eO k R w v l) :
  ∃ a cap,v=.slice a l.length cap/\l.length<=cap/\l.length<=17592186044416/\∀ i (hi:i<l.length),∃ b off,a=some ⟨b,off,none⟩/\R w b (off+i * k) l[i]:=by
 obtain⟨a,cap,rfl,h1,h2,h3⟩:=h;exact⟨a,cap,rfl,h1.1,h2,fun i hi=>h3 i _ (List.getElem?_eq_getElem hi)⟩
theorem aA{α:Type} {l:List α} {i:Nat} (d:α) (h:i<l.length):l.getD i d=l[i]:=by simp[h]
def lj{α:Type} (k:Nat) (R:World->Nat->Nat->α->Prop) (w:World) (b o:Nat) (l:List α):Prop:=∃ v,w.cell? ⟨b,o,none⟩=some v/\eO k R w v l
theorem tp{α:Type} {k:Nat} {R:World->Nat->Nat->α->Prop} (hR:Up R):Up (lj k R):=fun _ _ _ _ _ hb ⟨v,hc,hs⟩=>⟨v,hb.cell hc,hs.ck hR hb⟩
def eH(w:World) (b o:Nat) (x:Int):Prop:=w.cell? ⟨b,o,none⟩=some (.int .i64 x)/\bK x
theorem up_int:Up eH:=fun _ _ _ _ _ hb h=>⟨hb.cell h.1,h.2⟩
abbrev aU:=eO 1 eH
abbrev tu:=lj 1 eH
theorem up_ints:Up tu:=tp up_int
abbrev bF:=eO 1 tu
abbrev pP:=lj 1 tu
theorem up_vecs:Up pP:=tp up_ints
def GI(w:World) (b o:Nat) (c:Cs):Prop:=tu w b o c.inp/\pP w b (o+1) c.out/\pP w b (o+2) c.calm
theorem up_case:Up GI:=fun _ _ _ _ _ hb h=>⟨up_ints _ _ _ _ _ hb h.1,up_vecs _ _ _ _ _ hb h.2.1,up_vecs _ _ _ _ _ hb h.2.2⟩
abbrev bJ:=eO 3 GI
def jV(w:World) (b o:Nat) (r:Rd):Prop:=
 eH w b o r.g.n/\eH w b (o+1) r.g.h0/\eH w b (o+2) r.g.h1/\eH w b (o+3) r.g.h2/\eH w b (o+4) r.g.h3/\eH w b (o+5) r.g.h4/\eH w b (o+6) r.f
theorem up_round:Up jV:=fun _ _ _ _ _ hb ⟨h0,h1,h2,h3,h4,h5,h6⟩=>
 ⟨up_int _ _ _ _ _ hb h0,up_int _ _ _ _ _ hb h1,up_int _ _ _ _ _ hb h2,up_int _ _ _ _ _ hb h3,up_int _ _ _ _ _ hb h4,up_int _ _ _ _ _ hb h5,up_int _ _ _ _ _ hb h6⟩
abbrev bN:=eO 7 jV
def AZ(w:World) (b o:Nat) (m:Mv):Prop:=jV w b o m.r/\eH w b (o+7) m.to
theorem up_move:Up AZ:=fun _ _ _ _ _ hb h=>⟨up_round _ _ _ _ _ hb h.1,up_int _ _ _ _ _ hb h.2⟩
abbrev rg:=eO 8 AZ
abbrev Dj:=lj 8 AZ
theorem up_moves:Up Dj:=tp up_move
abbrev bn:=eO 1 Dj
abbrev Gr.v(g:Gr):Value:=.agg #[.int .i64 g.n,.int .i64 g.h0,.int .i64 g.h1,.int .i64 g.h2,.int .i64 g.h3,.int .i64 g.h4]
abbrev Rd.v(r:Rd):Value:=.agg #[.int .i64 r.g.n,.int .i64 r.g.h0,.int .i64 r.g.h1,.int .i64 r.g.h2,.int .i64 r.g.h3,.int .i64 r.g.h4,.int .i64 r.f]
abbrev Mv.v(m:Mv):Value:=.agg #[.int .i64 m.r.g.n,.int .i64 m.r.g.h0,.int .i64 m.r.g.h1,.int .i64 m.r.g.h2,.int .i64 m.r.g.h3,.int .i64 m.r.g.h4,.int .i64 m.r.f,.int .i64 m.to]
structure ExtW (w:World) where
 val:World
 ext:Below w.heap.size w val
instance (w:World):Inhabited (ExtW w):=⟨⟨w,Below.refl _ _⟩⟩
theorem aK{P:Program} {id:Nat} {Q:Exit->Act->World->Prop} {a:Act} {w:World} {l:List Oper} (hm:P.follows .mixedOrders=true) (hB:Region.lexB .any l.toArray=true)
  (h:wpQuiet P l.toArray (fun w'=>∃ x:ExtW w,w'=x.val) (fun a'=>∀ w',(∃ x:ExtW w,w'=x.val)->Q .normal a' w') l a):(Code.region id l.toArray true).wp P Q a w:=
 wp_region_quiet (C:=fun w'=>∃ x:ExtW w,w'=x.val) hm hB ⟨⟨w.drew,(Below.refl _ _).drew⟩,rfl⟩ (by simpa using h)
theorem Calls.ext_of{P:Program} {f:FuncId} {args:Array Value} {w:World} {x:ExtW w} {v:Value}
  (h:Calls P f args x.val fun e w'=>e=.returned v/\Below x.val.heap.size x.val w'):Calls P f args x.val fun e w''=>e=.returned v/\∃ p:ExtW w,w''=p.val:=
 h.mono fun _ w'' ⟨he,hb⟩=>⟨he,⟨w'',aj x.ext hb⟩,rfl⟩
theorem ExtW.cell{w:World} (x:ExtW w) {a:Addr} {v:Value} (h:w.cell? a=some v):x.val.cell? a=some v:=ay x.ext h
end Go.Proofs.YtkfgpnbpcpdclaaGreat
namespace Go.Proofs.YtkfgpnbpcpdclaaGreat
open Go.RowKit Go Go.Shelf
theorem aa{p:Prop} (h:p):Hid p:=Lib.hid h
theorem cO{α:Type} {a b:α} (h:some a=some b):a=b:=Option.some.inj h
theorem cD{a:Value}:∀ c,some a=some c->a=c:=fun _ h=>Option.some.inj h
end Go.Proofs.YtkfgpnbpcpdclaaGreat
namespace Go.Proofs.YtkfgpnbpcpdclaaGreat
open Go.ChangeShapes Go.WideShapes Go.ChangeAt Go.RowKit Go Go.Deep
section
variable {H : Type} {enc : TypeId × Value → H} {w : World}
abbrev gU(enc:TypeId × Value->H) (w:World) (fuel:Nat) (t:TypeId) (cs:List Value) (x:DataW H × List MemPlace):Prop:=DataW.trod enc Tryz.prog w 0 (fun _=>true) true fuel t cs=some x
def mr(t:TypeId) (d:DataW H):Prop:=∀ n∈d.weights Tryz.prog t,n<=reachBytes
theorem tz{n:Int} (h:(Lit.int .i64 n).wf=true):bK n:=by
 simp[Lit.wf,IntKind.min,IntKind.max,IntKind.bits,IntKind.signed]at h;unfold bK;omega
theorem A1{ts:List TypeId} {ds:List (DataW H)} {j:Nat} {t:TypeId} {d:DataW H} (ht:ts[j]?=some t) (hd:ds[j]?=some d) {n:Nat} (hn:n∈d.weights Tryz.prog t):n∈DataW.weightsEach Tryz.prog ts ds:=DataW.weights_mem_each ht hd n hn
theorem Dk{e:TypeId} {ds:List (DataW H)} {d:DataW H} (hd:d∈ds) {n:Nat} (hn:n∈d.weights Tryz.prog e):n∈DataW.weightsAll Tryz.prog e ds:=by
 induction ds with
 | nil=>cases hd
 | cons x r ih=>
  simp only[DataW.weightsAll,List.mem_append];rcases List.mem_cons.1 hd with rfl|h
  ·exact .inl hn
  ·exact .inr (ih h)
theorem kB{fs:Array Field} {t:TypeId} {fuel:Nat} {cs:List Value} {x:DataW H × List MemPlace} (ht:Tryz.prog.underlying t=some (.struct fs)) (h:gU enc w fuel t cs x) (hz:mr t x.1) :
  cs.length=Tryz.prog.cellsOf t/\∃ n,∀ (i:Nat) (f:Field),fs[i]?=some f->∃ y,gU enc w n f.type ((cs.drop f.offset).take (Tryz.prog.cellsOf f.type)) y/\mr f.type y.1:=by
 obtain⟨xs,n,_,rfl,hl,hx,hf⟩:=DataW.trod_struct ht h;refine⟨hl,n,fun i f hi=>?_⟩;have aF:i<xs.length:=by have:=(Array.getElem?_eq_some_iff.1 hi).1;omega
 refine⟨xs[i],(hf i f hi).trans (List.getElem?_eq_getElem aF),fun m hm=>hz m ?_⟩;simp only[DataW.weights,ht];exact A1 (j:=i) (by simp[hi]) (by simp[aF]) hm
def pQ(enc:TypeId × Value->H) (w:World) (t:TypeId) (k:Nat):Prop:=∀ fuel cs x,gU enc w fuel t cs x->cs.length=k/\∀ j,j<k->∃ n,cs[j]?=some (.int .i64 n)/\bK n
theorem uC{t:TypeId} (ht:Tryz.prog.underlying t=some (.int .i64)):pQ enc w t 1:=fun fuel cs x h=>by
 obtain⟨n,rfl,_,hw⟩:=DataW.trod_int ht h;refine⟨rfl,fun j hj=>⟨n,?_,tz hw⟩⟩;obtain rfl:j=0:=by omega
 rfl
theorem wG{t e:TypeId} {m:Nat} (ht:Tryz.prog.underlying t=some (.array m e)) (he:Tryz.prog.underlying e=some (.int .i64)) (h1:Tryz.prog.cellsOf e=1) (hk:Tryz.prog.cellsOf t=m):pQ enc w t m:=fun fuel cs x h=>by
 obtain⟨xs,n,_,_,hl,hx,hf⟩:=DataW.trod_array ht h;refine⟨by rw[hl,hk],fun j hj=>?_⟩;have h2:=hf j hj;rw[h1,Nat.mul_one,List.getElem?_eq_getElem (by omega)]at h2;obtain⟨v,e1,_,hw⟩:=DataW.trod_int he h2;refine⟨v,?_,tz hw⟩;have h3:((cs.drop j).take 1)[0]?=cs[j]?:=by simp
 rw[<-h3,e1];rfl
theorem uD{t:TypeId} {f0 f1:Field} {k0 k1:Nat} (ht:Tryz.prog.underlying t=some (.struct #[f0,f1])) (o0:f0.offset=0) (o1:f1.offset=k0) (c0:Tryz.prog.cellsOf f0.type=k0) (c1:Tryz.prog.cellsOf f1.type=k1) (ct:Tryz.prog.cellsOf t=k0+k1)
  (h0:pQ enc w f0.type k0) (h1:pQ enc w f1.type k1):pQ enc w t (k0+k1):=fun fuel cs x h=>by
 obtain⟨xs,n,_,_,hl,hx,hf⟩:=DataW.trod_struct ht h;refine⟨by rw[hl,ct],fun j hj=>?_⟩;have g0:=hf 0 f0 rfl;have g1:=hf 1 f1 rfl;have fF:xs.length=2:=hx;rw[o0,c0,List.getElem?_eq_getElem (by omega)]at g0;rw[o1,c1,List.getElem?_eq_getElem (by omega)]at g1;by_cases rU:j<k0
 ·obtain⟨v,e,hv⟩:=(h0 _ _ _ g0).2 j rU
  refine⟨v,?_,hv⟩;rw[<-e];simp[List.getElem?_take_of_lt rU]
 ·obtain⟨v,e,hv⟩:=(h1 _ _ _ g1).2 (j - k0) (by omega)
  refine⟨v,?_,hv⟩;rw[<-e,List.getElem?_take_of_lt (by omega),List.getElem?_drop,show k0+(j - k0)=j by omega]
def vF{α:Type} (enc:TypeId × Value->H) (w:World) (t:TypeId) (k:Nat) (R:World->Nat->Nat->α->Prop):Prop:=
 ∀ fuel cs x b off,gU enc w fuel t cs x->mr t x.1->(∀ j,j<k->w.cell? ⟨b,off+j,none⟩=cs[j]?)->∃ a:α,R w b off a
theorem opn_int:vF enc w 3 1 eH:=fun fuel cs x b off h _ hc=>by
 obtain⟨n,rfl,_,hw⟩:=DataW.trod_int Tryz.underlying3 h;exact⟨n,(hc 0 (by omega)).trans rfl,tz hw⟩
theorem vG{a:Addr} {j:Nat} (h:a.spot=none):a.add j=⟨a.block,a.off+j,none⟩:=by
 obtain⟨b,o,s⟩:=a;simp at h;subst h;unfold Addr.add;split<;>simp_all
theorem lR{α:Type} {t e:TypeId} {k:Nat} {R:World->Nat->Nat->α->Prop} (hu:Tryz.prog.underlying t=some (.slice e)) (hk:Tryz.prog.cellsOf e=k) (gW:0<k) (sE:8<=Tryz.prog.bytesOf e) (he:vF enc w e k R)
  {fuel:Nat} {cs:List Value} {x:DataW H × List MemPlace} (h:gU enc w fuel t cs x) (hz:mr t x.1):∃ v l,cs=[v]/\eO k R w v l:=by
 rcases open_slice hu h with ⟨rfl,_⟩|⟨a,len,cap,m,n,D,Pl,rfl,_,hl,hm,Cz,rfl,hi⟩
 ·exact⟨_,[],rfl,none,0,rfl,⟨by simp,by omega,fun _=>rfl⟩,by simp,fun i x hx=>by simp at hx⟩
 ·have hmc:m=cap:=by rw[Cz];rfl
  subst hmc
  have hw:(((List.range len).map D).length+((List.range (m - len)).map fun j=>D (len+j)).length) * Tryz.prog.bytesOf e<=reachBytes:=by
   refine hz _ ?_;simp only[DataW.weights,hu];exact List.mem_cons_self
  have oN:m * 8<=reachBytes:=by
   refine Nat.le_trans (Nat.mul_le_mul_left m sE) ?_;refine Nat.le_trans ?_ hw;rw[List.length_map,List.length_map,List.length_range,List.length_range];exact Nat.mul_le_mul_right _ (by omega)
  have Dc:m<=17592186044416:=by unfold reachBytes at oN;omega
  have hsp0:0<len->a.spot=none:=fun h0=>by
   obtain⟨cs',hc,ht⟩:=hi 0 (by omega);rw[hk]at hc;obtain⟨_,bW,rL⟩:=World.cells?_some hc;have h1:=rL 0 gW;rw[List.getElem?_eq_getElem (by omega)]at h1;have:=World.cell?_spot h1;simpa[Addr.add] using this
  have key:∀ i:Fin len,∃ y:α,a.spot=none/\R w a.block (a.off+i.1 * k) y:=fun i=>by
   obtain⟨cs',hc,ht⟩:=hi i.1 (by have:=i.2;omega);rw[hk]at hc;obtain⟨_,bW,rL⟩:=World.cells?_some hc;have hsp:=hsp0 (by have:=i.2;omega)
   have du:mr e (D i.1):=fun q hq=>hz q (by
    simp only[DataW.weights,hu];refine List.mem_cons_of_mem _ (List.mem_append_left _ (Dk (d:=D i.1) ?_ hq))
    exact List.mem_map.2 ⟨i.1,List.mem_range.2 i.2,rfl⟩)
   obtain⟨y,hy⟩:=he _ _ _ a.block (a.off+i.1 * k) ht du (fun j hj=>by
    rw[<-rL j hj,vG hsp,vG rfl])
   exact⟨y,hsp,hy⟩
  refine⟨_,List.ofFn fun i=>Classical.choose (key i),rfl,some a,m,by rw[List.length_ofFn],⟨by rw[List.length_ofFn];omega,by omega,fun h=>by cases h⟩,by rw[List.length_ofFn];omega,fun i y hy=>?_⟩;have dI:i<len:=by have:=(List.getElem?_eq_some_iff.1 hy).1;simpa using this
  have e1:y=Classical.choose (key ⟨i,dI⟩):=by
   rw[List.getElem?_ofFn]at hy;simp[dI]at hy;exact hy.symm
  obtain⟨hs,hr⟩:=Classical.choose_spec (key ⟨i,dI⟩);refine⟨a.block,a.off,?_,by rw[e1];exact hr⟩;obtain⟨b,o,s⟩:=a;simp at hs;subst hs;rfl
theorem rZ{α:Type} {t e:TypeId} {k:Nat} {R:World->Nat->Nat->α->Prop} (hu:Tryz.prog.underlying t=some (.slice e)) (hk:Tryz.prog.cellsOf e=k) (gW:0<k) (sE:8<=Tryz.prog.bytesOf e) (he:vF enc w e k R):vF enc w t 1 (lj k R):=fun fuel cs x b off h hz hc=>by
 obtain⟨v,l,rfl,hl⟩:=lR hu hk gW sE he h hz;exact⟨l,v,(hc 0 (by omega)).trans rfl,hl⟩
theorem GJ{cs:List Value} {j:Nat} (h:j<cs.length):(cs.drop j).take 1=[cs[j]]:=by
 rw[List.drop_eq_getElem_cons h];rfl
theorem Tryz.cInt:Tryz.prog.cellsOf 3=1:=by kernel_rfl
theorem Tryz.cInts:Tryz.prog.cellsOf 36=1:=by kernel_rfl
theorem Tryz.cVecs:Tryz.prog.cellsOf 30=1:=by kernel_rfl
theorem Tryz.cCase:Tryz.prog.cellsOf 88=3:=by kernel_rfl
theorem Tryz.cGraph:Tryz.prog.cellsOf 50=6:=by kernel_rfl
theorem Tryz.cRound:Tryz.prog.cellsOf 52=7:=by kernel_rfl
theorem Tryz.cMove:Tryz.prog.cellsOf 98=8:=by kernel_rfl
theorem Tryz.cMoves:Tryz.prog.cellsOf 94=1:=by kernel_rfl
theorem opn_ints:vF enc w 36 1 tu:=rZ Tryz.underlying36 Tryz.cInt (by omega) (of_decide_eq_true (by kernel_rfl)) opn_int
theorem opn_vecs:vF enc w 30 1 pP:=rZ Tryz.underlying30 Tryz.cInts (by omega) (of_decide_eq_true (by kernel_rfl)) opn_ints
theorem opn_case:vF enc w 88 3 GI:=fun fuel cs x b off h hz hc=>by
 obtain⟨hl,n,hf⟩:=kB Tryz.underlying88 h hz;rw[Tryz.cCase]at hl;obtain⟨y0,r0,z0⟩:=hf 0 _ rfl;obtain⟨y1,r1,z1⟩:=hf 1 _ rfl;obtain⟨y2,r2,z2⟩:=hf 2 _ rfl;change gU enc w n 36 ((cs.drop 0).take (Tryz.prog.cellsOf 36)) y0 at r0;change gU enc w n 30 ((cs.drop 1).take (Tryz.prog.cellsOf 30)) y1 at r1;change gU enc w n 30 ((cs.drop 2).take (Tryz.prog.cellsOf 30)) y2 at r2;rw[Tryz.cInts,GJ (by omega)]at r0;rw[Tryz.cVecs,GJ (by omega)]at r1 r2
 obtain⟨a0,h0⟩:=opn_ints _ _ _ b off r0 z0 (fun j hj=>by obtain rfl:j=0:=by omega
                                                         rw[hc 0 (by omega),List.getElem?_eq_getElem (by omega)];rfl)
 obtain⟨a1,h1⟩:=opn_vecs _ _ _ b (off+1) r1 z1 (fun j hj=>by obtain rfl:j=0:=by omega
                                                             rw[show off+1+0=off+1 by omega,hc 1 (by omega),List.getElem?_eq_getElem (by omega)];rfl)
 obtain⟨a2,h2⟩:=opn_vecs _ _ _ b (off+2) r2 z2 (fun j hj=>by obtain rfl:j=0:=by omega
                                                             rw[show off+2+0=off+2 by omega,hc 2 (by omega),List.getElem?_eq_getElem (by omega)];rfl)
 exact⟨⟨a0,a1,a2⟩,h0,h1,h2⟩
theorem allInt_graph:pQ enc w 50 6:=uD (k0:=1) (k1:=5) Tryz.underlying50 rfl rfl Tryz.cInt (by kernel_rfl) Tryz.cGraph (uC Tryz.underlying3) (wG Tryz.underlying48 Tryz.underlying3 Tryz.cInt (by kernel_rfl))
theorem allInt_round:pQ enc w 52 7:=uD (k0:=6) (k1:=1) Tryz.underlying52 rfl rfl Tryz.cGraph Tryz.cInt Tryz.cRound allInt_graph (uC Tryz.underlying3)
theorem allInt_move:pQ enc w 98 8:=uD (k0:=7) (k1:=1) Tryz.underlying98 rfl rfl Tryz.cRound Tryz.cInt Tryz.cMove allInt_round (uC Tryz.underlying3)
theorem opn_round:vF enc w 52 7 jV:=fun fuel cs x b off h _ hc=>by
 have ha:=(allInt_round _ _ _ h).2;obtain⟨n0,e0,i0⟩:=ha 0 (by omega);obtain⟨n1,e1,i1⟩:=ha 1 (by omega);obtain⟨n2,e2,i2⟩:=ha 2 (by omega);obtain⟨n3,e3,i3⟩:=ha 3 (by omega);obtain⟨n4,e4,i4⟩:=ha 4 (by omega);obtain⟨n5,e5,i5⟩:=ha 5 (by omega);obtain⟨n6,e6,i6⟩:=ha 6 (by omega);exact⟨⟨⟨n0,n1,n2,n3,n4,n5⟩,n6⟩,⟨(hc 0 (by omega)).trans e0,i0⟩,⟨(hc 1 (by omega)).trans e1,i1⟩,⟨(hc 2 (by omega)).trans e2,i2⟩,⟨(hc 3 (by omega)).trans e3,i3⟩,⟨(hc 4 (by omega)).trans e4,i4⟩,⟨(hc 5 (by omega)).trans e5,i5⟩,⟨(hc 6 (by omega)).trans e6,i6⟩⟩
theorem opn_move:vF enc w 98 8 AZ:=fun fuel cs x b off h _ hc=>by
 have ha:=(allInt_move _ _ _ h).2;obtain⟨n0,e0,i0⟩:=ha 0 (by omega);obtain⟨n1,e1,i1⟩:=ha 1 (by omega);obtain⟨n2,e2,i2⟩:=ha 2 (by omega);obtain⟨n3,e3,i3⟩:=ha 3 (by omega);obtain⟨n4,e4,i4⟩:=ha 4 (by omega);obtain⟨n5,e5,i5⟩:=ha 5 (by omega);obtain⟨n6,e6,i6⟩:=ha 6 (by omega);obtain⟨n7,e7,i7⟩:=ha 7 (by omega);exact⟨⟨⟨⟨n0,n1,n2,n3,n4,n5⟩,n6⟩,n7⟩,⟨⟨(hc 0 (by omega)).trans e0,i0⟩,⟨(hc 1 (by omega)).trans e1,i1⟩,⟨(hc 2 (by omega)).trans e2,i2⟩,⟨(hc 3 (by omega)).trans e3,i3⟩,⟨(hc 4 (by omega)).trans e4,i4⟩,⟨(hc 5 (by omega)).trans e5,i5⟩,⟨(hc 6 (by omega)).trans e6,i6⟩⟩,(hc 7 (by omega)).trans e7,i7⟩
theorem opn_moves:vF enc w 94 1 Dj:=rZ Tryz.underlying94 Tryz.cMove (by omega) (of_decide_eq_true (by kernel_rfl)) opn_move
theorem Wz{l:List Value} (h:l.length=7):∃ c0 c1 c2 c3 c4 c5 c6,l=[c0,c1,c2,c3,c4,c5,c6]:=by
 match l,h with
 | [c0,c1,c2,c3,c4,c5,c6],_=>exact⟨c0,c1,c2,c3,c4,c5,c6,rfl⟩
theorem Tryz.cProb:Tryz.prog.cellsOf 29=7:=by kernel_rfl
theorem Tryz.cTask:Tryz.prog.cellsOf 24=4:=by kernel_rfl
theorem Tryz.cAdv:Tryz.prog.cellsOf 27=2:=by kernel_rfl
theorem Tryz.cCases:Tryz.prog.cellsOf 22=1:=by kernel_rfl
theorem Tryz.cStates:Tryz.prog.cellsOf 25=1:=by kernel_rfl
theorem MZ{fuel:Nat} {c0 c1 c2 c3:Value} {x:DataW H × List MemPlace} (h:gU enc w fuel 24 [c0,c1,c2,c3] x) (hz:mr 24 x.1) :
  ∃ (t:Tk),c0=.int .i64 t.n/\c1=.int .i64 t.ins/\c2=.int .i64 t.outs/\bJ w c3 t.cases:=by
 obtain⟨_,n,hf⟩:=kB Tryz.underlying24 h hz;obtain⟨u0,s0,_⟩:=hf 0 _ rfl;obtain⟨u1,s1,_⟩:=hf 1 _ rfl;obtain⟨u2,s2,_⟩:=hf 2 _ rfl;obtain⟨u3,s3,q3⟩:=hf 3 _ rfl;change gU enc w n 3 (([c0,c1,c2,c3].drop 0).take (Tryz.prog.cellsOf 3)) u0 at s0;change gU enc w n 3 (([c0,c1,c2,c3].drop 1).take (Tryz.prog.cellsOf 3)) u1 at s1;change gU enc w n 3 (([c0,c1,c2,c3].drop 2).take (Tryz.prog.cellsOf 3)) u2 at s2;change gU enc w n 22 (([c0,c1,c2,c3].drop 3).take (Tryz.prog.cellsOf 22)) u3 at s3;change mr 22 u3.1 at q3;rw[Tryz.cInt]at s0 s1 s2;rw[Tryz.cCases]at s3;obtain⟨m0,e0,_,_⟩:=DataW.trod_int Tryz.underlying3 s0;obtain⟨m1,e1,_,_⟩:=DataW.trod_int Tryz.underlying3 s1;obtain⟨m2,e2,_,_⟩:=DataW.trod_int Tryz.underlying3 s2;obtain⟨vc,cases,e3,g3⟩:=lR Tryz.underlying22 Tryz.cCase (by omega) (of_decide_eq_true (by kernel_rfl)) opn_case s3 q3;simp at e0 e1 e2 e3;subst e3;exact⟨⟨m0,m1,m2,cases⟩,e0,e1,e2,g3⟩
theorem P9{fuel:Nat} {c0 c1:Value} {x:DataW H × List MemPlace} (h:gU enc w fuel 27 [c0,c1] x) (hz:mr 27 x.1) :
  ∃ (a:Adv),c0=.int .i64 a.n/\bn w c1 a.states:=by
 obtain⟨_,n,hf⟩:=kB Tryz.underlying27 h hz;obtain⟨u0,s0,_⟩:=hf 0 _ rfl;obtain⟨u1,s1,q1⟩:=hf 1 _ rfl;change gU enc w n 3 (([c0,c1].drop 0).take (Tryz.prog.cellsOf 3)) u0 at s0;change gU enc w n 25 (([c0,c1].drop 1).take (Tryz.prog.cellsOf 25)) u1 at s1;change mr 25 u1.1 at q1;rw[Tryz.cInt]at s0;rw[Tryz.cStates]at s1;obtain⟨m0,e0,_,_⟩:=DataW.trod_int Tryz.underlying3 s0;obtain⟨vs,states,e1,g1⟩:=lR Tryz.underlying25 Tryz.cMoves (by omega) (of_decide_eq_true (by kernel_rfl)) opn_moves s1 q1;simp at e0 e1;subst e1;exact⟨⟨m0,states⟩,e0,g1⟩
theorem M0{fuel:Nat} {cs:List Value} {x:DataW H × List MemPlace} (h:gU enc w fuel 29 cs x) (hz:mr 29 x.1) :
  ∃ (p:Pb) (vc vs:Value),cs=[.int .i64 p.t.n,.int .i64 p.t.ins,.int .i64 p.t.outs,vc,.int .i64 p.a.n,vs,.int .i64 p.rounds]/\bJ w vc p.t.cases/\bn w vs p.a.states:=by
 obtain⟨hl,n,hf⟩:=kB Tryz.underlying29 h hz;rw[Tryz.cProb]at hl;obtain⟨c0,c1,c2,c3,c4,c5,c6,rfl⟩:=Wz hl;obtain⟨y0,r0,z0⟩:=hf 0 _ rfl;obtain⟨y1,r1,z1⟩:=hf 1 _ rfl;obtain⟨y2,r2,z2⟩:=hf 2 _ rfl;change gU enc w n 24 (([c0,c1,c2,c3,c4,c5,c6].drop 0).take (Tryz.prog.cellsOf 24)) y0 at r0;change gU enc w n 27 (([c0,c1,c2,c3,c4,c5,c6].drop 4).take (Tryz.prog.cellsOf 27)) y1 at r1;change gU enc w n 3 (([c0,c1,c2,c3,c4,c5,c6].drop 6).take (Tryz.prog.cellsOf 3)) y2 at r2;rw[Tryz.cTask]at r0;rw[Tryz.cAdv]at r1;rw[Tryz.cInt]at r2;obtain⟨t,rfl,rfl,rfl,g0⟩:=MZ r0 z0;obtain⟨a,rfl,g1⟩:=P9 r1 z1;obtain⟨m6,e6,_,_⟩:=DataW.trod_int Tryz.underlying3 r2;simp at e6;subst e6;exact⟨⟨t,a,m6⟩,c3,c5,rfl,g0,g1⟩
end
end Go.Proofs.YtkfgpnbpcpdclaaGreat
namespace Go.Proofs.YtkfgpnbpcpdclaaGreat
open Go
theorem JB(a b:Nat) (ha:a<9223372036854775808) (hb:b<9223372036854775808):bits .and .i64 (a:Int) (b:Int)=((a &&& b:Nat):Int):=by
 have hx:a &&& b<2 ^ 63:=Nat.and_lt_two_pow _ (by omega)
 show IntKind.i64.wrap ((BitVec.ofInt 64 (a:Int) &&& BitVec.ofInt 64 (b:Int)).toNat:Int)=_
 rw[BitVec.toNat_and,ofInt_u64 a (by omega),ofInt_u64 b (by omega)];simp[IntKind.wrap,IntKind.bits,IntKind.signed];omega
theorem GK(a:Int):bits .and .i64 a 1=a % 2:=by
 show IntKind.i64.wrap ((BitVec.ofInt 64 a &&& BitVec.ofInt 64 ((1:Nat):Int)).toNat:Int)=_
 rw[BitVec.toNat_and,ofInt_u64 1 (by omega),Nat.and_one_is_mod,BitVec.toNat_ofInt];simp[IntKind.wrap,IntKind.bits,IntKind.signed];omega
theorem Eb(x:Int) (p:Nat):(bits .and .i64 (x / 2 ^ p) 1 == 0)=!cS x p:=by
 rw[GK];unfold cS;rcases (show x / 2 ^ p % 2=0\/x / 2 ^ p % 2=1 by omega) with h|h<;>rw[h]<;>rfl
theorem nL(x:Int) (p:Nat):(bits .and .i64 (x / 2 ^ p) 1 == 1)=cS x p:=by
 rw[GK];unfold cS;rfl
theorem jh(x y:Int) (gi:0<=x) (hx:x<32) (ww:0<=y) (hy:y<32):(bits .andNot .i64 x y != 0)=!cL x y:=by
 obtain⟨A,rfl⟩:=Int.eq_ofNat_of_zero_le gi;obtain⟨B,rfl⟩:=Int.eq_ofNat_of_zero_le ww;have hA:A<32:=by omega
 have hB:B<32:=by omega
 have key:∀ a:Fin 32,∀ b:Fin 32,(bits .andNot .i64 ((a.val:Nat):Int) ((b.val:Nat):Int) != 0)=!cL ((a.val:Nat):Int) ((b.val:Nat):Int):=by decide +kernel
 exact key ⟨A,hA⟩ ⟨B,hB⟩
end Go.Proofs.YtkfgpnbpcpdclaaGreat
namespace Go.Proofs.YtkfgpnbpcpdclaaGreat
open Go.RowKit Go
theorem Ec(n:Int) (w:World) :
  Calls Tryz.prog 192 #[.int .i64 n] w fun e w'=>e=.returned (.int .i64 (iO n))/\w=w':=by
 go_enter Tryz.func192,Tryz.ntmps192
 go_wp2
 all_goals go_ret;exact⟨aC (by unfold iO;first|rw[if_pos (by omega)]|rw[if_neg (by omega)]),rfl⟩
theorem Ai(n x:Int) (w:World) :
  Calls Tryz.prog 165 #[.int .i64 n,.int .i64 x] w fun e w'=>e=.returned (.int .i64 (ld n x))/\w=w':=by
 by_cases hn:n<1\/5<n
 ·have hp:iO n=1:=by unfold iO;rw[if_pos hn]
  have hc:=Ec n w;rw[hp]at hc;have H:=aa hp;clear hp
  go_enter Tryz.func165,Tryz.ntmps165
  go_wp2_with (go_at_call 192;refine hc.mono ?_;rintro e w' ⟨rfl,rfl⟩)
  go_ret;exact⟨aC (by unfold ld;rw[H.out];rfl),rfl⟩
 ·have hp:iO n=0:=by unfold iO;rw[if_neg hn]
  have hc:=Ec n w;rw[hp]at hc;have H:=aa hp;clear hp;have h1:1<=n:=by omega
  have h2:n<=5:=by omega
  clear hn
  go_enter Tryz.func165,Tryz.ntmps165
  go_wp2_with (go_at_call 192;refine hc.mono ?_;rintro e w' ⟨rfl,rfl⟩)
  all_goals
   go_ret
   refine⟨aC ?_,rfl⟩
   go_light
   unfold ld;rw[H.out]
   grind
theorem Lc(g:Gr) (k:Nat) (hk:k<5) (w:World):(Instr.index 48 (.agg #[.int .i64 g.h0,.int .i64 g.h1,.int .i64 g.h2,.int .i64 g.h3,.int .i64 g.h4]) (.int .i64 k)).run Tryz.prog w=.ok (.int .i64 (g.hear k)) w:=by
 have:k=0\/k=1\/k=2\/k=3\/k=4:=by omega
 rcases this with h|h|h|h|h<;>(subst h;with_reducible refine Eq.trans ?_ (Eq.refl _);kernel_rfl)
theorem P'(n:Int) (w:World) (h1:1<=n) (h2:n<=5) :
  Calls Tryz.prog 191 #[.int .i64 n] w fun e w'=>e=.returned (.int .i64 (2 ^ n.toNat - 1))/\w=w':=by
 have:n=1\/n=2\/n=3\/n=4\/n=5:=by omega
 rcases this with rfl|rfl|rfl|rfl|rfl
 all_goals
  go_enter Tryz.func191,Tryz.ntmps191
  go_wp2
  go_ret
  exact⟨rfl,rfl⟩
theorem Dl(g:Gr) (w:World) :
  Calls Tryz.prog 164 #[g.v] w fun e w'=>e=.returned (.int .i64 (ic g))/\Below w.heap.size w w':=by
 obtain⟨n,h0,h1,h2,h3,h4⟩:=g;by_cases hn:n<1\/5<n
 ·have H:Hid (ic ⟨n,h0,h1,h2,h3,h4⟩=2):=by unfold ic;rw[if_pos hn];rfl
  rcases hn with hn|hn
  ·go_enter Tryz.func164,Tryz.ntmps164
   go_wp2
   go_ret;exact⟨aC H.out.symm,by go_grown⟩
  ·have wz:¬ n<1:=by omega
   go_enter Tryz.func164,Tryz.ntmps164
   go_wp2
   go_ret;exact⟨aC H.out.symm,by go_grown⟩
 have IE:1<=n:=by omega
 have n9:n<=5:=by omega
 have HE:Hid (ic ⟨n,h0,h1,h2,h3,h4⟩=aP 5 fun p=>mL n (Gr.hear ⟨n,h0,h1,h2,h3,h4⟩ p) p):=by unfold ic;rw[if_neg hn];rfl
 clear hn
 go_enter Tryz.func164,Tryz.ntmps164
 go_wp2
 go_loop [15] (fun i=>∃ k:Nat,k<=5/\i=.int .i64 k/\∀ j,j<k->mL n (Gr.hear ⟨n,h0,h1,h2,h3,h4⟩ j) j=0) (fun i=>5 - (intOf i).toNat)
 case atStart=>exact⟨0,by omega,rfl,by simp⟩
 case round=>
  obtain⟨k,hk,rfl,aO⟩:=hrel;have H:=aa aO;clear aO;by_cases aF:k<5
  ·have hx:=Lc ⟨n,h0,h1,h2,h3,h4⟩ k aF
   have hEx:∃ x,x=Gr.hear ⟨n,h0,h1,h2,h3,h4⟩ k:=⟨_,rfl⟩;obtain⟨x,oz⟩:=hEx;rw[<-oz]at hx;have HX:=aa oz;clear oz;have fJ:=Eb x k
   go_wp2_with (go_at_call 191;refine(P' _ _ (by omega) (by omega)).mono ?_;rintro e w' ⟨rfl,rfl⟩)
   all_goals first
    | (go_ret
       refine⟨aC ?_,by go_grown⟩
       rw[HE.out]
       go_light
       refine bh k _ aF H.out ?_ (by decide)
       rw[<-HX.out]
       unfold mL
       grind)
    | (go_round
       case rel=>
        refine⟨k+1,by omega,by go_num,aQ H.out ?_⟩
        go_light
        rw[<-HX.out]
        unfold mL
        grind
       case measure=>simp[intOf];omega)
  ·go_wp2
   go_ret;exact⟨aC (by rw[HE.out,cp];intro j hj;exact H.out j (by omega)),by go_grown⟩
theorem lS(a b:Int) (w:World) :
  Calls Tryz.prog 51 #[.int .i64 a,.int .i64 b] w fun e w'=>e=.returned (.int .i64 (cmpI a b))/\w=w':=by
 go_enter Tryz.func51,Tryz.ntmps51
 go_wp2
 all_goals
  go_ret
  refine⟨aC ?_,rfl⟩
  go_light
  unfold cmpI
  grind
theorem uE(d:Nat) (a0 a1 a2 a3 a4 b0 b1 b2 b3 b4:Int) (w:World):(Op.equalIn (d+2) 48 (.agg #[.int .i64 a0,.int .i64 a1,.int .i64 a2,.int .i64 a3,.int .i64 a4]) (.agg #[.int .i64 b0,.int .i64 b1,.int .i64 b2,.int .i64 b3,.int .i64 b4])).run Tryz.prog w=.ok (decide (a0=b0/\a1=b1/\a2=b2/\a3=b3/\a4=b4)) w:=by
 obtain⟨i,hi⟩:∃ i,Tryz.prog.info? 3=some i:=Option.isSome_iff_exists.1 (by kernel_rfl);have hc:Tryz.prog.cellsOf 3=1:=by kernel_rfl
 rw[run_equalIn_array w (d+1) _ _ Tryz.underlying48 hi,hc];have ag:=Tryz.isAgg3;have u3:=Tryz.underlying3;have hr:List.range 5=[0,1,2,3,4]:=rfl;rw[hr];simp only[Op.eqItems,Sem.run_bind,part,ag,Result.andThen_ok];simp[run_equalIn_int w d 3 _ .i64 _ _ u3];by_cases h0:a0=b0
 case neg=>simp[h0]
 by_cases h1:a1=b1
 case neg=>simp[h0,h1]
 by_cases h2:a2=b2
 case neg=>simp[h0,h1,h2]
 by_cases h3:a3=b3
 case neg=>simp[h0,h1,h2,h3]
 by_cases h4:a4=b4<;>simp[h0,h1,h2,h3,h4]
theorem Dm(d:Nat) (a b:Gr) (w:World):(Op.equalIn (d+3) 50 a.v b.v).run Tryz.prog w=.ok (decide (a=b)) w:=by
 have hS:Tryz.prog.underlying 50=some (.struct (Tryz.prog.fieldsOf 50)):=by kernel_rfl
 have hp:Tryz.prog.stoodInHeld 50=false:=by kernel_rfl
 rw[run_equalIn_struct w (d+2) 50 _ _ hS hp];have ag:=Tryz.isAgg3;have ah:=Tryz.isAgg48;have zh:=Tryz.sizeOf48;have u3:=Tryz.underlying3;simp only[Program.fieldsOf,Tryz.underlying50];simp[Op.eqFields,part,ag,ah,zh,run_equalIn_int w (d+1) 3 _ .i64 _ _ u3,uE d];obtain⟨n,h0,h1,h2,h3,h4⟩:=a;obtain⟨m,g0,g1,g2,g3,g4⟩:=b;by_cases hn:n=m
 case neg=>simp[hn]
 by_cases hh:h0=g0/\h1=g1/\h2=g2/\h3=g3/\h4=g4<;>simp[hn,hh]
theorem lT(d:Nat) (a b:Rd) (w:World):(Op.equalIn (d+4) 52 a.v b.v).run Tryz.prog w=.ok (decide (a=b)) w:=by
 have hS:Tryz.prog.underlying 52=some (.struct (Tryz.prog.fieldsOf 52)):=by kernel_rfl
 have hp:Tryz.prog.stoodInHeld 52=false:=by kernel_rfl
 rw[run_equalIn_struct w (d+3) 52 _ _ hS hp];have ag:=Tryz.isAgg3;have ah:=Tryz.isAgg50;have zh:=Tryz.sizeOf50;have u3:=Tryz.underlying3;have hg:=Dm d a.g b.g w;simp only[Program.fieldsOf,Tryz.underlying52];simp[Op.eqFields,part,ag,ah,zh,run_equalIn_int w (d+2) 3 _ .i64 _ _ u3,hg];obtain⟨ga,fa⟩:=a;obtain⟨gb,fb⟩:=b;by_cases hn:ga=gb
 case neg=>simp[hn]
 by_cases hh:fa=fb<;>simp[hn,hh]
theorem A2(a b:Gr) (w:World):(binOp .eql 50 a.v b.v).run Tryz.prog w=.ok (.bool (decide (a=b))) w:=by
 rw[run_eql_struct,Dm 9997];rfl
theorem wH(a b:Gr) (w:World):(binOp .neq 50 a.v b.v).run Tryz.prog w=.ok (.bool (!decide (a=b))) w:=by
 rw[run_neq_struct,Dm 9997];rfl
theorem wI(a b:Rd) (w:World):(binOp .eql 52 a.v b.v).run Tryz.prog w=.ok (.bool (decide (a=b))) w:=by
 rw[run_eql_struct,lT 9996];rfl
theorem nr(a:Int):cmpI a a=0:=by unfold cmpI;grind
theorem kn{a b:Int} (h:cmpI a b=0):a=b:=by unfold cmpI at h;grind
theorem mu(a:Gr):dK a a=0:=by
 unfold dK;rw[nr];simp;exact cp _ _ (fun j _=>nr _)
theorem lk(g:Gr) (k:Nat) (hk:k<5) (w:World) (B:Nat) (hw:w.heap[B]?=some (.cells #[.int .i64 g.n,.int .i64 g.h0,.int .i64 g.h1,.int .i64 g.h2,.int .i64 g.h3,.int .i64 g.h4] 50)) :
  w.cell? ⟨B,1+k,none⟩=some (.int .i64 (g.hear k)):=by
 have:k=0\/k=1\/k=2\/k=3\/k=4:=by omega
 rcases this with h|h|h|h|h<;>subst h<;>simp[World.cell?,hw,Gr.hear]
theorem Aj(a b:Gr) (w:World) :
  Calls Tryz.prog 120 #[a.v,b.v] w fun e w'=>e=.returned (.int .i64 (dK a b))/\Below w.heap.size w w':=by
 by_cases og:a=b
 ·subst og
  have mK:∀ w,(binOp .eql 50 a.v a.v).run Tryz.prog w=.ok (.bool true) w:=fun w=>by rw[A2];simp
  have H:=aa (mu a);obtain⟨n,h0,h1,h2,h3,h4⟩:=a
  go_enter Tryz.func120,Tryz.ntmps120
  go_wp2
  go_ret;exact⟨aC H.out.symm,by go_grown⟩
 have mK:∀ w,(binOp .eql 50 a.v b.v).run Tryz.prog w=.ok (.bool false) w:=fun w=>by rw[A2];simp[og]
 clear og;by_cases hn:a.n=b.n
 ·have lK:(a.n != b.n)=false:=by simp[hn]
  have HC:Hid (dK a b=aP 5 fun p=>cmpI (a.hear p) (b.hear p)):=by(have h:dK a b=aP 5 fun p=>cmpI (a.hear p) (b.hear p):=by(unfold dK;rw[hn,nr];simp));exact h
  clear hn
  go_enter Tryz.func120,Tryz.ntmps120
  go_wp2
  refine bw (fun W=>Below w.heap.size w W/\W.heap[w.heap.size]?=some (.cells #[.int .i64 a.n,.int .i64 a.h0,.int .i64 a.h1,.int .i64 a.h2,.int .i64 a.h3,.int .i64 a.h4] 50)/\W.heap[w.heap.size+1]?=some (.cells #[.int .i64 b.n,.int .i64 b.h0,.int .i64 b.h1,.int .i64 b.h2,.int .i64 b.h3,.int .i64 b.h4] 50))
   ⟨by go_grown,aq _ (ar _ _),by have:=ar (w.alloc (.cells #[.int .i64 a.n,.int .i64 a.h0,.int .i64 a.h1,.int .i64 a.h2,.int .i64 a.h3,.int .i64 a.h4] 50));rw[World.size_alloc]at this;exact this _⟩ (fun W0 bd=>?_)
  obtain⟨aH,hA,hB⟩:=bd;have HA:=aa hA;clear hA;have HB:=aa hB;clear hB
  go_loopw [20] (fun i wr=>Below W0.heap.size W0 wr/\∃ k:Nat,k<=5/\i=.int .i64 k/\∀ j,j<k->cmpI (a.hear j) (b.hear j)=0) (fun i _=>5 - (intOf i).toNat)
  case atStart=>exact⟨Below.refl _ _,0,by omega,rfl,by simp⟩
  case round=>
   obtain⟨aJ,k,hk,rfl,aO⟩:=hrel;have H:=aa aO;clear aO;by_cases aF:k<5
   ·have c1:∀ x:ExtW wr,x.val.cell? ⟨w.heap.size,1+k,none⟩=some (.int .i64 (a.hear k)):=fun x=>x.cell (lk a k aF wr _ (ak aJ HA.out))
    have c2:∀ x:ExtW wr,x.val.cell? ⟨w.heap.size+1,1+k,none⟩=some (.int .i64 (b.hear k)):=fun x=>x.cell (lk b k aF wr _ (ak aJ HB.out))
    go_wp2
    refine aK (by kernel_rfl) (by kernel_rfl) ?_
    repeat (quiet_step ((go_at_call 51;exact Calls.ext_of ((lS _ _ _).mono fun _ _ ⟨h1,h2⟩=>⟨h1,h2 ▸ Below.refl _ _⟩))))
    refine wpQuiet_nil ?_;intro _ bV;obtain⟨xq,bC⟩:=bV;subst bC
    go_wp2
    ·have ht:(cmpI (a.hear k) (b.hear k) != 0)=true:=by assumption
     go_ret
     exact⟨aC (by rw[HC.out];exact bh k _ aF H.out rfl (by simpa using ht)),aj aH (aj aJ xq.ext)⟩
    ·have ht:(cmpI (a.hear k) (b.hear k) != 0)=false:=by assumption
     go_roundw
     case rel=>exact⟨aj aJ xq.ext,k+1,by omega,by go_num,aQ H.out (by simpa using ht)⟩
     case measure=>simp[intOf];omega
   ·go_wp2
    go_ret;exact⟨aC (by rw[HC.out,cp];intro j hj;exact H.out j (by omega)),aj aH aJ⟩
 ·have lK:(a.n != b.n)=true:=by simp[hn]
  have HC:Hid (dK a b=cmpI a.n b.n):=by unfold dK;rw[if_pos];exact rfl;intro h;exact hn (kn h)
  clear hn
  go_enter Tryz.func120,Tryz.ntmps120
  go_wp2_with (go_at_call 51;refine(lS _ _ _).mono ?_;rintro e w' ⟨rfl,rfl⟩)
  go_ret;exact⟨aC HC.out.symm,by go_grown⟩
theorem tD(r:Rd) (w:World) :
  Calls Tryz.prog 124 #[r.v] w fun e w'=>e=.returned (.int .i64 (roundE r))/\Below w.heap.size w w':=by
 obtain⟨⟨n,h0,h1,h2,h3,h4⟩,f⟩:=r
 go_enter Tryz.func124,Tryz.ntmps124
 go_wp2_with (first
  | (go_at_call 164;refine(Dl ⟨_,_,_,_,_,_⟩ _).mono ?_;rintro e w1 ⟨rfl,hb⟩;obtain⟨hc,hf⟩:=Lb hb)
  | (go_at_call 165;refine(Ai _ _ _).mono ?_;rintro e w2 ⟨rfl,rfl⟩))
 all_goals
  go_ret
  refine⟨aC ?_,?_⟩
  ·go_light
   unfold roundE
   grind
  ·exact aj (by go_grown) hb
theorem yM(a:Rd):roundC a a=0:=by
 unfold roundC;rw[mu,nr];simp
theorem Qa{a b:Gr} (hn:a.n=b.n) (h:∀ j,j<5->cmpI (a.hear j) (b.hear j)=0):a=b:=by
 obtain⟨n,h0,h1,h2,h3,h4⟩:=a;obtain⟨m,g0,g1,g2,g3,g4⟩:=b;have e0:=kn (h 0 (by omega));have e1:=kn (h 1 (by omega));have e2:=kn (h 2 (by omega));have e3:=kn (h 3 (by omega));have e4:=kn (h 4 (by omega));simp[Gr.hear]at e0 e1 e2 e3 e4 hn;simp[e0,e1,e2,e3,e4,hn]
theorem yN{a b:Gr} (h:dK a b=0):a=b:=by
 unfold dK at h;by_cases hc:cmpI a.n b.n=0
 ·rw[if_neg (by simpa using hc)]at h
  exact Qa (kn hc) (gX h)
 ·rw[if_pos hc]at h;exact absurd h hc
theorem Ak(a b:Rd) (w:World) :
  Calls Tryz.prog 72 #[a.v,b.v] w fun e w'=>e=.returned (.int .i64 (roundC a b))/\Below w.heap.size w w':=by
 by_cases og:a=b
 ·subst og
  have mK:∀ w,(binOp .eql 52 a.v a.v).run Tryz.prog w=.ok (.bool true) w:=fun w=>by rw[wI];simp
  have H:=aa (yM a)
  go_enter Tryz.func72,Tryz.ntmps72
  go_wp2
  go_ret;exact⟨aC H.out.symm,by go_grown⟩
 have mK:∀ w,(binOp .eql 52 a.v b.v).run Tryz.prog w=.ok (.bool false) w:=fun w=>by rw[wI];simp[og]
 by_cases hg:a.g=b.g
 ·have bH:∀ w,(binOp .neq 50 a.g.v b.g.v).run Tryz.prog w=.ok (.bool false) w:=fun w=>by rw[wH];simp[hg]
  have HC:Hid (roundC a b=cmpI a.f b.f):=by(have h:roundC a b=cmpI a.f b.f:=by(unfold roundC;rw[hg,mu];simp));exact h
  clear hg og
  go_enter Tryz.func72,Tryz.ntmps72
  go_wp2_with (go_at_call 51;refine(lS _ _ _).mono ?_;rintro e w' ⟨rfl,rfl⟩)
  go_ret;exact⟨aC HC.out.symm,by go_grown⟩
 ·have bH:∀ w,(binOp .neq 50 a.g.v b.g.v).run Tryz.prog w=.ok (.bool true) w:=fun w=>by rw[wH];simp[hg]
  have HC:Hid (roundC a b=dK a.g b.g):=by(have h:roundC a b=dK a.g b.g:=by(unfold roundC;rw[if_pos (fun h=>hg (yN h))]));exact h
  clear hg og
  go_enter Tryz.func72,Tryz.ntmps72
  go_wp2_with (go_at_call 120;refine(Aj a.g b.g _).mono ?_;rintro e w1 ⟨rfl,hb⟩)
  go_ret;exact⟨aC HC.out.symm,aj (by go_grown) hb⟩
theorem fP(va vb:Value) (a b:List Int) (w:World) (ha:aU w va a) (hb:aU w vb b) :
  Calls Tryz.prog 16 #[va,vb] w fun e w'=>e=.returned (.bool (eqV a b))/\Below w.heap.size w w':=by
 obtain⟨pa,ca,rfl,la1,la2,ea⟩:=ha.at;obtain⟨pb,cb,rfl,lb1,lb2,eb⟩:=hb.at;clear ha hb;have EA:=aa ea;clear ea;have EB:=aa eb;clear eb;by_cases hl:a.length=b.length
 ·have kd:((a.length:Int) != (b.length:Int))=false:=by simp[hl]
  have HL:=aa hl;clear hl
  go_enter Tryz.func16,Tryz.ntmps16
  go_wp2
  go_loopw [13] (fun i wr=>Below w.heap.size w wr/\∃ k:Nat,k<=a.length/\i=.int .i64 k/\∀ j,j<k->a.getD j 0=b.getD j 0) (fun i _=>a.length - (intOf i).toNat)
  case atStart=>exact⟨Below.refl _ _,0,by omega,rfl,by simp⟩
  case round=>
   obtain⟨aJ,k,hk,rfl,aO⟩:=hrel;have H:=aa aO;clear aO;by_cases aF:k<a.length
   ·obtain⟨b1,o1,rfl,h1⟩:=EA.out k aF
    have gD:k<b.length:=by have:=HL.out;omega
    obtain⟨b2,o2,rfl,h2⟩:=EB.out k gD;obtain⟨x,hx⟩:∃ x,x=a[k]:=⟨_,rfl⟩;obtain⟨y,hy⟩:∃ y,y=b[k]:=⟨_,rfl⟩;rw[<-hx,Nat.mul_one]at h1;rw[<-hy,Nat.mul_one]at h2;have c1:∀ n,(wr.drewN n).cell? ⟨b1,o1+k,none⟩=some (.int .i64 x):=fun n=>ay aJ h1.1
    have c2:∀ n,(wr.drewN n).cell? ⟨b2,o2+k,none⟩=some (.int .i64 y):=fun n=>ay aJ h2.1
    have HX:=aa hx;clear hx;have HY:=aa hy;clear hy
    go_wp2
    go_quiet (fail)
    go_wp2
    ·have ht:(x != y)=true:=by assumption
     go_ret
     refine⟨aV ?_,dC aJ _⟩
     go_light
     unfold eqV;simp at ht ⊢;intro h;subst h;exact ht (HX.out.trans HY.out.symm)
    ·have ht:(x != y)=false:=by assumption
     go_roundw
     case rel=>
      refine⟨dC aJ _,k+1,by omega,by go_num,aQ H.out ?_⟩;rw[aA 0 aF,aA 0 gD,<-HX.out,<-HY.out];simpa using ht
     case measure=>simp[intOf];omega
   ·go_wp2
    go_ret
    refine⟨aV ?_,aJ⟩;unfold eqV;simp;refine List.ext_getElem HL.out fun i h1 h2=>?_
    have:=H.out i (by omega)
    rwa [aA 0 h1,aA 0 h2]at this
 ·have kd:((a.length:Int) != (b.length:Int))=true:=by simp;omega
  go_enter Tryz.func16,Tryz.ntmps16
  go_wp2
  go_ret
  exact⟨aV (by unfold eqV;simp;intro h;exact hl (by rw[h])),Below.refl _ _⟩
theorem Ed{a b:List Int} {k:Nat} (h1:k<a.length) (h2:k<b.length) (hO:ordV a b=ordV (a.drop k) (b.drop k)):ordV a b=if cmpI a[k] b[k]=0 then ordV (a.drop (k+1)) (b.drop (k+1)) else cmpI a[k] b[k]:=by
 rw[hO,pN h1,pN h2,ordV];unfold cmpI
 grind
theorem jR(va vb:Value) (a b:List Int) (w:World) (ha:aU w va a) (hb:aU w vb b) :
  Calls Tryz.prog 30 #[va,vb] w fun e w'=>e=.returned (.int .i64 (ordV a b))/\Below w.heap.size w w':=by
 obtain⟨pa,ca,rfl,la1,la2,ea⟩:=ha.at;obtain⟨pb,cb,rfl,lb1,lb2,eb⟩:=hb.at;clear ha hb;have EA:=aa ea;clear ea;have EB:=aa eb;clear eb
 go_enter Tryz.func30,Tryz.ntmps30
 go_wp2
 go_loop [11] (fun i=>∃ k:Nat,k<=a.length/\i=.int .i64 k/\ordV a b=ordV (a.drop k) (b.drop k)) (fun i=>a.length - (intOf i).toNat)
 case atStart=>exact⟨0,by omega,rfl,by simp⟩
 case round=>
  obtain⟨k,hk,rfl,aO⟩:=hrel;have H:=aa aO;clear aO;by_cases aF:k<a.length
  ·obtain⟨b1,o1,rfl,h1⟩:=EA.out k aF
   obtain⟨x,hx⟩:∃ x,x=a[k]:=⟨_,rfl⟩;rw[<-hx,Nat.mul_one]at h1;have c1:=h1.1;have HX:=aa hx;clear hx h1;by_cases gD:k<b.length
   ·obtain⟨b2,o2,rfl,h2⟩:=EB.out k gD
    obtain⟨y,hy⟩:∃ y,y=b[k]:=⟨_,rfl⟩;rw[<-hy,Nat.mul_one]at h2;have c2:=h2.1;have HY:=aa hy;clear hy h2;have HS:=Ed aF gD H.out;rw[<-HX.out,<-HY.out]at HS;have Ae:=aa HS;clear HS
    go_wp2_with (go_at_call 51;refine(lS _ _ _).mono ?_;rintro e w' ⟨rfl,rfl⟩)
    ·have ht:(cmpI x y != 0)=true:=by assumption
     go_ret
     exact⟨aC (by rw[Ae.out,if_neg (by simpa using ht)]),Below.refl _ _⟩
    ·have ht:(cmpI x y != 0)=false:=by assumption
     go_round
     case rel=>exact⟨k+1,by omega,by go_num,by rw[Ae.out,if_pos (by simpa using ht)]⟩
     case measure=>simp[intOf];omega
   ·go_wp2
    go_ret
    refine⟨aC ?_,Below.refl _ _⟩;rw[H.out,pN aF,List.drop_of_length_le (l:=b) (by omega)];rfl
  ·have HR:Hid (ordV a b=if a.length<b.length then -1 else 0):=by
    have h:ordV a b=if a.length<b.length then -1 else 0:=by
     rw[H.out,List.drop_of_length_le (by omega),vE,List.length_drop]
     grind
    exact h
   go_wp2
   all_goals
    go_ret
    refine⟨aC ?_,Below.refl _ _⟩;rw[HR.out]
    go_light
    grind
theorem yD(g:Nat) (lb:Array Value) (eg:∀ args w,(callFunc g args).run Tryz.prog w=.ok (.enter g args) w) (v:Value) (l:List Int) (p:Nat->Bool) (w:World) (hv:aU w v l)
  (hp:∀ i (hi:i<l.length)  W,Below w.heap.size w W->Calls Tryz.prog g (#[.int .i64 l[i]]++lb) W fun e W'=>e=.returned (.bool (p i))/\Below W.heap.size W W') :
  Calls Tryz.prog 121 #[v,.func (.func g) #[] lb] w fun e w'=>e=.returned (.int .i64 (firstIx l.length p))/\Below w.heap.size w w':=by
 obtain⟨pa,ca,rfl,la1,la2,ea⟩:=hv.at;clear hv;have EA:=aa ea;clear ea;have HP:=aa hp;clear hp
 go_enter Tryz.func121,Tryz.ntmps121
 go_wp2
 go_loopw [8] (fun i wr=>Below w.heap.size w wr/\∃ k:Nat,k<=l.length/\i=.int .i64 k/\∀ j,j<k->p j=false) (fun i _=>l.length - (intOf i).toNat)
 case atStart=>exact⟨Below.refl _ _,0,by omega,rfl,by simp⟩
 case round=>
  obtain⟨aJ,k,hk,rfl,aO⟩:=hrel;have H:=aa aO;clear aO;by_cases aF:k<l.length
  ·obtain⟨b1,o1,rfl,h1⟩:=EA.out k aF
   rw[Nat.mul_one]at h1;have c1:=ay aJ h1.1;have b8:=HP.out k aF wr aJ;clear h1;generalize l[k]=x at c1 b8;cases jv:p k with
   | true=>
    rw[jv]at b8;have bE:=aa b8;clear b8;have rB:=aa jv;clear jv
    go_wp2_with fail
    refine bE.out.mono ?_;rintro e w1 ⟨rfl,aG⟩
    go_wp2_with fail
    go_ret
    exact⟨aC (gY _ _ _ aF H.out rB.out).symm,aj aJ aG⟩
   | false=>
    rw[jv]at b8;have bE:=aa b8;clear b8;have rB:=aa jv;clear jv
    go_wp2_with fail
    refine bE.out.mono ?_;rintro e w1 ⟨rfl,aG⟩
    go_wp2_with fail
    go_roundw
    case rel=>exact⟨aj aJ aG,k+1,by omega,by go_num,aQ H.out rB.out⟩
    case measure=>simp[intOf];omega
  ·go_wp2
   go_ret
   exact⟨aC (by rw[fT];intro j hj;exact H.out j (by omega)),aJ⟩
theorem yE(g:Nat) (lb:Array Value) (eg:∀ args w,(callFunc g args).run Tryz.prog w=.ok (.enter g args) w) (v:Value) (l:List (List Int)) (p:Nat->Bool) (w:World) (hv:bF w v l)
  (hp:∀ i (hi:i<l.length) (x:Value) (_:aU w x l[i]) W,Below w.heap.size w W->Calls Tryz.prog g (#[x]++lb) W fun e W'=>e=.returned (.bool (p i))/\Below W.heap.size W W') :
  Calls Tryz.prog 163 #[v,.func (.func g) #[] lb] w fun e w'=>e=.returned (.int .i64 (firstIx l.length p))/\Below w.heap.size w w':=by
 obtain⟨pa,ca,rfl,la1,la2,ea⟩:=hv.at;clear hv;have EA:=aa ea;clear ea;have HP:=aa hp;clear hp
 go_enter Tryz.func163,Tryz.ntmps163
 go_wp2
 go_loopw [8] (fun i wr=>Below w.heap.size w wr/\∃ k:Nat,k<=l.length/\i=.int .i64 k/\∀ j,j<k->p j=false) (fun i _=>l.length - (intOf i).toNat)
 case atStart=>exact⟨Below.refl _ _,0,by omega,rfl,by simp⟩
 case round=>
  obtain⟨aJ,k,hk,rfl,aO⟩:=hrel;have H:=aa aO;clear aO;by_cases aF:k<l.length
  ·obtain⟨b1,o1,rfl,h1⟩:=EA.out k aF
   rw[Nat.mul_one]at h1;obtain⟨x,kj,hx⟩:=h1;have c1:=ay aJ kj;have b8:=HP.out k aF x hx wr aJ;clear kj hx;cases jv:p k with
   | true=>
    rw[jv]at b8;have bE:=aa b8;clear b8;have rB:=aa jv;clear jv
    go_wp2_with fail
    refine bE.out.mono ?_;rintro e w1 ⟨rfl,aG⟩
    go_wp2_with fail
    go_ret
    exact⟨aC (gY _ _ _ aF H.out rB.out).symm,aj aJ aG⟩
   | false=>
    rw[jv]at b8;have bE:=aa b8;clear b8;have rB:=aa jv;clear jv
    go_wp2_with fail
    refine bE.out.mono ?_;rintro e w1 ⟨rfl,aG⟩
    go_wp2_with fail
    go_roundw
    case rel=>exact⟨aj aJ aG,k+1,by omega,by go_num,aQ H.out rB.out⟩
    case measure=>simp[intOf];omega
  ·go_wp2
   go_ret
   exact⟨aC (by rw[fT];intro j hj;exact H.out j (by omega)),aJ⟩
theorem wJ(g:Nat) (lb:Array Value) (eg:∀ args w,(callFunc g args).run Tryz.prog w=.ok (.enter g args) w) (v:Value) (l:List Cs) (p:Nat->Bool) (w:World) (hv:bJ w v l)
  (hp:∀ i (hi:i<l.length) (x0 x1 x2:Value) (_:aU w x0 l[i].inp) (_:bF w x1 l[i].out) (_:bF w x2 l[i].calm) W,Below w.heap.size w W->Calls Tryz.prog g (#[.agg #[x0,x1,x2]]++lb) W fun e W'=>e=.returned (.bool (p i))/\Below W.heap.size W W') :
  Calls Tryz.prog 137 #[v,.func (.func g) #[] lb] w fun e w'=>e=.returned (.int .i64 (firstIx l.length p))/\Below w.heap.size w w':=by
 obtain⟨pa,ca,rfl,la1,la2,ea⟩:=hv.at;clear hv;have EA:=aa ea;clear ea;have HP:=aa hp;clear hp
 go_enter Tryz.func137,Tryz.ntmps137
 go_wp2
 go_loopw [8] (fun i wr=>Below w.heap.size w wr/\∃ k:Nat,k<=l.length/\i=.int .i64 k/\∀ j,j<k->p j=false) (fun i _=>l.length - (intOf i).toNat)
 case atStart=>exact⟨Below.refl _ _,0,by omega,rfl,by simp⟩
 case round=>
  obtain⟨aJ,k,hk,rfl,aO⟩:=hrel;have H:=aa aO;clear aO;by_cases aF:k<l.length
  ·obtain⟨b1,o1,rfl,h1⟩:=EA.out k aF
   obtain⟨⟨x0,Pd,gi⟩,⟨x1,kj,dV⟩,⟨x2,fg,fF⟩⟩:=h1;have c0:=ay aJ Pd;have c1:=ay aJ kj;have c2:=ay aJ fg;have b8:=HP.out k aF x0 x1 x2 gi dV fF wr aJ;clear Pd kj fg gi dV fF;cases jv:p k with
   | true=>
    rw[jv]at b8;have bE:=aa b8;clear b8;have rB:=aa jv;clear jv
    go_wp2_with fail
    refine bE.out.mono ?_;rintro e w1 ⟨rfl,aG⟩
    go_wp2_with fail
    go_ret
    exact⟨aC (gY _ _ _ aF H.out rB.out).symm,aj aJ aG⟩
   | false=>
    rw[jv]at b8;have bE:=aa b8;clear b8;have rB:=aa jv;clear jv
    go_wp2_with fail
    refine bE.out.mono ?_;rintro e w1 ⟨rfl,aG⟩
    go_wp2_with fail
    go_roundw
    case rel=>exact⟨aj aJ aG,k+1,by omega,by go_num,aQ H.out rB.out⟩
    case measure=>simp[intOf];omega
  ·go_wp2
   go_ret
   exact⟨aC (by rw[fT];intro j hj;exact H.out j (by omega)),aJ⟩
theorem kC(g:Nat) (lb:Array Value) (eg:∀ args w,(callFunc g args).run Tryz.prog w=.ok (.enter g args) w) (v:Value) (l:List Int) (p:Nat->Bool) (w:World) (hv:aU w v l)
  (hp:∀ i (hi:i<l.length)  W,Below w.heap.size w W->Calls Tryz.prog g (#[.int .i64 l[i]]++lb) W fun e W'=>e=.returned (.bool (p i))/\Below W.heap.size W W') :
  Calls Tryz.prog 76 #[v,.func (.func g) #[] lb] w fun e w'=>e=.returned (.bool (anyLt l.length p))/\Below w.heap.size w w':=by
 have hc:=yD g lb eg v l p w hv hp;have HA:=aa (ph l.length p);generalize firstIx l.length p=r at hc HA;have HC:=aa hc;clear hc hp
 go_enter Tryz.func76,Tryz.ntmps76
 go_wp2_with fail
 refine HC.out.mono ?_;rintro e w1 ⟨rfl,aG⟩
 go_wp2_with fail
 go_ret
 exact⟨aV HA.out,aG⟩
theorem gv(g:Nat) (lb:Array Value) (eg:∀ args w,(callFunc g args).run Tryz.prog w=.ok (.enter g args) w) (v:Value) (l:List (List Int)) (p:Nat->Bool) (w:World) (hv:bF w v l)
  (hp:∀ i (hi:i<l.length) (x:Value) (_:aU w x l[i]) W,Below w.heap.size w W->Calls Tryz.prog g (#[x]++lb) W fun e W'=>e=.returned (.bool (p i))/\Below W.heap.size W W') :
  Calls Tryz.prog 122 #[v,.func (.func g) #[] lb] w fun e w'=>e=.returned (.bool (anyLt l.length p))/\Below w.heap.size w w':=by
 have hc:=yE g lb eg v l p w hv hp;have HA:=aa (ph l.length p);generalize firstIx l.length p=r at hc HA;have HC:=aa hc;clear hc hp
 go_enter Tryz.func122,Tryz.ntmps122
 go_wp2_with fail
 refine HC.out.mono ?_;rintro e w1 ⟨rfl,aG⟩
 go_wp2_with fail
 go_ret
 exact⟨aV HA.out,aG⟩
end Go.Proofs.YtkfgpnbpcpdclaaGreat
namespace Go.Proofs.YtkfgpnbpcpdclaaGreat
def iF(s:Nat):List (List Mv)->List (Nat × Mv)
 | []=>[]
 | l :: r=>l.map (fun m=>(s,m))++iF (s+1) r
def tG(l:List (List Mv)):List (Nat × Mv):=iF 0 l
theorem Al(s:Nat) (l:List (List Mv)):(iF s l).length=movesN l:=by
 induction l generalizing s with
 | nil=>rfl
 | cons x r ih=>simp[iF,movesN,ih]
theorem vH(l:List (List Mv)):(tG l).length=movesN l:=Al 0 l
def cnt(l:List (List Mv)) (s:Nat):Nat:=movesN (l.take s)
theorem oQ(l:List (List Mv)):cnt l 0=0:=by simp[cnt,movesN]
theorem oR(l:List (List Mv)) (s:Nat) (h:l.length<=s):cnt l s=movesN l:=by simp[cnt,List.take_of_length_le h]
theorem kD(l:List (List Mv)) (s:Nat) (h:s<l.length):cnt l (s+1)=cnt l s+l[s].length:=by
 unfold cnt movesN;rw[List.take_succ_eq_append_getElem h];simp only[List.map_append,List.sum_append,List.map_cons,List.map_nil,List.sum_cons,List.sum_nil,Nat.add_zero]
theorem A3(l:List (List Mv)) (s:Nat) (h:s<l.length):cnt l s+l[s].length<=movesN l:=by
 rw[<-kD l s h];have:movesN l=movesN (l.take (s+1))+movesN (l.drop (s+1)):=by unfold movesN;rw[<-List.sum_append,<-List.map_append,List.take_append_drop]
 unfold cnt;omega
theorem GL(t:Nat) (l:List (List Mv)) (s j:Nat) (hs:s<l.length) (hj:j<l[s].length):(iF t l)[cnt l s+j]?=some (t+s,l[s][j]):=by
 induction l generalizing t s with
 | nil=>simp at hs
 | cons x r ih=>
  cases s with
  | zero=>
   simp only[List.getElem_cons_zero]at hj ⊢;simp[iF,oQ,List.getElem?_append,hj]
  | succ s=>
   have hs':s<r.length:=by simpa using hs
   have xL:j<r[s].length:=by simpa using hj
   have e:cnt (x :: r) (s+1)=x.length+cnt r s:=by simp[cnt,movesN]
   rw[e];simp only[iF,List.getElem_cons_succ];rw[List.getElem?_append_right (by simp;omega)];have:x.length+cnt r s+j - (x.map fun m=>(t,m)).length=cnt r s+j:=by simp;omega
   rw[this,ih (t+1) s hs' xL];simp;omega
theorem M1(l:List (List Mv)) (s j:Nat) (hs:s<l.length) (hj:j<l[s].length):(tG l)[cnt l s+j]?=some (s,l[s][j]):=by
 have:=GL 0 l s j hs hj;rw[Nat.zero_add]at this;exact this
def mvAt(l:List (List Mv)) (i:Nat):Nat × Mv:=(tG l).getD i (0,default)
theorem tH(l:List (List Mv)) (s j:Nat) (hs:s<l.length) (hj:j<l[s].length):mvAt l (cnt l s+j)=(s,l[s][j]):=by
 unfold mvAt;rw[List.getD_eq_getElem?_getD,M1 l s j hs hj];rfl
def nM(a:Adv) (i:Nat):List Mv:=a.states.getD (mvAt a.states i).2.to.toNat []
def pk(a:Adv) (i:Nat):Bool:=anyLt (nM a i).length fun k=>!cL (mvAt a.states i).2.r.f ((nM a i).getD k default).r.f
def growsB(a:Adv):Bool:=!anyLt (movesN a.states) (pk a)
def advE(a:Adv):Int:=
 if a.n<1\/5<a.n then 2
 else if a.states.length<1\/256<a.states.length\/4096<movesN a.states then 5
 else if aP a.states.length (fun s=>stateE a (a.states.getD s []))≠0 then aP a.states.length (fun s=>stateE a (a.states.getD s []))
 else if growsB a then 0 else 21
def probE(p:Pb):Int:=
 if taskE p.t≠0 then taskE p.t else if advE p.a≠0 then advE p.a
 else if p.t.n≠p.a.n then 22 else if p.rounds<0\/6<p.rounds then 2 else 0
theorem Kb{n f:Int} (h:ld n f=0):0<=f/\f<32:=by
 unfold ld iO at h;by_cases hn:n<1\/5<n
 ·rw[if_pos hn]at h;simp at h
 ·rw[if_neg hn]at h
  simp only[ne_eq,not_true_eq_false,if_false]at h;by_cases hf:f<0\/¬ f / 2 ^ n.toNat=0
  ·rw[if_pos hf]at h;simp at h
  ·have h0:0<=f:=by omega
   have hq:f / 2 ^ n.toNat=0:=by omega
   have aF:f<2 ^ n.toNat:=by
    by_cases h':f<2 ^ n.toNat
    ·exact h'
    ·have h1:(1:Int)<=f / 2 ^ n.toNat:=(Int.le_ediv_iff_mul_le (Int.pow_pos (by decide))).2 (by omega)
     omega
   have hp:(2:Int) ^ n.toNat<=32:=by
    have:n=1\/n=2\/n=3\/n=4\/n=5:=by omega
    rcases this with h|h|h|h|h<;>subst h<;>decide
   exact⟨h0,by omega⟩
theorem Dn{a:Adv} {l:List Mv} {j:Nat} (h:dF a l j=0):(0<=(l.getD j default).r.f/\(l.getD j default).r.f<32)/\0<=(l.getD j default).to/\(l.getD j default).to<a.states.length:=by
 unfold dF at h;split at h
 ·omega
 ·rename_i h1
  have oI:roundE (l.getD j default).r=0:=by simpa using h1
  have hp:ld (l.getD j default).r.g.n (l.getD j default).r.f=0:=by
   unfold roundE at oI;split at oI
   ·omega
   ·exact oI
  split at h
  ·omega
  ·split at h
   ·omega
   ·split at h
    ·omega
    ·exact⟨Kb hp,by omega,by omega⟩
theorem jj{a:Adv} (h:∀ s,s<a.states.length->stateE a (a.states.getD s [])=0) {s j:Nat} (hs:s<a.states.length) (hj:j<a.states[s].length) :
  (0<=a.states[s][j].r.f/\a.states[s][j].r.f<32)/\0<=a.states[s][j].to/\a.states[s][j].to<a.states.length:=by
 have h1:=h s hs;rw[show a.states.getD s []=a.states[s] by simp[hs]]at h1;unfold stateE at h1;rw[if_neg (by omega)]at h1;have:=Dn (gX h1 j hj)
 rwa [show a.states[s].getD j default=a.states[s][j] by simp[hj]]at this
theorem Do(l:List (List Mv)) (i:Nat) (h:i<movesN l):∃ s j,∃ hs:s<l.length,∃ _:j<l[s].length,i=cnt l s+j:=by
 have key:∀ n,n<=l.length->i<cnt l n->∃ s j,∃ hs:s<l.length,∃ _:j<l[s].length,i=cnt l s+j:=by
  intro n;induction n with
  | zero=>intro _ h;rw[oQ]at h;omega
  | succ n ih=>
   intro hn h;by_cases aF:i<cnt l n
   ·exact ih (by omega) aF
   ·have wz:n<l.length:=by omega
    rw[kD l n wz]at h;exact⟨n,i - cnt l n,wz,by omega,by omega⟩
 exact key l.length (Nat.le_refl _) (by rw[oR l _ (Nat.le_refl _)];exact h)
theorem Tm{a:Adv} (h:∀ s,s<a.states.length->stateE a (a.states.getD s [])=0) {i:Nat} (hi:i<movesN a.states) :
  (0<=(mvAt a.states i).2.r.f/\(mvAt a.states i).2.r.f<32)/\0<=(mvAt a.states i).2.to/\(mvAt a.states i).2.to<a.states.length:=by
 obtain⟨s,j,hs,hj,rfl⟩:=Do a.states i hi;rw[tH a.states s j hs hj];exact jj h hs hj
theorem wK(x y:Int) (r s:List Int):ordV (x :: r) (y :: s)=if cmpI x y≠0 then cmpI x y else ordV r s:=by
 rw[ordV];unfold cmpI;grind
theorem jW(n:Nat) (f:Nat->Int):aP (n+1) f=if f 0≠0 then f 0 else aP n (fun j=>f (j+1)):=by
 induction n with
 | zero=>simp[aP]
 | succ n ih=>
  rw[aP,ih]
  conv=>rhs;rw[aP]
  grind
def Rd.list(r:Rd):List Int:=[r.g.n,r.g.h0,r.g.h1,r.g.h2,r.g.h3,r.g.h4,r.f]
theorem mx(a b:Rd):roundC a b=ordV a.list b.list:=by
 unfold Rd.list roundC dK;rw[jW,jW,jW,jW,jW];simp only[wK,aP,Gr.hear];have h0:ordV [] []=0:=rfl;rw[h0];generalize cmpI a.g.n b.g.n=c0;generalize cmpI a.g.h0 b.g.h0=c1;generalize cmpI a.g.h1 b.g.h1=c2;generalize cmpI a.g.h2 b.g.h2=c3;generalize cmpI a.g.h3 b.g.h3=c4;generalize cmpI a.g.h4 b.g.h4=c5;generalize cmpI a.f b.f=c6
 grind
theorem kE{a b c:List Int} (h1:ordV a b<0) (h2:ordV b c<0):ordV a c<0:=by
 induction a generalizing b c with
 | nil=>
  cases b with
  | nil=>simp[ordV]at h1
  | cons y s=>
   cases c with
   | nil=>simp[ordV]at h2
   | cons z t=>simp[ordV]
 | cons x r ih=>
  cases b with
  | nil=>simp[ordV]at h1
  | cons y s=>
   cases c with
   | nil=>simp[ordV]at h2
   | cons z t=>
    unfold ordV at h1 h2 ⊢;by_cases iW:x<y
    ·by_cases K7:y<z
     ·rw[if_pos (by omega)];omega
     ·rw[if_neg K7]at h2
      by_cases S4:z<y
      ·rw[if_pos S4]at h2;omega
      ·rw[if_pos (by omega)];omega
    ·rw[if_neg iW]at h1
     by_cases hyx:y<x
     ·rw[if_pos hyx]at h1;omega
     ·rw[if_neg hyx]at h1
      by_cases K7:y<z
      ·rw[if_pos (by omega)];omega
      ·rw[if_neg K7]at h2
       by_cases S4:z<y
       ·rw[if_pos S4]at h2;omega
       ·rw[if_neg S4]at h2
        rw[if_neg (by omega),if_neg (by omega)];exact ih h1 h2
theorem Tn{a:Adv} {l:List Mv} {j:Nat} (h:dF a l (j+1)=0):roundC (l.getD j default).r (l.getD (j+1) default).r<0:=by
 unfold dF at h;rw[Nat.add_sub_cancel]at h
 grind
theorem M2{a:Adv} {l:List Mv} (h:∀ j,j<l.length->dF a l j=0):∀ j i,i<j->j<l.length->ordV (l.getD i default).r.list (l.getD j default).r.list<0:=by
 intro j;induction j with
 | zero=>intro i hi;omega
 | succ j ih=>
  intro i hi hj;have h1:=Tn (h (j+1) hj);rw[mx]at h1;by_cases e:i=j
  ·subst e;exact h1
  ·exact kE (ih i (by omega) (by omega)) h1
theorem F0{a:Adv} (h:∀ s,s<a.states.length->stateE a (a.states.getD s [])=0) (s:Nat) (hs:s<a.states.length) (j:Nat) (hj:j<a.states[s].length) (i:Nat) (hi:i<j):a.states[s][i].r≠a.states[s][j].r:=by
 have h1:=h s hs;rw[show a.states.getD s []=a.states[s] by simp[hs]]at h1;unfold stateE at h1;rw[if_neg (by omega)]at h1;have h2:=M2 (gX h1) j i hi hj;rw[show a.states[s].getD i default=a.states[s][i] by simp[show i<a.states[s].length by omega],show a.states[s].getD j default=a.states[s][j] by simp[hj]]at h2;intro e;rw[e,pO]at h2;omega
theorem iP{a:Adv} (h:advE a=0):(1<=a.states.length/\a.states.length<=256)/\(∀ s,s<a.states.length->stateE a (a.states.getD s [])=0)/\growsB a=true/\1<=a.n/\a.n<=5:=by
 unfold advE at h;by_cases h1:a.n<1\/5<a.n
 ·rw[if_pos h1]at h;omega
 ·rw[if_neg h1]at h
  by_cases h2:a.states.length<1\/256<a.states.length\/4096<movesN a.states
  ·rw[if_pos h2]at h;omega
  ·rw[if_neg h2]at h
   by_cases h3:aP a.states.length (fun s=>stateE a (a.states.getD s []))=0
   ·rw[if_neg (by simpa using h3)]at h
    refine⟨by omega,gX h3,?_,by omega,by omega⟩;cases hg:growsB a with
    | true=>rfl
    | false=>rw[hg]at h;simp at h
   ·rw[if_pos h3]at h;exact absurd h h3
def qD(a:Adv) (s:Int) (r:Rd):Int:=(((a.states.getD s.toNat []).find? fun m=>decide (r=m.r)).map (·.to)).getD (-1)
def afterS(a:Adv) (s:Int):List Rd->Int
 | []=>s
 | r :: rest=>if qD a s r<0 then -1 else afterS a (qD a s r) rest
theorem M3{a:Adv} (h:∀ s,s<a.states.length->stateE a (a.states.getD s [])=0) (s:Nat) (hs:s<a.states.length) (r:Rd):qD a s r=-1\/(0<=qD a s r/\qD a s r<a.states.length):=by
 unfold qD;rw[Int.toNat_natCast,show a.states.getD s []=a.states[s] by simp[hs]];cases hf:a.states[s].find? (fun m=>decide (r=m.r)) with
 | none=>left;rfl
 | some m=>
  right;have hm:=List.mem_of_find?_eq_some hf;obtain⟨j,hj,rfl⟩:=List.getElem_of_mem hm;exact(jj h hs hj).2
structure St where
 rd:Int
 pr:Int
 h0:Int
 h1:Int
 h2:Int
 h3:Int
 h4:Int
 to:Int
structure Mac where
 n:Int
 rounds:Int
 ins:Int
 outs:Int
 first:List (List Int)
 syms:List (List (List (List Int)))
 steps:List St
 out:List (List (List Int))
instance:Inhabited St:=⟨⟨0,0,0,0,0,0,0,0⟩⟩
def St.hear(s:St) (k:Nat):Int:=match k with|0=>s.h0|1=>s.h1|2=>s.h2|3=>s.h3|4=>s.h4|_=>0
def St.heard(s:St):List Int:=[s.h0,s.h1,s.h2,s.h3,s.h4]
def inB(n lo hi:Int):Bool:=decide (lo<=n)&&decide (n<=hi)
def allB(l:List Int) (lo hi:Int):Bool:=!anyLt l.length fun i=>!inB (l.getD i 0) lo hi
def Dp(o:List (List Int)) (p:Nat) (l:List (List Int)):Bool:=anyLt l.length fun q=>decide ((l.getD q []).length≠if p=q then 0 else(o.getD p []).length)
def pp(n:Int) (o:List (List Int)) (l:List (List (List Int))) (p:Nat):Bool:=decide (((l.getD p []).length:Int)≠n) || Dp o p (l.getD p [])
def kM(m:Mac) (k:Nat):Bool:=decide (((m.syms.getD k []).length:Int)≠m.n) || anyLt (m.syms.getD k []).length (pp m.n (m.out.getD k []) (m.syms.getD k []))
def dX(m:Mac):Bool:=
 if (m.first.length:Int)≠m.n\/(m.out.length:Int)≠m.rounds+1\/(m.syms.length:Int)≠m.rounds then false
 else if anyLt m.first.length (fun i=>decide (((m.first.getD i []).length:Int)≠m.ins)) then false
 else if anyLt m.out.length (fun i=>decide (((m.out.getD i []).length:Int)≠m.n)) then false
 else !anyLt m.syms.length (kM m)
def gR(m:Mac):Bool:=
 if anyLt m.first.length (fun p=>!allB (m.first.getD p []) (-1) ((((m.out.getD 0 []).getD p []).length:Int) - 1)) then false
 else if anyLt m.out.length (fun k=>anyLt (m.out.getD k []).length fun p=>!allB ((m.out.getD k []).getD p []) (-1) (m.outs - 1)) then false
 else !anyLt m.syms.length (fun k=>anyLt (m.syms.getD k []).length fun p=>anyLt ((m.syms.getD k []).getD p []).length fun q=>!allB (((m.syms.getD k []).getD p []).getD q []) 0 1048576)
def lU(m:Mac):Nat:=(m.out.map fun l=>(l.map List.length).sum).sum
def rk(m:Mac) (k p:Int):Int:=(((m.out.getD k.toNat []).getD p.toNat []).length:Int)
def gF(m:Mac) (s:St):Bool:=!inB s.rd 0 (m.rounds - 1) || !inB s.pr 0 (m.n - 1) || !inB s.to 0 (rk m (s.rd+1) s.pr - 1)
def jX(m:Mac) (s:St) (q:Nat):Bool:=if (q:Int)=s.pr then !inB (s.hear q) 0 (rk m s.rd q - 1) else !inB (s.hear q) (-1) 1048576
def stepE(m:Mac) (s:St):Int:=
 if gF m s then 2 else if !allB (s.heard.drop m.n.toNat) (-1) (-1) then 3 else if anyLt m.n.toNat (jX m s) then 2 else 0
end Go.Proofs.YtkfgpnbpcpdclaaGreat
namespace Go.Proofs.YtkfgpnbpcpdclaaGreat
open Go.RowKit Go Go.Shelf
abbrev fj:=eO 1 pP
abbrev Qb:=lj 1 pP
theorem up_v3:Up Qb:=tp up_vecs
abbrev eZ:=eO 1 Qb
def A4(w:World) (b o:Nat) (s:St):Prop:=
 eH w b o s.rd/\eH w b (o+1) s.pr/\eH w b (o+2) s.h0/\eH w b (o+3) s.h1/\eH w b (o+4) s.h2/\eH w b (o+5) s.h3/\eH w b (o+6) s.h4/\eH w b (o+7) s.to
theorem up_step:Up A4:=fun _ _ _ _ _ hb ⟨h0,h1,h2,h3,h4,h5,h6,h7⟩=>
 ⟨up_int _ _ _ _ _ hb h0,up_int _ _ _ _ _ hb h1,up_int _ _ _ _ _ hb h2,up_int _ _ _ _ _ hb h3,up_int _ _ _ _ _ hb h4,up_int _ _ _ _ _ hb h5,up_int _ _ _ _ _ hb h6,up_int _ _ _ _ _ hb h7⟩
abbrev dh:=eO 8 A4
abbrev bX(m:Mac) (vf vy vt vo:Value):Array Value:=#[.int .i64 m.n,.int .i64 m.rounds,.int .i64 m.ins,.int .i64 m.outs,vf,vy,vt,vo]
theorem pR(n lo hi:Int) (w:World) :
  Calls Tryz.prog 89 #[.int .i64 n,.int .i64 lo,.int .i64 hi] w fun e w'=>e=.returned (.bool (inB n lo hi))/\w=w':=by
 by_cases h1:lo<=n
 ·go_enter Tryz.func89,Tryz.ntmps89
  go_wp2
  go_ret
  refine⟨aV ?_,rfl⟩;unfold inB;simp[h1]
 ·have hd:decide (lo<=n)=false:=decide_eq_false h1
  have HR:Hid (inB n lo hi=false):=by(have h:inB n lo hi=false:=by(unfold inB;rw[hd];rfl));exact h
  go_enter Tryz.func89,Tryz.ntmps89
  go_wp2
  go_ret
  exact⟨aV HR.out.symm,rfl⟩
theorem Qc(n lo hi:Int) (B C:Nat) (W:World) (h1:W.cell? ⟨B,0,none⟩=some (.int .i64 lo)) (h2:W.cell? ⟨C,0,none⟩=some (.int .i64 hi)) :
  Calls Tryz.prog 143 #[.int .i64 n,.pointer (some ⟨B,0,none⟩),.pointer (some ⟨C,0,none⟩)] W fun e W'=>e=.returned (.bool (!inB n lo hi))/\Below W.heap.size W W':=by
 go_enter Tryz.func143,Tryz.ntmps143
 go_wp2_with fail
 refine(pR _ _ _ _).mono ?_;rintro e w1 ⟨rfl,rfl⟩
 go_wp2_with fail
 go_ret
 exact⟨rfl,Below.refl _ _⟩
theorem rh(v:Value) (l:List Int) (lo hi:Int) (w:World) (hv:aU w v l) :
  Calls Tryz.prog 110 #[v,.int .i64 lo,.int .i64 hi] w fun e w'=>e=.returned (.bool (allB l lo hi))/\Below w.heap.size w w':=by
 have aH:Below w.heap.size w ((w.alloc (.cells #[.int .i64 lo] 3)).alloc (.cells #[.int .i64 hi] 3)):=by go_grown
 have mo:=kC 143 #[.pointer (some ⟨w.heap.size,0,none⟩),.pointer (some ⟨w.heap.size+1,0,none⟩)] (enters_of Tryz.func143 (by kernel_rfl) rfl) v l (fun i=>!inB (l.getD i 0) lo hi)
  ((w.alloc (.cells #[.int .i64 lo] 3)).alloc (.cells #[.int .i64 hi] 3)) (hv.up up_int aH) (fun i qG W hW=>by
   rw[aA 0 qG]
   refine Qc _ _ _ _ _ _ (ay hW (by rw[ae (aq _ (ar w _))];rfl)) (ay hW (by rw[ae (by simpa using ar (w.alloc (.cells #[.int .i64 lo] 3)) (.cells #[.int .i64 hi] 3))];rfl)))
 have HV:Hid (allB l lo hi=!anyLt l.length fun i=>!inB (l.getD i 0) lo hi):=by exact rfl
 generalize (anyLt l.length fun i=>!inB (l.getD i 0) lo hi)=r at mo HV;have HC:=aa mo;clear mo;obtain⟨pa,ca,rfl,la1,la2,_⟩:=hv.at;clear hv
 go_enter Tryz.func110,Tryz.ntmps110
 go_wp2_with fail
 refine HC.out.mono ?_;rintro e w1 ⟨rfl,aG⟩
 go_wp2_with fail
 go_ret
 exact⟨aV HV.out.symm,aj aH aG⟩
theorem fc{n k:Nat} {p:Nat->Bool} (hk:k<n) (h:p k=true):anyLt n p=true:=dP n k p hk h
theorem gw{n:Nat} {p:Nat->Bool} (h:∀ j,j<n->p j=false):anyLt n p=false:=eG n p h
theorem Ld(m:Mac) (vf vy vt vo:Value) (w:World) (hr:0<=m.rounds/\m.rounds<=100) (hf:bF w vf m.first) (hy:eZ w vy m.syms) (ho:fj w vo m.out) :
  Calls Tryz.prog 90 #[.agg (bX m vf vy vt vo)] w fun e w'=>e=.returned (.bool (dX m))/\Below w.heap.size w w':=by
 obtain⟨pf,cf,rfl,lf1,lf2,ef⟩:=hf.at;obtain⟨py,cy,rfl,ly1,ly2,ey⟩:=hy.at;obtain⟨po,co,rfl,lo1,lo2,eo⟩:=ho.at;clear hf hy ho;have EF:=aa ef;clear ef;have EY:=aa ey;clear ey;have EO:=aa eo;clear eo;obtain⟨vY,rO⟩:=hr;by_cases h1:(m.first.length:Int)=m.n
 case neg=>
  have d1:((m.first.length:Int) != m.n)=true:=by simpa using h1
  have HD:Hid (dX m=false):=by(have h:dX m=false:=by(unfold dX;rw[if_pos (Or.inl h1)]));exact h
  go_enter Tryz.func90,Tryz.ntmps90
  go_wp2
  go_ret
  exact⟨aV HD.out.symm,by go_grown⟩
 have d1:((m.first.length:Int) != m.n)=false:=by simpa using h1
 by_cases h2:(m.out.length:Int)=m.rounds+1
 case neg=>
  have d2:((m.out.length:Int) != m.rounds+1)=true:=by simpa using h2
  have HD:Hid (dX m=false):=by(have h:dX m=false:=by(unfold dX;rw[if_pos (Or.inr (Or.inl h2))]));exact h
  clear h1 h2
  go_enter Tryz.func90,Tryz.ntmps90
  go_wp2
  go_ret
  exact⟨aV HD.out.symm,by go_grown⟩
 have d2:((m.out.length:Int) != m.rounds+1)=false:=by simpa using h2
 by_cases h3:(m.syms.length:Int)=m.rounds
 case neg=>
  have d3:((m.syms.length:Int) != m.rounds)=true:=by simpa using h3
  have HD:Hid (dX m=false):=by(have h:dX m=false:=by(unfold dX;rw[if_pos (Or.inr (Or.inr h3))]));exact h
  clear h1 h2 h3
  go_enter Tryz.func90,Tryz.ntmps90
  go_wp2
  go_ret
  exact⟨aV HD.out.symm,by go_grown⟩
 have d3:((m.syms.length:Int) != m.rounds)=false:=by simpa using h3
 have HD:Hid (dX m=if anyLt m.first.length (fun i=>decide (((m.first.getD i []).length:Int)≠m.ins)) then false
   else if anyLt m.out.length (fun i=>decide (((m.out.getD i []).length:Int)≠m.n)) then false else !anyLt m.syms.length (kM m)):=by
  have h:dX m=if anyLt m.first.length (fun i=>decide (((m.first.getD i []).length:Int)≠m.ins)) then false
   else if anyLt m.out.length (fun i=>decide (((m.out.getD i []).length:Int)≠m.n)) then false else !anyLt m.syms.length (kM m):=by
   unfold dX;rw[if_neg (by omega)]
  exact h
 have K4:Hid (m.out.length=m.syms.length+1):=by(have h:m.out.length=m.syms.length+1:=by omega);exact h
 clear h1 h2 h3
 go_enter Tryz.func90,Tryz.ntmps90
 go_wp2
 refine bw (fun W=>Below w.heap.size w W/\W.heap[w.heap.size]?=some (.cells (bX m (.slice pf m.first.length cf) (.slice py m.syms.length cy) vt (.slice po m.out.length co)) 35)) ⟨by go_grown,ar _ _⟩ (fun W0 bd=>?_);obtain⟨aH,bD⟩:=bd;have t1:=ae bD;clear bD
 go_loop [40] (fun i=>∃ k:Nat,k<=m.first.length/\i=.int .i64 k/\∀ j,j<k->decide (((m.first.getD j []).length:Int)≠m.ins)=false) (fun i=>m.first.length - (intOf i).toNat)
 case atStart=>exact⟨0,by omega,rfl,by simp⟩
 case round=>
  obtain⟨k,hk,rfl,aO⟩:=hrel;have H:=aa aO;clear aO;by_cases aF:k<m.first.length
  ·obtain⟨b1,o1,rfl,x,cx,hx⟩:=EF.out k aF
   rw[Nat.mul_one]at cx;have c1:=ay aH cx;obtain⟨px,qx,rfl,lx1,lx2,_⟩:=hx.at;clear hx cx;have HG:=aa (aA [] aF);generalize m.first[k]=l at c1 lx1 lx2 HG;by_cases hq:(l.length:Int)=m.ins
   ·have dq:((l.length:Int) != m.ins)=false:=by simpa using hq
    have HQ:=aa hq;clear hq
    go_wp2
    go_round
    case rel=>exact⟨k+1,by omega,by go_num,aQ H.out (by rw[HG.out];simpa using HQ.out)⟩
    case measure=>simp[intOf];omega
   ·have dq:((l.length:Int) != m.ins)=true:=by simpa using hq
    have HQ:=aa hq;clear hq
    go_wp2
    go_ret
    exact⟨aV (by rw[HD.out,if_pos (fc aF (by rw[HG.out];simpa using HQ.out))]),aH⟩
  ·obtain rfl:k=m.first.length:=by omega
   have HN:=aa (gw H.out)
   go_wp2
   go_loop [53] (fun i=>∃ k:Nat,k<=m.out.length/\i=.int .i64 k/\∀ j,j<k->decide (((m.out.getD j []).length:Int)≠m.n)=false) (fun i=>m.out.length - (intOf i).toNat)
   case atStart=>exact⟨0,by omega,rfl,by simp⟩
   case round=>
    clear hk aF H;obtain⟨k,hk,rfl,aO⟩:=hrel;have H:=aa aO;clear aO;by_cases aF:k<m.out.length
    ·obtain⟨b1,o1,rfl,x,cx,hx⟩:=EO.out k aF
     rw[Nat.mul_one]at cx;have c1:=ay aH cx;obtain⟨px,qx,rfl,lx1,lx2,_⟩:=hx.at;clear hx cx;have HG:=aa (aA [] aF);generalize m.out[k]=l at c1 lx1 lx2 HG;by_cases hq:(l.length:Int)=m.n
     ·have dq:((l.length:Int) != m.n)=false:=by simpa using hq
      have HQ:=aa hq;clear hq
      go_wp2
      go_round
      case rel=>exact⟨k+1,by omega,by go_num,aQ H.out (by rw[HG.out];simpa using HQ.out)⟩
      case measure=>simp[intOf];omega
     ·have dq:((l.length:Int) != m.n)=true:=by simpa using hq
      have HQ:=aa hq;clear hq
      go_wp2
      go_ret
      exact⟨aV (by rw[HD.out,HN.out,if_neg (by simp),if_pos (fc aF (by rw[HG.out];simpa using HQ.out))]),aH⟩
    ·obtain rfl:k=m.out.length:=by omega
     have HM:=aa (gw H.out);have HO:=aa H.out;have ky:Hid (dX m=!anyLt m.syms.length (kM m)):=by(have h:dX m=!anyLt m.syms.length (kM m):=by(rw[HD.out,HN.out,HM.out];simp));exact h
     clear hk aF H HM HN HD
     go_wp2
     go_loop [66] (fun i=>∃ k:Nat,k<=m.syms.length/\i=.int .i64 k/\∀ j,j<k->kM m j=false) (fun i=>m.syms.length - (intOf i).toNat)
     case atStart=>exact⟨0,by omega,rfl,by simp⟩
     case round=>
      obtain⟨k,hk,rfl,aO⟩:=hrel;have H:=aa aO;clear aO;by_cases aF:k<m.syms.length
      ·obtain⟨b1,o1,rfl,x,cx,hx⟩:=EY.out k aF
       rw[Nat.mul_one]at cx;have c1:=ay aH cx;obtain⟨px,qx,rfl,lx1,lx2,ex⟩:=hx.at;clear hx cx;have kW:k<m.out.length:=by have:=K4.out;omega
       obtain⟨b2,o2,rfl,y,cy',hy⟩:=EO.out k kW;rw[Nat.mul_one]at cy';have c2:=ay aH cy';obtain⟨pz,qz,rfl,lz1,lz2,ez⟩:=hy.at;clear hy cy'
       have zQ:Hid (kM m k=(decide ((m.syms[k].length:Int)≠m.n) || anyLt m.syms[k].length (pp m.n m.out[k] m.syms[k]))):=by
        (have h:kM m k=(decide ((m.syms[k].length:Int)≠m.n) || anyLt m.syms[k].length (pp m.n m.out[k] m.syms[k])):=by(unfold kM;rw[aA [] aF,aA [] kW]));exact h
       have HOL:Hid ((m.out[k].length:Int)=m.n):=by(have h:(m.out[k].length:Int)=m.n:=by(have:=HO.out k kW;rw[aA [] kW]at this;simpa using this));exact h
       have EX:=aa ex;clear ex;have EZ:=aa ez;clear ez;have PG:(k:Int)<(m.out.length:Int):=by omega
       generalize m.syms[k]=l at c1 lx1 lx2 zQ EX;generalize m.out[k]=o at c2 lz1 lz2 zQ EZ HOL;by_cases hq:(l.length:Int)=m.n
       ·have dq:((l.length:Int) != m.n)=false:=by simpa using hq
        have hlo':l.length=o.length:=by have:=HOL.out;omega
        have HQ:=aa hq;clear hq
        go_wp2
        go_loop [78] (fun i=>∃ p:Nat,p<=l.length/\i=.int .i64 p/\∀ j,j<p->pp m.n o l j=false) (fun i=>l.length - (intOf i).toNat)
        case atStart=>exact⟨0,by omega,rfl,by simp⟩
        case round=>
         obtain⟨p,hp,rfl,aO⟩:=hrel;have H2:=aa aO;clear aO;by_cases kA:p<l.length
         ·obtain⟨b3,o3,rfl,x,cx,hx⟩:=EX.out p kA
          rw[Nat.mul_one]at cx;have c3:=ay aH cx;obtain⟨pu,qu,rfl,lu1,lu2,eu⟩:=hx.at;clear hx cx;have Jq:p<o.length:=by omega
          obtain⟨b4,o4,rfl,y,cy',hy⟩:=EZ.out p Jq;rw[Nat.mul_one]at cy';have c4:=ay aH cy';obtain⟨pv,qv,rfl,lv1,lv2,_⟩:=hy.at;clear hy cy';have oK:Hid (pp m.n o l p=(decide ((l[p].length:Int)≠m.n) || Dp o p l[p])):=by(have h:pp m.n o l p=(decide ((l[p].length:Int)≠m.n) || Dp o p l[p]):=by(unfold pp;rw[aA [] kA]));exact h
          have FZ:Hid (Dp o p l[p]=anyLt l[p].length fun q=>decide ((l[p].getD q []).length≠if p=q then 0 else o[p].length)):=by(have h:Dp o p l[p]=anyLt l[p].length fun q=>decide ((l[p].getD q []).length≠if p=q then 0 else o[p].length):=by(unfold Dp;rw[aA [] Jq]));exact h
          have EU:=aa eu;clear eu;have hpo':(p:Int)<(o.length:Int):=by omega
          generalize l[p]=u at c3 lu1 lu2 oK FZ EU;generalize o[p]=z at c4 lv1 lv2 FZ;by_cases nG:(u.length:Int)=m.n
          ·have dq2:((u.length:Int) != m.n)=false:=by simpa using nG
           have Wn:=aa nG;clear nG
           go_wp2
           go_loop [90] (fun i=>∃ q:Nat,q<=u.length/\i=.int .i64 q/\∀ j,j<q->decide ((u.getD j []).length≠if p=j then 0 else z.length)=false) (fun i=>u.length - (intOf i).toNat)
           case atStart=>exact⟨0,by omega,rfl,by simp⟩
           case round=>
            obtain⟨q,hq,rfl,aO⟩:=hrel;have H3:=aa aO;clear aO;by_cases ot:q<u.length
            ·obtain⟨b5,o5,rfl,x,cx,hx⟩:=EU.out q ot
             rw[Nat.mul_one]at cx;have c5:=ay aH cx;obtain⟨ps,qs,rfl,ls1,ls2,_⟩:=hx.at;clear hx cx;have HG:=aa (aA [] ot);generalize u[q]=s at c5 ls1 ls2 HG;by_cases jQ:p=q
             ·subst jQ
              by_cases hz:s.length=0
              ·have dz:((s.length:Int) != 0)=false:=by simpa using hz
               have HZ:=aa hz;clear hz
               go_wp2
               go_round
               case rel=>exact⟨p+1,by omega,by go_num,aQ H3.out (by rw[HG.out];simpa using HZ.out)⟩
               case measure=>simp[intOf];omega
              ·have dz:((s.length:Int) != 0)=true:=by simpa using hz
               have HZ:=aa hz;clear hz
               go_wp2
               go_ret
               exact⟨aV (by rw[ky.out,fc aF (by rw[zQ.out,fc kA (by rw[oK.out,FZ.out,fc ot (by rw[HG.out];simpa using HZ.out)];simp)];simp)];rfl),aH⟩
             ·have dpq:((p:Int) == (q:Int))=false:=by simp;omega
              by_cases hz:s.length=z.length
              ·have dz:((s.length:Int) != (z.length:Int))=false:=by simp;omega
               have HZ:=aa hz;clear hz
               go_wp2
               go_round
               case rel=>exact⟨q+1,by omega,by go_num,aQ H3.out (by rw[HG.out,if_neg jQ];simpa using HZ.out)⟩
               case measure=>simp[intOf];omega
              ·have dz:((s.length:Int) != (z.length:Int))=true:=by simp;omega
               have HZ:=aa hz;clear hz
               go_wp2
               go_ret
               exact⟨aV (by rw[ky.out,fc aF (by rw[zQ.out,fc kA (by rw[oK.out,FZ.out,fc ot (by rw[HG.out,if_neg jQ];simpa using HZ.out)];simp)];simp)];rfl),aH⟩
            ·obtain rfl:q=u.length:=by omega
             go_wp2
             go_round
             case rel=>exact⟨p+1,by omega,by go_num,aQ H2.out (by rw[oK.out,FZ.out,gw H3.out];simpa using Wn.out)⟩
             case measure=>simp[intOf];omega
          ·have dq2:((u.length:Int) != m.n)=true:=by simpa using nG
           have Wn:=aa nG;clear nG
           go_wp2
           go_ret
           exact⟨aV (by rw[ky.out,fc aF (by rw[zQ.out,fc kA (by rw[oK.out];simp;exact Or.inl Wn.out)];simp)];rfl),aH⟩
         ·obtain rfl:p=l.length:=by omega
          go_wp2
          go_round
          case rel=>exact⟨k+1,by omega,by go_num,aQ H.out (by rw[zQ.out,gw H2.out];simpa using HQ.out)⟩
          case measure=>simp[intOf];omega
       ·have dq:((l.length:Int) != m.n)=true:=by simpa using hq
        have HQ:=aa hq;clear hq
        go_wp2
        go_ret
        exact⟨aV (by rw[ky.out,fc aF (by rw[zQ.out];simp;exact Or.inl HQ.out)];rfl),aH⟩
      ·obtain rfl:k=m.syms.length:=by omega
       go_wp2
       go_ret
       exact⟨aV (by rw[ky.out,gw H.out];rfl),aH⟩
def Am(l:List (List Int)):Nat:=(l.map List.length).sum
theorem M4(l:List (List Int)) (i:Nat) (hi:i<l.length):Am (l.take (i+1))=Am (l.take i)+l[i].length:=by
 unfold Am;rw[List.take_succ_eq_append_getElem hi,List.map_append,List.sum_append,List.map_cons,List.map_nil,List.sum_cons,List.sum_nil,Nat.add_zero]
def Dq(l:List (List (List Int))):Nat:=(l.map Am).sum
theorem M5(l:List (List (List Int))) (i:Nat) (hi:i<l.length):Dq (l.take (i+1))=Dq (l.take i)+Am l[i]:=by
 unfold Dq;rw[List.take_succ_eq_append_getElem hi,List.map_append,List.sum_append,List.map_cons,List.map_nil,List.sum_cons,List.sum_nil,Nat.add_zero]
theorem Le(m:Mac):lU m=Dq m.out:=rfl
theorem Lf(m:Mac) (vf vy vt vo:Value) (w:World) (h1:m.out.length<=7) (h2:∀ k (hk:k<m.out.length),m.out[k].length<=5) (ho:fj w vo m.out) :
  Calls Tryz.prog 91 #[.agg (bX m vf vy vt vo)] w fun e w'=>e=.returned (.int .i64 (lU m))/\Below w.heap.size w w':=by
 obtain⟨po,co,rfl,lo1,lo2,eo⟩:=ho.at;clear ho;have EO:=aa eo;clear eo;have H2:=aa h2;clear h2;have HS:=aa (Le m)
 go_enter Tryz.func91,Tryz.ntmps91
 go_wp2
 refine bw (fun W=>Below w.heap.size w W/\W.heap[w.heap.size]?=some (.cells (bX m vf vy vt (.slice po m.out.length co)) 35)) ⟨by go_grown,ar _ _⟩ (fun W0 bd=>?_);obtain⟨aH,bD⟩:=bd;have t1:=ae bD;clear bD
 go_loop [3,11] (fun s i=>∃ k n:Nat,k<=m.out.length/\i=.int .i64 k/\s=.int .i64 n/\n<=k * 87960930222080/\n=Dq (m.out.take k)) (fun _ i=>m.out.length - (intOf i).toNat)
 case atStart=>exact⟨0,0,by omega,rfl,rfl,by omega,by simp[Dq]⟩
 case round=>
  obtain⟨k,n,hk,rfl,rfl,hn,hs⟩:=hrel;have HN:=aa hs;clear hs;by_cases aF:k<m.out.length
  ·obtain⟨b1,o1,rfl,x,cx,hx⟩:=EO.out k aF
   rw[Nat.mul_one]at cx;have c1:=ay aH cx;obtain⟨px,qx,rfl,lx1,lx2,ex⟩:=hx.at;clear hx cx;have hl5:=H2.out k aF;have HK:=aa (M5 m.out k aF);have EX:=aa ex;clear ex;generalize m.out[k]=l at c1 lx1 lx2 EX hl5 HK
   go_wp2
   go_loop [3,17] (fun s i=>∃ q c:Nat,q<=l.length/\i=.int .i64 q/\s=.int .i64 c/\c<=k * 87960930222080+q * 17592186044416/\c=n+Am (l.take q)) (fun _ i=>l.length - (intOf i).toNat)
   case atStart=>exact⟨0,n,by omega,rfl,rfl,(by rw[Nat.zero_mul,Nat.add_zero];exact hn),by simp[Am]⟩
   case round=>
    obtain⟨q,c,hq,rfl,rfl,hc,hs⟩:=hrel;have HC:=aa hs;clear hs;by_cases ot:q<l.length
    ·obtain⟨b2,o2,rfl,y,cy,hy⟩:=EX.out q ot
     rw[Nat.mul_one]at cy;have c2:=ay aH cy;obtain⟨py,qy,rfl,ly1,ly2,_⟩:=hy.at;clear hy cy;have HL:=aa (M4 l q ot);generalize l[q]=u at c2 ly1 ly2 HL
     go_wp2
     go_round
     case rel=>exact⟨q+1,c+u.length,by omega,by go_num,by go_num,by omega,by rw[HL.out,HC.out];omega⟩
     case measure=>simp[intOf];omega
    ·obtain rfl:q=l.length:=by omega
     go_wp2
     go_round
     case rel=>exact⟨k+1,c,by omega,by go_num,rfl,by omega,by rw[HK.out,HC.out,HN.out,List.take_length]⟩
     case measure=>simp[intOf];omega
  ·obtain rfl:k=m.out.length:=by omega
   go_wp2
   go_ret
   exact⟨aC (by rw[HS.out,HN.out,List.take_length]),aH⟩
theorem JC(x:Value) (l:List Int) (m:Mac) (vf vy vt vo:Value) (B:Nat) (W:World) (ho:1<=m.outs/\m.outs<=8) (hx:aU W x l) (hB:W.heap[B]?=some (.cells (bX m vf vy vt vo) 35)) :
  Calls Tryz.prog 129 #[x,.pointer (some ⟨B,0,none⟩)] W fun e W'=>e=.returned (.bool (!allB l (-1) (m.outs - 1)))/\Below W.heap.size W W':=by
 have HC:=aa (rh x l (-1) (m.outs - 1) W hx);obtain⟨_,_,rfl,_⟩:=hx;have t1:=ae hB;obtain⟨ho1,Fu⟩:=ho;have aF:=aB hB;clear hB
 go_enter Tryz.func129,Tryz.ntmps129
 go_wp2_with fail
 refine HC.out.mono ?_;rintro e w1 ⟨rfl,aG⟩
 go_wp2_with fail
 go_ret
 exact⟨rfl,aG⟩
theorem JD(x:Value) (l:List Int) (W:World) (hx:aU W x l) :
  Calls Tryz.prog 130 #[x] W fun e W'=>e=.returned (.bool (!allB l 0 1048576))/\Below W.heap.size W W':=by
 have HC:=aa (rh x l 0 1048576 W hx);obtain⟨_,_,rfl,_⟩:=hx
 go_enter Tryz.func130,Tryz.ntmps130
 go_wp2_with fail
 refine HC.out.mono ?_;rintro e w1 ⟨rfl,aG⟩
 go_wp2_with fail
 go_ret
 exact⟨rfl,aG⟩
def wL(m:Mac) (k:Nat):Bool:=anyLt (m.out.getD k []).length fun p=>!allB ((m.out.getD k []).getD p []) (-1) (m.outs - 1)
def oS(l:List (List (List Int))) (p:Nat):Bool:=anyLt (l.getD p []).length fun q=>!allB ((l.getD p []).getD q []) 0 1048576
def rm(m:Mac) (k:Nat):Bool:=anyLt (m.syms.getD k []).length (oS (m.syms.getD k []))
def rn(m:Mac) (p:Nat):Bool:=!allB (m.first.getD p []) (-1) ((((m.out.getD 0 []).getD p []).length:Int) - 1)
theorem Lg(m:Mac):gR m=if anyLt m.first.length (rn m) then false else if anyLt m.out.length (wL m) then false else !anyLt m.syms.length (rm m):=rfl
theorem Lh(m:Mac) (vf vy vt vo:Value) (w:World) (h1:0<m.out.length) (h2:m.first.length<=(m.out.getD 0 []).length) (h3:1<=m.outs/\m.outs<=8) (hf:bF w vf m.first) (hy:eZ w vy m.syms) (ho:fj w vo m.out) :
  Calls Tryz.prog 92 #[.agg (bX m vf vy vt vo)] w fun e w'=>e=.returned (.bool (gR m))/\Below w.heap.size w w':=by
 obtain⟨pf,cf,rfl,lf1,lf2,ef⟩:=hf.at;obtain⟨py,cy,rfl,ly1,ly2,ey⟩:=hy.at;obtain⟨po,co,rfl,lo1,lo2,eo⟩:=ho.at;clear hf hy ho;have EF:=aa ef;clear ef;have EY:=aa ey;clear ey;have EO:=aa eo;clear eo;have HD:=aa (Lg m);have H3:=aa h3;clear h3;have e1:=enters_of Tryz.func129 (by kernel_rfl) rfl;have e2:=enters_of Tryz.func130 (by kernel_rfl) rfl
 go_enter Tryz.func92,Tryz.ntmps92
 go_wp2
 refine bw (fun W=>Below w.heap.size w W/\W.heap[w.heap.size]?=some (.cells (bX m (.slice pf m.first.length cf) (.slice py m.syms.length cy) vt (.slice po m.out.length co)) 35)) ⟨by go_grown,ar _ _⟩ (fun W0 bd=>?_);obtain⟨aH,bD⟩:=bd;have HA:=aa bD;clear bD
 go_loopw [14] (fun i wr=>Below W0.heap.size W0 wr/\∃ k:Nat,k<=m.first.length/\i=.int .i64 k/\∀ j,j<k->rn m j=false) (fun i _=>m.first.length - (intOf i).toNat)
 case atStart=>exact⟨Below.refl _ _,0,by omega,rfl,by simp⟩
 case round=>
  obtain⟨dW,k,hk,rfl,aO⟩:=hrel;have H:=aa aO;clear aO;have aJ:=aj aH dW;have t1:=ae (ak dW HA.out);by_cases aF:k<m.first.length
  ·obtain⟨b1,o1,rfl,x,cx,hx⟩:=EF.out k aF
   rw[Nat.mul_one]at cx;have c1:=ay aJ cx;have rS:=hx.up up_int aJ;clear cx;obtain⟨b2,o2,rfl,y,cy',hy⟩:=EO.out 0 h1;rw[Nat.zero_mul,Nat.add_zero]at cy';have c2:=ay aJ cy';obtain⟨pz,qz,rfl,lz1,lz2,ez⟩:=hy.at;clear hy cy';have VM:k<m.out[0].length:=by rw[aA [] h1]at h2;omega
   obtain⟨b3,o3,rfl,z,cz,hz⟩:=ez k VM;rw[Nat.mul_one]at cz;have c3:=ay aJ cz;obtain⟨pu,qu,rfl,lu1,lu2,_⟩:=hz.at;clear hz cz ez;have HB:Hid (rn m k=!allB m.first[k] (-1) ((m.out[0][k].length:Int) - 1)):=by(have h:rn m k=!allB m.first[k] (-1) ((m.out[0][k].length:Int) - 1):=by(unfold rn;rw[aA [] aF,aA [] h1,aA [] VM]));exact h
   have HC:=aa (rh x m.first[k] (-1) ((m.out[0][k].length:Int) - 1) wr rS);obtain⟨px,qx,rfl,lx1,lx2,_⟩:=rS.at;clear hx rS;generalize m.out[0][k]=u at c3 lu1 lu2 HB HC;have hko':(k:Int)<(m.out[0].length:Int):=by omega
   generalize m.out[0]=o at c2 lz1 lz2 VM hko';generalize m.first[k]=l at c1 lx1 lx2 HB HC;generalize allB l (-1) ((u.length:Int) - 1)=r at HB HC;have h0o:(0:Int)<(m.out.length:Int):=by omega
   cases r with
   | true=>
    go_wp2_with fail
    refine HC.out.mono ?_;rintro e w1 ⟨rfl,aG⟩
    go_wp2_with fail
    go_roundw
    case rel=>exact⟨aj dW aG,k+1,by omega,by go_num,aQ H.out HB.out⟩
    case measure=>simp[intOf];omega
   | false=>
    go_wp2_with fail
    refine HC.out.mono ?_;rintro e w1 ⟨rfl,aG⟩
    go_wp2_with fail
    go_ret
    exact⟨aV (by rw[HD.out,if_pos (fc aF HB.out)]),aj aJ aG⟩
  ·obtain rfl:k=m.first.length:=by omega
   have HN:=aa (gw H.out)
   go_wp2
   clear t1 aJ H hk aF
   go_loopw [35] (fun i ws=>Below W0.heap.size W0 ws/\∃ k:Nat,k<=m.out.length/\i=.int .i64 k/\∀ j,j<k->wL m j=false) (fun i _=>m.out.length - (intOf i).toNat)
   case atStart=>exact⟨dW,0,by omega,rfl,by simp⟩
   case round=>
    clear dW
    rename World=>ws
    obtain⟨dW,k,hk,rfl,aO⟩:=hrel;have H:=aa aO;clear aO;have aJ:=aj aH dW;have fk:=ak dW HA.out;have t1:=ae fk;by_cases aF:k<m.out.length
    ·obtain⟨b1,o1,rfl,x,cx,hx⟩:=EO.out k aF
     rw[Nat.mul_one]at cx;have c1:=ay aJ cx;have rS:=hx.up up_ints aJ;clear cx;have HB:Hid (wL m k=anyLt m.out[k].length fun p=>!allB (m.out[k].getD p []) (-1) (m.outs - 1)):=by(have h:wL m k=anyLt m.out[k].length fun p=>!allB (m.out[k].getD p []) (-1) (m.outs - 1):=by(unfold wL;rw[aA [] aF]));exact h
     have HC:=aa (gv 129 #[.pointer (some ⟨w.heap.size,0,none⟩)] e1 x m.out[k] (fun p=>!allB (m.out[k].getD p []) (-1) (m.outs - 1)) ws rS (fun i hi y hy W hW=>by
      rw[aA [] hi]
      exact JC y m.out[k][i] m _ _ _ _ _ W H3.out (hy.up up_int hW) (ak hW fk)))
     obtain⟨px,qx,rfl,lx1,lx2,_⟩:=rS.at;clear hx rS;generalize m.out[k]=l at c1 lx1 lx2 HB HC;generalize (anyLt l.length fun p=>!allB (l.getD p []) (-1) (m.outs - 1))=r at HB HC;cases r with
     | false=>
      go_wp2_with fail
      refine HC.out.mono ?_;rintro e w1 ⟨rfl,aG⟩
      go_wp2_with fail
      go_roundw
      case rel=>exact⟨aj dW aG,k+1,by omega,by go_num,aQ H.out HB.out⟩
      case measure=>simp[intOf];omega
     | true=>
      go_wp2_with fail
      refine HC.out.mono ?_;rintro e w1 ⟨rfl,aG⟩
      go_wp2_with fail
      go_ret
      exact⟨aV (by rw[HD.out,HN.out,if_neg (by simp),if_pos (fc aF HB.out)]),aj aJ aG⟩
    ·obtain rfl:k=m.out.length:=by omega
     have ky:Hid (gR m=!anyLt m.syms.length (rm m)):=by(have h:gR m=!anyLt m.syms.length (rm m):=by(rw[HD.out,HN.out,gw H.out];simp));exact h
     go_wp2
     clear t1 aJ H hk aF HN HD fk
     go_loopw [46] (fun i wt=>Below W0.heap.size W0 wt/\∃ k:Nat,k<=m.syms.length/\i=.int .i64 k/\∀ j,j<k->rm m j=false) (fun i _=>m.syms.length - (intOf i).toNat)
     case atStart=>exact⟨dW,0,by omega,rfl,by simp⟩
     case round=>
      clear dW
      rename World=>wt
      obtain⟨dW,k,hk,rfl,aO⟩:=hrel;have H:=aa aO;clear aO;have aJ:=aj aH dW;by_cases aF:k<m.syms.length
      ·obtain⟨b1,o1,rfl,x,cx,hx⟩:=EY.out k aF
       rw[Nat.mul_one]at cx;have c1:=ay aJ cx;obtain⟨px,qx,rfl,lx1,lx2,ex⟩:=hx.at;have EX:=aa ex;clear hx cx ex;have HB:Hid (rm m k=anyLt m.syms[k].length (oS m.syms[k])):=by(have h:rm m k=anyLt m.syms[k].length (oS m.syms[k]):=by(unfold rm;rw[aA [] aF]));exact h
       generalize m.syms[k]=l at c1 lx1 lx2 HB EX
       go_wp2
       clear c1
       go_loopw [52] (fun i wu=>Below W0.heap.size W0 wu/\∃ p:Nat,p<=l.length/\i=.int .i64 p/\∀ j,j<p->oS l j=false) (fun i _=>l.length - (intOf i).toNat)
       case atStart=>exact⟨dW,0,by omega,rfl,by simp⟩
       case round=>
        clear dW aJ
        rename World=>wu
        obtain⟨dW,p,hp,rfl,aO⟩:=hrel;have H2:=aa aO;clear aO;have aJ:=aj aH dW;by_cases kA:p<l.length
        ·obtain⟨b2,o2,rfl,x,cx,hx⟩:=EX.out p kA
         rw[Nat.mul_one]at cx;have c1:=ay aJ cx;have rS:=hx.up up_ints aJ;clear cx;have HS:Hid (oS l p=anyLt l[p].length fun q=>!allB (l[p].getD q []) 0 1048576):=by(have h:oS l p=anyLt l[p].length fun q=>!allB (l[p].getD q []) 0 1048576:=by(unfold oS;rw[aA [] kA]));exact h
         have HC:=aa (gv 130 #[] e2 x l[p] (fun q=>!allB (l[p].getD q []) 0 1048576) wu rS (fun i hi y hy W hW=>by
          rw[aA [] hi]
          exact JD y l[p][i] W (hy.up up_int hW)))
         obtain⟨py,qy,rfl,ly1,ly2,_⟩:=rS.at;clear hx rS;generalize l[p]=u at c1 ly1 ly2 HS HC;generalize (anyLt u.length fun q=>!allB (u.getD q []) 0 1048576)=r at HS HC;cases r with
         | false=>
          go_wp2_with fail
          refine HC.out.mono ?_;rintro e w1 ⟨rfl,aG⟩
          go_wp2_with fail
          go_roundw
          case rel=>exact⟨aj dW aG,p+1,by omega,by go_num,aQ H2.out HS.out⟩
          case measure=>simp[intOf];omega
         | true=>
          go_wp2_with fail
          refine HC.out.mono ?_;rintro e w1 ⟨rfl,aG⟩
          go_wp2_with fail
          go_ret
          exact⟨aV (by rw[ky.out,fc aF (by rw[HB.out];exact fc kA HS.out)];rfl),aj aJ aG⟩
        ·obtain rfl:p=l.length:=by omega
         go_wp2
         go_roundw
         case rel=>exact⟨dW,k+1,by omega,by go_num,aQ H.out (by rw[HB.out];exact gw H2.out)⟩
         case measure=>simp[intOf];omega
      ·obtain rfl:k=m.syms.length:=by omega
       go_wp2
       go_ret
       exact⟨aV (by rw[ky.out,gw H.out];rfl),aJ⟩
end Go.Proofs.YtkfgpnbpcpdclaaGreat
namespace Go.Proofs.YtkfgpnbpcpdclaaGreat
def M6(l:List Int):Int:=aP l.length fun i=>l.getD i 0
def orderI(a b:St):Int:=M6 [cmpI a.rd b.rd,cmpI a.pr b.pr,ordV a.heard b.heard]
def fU(m:Mac) (i:Nat):Int:=
 if stepE m (m.steps.getD i default)≠0 then stepE m (m.steps.getD i default)
 else if 0<i/\0<=orderI (m.steps.getD (i - 1) default) (m.steps.getD i default) then 14 else 0
def A5(m:Mac):Bool:=!inB m.n 1 5 || !inB m.rounds 0 6 || !inB m.ins 1 8 || !inB m.outs 1 8
def checkE(m:Mac):Int:=
 if A5 m then 2 else if !dX m then 15 else if 8192<lU m\/65536<m.steps.length then 5
 else if !gR m then 2 else aP m.steps.length (fU m)
def beforeF(l:List Rd) (i:Nat):Int:=if i=0 then 0 else(l.getD (i - 1) default).f
def ie(n:Int) (l:List Rd) (i:Nat):Int:=
 if roundE (l.getD i default)≠0 then roundE (l.getD i default) else if (l.getD i default).g.n≠n then 22 else if !cL (beforeF l i) (l.getD i default).f then 14 else 0
def wordE(n:Int) (l:List Rd):Int:=if n<1\/5<n then 1 else if 1024<l.length then 5 else aP l.length (ie n l)
structure Pl where
 rd:Int
 pr:Int
 h0:Int
 h1:Int
 h2:Int
 h3:Int
 h4:Int
instance:DecidableEq Pl:=fun a b=>decidable_of_iff (a.rd=b.rd/\a.pr=b.pr/\a.h0=b.h0/\a.h1=b.h1/\a.h2=b.h2/\a.h3=b.h3/\a.h4=b.h4) (by cases a;cases b;simp)
def St.pl(s:St):Pl:=⟨s.rd,s.pr,s.h0,s.h1,s.h2,s.h3,s.h4⟩
def tI(m:Mac) (x:Pl):Option Int:=(m.steps.find? fun s=>decide (x=s.pl)).map (·.to)
def mY(m:Mac) (k q p:Nat) (s:Int):Int:=(((m.syms.getD k []).getD q []).getD p []).getD s.toNat 0
def hearsF(m:Mac) (k p:Nat) (now:List Int) (set:Int) (q:Nat):Int:=
 if q=p then now.getD p 0 else if (q:Int)<m.n/\cS set q=true then mY m k q p (now.getD q 0) else -1
def T4(m:Mac) (k p:Nat) (now:List Int) (set:Int):Pl:=
 ⟨k,p,hearsF m k p now set 0,hearsF m k p now set 1,hearsF m k p now set 2,hearsF m k p now set 3,hearsF m k p now set 4⟩
def kF(m:Mac) (k:Nat) (now:List Int) (r:Rd) (p:Nat):Option Int:=tI m (T4 m k p now (r.g.hear p))
def pq(m:Mac) (k:Nat) (now:List Int) (r:Rd):Option (List Int):=
 if anyLt m.n.toNat (fun p=>(kF m k now r p).isNone) then none else some ((List.range m.n.toNat).map fun p=>(kF m k now r p).getD 0)
def cM(m:Mac) (inputs:List Int):List Int:=(List.range m.n.toNat).map fun p=>(m.first.getD p []).getD (inputs.getD p 0).toNat 0
def fG(m:Mac) (k:Nat) (now:List Int):List Rd->List (List Int)
 | []=>[now]
 | r :: rest=>match pq m k now r with|none=>[now]|some x=>now :: fG m (k+1) x rest
def eC(m:Mac) (inputs:List Int) (word:List Rd):List (List Int):=
 if (cM m inputs).contains (-1) then [] else fG m 0 (cM m inputs) word
theorem lm(m:Mac) (k:Nat) (now:List Int) (word:List Rd):(fG m k now word)[0]?=some now:=by
 cases word with
 | nil=>rfl
 | cons r rest=>unfold fG;split<;>rfl
theorem qS(m:Mac) (k:Nat) (now:List Int) (word:List Rd):(fG m k now word).length<=word.length+1:=by
 induction word generalizing k now with
 | nil=>simp[fG]
 | cons r rest ih=>
  unfold fG;split
  ·simp
  ·rename_i x _
   have:=ih (k+1) x;simp;omega
theorem wM(m:Mac) (k:Nat) (now:List Int) (word:List Rd) (i:Nat) (x:List Int) (hx:(fG m k now word)[i]?=some x) (hi:i<word.length) :
  (∀ y,pq m (k+i) x word[i]=some y->(fG m k now word)[i+1]?=some y)/\(pq m (k+i) x word[i]=none->(fG m k now word).length=i+1):=by
 induction word generalizing k now i with
 | nil=>simp at hi
 | cons r rest ih=>
  cases i with
  | zero=>
   rw[lm]at hx;cases hx;refine⟨fun y hy=>?_,fun hy=>?_⟩
   ·simp only[Nat.add_zero,List.getElem_cons_zero]at hy
    unfold fG;rw[hy];simp only[List.getElem?_cons_succ];exact lm _ _ _ _
   ·simp only[Nat.add_zero,List.getElem_cons_zero]at hy
    unfold fG;rw[hy];rfl
  | succ i=>
   unfold fG at hx ⊢;cases hn:pq m k now r with
   | none=>rw[hn]at hx;simp at hx
   | some z=>
    rw[hn]at hx;simp only[List.getElem?_cons_succ]at hx;have:=ih (k+1) z i hx (by simpa using hi);simp only[List.getElem_cons_succ,List.getElem?_cons_succ,List.length_cons];rw[show k+(i+1)=k+1+i by omega];exact⟨this.1,fun h=>by rw[this.2 h]⟩
def playE(m:Mac) (inputs:List Int) (word:List Rd):Int:=
 if checkE m≠0 then checkE m else if (inputs.length:Int)≠m.n then 15 else if !allB inputs 0 (m.ins - 1) then 2
 else if wordE m.n word≠0 then wordE m.n word else if (word.length:Int)≠m.rounds then 15 else if ((eC m inputs word).length:Int)≠m.rounds+1 then 20 else 0
end Go.Proofs.YtkfgpnbpcpdclaaGreat
namespace Go.Proofs.YtkfgpnbpcpdclaaGreat
open Go.RowKit Go Go.Shelf
def bB(D:Nat->Bool) (i:Nat):Nat->Bool:=fun j=>if j=i then true else D j
theorem wN(D:Nat->Bool) (i:Nat) (hi:D i=false) (l:List Nat):l.countP (fun j=>!bB D i j)+(if i∈l then 1 else 0)<=l.countP (fun j=>!D j):=by
 induction l with
 | nil=>simp
 | cons x t ih=>
  rw[List.countP_cons,List.countP_cons];by_cases hx:x=i
  ·subst hx
   have h1:(!bB D x x)=false:=by simp[bB]
   have h2:(!D x)=true:=by simp[hi]
   rw[h1,h2];simp only[List.mem_cons,true_or,if_true]
   have:t.countP (fun j=>!bB D x j)<=t.countP (fun j=>!D j):=by
    refine Nat.le_trans ?_ ih;omega
   simp;omega
  ·have h1:(!bB D i x)=!D x:=by simp[bB,hx]
   rw[h1]
   have hm:(if i∈x :: t then 1 else 0)=(if i∈t then 1 else 0):=by
    have:i∈x :: t↔i∈t:=by simp[Ne.symm hx]
    simp only[this]
   rw[hm];omega
def uF(ops:Array Oper) (n:Nat):Bool:=
 (List.range (n+1)).all (fun i=>match ops[i]? with|some o=>o.after.all fun e=>decide (e.on<i)|none=>false) &&
 (List.range n).all (fun j=>match ops[n]? with|some o=>o.after.any fun e=>Region.binds .any e&&decide (e.on=j)|none=>false)
theorem A6{ops:Array Oper} {n:Nat} (h:uF ops n=true) {i:Nat} {o:Oper} (hi:i<n+1) (ho:ops[i]?=some o):∀ e∈o.after,e.on<i:=by
 simp only[uF,Bool.and_eq_true,List.all_eq_true]at h;have:=h.1 i (List.mem_range.2 hi);rw[ho]at this;intro e he;have:=Array.all_eq_true'.1 this e he;simpa using this
theorem Li{ops:Array Oper} {n:Nat} (h:uF ops n=true) {o:Oper} (ho:ops[n]?=some o) {j:Nat} (hj:j<n):∃ e∈o.after,Region.binds .any e=true/\e.on=j:=by
 simp only[uF,Bool.and_eq_true,List.all_eq_true]at h;have:=h.2 j (List.mem_range.2 hj);rw[ho]at this;obtain⟨e,he,h2⟩:=Array.any_eq_true'.1 this;simp at h2;exact⟨e,he,h2.1,h2.2⟩
theorem dQ{P:Program} {ops:Array Oper} {Q:Exit->Act->World->Prop} {i:Nat} {K K':Act->World->Prop} {a:Act} {w:World} (h:∀ a w,K a w->K' a w) (hh:wpOp P ops Q i K a w):wpOp P ops Q i K' a w:=by
 unfold wpOp at hh ⊢;split at hh
 ·exact h _ _ hh
 ·split at hh
  ·rename_i hw
   rw[if_pos hw];rcases hh with hh|hh
   ·exact .inl (Oper.wp_mono h hh)
   ·exact .inr hh
  ·rename_i hw
   rw[if_neg hw];exact h _ _ hh
theorem Lj{P:Program} {ops:Array Oper} {Q:Exit->Act->World->Prop} {n:Nat} (hn:ops.size=n+1) (hB:uF ops n=true) (Inv:(Nat->Bool)->Act->World->Prop)
  (dG:∀ D a w i o,i<n->ops[i]?=some o->D i=false->(∀ e∈o.after,Region.binds .any e=true->D e.on=true)->Inv D a w->wpOp P ops Q i (fun a' w'=>Inv (bB D i) a' w') a w)
  (fO:∀ D a w,(∀ j,j<n->D j=true)->Inv D a w->wpOp P ops Q n (fun a' w'=>Q .normal a' w') a w) :
  ∀ (fuel:Nat) (L:Array Bool) (a:Act) (w:World),L.size=n+1->(List.range (n+1)).countP (fun j=>!L.getD j false)<=fuel →
   ((L.getD n true=false/\Inv (fun j=>L.getD j false) a w)\/((∀ j,j<n+1->L.getD j false=true)/\Q .normal a w))->wpAny P .any ops Q fuel L a w:=by
 intro fuel;induction fuel with
 | zero=>
  rintro L a w hL hc (⟨h1,_⟩|⟨h1,h2⟩)
  ·have h3:(List.range (n+1)).countP (fun j=>!L.getD j false)=0:=by omega
   rw[List.countP_eq_zero]at h3;have:=h3 n (List.mem_range.2 (by omega));rw[show L.getD n false=L.getD n true by simp[Array.getD,hL]]at this;rw[h1]at this;simp at this
  ·refine⟨?_,h2⟩
   refine List.eq_nil_iff_forall_not_mem.2 fun j hj=>?_
   obtain⟨mG,o,ho,_⟩:=mem_ready.1 hj;have xF:j<n+1:=by have:=(Array.getElem?_eq_some_iff.1 ho).1;omega
   have:=h1 j xF;rw[show L.getD j false=L.getD j true by simp[Array.getD,hL,xF]]at this;rw[mG]at this;cases this
 | succ fuel ih=>
  rintro L a w hL hc (⟨h1,h2⟩|⟨h1,h2⟩)
  ·have hDn:L.getD n false=false:=by rw[show L.getD n false=L.getD n true by simp[Array.getD,hL]];exact h1
   refine⟨fun hr=>?_,fun i hi=>?_⟩
   ·exfalso
    have key:∀ j,j<n+1->L.getD j false=true:=by
     intro j;induction j using Nat.strongRecOn with
     | ind j ihj=>
      intro hj;cases hv:L.getD j false with
      | true=>rfl
      | false=>
       exfalso;obtain⟨o,ho⟩:∃ o,ops[j]?=some o:=⟨ops[j]'(by omega),Array.getElem?_eq_getElem _⟩
       have:j∈Region.ready .any ops L:=mem_ready.2 ⟨by rw[show L.getD j true=L.getD j false by simp[Array.getD,hL,hj]];exact hv,o,ho,fun e he _=>by
        have:=A6 hB hj ho e he
        exact ihj e.on this (by omega)⟩
       rw[hr]at this;cases this
    have:=key n (by omega);rw[hDn]at this;cases this
   ·obtain⟨uA,o,ho,al⟩:=mem_ready.1 hi
    have cK:i<n+1:=by have:=(Array.getElem?_eq_some_iff.1 ho).1;omega
    have FR:L.getD i false=false:=by rw[show L.getD i false=L.getD i true by simp[Array.getD,hL,cK]];exact uA
    have tg:(fun j=>(L.setIfInBounds i true).getD j false)=bB (fun j=>L.getD j false) i:=by
     funext j
     unfold bB;by_cases mE:j=i
     ·subst mE;simp[Array.getD,hL,cK]
     ·rw[if_neg mE]
      simp only[Array.getD,Array.size_setIfInBounds];split
      ·exact Array.getElem_setIfInBounds_ne _ (Ne.symm mE)
      ·rfl
    have oE:(List.range (n+1)).countP (fun j=>!(L.setIfInBounds i true).getD j false)<=fuel:=by
     have h3:=wN (fun j=>L.getD j false) i FR (List.range (n+1));rw[if_pos (List.mem_range.2 cK)]at h3
     have h4:(fun j=>!(L.setIfInBounds i true).getD j false)=fun j=>!bB (fun j=>L.getD j false) i j:=by
      funext j;rw[<-tg]
     rw[h4];omega
    by_cases aF:i<n
    ·refine dQ (fun a' w' h=>ih (L.setIfInBounds i true) a' w' (by simpa using hL) oE (.inl ⟨?_,by rw[tg];exact h⟩)) (dG (fun j=>L.getD j false) a w i o aF ho FR al h2)
     have h5:=congrFun tg n;unfold bB at h5;rw[if_neg (by omega)]at h5;dsimp only at h5;rw[hDn]at h5;rw[show (L.setIfInBounds i true).getD n true=(L.setIfInBounds i true).getD n false by simp[Array.getD,hL]];exact h5
    ·obtain rfl:i=n:=by omega
     have aM:∀ j,j<i->L.getD j false=true:=fun j hj=>by
      obtain⟨e,he,hb,rfl⟩:=Li hB ho hj;exact al e he hb
     refine dQ (fun a' w' h=>ih (L.setIfInBounds i true) a' w' (by simpa using hL) oE (.inr ⟨fun j hj=>?_,h⟩)) (fO (fun j=>L.getD j false) a w aM h2);have:=congrFun tg j;rw[this];unfold bB;by_cases mE:j=i
     ·simp[mE]
     ·rw[if_neg mE];exact aM j (by omega)
  ·have hr:Region.ready .any ops L=[]:=by
    refine List.eq_nil_iff_forall_not_mem.2 fun j hj=>?_
    obtain⟨mG,o,ho,_⟩:=mem_ready.1 hj;have xF:j<n+1:=by have:=(Array.getElem?_eq_some_iff.1 ho).1;omega
    have:=h1 j xF;rw[show L.getD j false=L.getD j true by simp[Array.getD,hL,xF]]at this;rw[mG]at this;cases this
   exact⟨fun _=>h2,fun i hi=>by rw[hr]at hi;cases hi⟩
theorem Dr{P:Program} {id:Nat} {l:List Oper} {Q:Exit->Act->World->Prop} {a:Act} {w:World} (n:Nat) (hm:P.follows .mixedOrders=true) (hn:l.toArray.size=n+1) (hB:uF l.toArray n=true) (Inv:(Nat->Bool)->Act->World->Prop)
  (h0:Inv (fun _=>false) a w.drew)
  (dG:∀ D a w i o,i<n->l.toArray[i]?=some o->D i=false->(∀ e∈o.after,Region.binds .any e=true->D e.on=true)->Inv D a w->wpOp P l.toArray Q i (fun a' w'=>Inv (bB D i) a' w') a w)
  (fO:∀ D a w,(∀ j,j<n->D j=true)->Inv D a w->wpOp P l.toArray Q n (fun a' w'=>Q .normal a' w') a w):(Code.region id l.toArray true).wp P Q a w:=by
 refine wp_region_any hm ?_;refine Lj hn hB Inv dG fO _ _ _ _ (by rw[Array.size_replicate,hn]) ?_ (.inl ⟨?_,?_⟩)
 ·rw[hn];exact Nat.le_trans List.countP_le_length (by simp)
 ·simp[Array.getD,hn]
 ·have:(fun j=>(Array.replicate l.toArray.size false).getD j false)=fun _=>false:=by
   funext j
   simp only[Array.getD];split<;>simp
  rw[this];exact h0
theorem M7{P:Program} {o:Oper} {a:Act} {K next:Act->World->Prop} {Q:Exit->Act->World->Prop} {r:Result Next} (h:o.upon P a next (Exit.then K Q) r):o.upon P a next Q r:=by
 cases r with
 | ok x w'=>
  cases x with
  | enter f args=>
   refine Calls.mono h ?_;rintro e w'' he;cases e with
   | returned v=>exact he
   | panicked ch=>exact he
   | outgrown=>exact he
  | _=>exact h
 | halt x w'=>cases x<;>exact h
theorem iQ{P:Program} {ops:Array Oper} {Q:Exit->Act->World->Prop} {i:Nat} {o:Oper} {K:Act->World->Prop} {a:Act} {w:World} (ho:ops[i]?=some o)
  (h:wpList P ops (Exit.then K Q) [o] a w):wpOp P ops Q i K a w:=by
 unfold wpOp;rw[ho];unfold wpList at h;dsimp only;split at h
 ·rename_i hw
  rw[if_pos hw];rcases h with h|⟨h1,h2⟩
  ·exact .inl (M7 h)
  ·exact .inr ⟨h1,h2⟩
 ·rename_i hw
  rw[if_neg hw];exact h
def Gp(base n:Nat) (cs:Array Value) (t:TypeId) (x:Value) (w:World):Prop:=∃ b,x=.slice (some ⟨b,0,none⟩) n n/\base<=b/\w.heap[b]?=some (.cells cs t)
theorem Gp.up{base n:Nat} {cs:Array Value} {t:TypeId} {x:Value} {w w':World} (h:Gp base n cs t x w) (hb:Below w.heap.size w w'):Gp base n cs t x w':=by
 obtain⟨b,e,hl,hc⟩:=h;exact⟨b,e,hl,ak hb hc⟩
structure MP where
 p:Value->World->Prop
 up:∀ v W W',p v W->Below W.heap.size W W'->p v W'
def MP.any:MP:=⟨fun _ _=>True,fun _ _ _ _ _=>trivial⟩
def MP.eq(c:Value):MP:=⟨fun v _=>v=c,fun _ _ _ h _=>h⟩
def MP.sl(base n:Nat) (cs:Array Value) (t:TypeId):MP:=⟨fun v W=>Gp base n cs t v W,fun _ _ _ h hb=>h.up hb⟩
def cF(x:Nat->Value) (i:Nat) (v:Value):Nat->Value:=fun j=>if j=i then v else x j
theorem iG(x:Nat->Value) (i:Nat) (v:Value):cF x i v i=v:=by simp[cF]
theorem gS(x:Nat->Value) {i j:Nat} (v:Value) (h:j≠i):cF x i v j=x j:=by simp[cF,h]
def bQ(x:Nat->Value):List Nat->Nat->Array Value->Array Value
 | [],_,T=>T
 | s :: r,j,T=>bQ x r (j+1) (T.setIfInBounds s (x j))
def bg(T:Array Value) (S:List Nat) (x:Nat->Value):Array Value:=bQ x S 0 T
theorem my(x:Nat->Value) (S:List Nat):∀ (j:Nat) (T:Array Value) (k:Nat),k∉S->(bQ x S j T)[k]?=T[k]?:=by
 induction S with
 | nil=>intro j T k _;rfl
 | cons s r ih=>
  intro j T k hk;simp at hk;unfold bQ;rw[ih _ _ _ hk.2,Array.getElem?_setIfInBounds_ne (Ne.symm hk.1)]
theorem iR(x:Nat->Value) (S:List Nat):∀ (j:Nat) (T:Array Value),(bQ x S j T).size=T.size:=by
 induction S with
 | nil=>intro j T;rfl
 | cons s r ih=>intro j T;unfold bQ;rw[ih];simp
theorem nN(x:Nat->Value) (S:List Nat) (hS:S.Nodup):∀ (j:Nat) (T:Array Value) (i s:Nat),S[i]?=some s->s<T.size->(bQ x S j T)[s]?=some (x (j+i)):=by
 induction S with
 | nil=>intro j T i s h;simp at h
 | cons s0 r ih=>
  intro j T i s h hs;rw[List.nodup_cons]at hS;unfold bQ;cases i with
  | zero=>
   simp at h;subst h;rw[my _ _ _ _ _ hS.1,Array.getElem?_setIfInBounds_self_of_lt (by exact hs)];simp
  | succ i=>
   simp at h;rw[ih hS.2 (j+1) _ i s h (by simpa using hs)];congr 2;omega
theorem gZ(T:Array Value) (S:List Nat) (hS:S.Nodup) (x:Nat->Value) (i s:Nat) (v:Value) (hi:S[i]?=some s):bg T S (cF x i v)=(bg T S x).setIfInBounds s v:=by
 unfold bg;apply Array.ext_getElem?;intro k;by_cases qN:k=s
 ·subst qN
  by_cases aF:k<T.size
  ·rw[nN _ _ hS _ _ _ _ hi aF,Array.getElem?_setIfInBounds_self_of_lt (by rw[iR];exact aF)]
   simp[cF]
  ·rw[Array.getElem?_eq_none (by rw[iR];omega),Array.getElem?_eq_none (by rw[Array.size_setIfInBounds,iR];omega)]
 ·rw[Array.getElem?_setIfInBounds_ne (Ne.symm qN)]
  by_cases hm:k∈S
  ·obtain⟨i',qG⟩:=List.mem_iff_getElem?.1 hm
   by_cases aF:k<T.size
   ·rw[nN _ _ hS _ _ _ _ qG aF,nN _ _ hS _ _ _ _ qG aF]
    have:i'≠i:=fun e=>by subst e;rw[hi]at qG;exact qN (cO qG).symm
    simp[cF,this]
   ·rw[Array.getElem?_eq_none (by rw[iR];omega),Array.getElem?_eq_none (by rw[iR];omega)]
  ·rw[my _ _ _ _ _ hm,my _ _ _ _ _ hm]
theorem hU(T:Array Value) (S:List Nat) (hS:S.Nodup) (x:Nat->Value) (hx:∀ i s,S[i]?=some s->s<T.size->x i=T[s]!):bg T S x=T:=by
 unfold bg;apply Array.ext_getElem?;intro k;by_cases hm:k∈S
 ·obtain⟨i,hi⟩:=List.mem_iff_getElem?.1 hm
  by_cases aF:k<T.size
  ·rw[nN _ _ hS _ _ _ _ hi aF,Nat.zero_add,hx i k hi aF]
   simp[aF]
  ·rw[Array.getElem?_eq_none (by rw[iR];omega),Array.getElem?_eq_none (by omega)]
 ·rw[my _ _ _ _ _ hm]
def aY(F:Array Value) (d:List Deferred) (r:MP) (s:Nat) (W:World) (a':Act) (W':World):Prop:=
 ∃ v,a'={ tmps:=F.setIfInBounds s v,defers:=d }/\Below W.heap.size W W'/\r.p v W'
theorem aY.mk{F:Array Value} {d:List Deferred} {r:MP} {s:Nat} {W:World} {a':Act} {W':World} (v:Value) (hb:Below W.heap.size W W') (hr:r.p v W') (ha:a'={ tmps:=F.setIfInBounds s v,defers:=d }):aY F d r s W a' W':=⟨v,ha,hb,hr⟩
theorem Dt{P:Program} {id:Nat} {l:List Oper} {Q:Exit->Act->World->Prop} {T:Array Value} {d:List Deferred} {w:World} (n:Nat) (S:List Nat) (Rs:List MP) (hm:P.follows .mixedOrders=true) (hn:l.toArray.size=n+1) (hS:S.Nodup) (nD:S.length=n) (hB:uF l.toArray n=true)
  (dG:∀ x W i o s F,i<n->l.toArray[i]?=some o->S[i]?=some s->Below w.heap.size w W->(∀ e∈o.after,Region.binds .any e=true->(Rs.getD e.on MP.any).p (x e.on) W)->F=bg T S x →
   wpList P l.toArray (Exit.then (aY F d (Rs.getD i MP.any) s W) Q) [o] { tmps:=F,defers:=d } W)
  (Mr:∀ x W o F,l.toArray[n]?=some o->Below w.heap.size w W->(∀ j,j<n->(Rs.getD j MP.any).p (x j) W)->F=bg T S x->wpList P l.toArray Q [o] { tmps:=F,defers:=d } W) :
  (Code.region id l.toArray true).wp P Q { tmps:=T,defers:=d } w:=by
 refine Dr n hm hn hB (fun D a W=>∃ x,a={ tmps:=bg T S x,defers:=d }/\Below w.heap.size w W/\∀ j,j<n->D j=true->(Rs.getD j MP.any).p (x j) W) ?_ ?_ ?_
 ·refine⟨fun i=>T[S.getD i 0]!,?_,(Below.refl _ _).drew,fun j _ h=>by cases h⟩
  rw[hU T S hS];intro i s hi hs;rw[List.getD_eq_getElem?_getD,hi];rfl
 ·rintro D a W i o hi ho hD al ⟨x,rfl,hb,hx⟩
  obtain⟨s,hs⟩:∃ s,S[i]?=some s:=⟨S[i],List.getElem?_eq_getElem (by omega)⟩;refine dQ ?_ (iQ ho (dG x W i o s _ hi ho hs hb (fun e he uq=>hx e.on (by have:=A6 hB (by omega) ho e he;omega) (al e he uq)) rfl));rintro a' W' ⟨v,rfl,eS,hr⟩;refine⟨cF x i v,by rw[gZ T S hS x i s v hs],aj hb eS,fun j hj hDj=>?_⟩;by_cases e:j=i
  ·subst e;rw[iG];exact hr
  ·rw[gS _ _ e]
   refine(Rs.getD j MP.any).up _ _ _ (hx j hj ?_) eS;simpa[bB,e] using hDj
 ·rintro D a W aM ⟨x,rfl,hb,hx⟩
  obtain⟨o,ho⟩:∃ o,l.toArray[n]?=some o:=⟨l.toArray[n],Array.getElem?_eq_getElem (by omega)⟩;refine iQ ho ?_;have he:Exit.then (fun a' w'=>Q .normal a' w') Q=Q:=by funext e a w;cases e<;>rfl
  rw[he];exact Mr x W o _ ho hb (fun j hj=>hx j hj (aM j hj)) rfl
def Gq(ops:Array Oper) (n:Nat):Bool:=
 (List.range n).all (fun i=>match ops[i]? with|some o=>o.after.all fun e=>decide (e.on<i)|none=>false)
theorem A7{ops:Array Oper} {n:Nat} (h:Gq ops n=true) {i:Nat} {o:Oper} (hi:i<n) (ho:ops[i]?=some o):∀ e∈o.after,e.on<i:=by
 simp only[Gq,List.all_eq_true]at h;have:=h i (List.mem_range.2 hi);rw[ho]at this;intro e he;have:=Array.all_eq_true'.1 this e he;simpa using this
theorem M8{P:Program} {ops:Array Oper} {Q:Exit->Act->World->Prop} {n:Nat} (hn:ops.size=n) (hB:Gq ops n=true) (Inv:(Nat->Bool)->Act->World->Prop)
  (dG:∀ D a w i o,i<n->ops[i]?=some o->D i=false->(∀ e∈o.after,Region.binds .any e=true->D e.on=true)->Inv D a w->wpOp P ops Q i (fun a' w'=>Inv (bB D i) a' w') a w)
  (fO:∀ D a w,(∀ j,j<n->D j=true)->Inv D a w->Q .normal a w) :
  ∀ (fuel:Nat) (L:Array Bool) (a:Act) (w:World),L.size=n->(List.range n).countP (fun j=>!L.getD j false)<=fuel->Inv (fun j=>L.getD j false) a w->wpAny P .any ops Q fuel L a w:=by
 have jw:∀ L:Array Bool,L.size=n->(∀ j,j<n->L.getD j false=true)->Region.ready .any ops L=[]:=by
  intro L hL h1;refine List.eq_nil_iff_forall_not_mem.2 fun j hj=>?_
  obtain⟨mG,o,ho,_⟩:=mem_ready.1 hj;have xF:j<n:=by have:=(Array.getElem?_eq_some_iff.1 ho).1;omega
  have:=h1 j xF;rw[show L.getD j false=L.getD j true by simp[Array.getD,hL,xF]]at this;rw[mG]at this;cases this
 intro fuel;induction fuel with
 | zero=>
  intro L a w hL hc h1;have h3:(List.range n).countP (fun j=>!L.getD j false)=0:=by omega
  rw[List.countP_eq_zero]at h3;have aM:∀ j,j<n->L.getD j false=true:=fun j hj=>by simpa using h3 j (List.mem_range.2 hj)
  exact⟨jw L hL aM,fO _ a w aM h1⟩
 | succ fuel ih=>
  intro L a w hL hc h2;refine⟨fun hr=>?_,fun i hi=>?_⟩
  ·refine fO _ a w ?_ h2
   intro j;induction j using Nat.strongRecOn with
   | ind j ihj=>
    intro hj;cases hv:L.getD j false with
    | true=>rfl
    | false=>
     exfalso;obtain⟨o,ho⟩:∃ o,ops[j]?=some o:=⟨ops[j]'(by omega),Array.getElem?_eq_getElem _⟩
     have:j∈Region.ready .any ops L:=mem_ready.2 ⟨by rw[show L.getD j true=L.getD j false by simp[Array.getD,hL,hj]];exact hv,o,ho,fun e he _=>by
      have:=A7 hB hj ho e he
      exact ihj e.on this (by omega)⟩
     rw[hr]at this;cases this
  ·obtain⟨uA,o,ho,al⟩:=mem_ready.1 hi
   have cK:i<n:=by have:=(Array.getElem?_eq_some_iff.1 ho).1;omega
   have FR:L.getD i false=false:=by rw[show L.getD i false=L.getD i true by simp[Array.getD,hL,cK]];exact uA
   have tg:(fun j=>(L.setIfInBounds i true).getD j false)=bB (fun j=>L.getD j false) i:=by
    funext j
    unfold bB;by_cases mE:j=i
    ·subst mE;simp[Array.getD,hL,cK]
    ·rw[if_neg mE]
     simp only[Array.getD,Array.size_setIfInBounds];split
     ·exact Array.getElem_setIfInBounds_ne _ (Ne.symm mE)
     ·rfl
   have oE:(List.range n).countP (fun j=>!(L.setIfInBounds i true).getD j false)<=fuel:=by
    have h3:=wN (fun j=>L.getD j false) i FR (List.range n);rw[if_pos (List.mem_range.2 cK)]at h3
    have h4:(fun j=>!(L.setIfInBounds i true).getD j false)=fun j=>!bB (fun j=>L.getD j false) i j:=by
     funext j;rw[<-tg]
    rw[h4];omega
   exact dQ (fun a' w' h=>ih (L.setIfInBounds i true) a' w' (by simpa using hL) oE (by rw[tg];exact h)) (dG (fun j=>L.getD j false) a w i o cK ho FR al h2)
theorem kN{P:Program} {id:Nat} {l:List Oper} {Q:Exit->Act->World->Prop} {T:Array Value} {d:List Deferred} {w:World} (n:Nat) (S:List Nat) (Rs:List MP) (hm:P.follows .mixedOrders=true) (hn:l.toArray.size=n) (hS:S.Nodup) (nD:S.length=n) (hB:Gq l.toArray n=true)
  (dG:∀ x W i o s F,i<n->l.toArray[i]?=some o->S[i]?=some s->Below w.heap.size w W->(∀ e∈o.after,Region.binds .any e=true->(Rs.getD e.on MP.any).p (x e.on) W)->F=bg T S x →
   wpList P l.toArray (Exit.then (aY F d (Rs.getD i MP.any) s W) Q) [o] { tmps:=F,defers:=d } W)
  (fO:∀ x W F,Below w.heap.size w W->(∀ j,j<n->(Rs.getD j MP.any).p (x j) W)->F=bg T S x->Q .normal { tmps:=F,defers:=d } W) :
  (Code.region id l.toArray true).wp P Q { tmps:=T,defers:=d } w:=by
 refine wp_region_any hm ?_;refine M8 hn hB (fun D a W=>∃ x,a={ tmps:=bg T S x,defers:=d }/\Below w.heap.size w W/\∀ j,j<n->D j=true->(Rs.getD j MP.any).p (x j) W) ?_ ?_ _ _ _ _ (by rw[Array.size_replicate,hn]) ?_ ?_
 ·rintro D a W i o hi ho hD al ⟨x,rfl,hb,hx⟩
  obtain⟨s,hs⟩:∃ s,S[i]?=some s:=⟨S[i],List.getElem?_eq_getElem (by omega)⟩;refine dQ ?_ (iQ ho (dG x W i o s _ hi ho hs hb (fun e he uq=>hx e.on (by have:=A7 hB hi ho e he;omega) (al e he uq)) rfl));rintro a' W' ⟨v,rfl,eS,hr⟩;refine⟨cF x i v,by rw[gZ T S hS x i s v hs],aj hb eS,fun j hj hDj=>?_⟩;by_cases e:j=i
  ·subst e;rw[iG];exact hr
  ·rw[gS _ _ e]
   refine(Rs.getD j MP.any).up _ _ _ (hx j hj ?_) eS;simpa[bB,e] using hDj
 ·rintro D a W aM ⟨x,rfl,hb,hx⟩
  exact fO x W _ hb (fun j hj=>hx j hj (aM j hj)) rfl
 ·rw[hn];exact Nat.le_trans List.countP_le_length (by simp)
 ·refine⟨fun i=>T[S.getD i 0]!,?_,(Below.refl _ _).drew,fun j hj h=>?_⟩
  ·rw[hU T S hS]
   intro i s hi hs;rw[List.getD_eq_getElem?_getD,hi];rfl
  ·exfalso
   simp only[Array.getD]at h;split at h<;>simp at h
end Go.Proofs.YtkfgpnbpcpdclaaGreat
namespace Go.Proofs.YtkfgpnbpcpdclaaGreat
open Go.RowKit Go Go.Shelf
theorem bG{F:Array Value} {d:List Deferred} {r:MP} {s:Nat} {W:World} {a':Act} {W':World} (v:Value) (hb:Below W.heap.size W W') (hr:r.p v W') (ha:a'={ tmps:=F.setIfInBounds s v,defers:=d }:=by simp only[List.setIfInBounds_toArray,List.set_cons_succ,List.set_cons_zero]):aY F d r s W a' W':=⟨v,ha,hb,hr⟩
theorem bz{c v:Value} {W:World} (h:(MP.eq c).p v W):v=c:=h
end Go.Proofs.YtkfgpnbpcpdclaaGreat
