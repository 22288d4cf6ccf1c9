/-
  A part of the proof: lemmas and contracts that the parts behind it use. Each one's conditions are its own premises.
-/
import Derived.Handy
import Derived.LoopTactic
import Derived.Outline
import Derived.Lib.Hide
import Derived.Deep.QuietTactic
import Derived.BigQuiet
import Derived.Deep.Cut
import Derived.Deep.Light
import Derived.Shelf.Abstract
import Derived.RangeFuncNested
import Derived.WalkKit
import Derived.ProofKit
import Derived.OpenShut
import Derived.ShutString
import Derived.ChangeOld
import Derived.Below
import Derived.SizedLaws
import Derived.Deep.Slices
import Derived.Test.YtmeaoneaephjeaaGreatDoorRows
import Derived.Test.YtmeaoneaephjeaaGreatDoorProg
import Derived.ChangeKeysEq
import Derived.OwnWalkIn
import Derived.TacticsInMore
import Derived.LoopNIn
import Derived.LoopIn
import Derived.ArgAppend
import Derived.Laws.IdiomStrings
import Derived.Lib.SliceRun
import Derived.StillTailTactics
set_option maxRecDepth 100000
set_option maxHeartbeats 8000000
set_option linter.unusedVariables false
set_option linter.unusedSimpArgs false
namespace Go.Proofs.YtmeaoneaephjeaaGreatDoor
structure Gr where
 n:Int
 h0:Int
 h1:Int
 h2:Int
 h3:Int
 h4:Int
structure Rd where
 g:Gr
 f:Int
structure Mv where
 r:Rd
 to:Int
structure Adv where
 n:Int
 states:List (List Mv)
structure Cs where
 inp:List Int
 out:List (List Int)
 calm:List (List Int)
structure Tk where
 n:Int
 ins:Int
 outs:Int
 cases:List Cs
structure Pb where
 t:Tk
 a:Adv
 rounds:Int
instance:Inhabited Gr:=⟨⟨0,0,0,0,0,0⟩⟩
instance:Inhabited Rd:=⟨⟨default,0⟩⟩
instance:Inhabited Mv:=⟨⟨default,0⟩⟩
instance:Inhabited Cs:=⟨⟨[],[],[]⟩⟩
instance:DecidableEq Gr:=fun a b=>decidable_of_iff (a.n=b.n/\a.h0=b.h0/\a.h1=b.h1/\a.h2=b.h2/\a.h3=b.h3/\a.h4=b.h4) (by cases a;cases b;simp)
instance:DecidableEq Rd:=fun a b=>decidable_of_iff (a.g=b.g/\a.f=b.f) (by cases a;cases b;simp)
def Gr.hear(g:Gr) (k:Nat):Int:=match k with|0=>g.h0|1=>g.h1|2=>g.h2|3=>g.h3|4=>g.h4|_=>0
def aZ(n:Nat) (f:Nat->Int):Int:=match n with|0=>0|m+1=>if aZ m f≠0 then aZ m f else f m
theorem cJ(n:Nat) (f:Nat->Int) (h:∀ j,j<n->f j=0):aZ n f=0:=by
 induction n with
 | zero=>rfl
 | succ m ih=>unfold aZ;rw[ih (fun j hj=>h j (by omega))];simp;exact h m (by omega)
theorem Lg(n k:Nat) (f:Nat->Int) (hk:k<n) (h:∀ j,j<k->f j=0) (hz:f k≠0):aZ n f=f k:=by
 induction n with
 | zero=>omega
 | succ m ih=>
  unfold aZ;by_cases e:k=m
  ·subst e;rw[cJ k f h];simp
  ·rw[ih (by omega)];simp[hz]
theorem bN{n:Nat} {f:Nat->Int} (k:Nat) (v:Int) (hk:k<n) (h:∀ j,j<k->f j=0) (hv:f k=v) (hz:v≠0):v=aZ n f:=by
 subst hv;exact(Lg n k f hk h hz).symm
theorem aS{p:Nat->Prop} {k:Nat} (h:∀ j,j<k->p j) (hk:p k):∀ j,j<k+1->p j:=fun j hj=>by
 by_cases e:j=k
 ·subst e;exact hk
 ·exact h j (by omega)
theorem fo{n:Nat} {f:Nat->Int} (h:aZ n f=0):∀ j,j<n->f j=0:=by
 induction n with
 | zero=>intro j hj;omega
 | succ m ih=>
  unfold aZ at h;by_cases e:aZ m f=0
  ·simp[e]at h
   intro j hj;by_cases ej:j=m
   ·subst ej;exact h
   ·exact ih e j (by omega)
  ·simp[e]at h
def firstIx(n:Nat) (p:Nat->Bool):Int:=match n with|0=>-1|m+1=>if firstIx m p≠-1 then firstIx m p else if p m then m else -1
theorem dG(n:Nat) (p:Nat->Bool) (h:∀ j,j<n->p j=false):firstIx n p=-1:=by
 induction n with
 | zero=>rfl
 | succ m ih=>unfold firstIx;rw[ih (fun j hj=>h j (by omega))];simp[h m (by omega)]
theorem dj(n k:Nat) (p:Nat->Bool) (hk:k<n) (h:∀ j,j<k->p j=false) (hz:p k=true):firstIx n p=k:=by
 induction n with
 | zero=>omega
 | succ m ih=>
  unfold firstIx;by_cases e:k=m
  ·subst e;rw[dG k p h];simp[hz]
  ·rw[ih (by omega)];simp
theorem bG(n:Nat) (p:Nat->Bool):(firstIx n p=-1/\∀ j,j<n->p j=false)\/∃ k,k<n/\firstIx n p=k/\p k=true/\∀ j,j<k->p j=false:=by
 induction n with
 | zero=>exact .inl ⟨rfl,fun j hj=>by omega⟩
 | succ m ih=>
  rcases ih with ⟨h,hn⟩|⟨k,hk,h,hp,hn⟩
  ·by_cases e:p m=true
   ·exact .inr ⟨m,by omega,by rw[dj (m+1) m p (by omega) hn e],e,hn⟩
   ·refine .inl ⟨dG _ _ (fun j hj=>?_),fun j hj=>?_⟩ <;>
    ·by_cases ej:j=m
     ·subst ej;simpa using e
     ·exact hn j (by omega)
  ·exact .inr ⟨k,by omega,by rw[dj (m+1) k p (by omega) hn hp],hp,hn⟩
theorem l4(n:Nat) (f g:Nat->Bool) (h:∀ j,j<n->f j=g j):firstIx n f=firstIx n g:=by
 induction n with
 | zero=>rfl
 | succ m ih=>unfold firstIx;rw[ih (fun j hj=>h j (by omega)),h m (by omega)]
def anyLt(n:Nat) (p:Nat->Bool):Bool:=match n with|0=>false|m+1=>anyLt m p || p m
theorem eG(n:Nat) (p:Nat->Bool) (h:∀ j,j<n->p j=false):anyLt n p=false:=by
 induction n with
 | zero=>rfl
 | succ m ih=>unfold anyLt;rw[ih (fun j hj=>h j (by omega)),h m (by omega)];rfl
theorem dV(n k:Nat) (p:Nat->Bool) (hk:k<n) (h:p k=true):anyLt n p=true:=by
 induction n with
 | zero=>omega
 | succ m ih=>
  unfold anyLt;by_cases e:k=m
  ·subst e;simp[h]
  ·rw[ih (by omega)];rfl
theorem kK(n:Nat) (p:Nat->Bool):anyLt n p=true↔∃ k,k<n/\p k=true:=by
 constructor
 ·intro h
  induction n with
  | zero=>simp[anyLt]at h
  | succ m ih=>
   unfold anyLt at h;cases hm:anyLt m p with
   | true=>obtain⟨k,hk,hp⟩:=ih hm;exact⟨k,by omega,hp⟩
   | false=>rw[hm]at h;exact⟨m,by omega,by simpa using h⟩
 ·rintro⟨k,hk,hp⟩;exact dV n k p hk hp
theorem fG(n:Nat) (p:Nat->Bool):anyLt n p=false↔∀ k,k<n->p k=false:=by
 constructor
 ·intro h k hk
  cases hp:p k with
  | false=>rfl
  | true=>rw[dV n k p hk hp]at h;cases h
 ·exact eG n p
theorem Jq(n:Nat) (f g:Nat->Bool) (h:∀ j,j<n->f j=g j):anyLt n f=anyLt n g:=by
 induction n with
 | zero=>rfl
 | succ m ih=>unfold anyLt;rw[ih (fun j hj=>h j (by omega)),h m (by omega)]
theorem ph(n:Nat) (p:Nat->Bool):decide (0<=firstIx n p)=anyLt n p:=by
 rcases bG n p with ⟨h,hn⟩|⟨k,hk,h,hp,_⟩
 ·rw[h,eG n p hn];rfl
 ·rw[h,dV n k p hk hp];simp
def iB(n:Int):Int:=if n<1\/5<n then 1 else 0
def jQ(n set:Int):Int:=if iB n≠0 then iB n else if set<0\/set / 2 ^ n.toNat≠0 then 2 else 0
def hasB(set:Int) (p:Nat):Bool:=set / 2 ^ p % 2 == 1
def l5(n x:Int) (p:Nat):Int:=
 if n<=p then(if x≠0 then 3 else 0) else if x<0\/2 ^ n.toNat - 1<x then 2 else if hasB x p then 0 else 3
def gF(g:Gr):Int:=if g.n<1\/5<g.n then 2 else aZ 5 fun p=>l5 g.n (g.hear p) p
def cmpI(a b:Int):Int:=if a<b then -1 else if b<a then 1 else 0
def fd(a b:Gr):Int:=if cmpI a.n b.n≠0 then cmpI a.n b.n else aZ 5 fun p=>cmpI (a.hear p) (b.hear p)
def roundE(r:Rd):Int:=if gF r.g≠0 then gF r.g else jQ r.g.n r.f
def roundC(a b:Rd):Int:=if fd a.g b.g≠0 then fd a.g b.g else cmpI a.f b.f
theorem rP{α:Type} {l:List α} {k:Nat} (h:k<l.length):l.drop k=l[k] :: l.drop (k+1):=(List.drop_eq_getElem_cons h)
def ordV:List Int->List Int->Int
 | [],[]=>0
 | [],_ :: _=>-1
 | _ :: _,[]=>1
 | a :: r,b :: s=>if a<b then -1 else if b<a then 1 else ordV r s
theorem wj(b:List Int):ordV [] b=if 0<b.length then -1 else 0:=by cases b<;>simp[ordV]
theorem rQ(a:List Int):ordV a a=0:=by induction a with|nil=>rfl|cons x r ih=>simp[ordV,ih]
theorem Ni{a b:List Int} (h:ordV a b=0):a=b:=by
 induction a generalizing b with
 | nil=>cases b with|nil=>rfl|cons y s=>simp[ordV]at h
 | cons x r ih=>
  cases b with
  | nil=>simp[ordV]at h
  | cons y s=>
   unfold ordV at h;split at h
   ·omega
   ·split at h
    ·omega
    ·rw[ih h,show x=y by omega]
def vectorE(v:List Int) (n most:Int):Int:=if (v.length:Int)≠n then 15 else if anyLt v.length (fun i=>decide (v.getD i 0<0) || decide (most<=v.getD i 0)) then 2 else 0
def unordB(l:List (List Int)) (i:Nat):Bool:=decide (0<i)&&decide (0<=ordV (l.getD (i - 1) []) (l.getD i []))
def eqV(a b:List Int):Bool:=decide (a=b)
def hasV(l:List (List Int)) (v:List Int):Bool:=anyLt l.length fun i=>eqV (l.getD i []) v
def iU(t:Tk) (c:Cs) (i:Nat):Int:=if vectorE (c.out.getD i []) t.n t.outs≠0 then vectorE (c.out.getD i []) t.n t.outs else if unordB c.out i then 14 else 0
def iM(c:Cs) (i:Nat):Int:=if hasV c.out (c.calm.getD i []) then(if unordB c.calm i then 14 else 0) else 6
def vectorsE(t:Tk) (c:Cs):Int:=
 if c.out.length<1\/1024<c.out.length then 5
 else if aZ c.out.length (iU t c)≠0 then aZ c.out.length (iU t c) else aZ c.calm.length (iM c)
def eL(t:Tk) (i:Nat):Int:=
 if vectorE (t.cases.getD i default).inp t.n t.ins≠0 then vectorE (t.cases.getD i default).inp t.n t.ins
 else if 0<i/\0<=ordV (t.cases.getD (i - 1) default).inp (t.cases.getD i default).inp then 14 else vectorsE t (t.cases.getD i default)
def taskE(t:Tk):Int:=
 if t.n<1\/5<t.n\/t.ins<1\/8<t.ins\/t.outs<1\/8<t.outs then 2
 else if t.cases.length<1\/1024<t.cases.length then 5 else aZ t.cases.length (eL t)
def movesN(l:List (List Mv)):Nat:=(l.map List.length).sum
def dH(a:Adv) (l:List Mv) (i:Nat):Int:=
 if roundE (l.getD i default).r≠0 then roundE (l.getD i default).r
 else if (l.getD i default).r.g.n≠a.n then 22
 else if 0<i/\0<=roundC (l.getD (i - 1) default).r (l.getD i default).r then 14
 else if (l.getD i default).to<0\/(a.states.length:Int)<=(l.getD i default).to then 2 else 0
def stateE(a:Adv) (l:List Mv):Int:=if l.length=0 then 19 else aZ l.length (dH a l)
def iA(x y:Int):Bool:=!anyLt 5 fun p=>hasB x p&&!hasB y p
end Go.Proofs.YtmeaoneaephjeaaGreatDoor
namespace Go.Proofs.YtmeaoneaephjeaaGreatDoor
open Go.RowKit Go Go.Shelf
def bM(x:Int):Prop:=-9223372036854775808<=x/\x<=9223372036854775807
theorem eX{w:World} {a:Addr} {v:Value} (h:w.cell? a=some v):a.block<w.heap.size:=by
 unfold World.cell? at h;split at h
 ·rename_i hb;exact(Array.getElem?_eq_some_iff.1 hb).1
 ·cases h
theorem ak{w w':World} (hb:Below w.heap.size w w') {a:Addr} {v:Value} (h:w.cell? a=some v):w'.cell? a=some v:=(hb.cell (eX h)).trans h
theorem Lh{B:Nat} {W w1:World} (hb:Below B W w1):(∀ b o,b<B->w1.cell? ⟨b,o,none⟩=W.cell? ⟨b,o,none⟩)/\(∀ b o,b<B->w1.frozen? ⟨b,o,none⟩=W.frozen? ⟨b,o,none⟩):=
 ⟨fun b o h=>hb.cell (p:=⟨b,o,none⟩) h,fun b o h=>hb.frozen (p:=⟨b,o,none⟩) h⟩
theorem aD{k:IntKind} {a b:Int} (h:a=b):Ending.returned (.int k a)=.returned (.int k b):=by rw[h]
theorem aO{a b:Bool} (h:a=b):Ending.returned (.bool a)=.returned (.bool b):=by rw[h]
theorem ae{a b c:World} (h:Below a.heap.size a b) (k:Below b.heap.size b c):Below a.heap.size a c:=h.trans (k.mono h.size)
theorem ed{B:Nat} {a w:World} (h:Below B a w) (n:Nat):Below B a (w.drewN n):=⟨h.os,h.tape,h.output,h.size,h.block⟩
theorem am(w:World) (o:Obj):(w.alloc o).heap[w.heap.size]?=some o:=by
 show (w.heap.push o)[w.heap.size]?=some o
 simp
theorem ap{w:World} {k:Nat} {x:Obj} (o:Obj) (h:w.heap[k]?=some x):(w.alloc o).heap[k]?=some x:=
 (Below.heap_alloc w o k (Array.getElem?_eq_some_iff.1 h).1).trans h
theorem aB{w:World} {k:Nat} {x:Obj} (h:w.heap[k]?=some x):k<w.heap.size:=(Array.getElem?_eq_some_iff.1 h).1
theorem af{w w':World} (hb:Below w.heap.size w w') {k:Nat} {x:Obj} (h:w.heap[k]?=some x):w'.heap[k]?=some x:=
 (hb.block k (Array.getElem?_eq_some_iff.1 h).1).trans h
theorem ab{w:World} {B:Nat} {cs:Array Value} {t:TypeId} {f:Nat × Nat} (h:w.heap[B]?=some (.cells cs t f)) (o:Nat):w.cell? ⟨B,o,none⟩=cs[o]?:=by
 simp[World.cell?,h]
theorem aE{w:World} {B:Nat} {cs:Array Value} {t:TypeId} (h:w.heap[B]?=some (.cells cs t (0,0))) (o:Nat):w.frozen? ⟨B,o,none⟩=false:=by
 simp[World.frozen?,h]
theorem bm{P:Program} {c:Code} {Q:Exit->Act->World->Prop} {a:Act} {W:World} (I:World->Prop) (h:I W) (k:∀ W0,I W0->c.wp P Q a W0):c.wp P Q a W:=k W h
def CK(w w':World):Prop:=∀ (k:Nat) (o:Obj),w.heap[k]?=some o->o.isCells=true->w'.heap[k]?=some o
theorem CK.of_below{w w':World} (h:Below w.heap.size w w'):CK w w':=fun _ _ hk _=>af h hk
theorem CK.cell{w w':World} (h:CK w w') {a:Addr} {v:Value} (hc:w.cell? a=some v):w'.cell? a=some v:=by
 unfold World.cell? at hc ⊢;cases ho:w.heap[a.block]? with
 | none=>simp[ho]at hc
 | some o=>cases o<;>simp only[ho]at hc<;>first|(rw[h _ _ ho rfl];exact hc)|cases hc
def Up{α:Type} (R:World->Nat->Nat->α->Prop):Prop:=∀ (w w':World) (b o:Nat) (x:α),CK w w'->R w b o x->R w' b o x
theorem aN{P:Program} {f:FuncId} {args:Array Value} {R:Ending->World->Prop} {W:World} (I:World->Prop) (h:I W) (k:∀ W0,I W0->Calls P f args W0 R):Calls P f args W R:=k W h
def eR{α:Type} (k:Nat) (R:World->Nat->Nat->α->Prop) (w:World) (v:Value) (l:List α):Prop:=
 ∃ a cap,v=.slice a l.length cap/\(l.length<=cap/\cap<=9223372036854775807/\(a=none->cap=0))/\l.length<=17592186044416/\∀ i x,l[i]?=some x->∃ b off,a=some ⟨b,off,none⟩/\R w b (off+i * k) x
theorem eR.ck{α:Type} {k:Nat} {R:World->Nat->Nat->α->Prop} (hR:Up R) {w w':World} {v:Value} {l:List α} (hb:CK w w') (h:eR k R w v l):eR k R w' v l:=by
 obtain⟨a,cap,rfl,h1,h2,h3⟩:=h;refine⟨a,cap,rfl,h1,h2,fun i x hx=>?_⟩;obtain⟨b,off,ha,hr⟩:=h3 i x hx;exact⟨b,off,ha,hR _ _ _ _ _ hb hr⟩
theorem eR.up{α:Type} {k:Nat} {R:World->Nat->Nat->α->Prop} (hR:Up R) {w w':World} {v:Value} {l:List α} (hb:Below w.heap.size w w') (h:eR k R w v l):eR k R w' v l:=h.ck hR (.of_below hb)
theorem eR.at{α:Type} {k:Nat} {R:World->Nat->Nat->α->Prop} {w:World} {v:Value} {l:List α} (h:eR k R w v l) :
  ∃ a cap,v=.slice a l.length cap/\l.length<=cap/\l.length<=17592186044416/\∀ i (hi:i<l.length),∃ b off,a=some ⟨b,off,none⟩/\R w b (off+i * k) l[i]:=by
 obtain⟨a,cap,rfl,h1,h2,h3⟩:=h;exact⟨a,cap,rfl,h1.1,h2,fun i hi=>h3 i _ (List.getElem?_eq_getElem hi)⟩
theorem az{α:Type} {l:List α} {i:Nat} (d:α) (h:i<l.length):l.getD i d=l[i]:=by simp[h]
def mi{α:Type} (k:Nat) (R:World->Nat->Nat->α->Prop) (w:World) (b o:Nat) (l:List α):Prop:=∃ v,w.cell? ⟨b,o,none⟩=some v/\eR k R w v l
theorem yU{α:Type} {k:Nat} {R:World->Nat->Nat->α->Prop} (hR:Up R):Up (mi k R):=fun _ _ _ _ _ hb ⟨v,hc,hs⟩=>⟨v,hb.cell hc,hs.ck hR hb⟩
def fR(w:World) (b o:Nat) (x:Int):Prop:=w.cell? ⟨b,o,none⟩=some (.int .i64 x)/\bM x
theorem up_int:Up fR:=fun _ _ _ _ _ hb h=>⟨hb.cell h.1,h.2⟩
abbrev aT:=eR 1 fR
abbrev wX:=mi 1 fR
theorem up_ints:Up wX:=yU up_int
abbrev dR:=eR 1 wX
abbrev ug:=mi 1 wX
theorem up_vecs:Up ug:=yU up_ints
def Gg(w:World) (b o:Nat) (c:Cs):Prop:=wX w b o c.inp/\ug w b (o+1) c.out/\ug w b (o+2) c.calm
theorem up_case:Up Gg:=fun _ _ _ _ _ hb h=>⟨up_ints _ _ _ _ _ hb h.1,up_vecs _ _ _ _ _ hb h.2.1,up_vecs _ _ _ _ _ hb h.2.2⟩
abbrev bK:=eR 3 Gg
def mB(w:World) (b o:Nat) (r:Rd):Prop:=
 fR w b o r.g.n/\fR w b (o+1) r.g.h0/\fR w b (o+2) r.g.h1/\fR w b (o+3) r.g.h2/\fR w b (o+4) r.g.h3/\fR w b (o+5) r.g.h4/\fR w b (o+6) r.f
theorem up_round:Up mB:=fun _ _ _ _ _ hb ⟨h0,h1,h2,h3,h4,h5,h6⟩=>
 ⟨up_int _ _ _ _ _ hb h0,up_int _ _ _ _ _ hb h1,up_int _ _ _ _ _ hb h2,up_int _ _ _ _ _ hb h3,up_int _ _ _ _ _ hb h4,up_int _ _ _ _ _ hb h5,up_int _ _ _ _ _ hb h6⟩
abbrev j8:=eR 7 mB
def Bh(w:World) (b o:Nat) (m:Mv):Prop:=mB w b o m.r/\fR w b (o+7) m.to
theorem up_move:Up Bh:=fun _ _ _ _ _ hb h=>⟨up_round _ _ _ _ _ hb h.1,up_int _ _ _ _ _ hb h.2⟩
abbrev oG:=eR 8 Bh
abbrev Da:=mi 8 Bh
theorem up_moves:Up Da:=yU up_move
abbrev bh:=eR 1 Da
abbrev Gr.v(g:Gr):Value:=.agg #[.int .i64 g.n,.int .i64 g.h0,.int .i64 g.h1,.int .i64 g.h2,.int .i64 g.h3,.int .i64 g.h4]
abbrev Rd.v(r:Rd):Value:=.agg #[.int .i64 r.g.n,.int .i64 r.g.h0,.int .i64 r.g.h1,.int .i64 r.g.h2,.int .i64 r.g.h3,.int .i64 r.g.h4,.int .i64 r.f]
abbrev Mv.v(m:Mv):Value:=.agg #[.int .i64 m.r.g.n,.int .i64 m.r.g.h0,.int .i64 m.r.g.h1,.int .i64 m.r.g.h2,.int .i64 m.r.g.h3,.int .i64 m.r.g.h4,.int .i64 m.r.f,.int .i64 m.to]
structure ExtW (w:World) where
 val:World
 ext:Below w.heap.size w val
instance (w:World):Inhabited (ExtW w):=⟨⟨w,Below.refl _ _⟩⟩
theorem aC{P:Program} {id:Nat} {Q:Exit->Act->World->Prop} {a:Act} {w:World} {l:List Oper} (hm:P.follows .mixedOrders=true) (hB:Region.lexB .any l.toArray=true)
  (h:wpQuiet P l.toArray (fun w'=>∃ x:ExtW w,w'=x.val) (fun a'=>∀ w',(∃ x:ExtW w,w'=x.val)->Q .normal a' w') l a):(Code.region id l.toArray true).wp P Q a w:=
 wp_region_quiet (C:=fun w'=>∃ x:ExtW w,w'=x.val) hm hB ⟨⟨w.drew,(Below.refl _ _).drew⟩,rfl⟩ (by simpa using h)
theorem Calls.ext_of{P:Program} {f:FuncId} {args:Array Value} {w:World} {x:ExtW w} {v:Value}
  (h:Calls P f args x.val fun e w'=>e=.returned v/\Below x.val.heap.size x.val w'):Calls P f args x.val fun e w''=>e=.returned v/\∃ p:ExtW w,w''=p.val:=
 h.mono fun _ w'' ⟨he,hb⟩=>⟨he,⟨w'',ae x.ext hb⟩,rfl⟩
theorem ExtW.cell{w:World} (x:ExtW w) {a:Addr} {v:Value} (h:w.cell? a=some v):x.val.cell? a=some v:=ak x.ext h
end Go.Proofs.YtmeaoneaephjeaaGreatDoor
namespace Go.Proofs.YtmeaoneaephjeaaGreatDoor
open Go.RowKit Go Go.Shelf
theorem aa{p:Prop} (h:p):Hid p:=Lib.hid h
theorem dp{α:Type} {a b:α} (h:some a=some b):a=b:=Option.some.inj h
theorem fH{a:Value}:∀ c,some a=some c->a=c:=fun _ h=>Option.some.inj h
end Go.Proofs.YtmeaoneaephjeaaGreatDoor
namespace Go.Proofs.YtmeaoneaephjeaaGreatDoor
open Go.ChangeShapes Go.WideShapes Go.ChangeAt Go.RowKit Go Go.Deep
section
variable {H : Type} {enc : TypeId × Value → H} {w : World}
abbrev gW(enc:TypeId × Value->H) (w:World) (fuel:Nat) (t:TypeId) (cs:List Value) (x:DataW H × List MemPlace):Prop:=DataW.trod enc Tryz.prog w 0 (fun _=>true) true fuel t cs=some x
def oe(t:TypeId) (d:DataW H):Prop:=∀ n∈d.weights Tryz.prog t,n<=reachBytes
theorem qY{n:Int} (h:(Lit.int .i64 n).wf=true):bM n:=by
 simp[Lit.wf,IntKind.min,IntKind.max,IntKind.bits,IntKind.signed]at h;unfold bM;omega
theorem Bi{ts:List TypeId} {ds:List (DataW H)} {j:Nat} {t:TypeId} {d:DataW H} (ht:ts[j]?=some t) (hd:ds[j]?=some d) {n:Nat} (hn:n∈d.weights Tryz.prog t):n∈DataW.weightsEach Tryz.prog ts ds:=DataW.weights_mem_each ht hd n hn
theorem Db{e:TypeId} {ds:List (DataW H)} {d:DataW H} (hd:d∈ds) {n:Nat} (hn:n∈d.weights Tryz.prog e):n∈DataW.weightsAll Tryz.prog e ds:=by
 induction ds with
 | nil=>cases hd
 | cons x r ih=>
  simp only[DataW.weightsAll,List.mem_append];rcases List.mem_cons.1 hd with rfl|h
  ·exact .inl hn
  ·exact .inr (ih h)
theorem i8{fs:Array Field} {t:TypeId} {fuel:Nat} {cs:List Value} {x:DataW H × List MemPlace} (ht:Tryz.prog.underlying t=some (.struct fs)) (h:gW enc w fuel t cs x) (hz:oe t x.1) :
  cs.length=Tryz.prog.cellsOf t/\∃ n,∀ (i:Nat) (f:Field),fs[i]?=some f->∃ y,gW enc w n f.type ((cs.drop f.offset).take (Tryz.prog.cellsOf f.type)) y/\oe f.type y.1:=by
 obtain⟨xs,n,_,rfl,hl,hx,hf⟩:=DataW.trod_struct ht h;refine⟨hl,n,fun i f hi=>?_⟩;have aA:i<xs.length:=by have:=(Array.getElem?_eq_some_iff.1 hi).1;omega
 refine⟨xs[i],(hf i f hi).trans (List.getElem?_eq_getElem aA),fun m hm=>hz m ?_⟩;simp only[DataW.weights,ht];exact Bi (j:=i) (by simp[hi]) (by simp[aA]) hm
def pE(enc:TypeId × Value->H) (w:World) (t:TypeId) (k:Nat):Prop:=∀ fuel cs x,gW enc w fuel t cs x->cs.length=k/\∀ j,j<k->∃ n,cs[j]?=some (.int .i64 n)/\bM n
theorem vm{t:TypeId} (ht:Tryz.prog.underlying t=some (.int .i64)):pE enc w t 1:=fun fuel cs x h=>by
 obtain⟨n,rfl,_,hw⟩:=DataW.trod_int ht h;refine⟨rfl,fun j hj=>⟨n,?_,qY hw⟩⟩;obtain rfl:j=0:=by omega
 rfl
theorem wY{t e:TypeId} {m:Nat} (ht:Tryz.prog.underlying t=some (.array m e)) (he:Tryz.prog.underlying e=some (.int .i64)) (h1:Tryz.prog.cellsOf e=1) (hk:Tryz.prog.cellsOf t=m):pE enc w t m:=fun fuel cs x h=>by
 obtain⟨xs,n,_,_,hl,hx,hf⟩:=DataW.trod_array ht h;refine⟨by rw[hl,hk],fun j hj=>?_⟩;have h2:=hf j hj;rw[h1,Nat.mul_one,List.getElem?_eq_getElem (by omega)]at h2;obtain⟨v,e1,_,hw⟩:=DataW.trod_int he h2;refine⟨v,?_,qY hw⟩;have h3:((cs.drop j).take 1)[0]?=cs[j]?:=by simp
 rw[<-h3,e1];rfl
theorem vp{t:TypeId} {f0 f1:Field} {k0 k1:Nat} (ht:Tryz.prog.underlying t=some (.struct #[f0,f1])) (o0:f0.offset=0) (o1:f1.offset=k0) (c0:Tryz.prog.cellsOf f0.type=k0) (c1:Tryz.prog.cellsOf f1.type=k1) (ct:Tryz.prog.cellsOf t=k0+k1)
  (h0:pE enc w f0.type k0) (h1:pE enc w f1.type k1):pE enc w t (k0+k1):=fun fuel cs x h=>by
 obtain⟨xs,n,_,_,hl,hx,hf⟩:=DataW.trod_struct ht h;refine⟨by rw[hl,ct],fun j hj=>?_⟩;have g0:=hf 0 f0 rfl;have g1:=hf 1 f1 rfl;have dM:xs.length=2:=hx;rw[o0,c0,List.getElem?_eq_getElem (by omega)]at g0;rw[o1,c1,List.getElem?_eq_getElem (by omega)]at g1;by_cases nZ:j<k0
 ·obtain⟨v,e,hv⟩:=(h0 _ _ _ g0).2 j nZ
  refine⟨v,?_,hv⟩;rw[<-e];simp[List.getElem?_take_of_lt nZ]
 ·obtain⟨v,e,hv⟩:=(h1 _ _ _ g1).2 (j - k0) (by omega)
  refine⟨v,?_,hv⟩;rw[<-e,List.getElem?_take_of_lt (by omega),List.getElem?_drop,show k0+(j - k0)=j by omega]
def wl{α:Type} (enc:TypeId × Value->H) (w:World) (t:TypeId) (k:Nat) (R:World->Nat->Nat->α->Prop):Prop:=
 ∀ fuel cs x b off,gW enc w fuel t cs x->oe t x.1->(∀ j,j<k->w.cell? ⟨b,off+j,none⟩=cs[j]?)->∃ a:α,R w b off a
theorem opn_int:wl enc w 3 1 fR:=fun fuel cs x b off h _ hc=>by
 obtain⟨n,rfl,_,hw⟩:=DataW.trod_int Tryz.underlying3 h;exact⟨n,(hc 0 (by omega)).trans rfl,qY hw⟩
theorem wm{a:Addr} {j:Nat} (h:a.spot=none):a.add j=⟨a.block,a.off+j,none⟩:=by
 obtain⟨b,o,s⟩:=a;simp at h;subst h;unfold Addr.add;split<;>simp_all
theorem oH{α:Type} {t e:TypeId} {k:Nat} {R:World->Nat->Nat->α->Prop} (hu:Tryz.prog.underlying t=some (.slice e)) (hk:Tryz.prog.cellsOf e=k) (eP:0<k) (gy:8<=Tryz.prog.bytesOf e) (he:wl enc w e k R)
  {fuel:Nat} {cs:List Value} {x:DataW H × List MemPlace} (h:gW enc w fuel t cs x) (hz:oe t x.1):∃ v l,cs=[v]/\eR k R w v l:=by
 rcases open_slice hu h with ⟨rfl,_⟩|⟨a,len,cap,m,n,D,Pl,rfl,_,hl,hm,C7,rfl,hi⟩
 ·exact⟨_,[],rfl,none,0,rfl,⟨by simp,by omega,fun _=>rfl⟩,by simp,fun i x hx=>by simp at hx⟩
 ·have tg:m=cap:=by rw[C7];rfl
  subst tg
  have hw:(((List.range len).map D).length+((List.range (m - len)).map fun j=>D (len+j)).length) * Tryz.prog.bytesOf e<=reachBytes:=by
   refine hz _ ?_;simp only[DataW.weights,hu];exact List.mem_cons_self
  have yJ:m * 8<=reachBytes:=by
   refine Nat.le_trans (Nat.mul_le_mul_left m gy) ?_;refine Nat.le_trans ?_ hw;rw[List.length_map,List.length_map,List.length_range,List.length_range];exact Nat.mul_le_mul_right _ (by omega)
  have hw3:m<=17592186044416:=by unfold reachBytes at yJ;omega
  have hsp0:0<len->a.spot=none:=fun h0=>by
   obtain⟨cs',hc,ht⟩:=hi 0 (by omega);rw[hk]at hc;obtain⟨_,bP,C9⟩:=World.cells?_some hc;have h1:=C9 0 eP;rw[List.getElem?_eq_getElem (by omega)]at h1;have:=World.cell?_spot h1;simpa[Addr.add] using this
  have key:∀ i:Fin len,∃ y:α,a.spot=none/\R w a.block (a.off+i.1 * k) y:=fun i=>by
   obtain⟨cs',hc,ht⟩:=hi i.1 (by have:=i.2;omega);rw[hk]at hc;obtain⟨_,bP,C9⟩:=World.cells?_some hc;have hsp:=hsp0 (by have:=i.2;omega)
   have bV:oe e (D i.1):=fun q hq=>hz q (by
    simp only[DataW.weights,hu];refine List.mem_cons_of_mem _ (List.mem_append_left _ (Db (d:=D i.1) ?_ hq))
    exact List.mem_map.2 ⟨i.1,List.mem_range.2 i.2,rfl⟩)
   obtain⟨y,hy⟩:=he _ _ _ a.block (a.off+i.1 * k) ht bV (fun j hj=>by
    rw[<-C9 j hj,wm hsp,wm rfl])
   exact⟨y,hsp,hy⟩
  refine⟨_,List.ofFn fun i=>Classical.choose (key i),rfl,some a,m,by rw[List.length_ofFn],⟨by rw[List.length_ofFn];omega,by omega,fun h=>by cases h⟩,by rw[List.length_ofFn];omega,fun i y hy=>?_⟩;have gM:i<len:=by have:=(List.getElem?_eq_some_iff.1 hy).1;simpa using this
  have e1:y=Classical.choose (key ⟨i,gM⟩):=by
   rw[List.getElem?_ofFn]at hy;simp[gM]at hy;exact hy.symm
  obtain⟨hs,hr⟩:=Classical.choose_spec (key ⟨i,gM⟩);refine⟨a.block,a.off,?_,by rw[e1];exact hr⟩;obtain⟨b,o,s⟩:=a;simp at hs;subst hs;rfl
theorem wZ{α:Type} {t e:TypeId} {k:Nat} {R:World->Nat->Nat->α->Prop} (hu:Tryz.prog.underlying t=some (.slice e)) (hk:Tryz.prog.cellsOf e=k) (eP:0<k) (gy:8<=Tryz.prog.bytesOf e) (he:wl enc w e k R):wl enc w t 1 (mi k R):=fun fuel cs x b off h hz hc=>by
 obtain⟨v,l,rfl,hl⟩:=oH hu hk eP gy he h hz;exact⟨l,v,(hc 0 (by omega)).trans rfl,hl⟩
theorem Gh{cs:List Value} {j:Nat} (h:j<cs.length):(cs.drop j).take 1=[cs[j]]:=by
 rw[List.drop_eq_getElem_cons h];rfl
theorem Tryz.cInt:Tryz.prog.cellsOf 3=1:=by kernel_rfl
theorem Tryz.cInts:Tryz.prog.cellsOf 38=1:=by kernel_rfl
theorem Tryz.cVecs:Tryz.prog.cellsOf 56=1:=by kernel_rfl
theorem Tryz.cCase:Tryz.prog.cellsOf 135=3:=by kernel_rfl
theorem Tryz.cGraph:Tryz.prog.cellsOf 139=6:=by kernel_rfl
theorem Tryz.cRound:Tryz.prog.cellsOf 141=7:=by kernel_rfl
theorem Tryz.cMove:Tryz.prog.cellsOf 143=8:=by kernel_rfl
theorem Tryz.cMoves:Tryz.prog.cellsOf 136=1:=by kernel_rfl
theorem opn_ints:wl enc w 38 1 wX:=wZ Tryz.underlying38 Tryz.cInt (by omega) (of_decide_eq_true (by kernel_rfl)) opn_int
theorem opn_vecs:wl enc w 56 1 ug:=wZ Tryz.underlying56 Tryz.cInts (by omega) (of_decide_eq_true (by kernel_rfl)) opn_ints
theorem opn_case:wl enc w 135 3 Gg:=fun fuel cs x b off h hz hc=>by
 obtain⟨hl,n,hf⟩:=i8 Tryz.underlying135 h hz;rw[Tryz.cCase]at hl;obtain⟨y0,r0,z0⟩:=hf 0 _ rfl;obtain⟨y1,r1,z1⟩:=hf 1 _ rfl;obtain⟨y2,r2,z2⟩:=hf 2 _ rfl;change gW enc w n 38 ((cs.drop 0).take (Tryz.prog.cellsOf 38)) y0 at r0;change gW enc w n 56 ((cs.drop 1).take (Tryz.prog.cellsOf 56)) y1 at r1;change gW enc w n 56 ((cs.drop 2).take (Tryz.prog.cellsOf 56)) y2 at r2;rw[Tryz.cInts,Gh (by omega)]at r0;rw[Tryz.cVecs,Gh (by omega)]at r1 r2
 obtain⟨a0,h0⟩:=opn_ints _ _ _ b off r0 z0 (fun j hj=>by obtain rfl:j=0:=by omega
                                                         rw[hc 0 (by omega),List.getElem?_eq_getElem (by omega)];rfl)
 obtain⟨a1,h1⟩:=opn_vecs _ _ _ b (off+1) r1 z1 (fun j hj=>by obtain rfl:j=0:=by omega
                                                             rw[show off+1+0=off+1 by omega,hc 1 (by omega),List.getElem?_eq_getElem (by omega)];rfl)
 obtain⟨a2,h2⟩:=opn_vecs _ _ _ b (off+2) r2 z2 (fun j hj=>by obtain rfl:j=0:=by omega
                                                             rw[show off+2+0=off+2 by omega,hc 2 (by omega),List.getElem?_eq_getElem (by omega)];rfl)
 exact⟨⟨a0,a1,a2⟩,h0,h1,h2⟩
theorem allInt_graph:pE enc w 139 6:=vp (k0:=1) (k1:=5) Tryz.underlying139 rfl rfl Tryz.cInt (by kernel_rfl) Tryz.cGraph (vm Tryz.underlying3) (wY Tryz.underlying137 Tryz.underlying3 Tryz.cInt (by kernel_rfl))
theorem allInt_round:pE enc w 141 7:=vp (k0:=6) (k1:=1) Tryz.underlying141 rfl rfl Tryz.cGraph Tryz.cInt Tryz.cRound allInt_graph (vm Tryz.underlying3)
theorem allInt_move:pE enc w 143 8:=vp (k0:=7) (k1:=1) Tryz.underlying143 rfl rfl Tryz.cRound Tryz.cInt Tryz.cMove allInt_round (vm Tryz.underlying3)
theorem opn_round:wl enc w 141 7 mB:=fun fuel cs x b off h _ hc=>by
 have ha:=(allInt_round _ _ _ h).2;obtain⟨n0,e0,i0⟩:=ha 0 (by omega);obtain⟨n1,e1,i1⟩:=ha 1 (by omega);obtain⟨n2,e2,i2⟩:=ha 2 (by omega);obtain⟨n3,e3,i3⟩:=ha 3 (by omega);obtain⟨n4,e4,i4⟩:=ha 4 (by omega);obtain⟨n5,e5,i5⟩:=ha 5 (by omega);obtain⟨n6,e6,i6⟩:=ha 6 (by omega);exact⟨⟨⟨n0,n1,n2,n3,n4,n5⟩,n6⟩,⟨(hc 0 (by omega)).trans e0,i0⟩,⟨(hc 1 (by omega)).trans e1,i1⟩,⟨(hc 2 (by omega)).trans e2,i2⟩,⟨(hc 3 (by omega)).trans e3,i3⟩,⟨(hc 4 (by omega)).trans e4,i4⟩,⟨(hc 5 (by omega)).trans e5,i5⟩,⟨(hc 6 (by omega)).trans e6,i6⟩⟩
theorem opn_move:wl enc w 143 8 Bh:=fun fuel cs x b off h _ hc=>by
 have ha:=(allInt_move _ _ _ h).2;obtain⟨n0,e0,i0⟩:=ha 0 (by omega);obtain⟨n1,e1,i1⟩:=ha 1 (by omega);obtain⟨n2,e2,i2⟩:=ha 2 (by omega);obtain⟨n3,e3,i3⟩:=ha 3 (by omega);obtain⟨n4,e4,i4⟩:=ha 4 (by omega);obtain⟨n5,e5,i5⟩:=ha 5 (by omega);obtain⟨n6,e6,i6⟩:=ha 6 (by omega);obtain⟨n7,e7,i7⟩:=ha 7 (by omega);exact⟨⟨⟨⟨n0,n1,n2,n3,n4,n5⟩,n6⟩,n7⟩,⟨⟨(hc 0 (by omega)).trans e0,i0⟩,⟨(hc 1 (by omega)).trans e1,i1⟩,⟨(hc 2 (by omega)).trans e2,i2⟩,⟨(hc 3 (by omega)).trans e3,i3⟩,⟨(hc 4 (by omega)).trans e4,i4⟩,⟨(hc 5 (by omega)).trans e5,i5⟩,⟨(hc 6 (by omega)).trans e6,i6⟩⟩,(hc 7 (by omega)).trans e7,i7⟩
theorem opn_moves:wl enc w 136 1 Da:=wZ Tryz.underlying136 Tryz.cMove (by omega) (of_decide_eq_true (by kernel_rfl)) opn_move
theorem Xl{l:List Value} (h:l.length=7):∃ c0 c1 c2 c3 c4 c5 c6,l=[c0,c1,c2,c3,c4,c5,c6]:=by
 match l,h with
 | [c0,c1,c2,c3,c4,c5,c6],_=>exact⟨c0,c1,c2,c3,c4,c5,c6,rfl⟩
theorem Tryz.cProb:Tryz.prog.cellsOf 29=7:=by kernel_rfl
theorem Tryz.cTask:Tryz.prog.cellsOf 24=4:=by kernel_rfl
theorem Tryz.cAdv:Tryz.prog.cellsOf 27=2:=by kernel_rfl
theorem Tryz.cCases:Tryz.prog.cellsOf 22=1:=by kernel_rfl
theorem Tryz.cStates:Tryz.prog.cellsOf 25=1:=by kernel_rfl
theorem Nj{fuel:Nat} {c0 c1 c2 c3:Value} {x:DataW H × List MemPlace} (h:gW enc w fuel 24 [c0,c1,c2,c3] x) (hz:oe 24 x.1) :
  ∃ (t:Tk),c0=.int .i64 t.n/\c1=.int .i64 t.ins/\c2=.int .i64 t.outs/\bK w c3 t.cases:=by
 obtain⟨_,n,hf⟩:=i8 Tryz.underlying24 h hz;obtain⟨u0,s0,_⟩:=hf 0 _ rfl;obtain⟨u1,s1,_⟩:=hf 1 _ rfl;obtain⟨u2,s2,_⟩:=hf 2 _ rfl;obtain⟨u3,s3,q3⟩:=hf 3 _ rfl;change gW enc w n 3 (([c0,c1,c2,c3].drop 0).take (Tryz.prog.cellsOf 3)) u0 at s0;change gW enc w n 3 (([c0,c1,c2,c3].drop 1).take (Tryz.prog.cellsOf 3)) u1 at s1;change gW enc w n 3 (([c0,c1,c2,c3].drop 2).take (Tryz.prog.cellsOf 3)) u2 at s2;change gW enc w n 22 (([c0,c1,c2,c3].drop 3).take (Tryz.prog.cellsOf 22)) u3 at s3;change oe 22 u3.1 at q3;rw[Tryz.cInt]at s0 s1 s2;rw[Tryz.cCases]at s3;obtain⟨m0,e0,_,_⟩:=DataW.trod_int Tryz.underlying3 s0;obtain⟨m1,e1,_,_⟩:=DataW.trod_int Tryz.underlying3 s1;obtain⟨m2,e2,_,_⟩:=DataW.trod_int Tryz.underlying3 s2;obtain⟨vc,cases,e3,g3⟩:=oH Tryz.underlying22 Tryz.cCase (by omega) (of_decide_eq_true (by kernel_rfl)) opn_case s3 q3;simp at e0 e1 e2 e3;subst e3;exact⟨⟨m0,m1,m2,cases⟩,e0,e1,e2,g3⟩
theorem Qb{fuel:Nat} {c0 c1:Value} {x:DataW H × List MemPlace} (h:gW enc w fuel 27 [c0,c1] x) (hz:oe 27 x.1) :
  ∃ (a:Adv),c0=.int .i64 a.n/\bh w c1 a.states:=by
 obtain⟨_,n,hf⟩:=i8 Tryz.underlying27 h hz;obtain⟨u0,s0,_⟩:=hf 0 _ rfl;obtain⟨u1,s1,q1⟩:=hf 1 _ rfl;change gW enc w n 3 (([c0,c1].drop 0).take (Tryz.prog.cellsOf 3)) u0 at s0;change gW enc w n 25 (([c0,c1].drop 1).take (Tryz.prog.cellsOf 25)) u1 at s1;change oe 25 u1.1 at q1;rw[Tryz.cInt]at s0;rw[Tryz.cStates]at s1;obtain⟨m0,e0,_,_⟩:=DataW.trod_int Tryz.underlying3 s0;obtain⟨vs,states,e1,g1⟩:=oH Tryz.underlying25 Tryz.cMoves (by omega) (of_decide_eq_true (by kernel_rfl)) opn_moves s1 q1;simp at e0 e1;subst e1;exact⟨⟨m0,states⟩,e0,g1⟩
theorem Nk{fuel:Nat} {cs:List Value} {x:DataW H × List MemPlace} (h:gW enc w fuel 29 cs x) (hz:oe 29 x.1) :
  ∃ (p:Pb) (vc vs:Value),cs=[.int .i64 p.t.n,.int .i64 p.t.ins,.int .i64 p.t.outs,vc,.int .i64 p.a.n,vs,.int .i64 p.rounds]/\bK w vc p.t.cases/\bh w vs p.a.states:=by
 obtain⟨hl,n,hf⟩:=i8 Tryz.underlying29 h hz;rw[Tryz.cProb]at hl;obtain⟨c0,c1,c2,c3,c4,c5,c6,rfl⟩:=Xl hl;obtain⟨y0,r0,z0⟩:=hf 0 _ rfl;obtain⟨y1,r1,z1⟩:=hf 1 _ rfl;obtain⟨y2,r2,z2⟩:=hf 2 _ rfl;change gW enc w n 24 (([c0,c1,c2,c3,c4,c5,c6].drop 0).take (Tryz.prog.cellsOf 24)) y0 at r0;change gW enc w n 27 (([c0,c1,c2,c3,c4,c5,c6].drop 4).take (Tryz.prog.cellsOf 27)) y1 at r1;change gW enc w n 3 (([c0,c1,c2,c3,c4,c5,c6].drop 6).take (Tryz.prog.cellsOf 3)) y2 at r2;rw[Tryz.cTask]at r0;rw[Tryz.cAdv]at r1;rw[Tryz.cInt]at r2;obtain⟨t,rfl,rfl,rfl,g0⟩:=Nj r0 z0;obtain⟨a,rfl,g1⟩:=Qb r1 z1;obtain⟨m6,e6,_,_⟩:=DataW.trod_int Tryz.underlying3 r2;simp at e6;subst e6;exact⟨⟨t,a,m6⟩,c3,c5,rfl,g0,g1⟩
end
end Go.Proofs.YtmeaoneaephjeaaGreatDoor
namespace Go.Proofs.YtmeaoneaephjeaaGreatDoor
def io(s:Nat):List (List Mv)->List (Nat × Mv)
 | []=>[]
 | l :: r=>l.map (fun m=>(s,m))++io (s+1) r
def uh(l:List (List Mv)):List (Nat × Mv):=io 0 l
theorem AH(s:Nat) (l:List (List Mv)):(io s l).length=movesN l:=by
 induction l generalizing s with
 | nil=>rfl
 | cons x r ih=>simp[io,movesN,ih]
theorem wn(l:List (List Mv)):(uh l).length=movesN l:=AH 0 l
def cnt(l:List (List Mv)) (s:Nat):Nat:=movesN (l.take s)
theorem oI(l:List (List Mv)):cnt l 0=0:=by simp[cnt,movesN]
theorem ui(l:List (List Mv)) (s:Nat) (h:l.length<=s):cnt l s=movesN l:=by simp[cnt,List.take_of_length_le h]
theorem oJ(l:List (List Mv)) (s:Nat) (h:s<l.length):cnt l (s+1)=cnt l s+l[s].length:=by
 unfold cnt movesN;rw[List.take_succ_eq_append_getElem h];simp only[List.map_append,List.sum_append,List.map_cons,List.map_nil,List.sum_cons,List.sum_nil,Nat.add_zero]
theorem Gi(l:List (List Mv)) (s:Nat) (h:s<l.length):cnt l s+l[s].length<=movesN l:=by
 rw[<-oJ l s h];have:movesN l=movesN (l.take (s+1))+movesN (l.drop (s+1)):=by unfold movesN;rw[<-List.sum_append,<-List.map_append,List.take_append_drop]
 unfold cnt;omega
theorem Gj(t:Nat) (l:List (List Mv)) (s j:Nat) (hs:s<l.length) (hj:j<l[s].length):(io t l)[cnt l s+j]?=some (t+s,l[s][j]):=by
 induction l generalizing t s with
 | nil=>simp at hs
 | cons x r ih=>
  cases s with
  | zero=>
   simp only[List.getElem_cons_zero]at hj ⊢;simp[io,oI,List.getElem?_append,hj]
  | succ s=>
   have uW:s<r.length:=by simpa using hs
   have mW:j<r[s].length:=by simpa using hj
   have e:cnt (x :: r) (s+1)=x.length+cnt r s:=by simp[cnt,movesN]
   rw[e];simp only[io,List.getElem_cons_succ];rw[List.getElem?_append_right (by simp;omega)];have:x.length+cnt r s+j - (x.map fun m=>(t,m)).length=cnt r s+j:=by simp;omega
   rw[this,ih (t+1) s uW mW];simp;omega
theorem Nl(l:List (List Mv)) (s j:Nat) (hs:s<l.length) (hj:j<l[s].length):(uh l)[cnt l s+j]?=some (s,l[s][j]):=by
 have:=Gj 0 l s j hs hj;rw[Nat.zero_add]at this;exact this
def mvAt(l:List (List Mv)) (i:Nat):Nat × Mv:=(uh l).getD i (0,default)
theorem yV(l:List (List Mv)) (s j:Nat) (hs:s<l.length) (hj:j<l[s].length):mvAt l (cnt l s+j)=(s,l[s][j]):=by
 unfold mvAt;rw[List.getD_eq_getElem?_getD,Nl l s j hs hj];rfl
def mY(a:Adv) (i:Nat):List Mv:=a.states.getD (mvAt a.states i).2.to.toNat []
def pk(a:Adv) (i:Nat):Bool:=anyLt (mY a i).length fun k=>!iA (mvAt a.states i).2.r.f ((mY a i).getD k default).r.f
def growsB(a:Adv):Bool:=!anyLt (movesN a.states) (pk a)
def advE(a:Adv):Int:=
 if a.n<1\/5<a.n then 2
 else if a.states.length<1\/256<a.states.length\/4096<movesN a.states then 5
 else if aZ a.states.length (fun s=>stateE a (a.states.getD s []))≠0 then aZ a.states.length (fun s=>stateE a (a.states.getD s []))
 else if growsB a then 0 else 21
def probE(p:Pb):Int:=
 if taskE p.t≠0 then taskE p.t else if advE p.a≠0 then advE p.a
 else if p.t.n≠p.a.n then 22 else if p.rounds<0\/6<p.rounds then 2 else 0
theorem TU{n f:Int} (h:jQ n f=0):0<=f/\f<32:=by
 unfold jQ iB at h;by_cases hn:n<1\/5<n
 ·rw[if_pos hn]at h;simp at h
 ·rw[if_neg hn]at h
  simp only[ne_eq,not_true_eq_false,if_false]at h;by_cases hf:f<0\/¬ f / 2 ^ n.toNat=0
  ·rw[if_pos hf]at h;simp at h
  ·have h0:0<=f:=by omega
   have hq:f / 2 ^ n.toNat=0:=by omega
   have aA:f<2 ^ n.toNat:=by
    by_cases h':f<2 ^ n.toNat
    ·exact h'
    ·have h1:(1:Int)<=f / 2 ^ n.toNat:=(Int.le_ediv_iff_mul_le (Int.pow_pos (by decide))).2 (by omega)
     omega
   have hp:(2:Int) ^ n.toNat<=32:=by
    have:n=1\/n=2\/n=3\/n=4\/n=5:=by omega
    rcases this with h|h|h|h|h<;>subst h<;>decide
   exact⟨h0,by omega⟩
theorem Dc{a:Adv} {l:List Mv} {j:Nat} (h:dH a l j=0):(0<=(l.getD j default).r.f/\(l.getD j default).r.f<32)/\0<=(l.getD j default).to/\(l.getD j default).to<a.states.length:=by
 unfold dH at h;split at h
 ·omega
 ·rename_i h1
  have Kx:roundE (l.getD j default).r=0:=by simpa using h1
  have hp:jQ (l.getD j default).r.g.n (l.getD j default).r.f=0:=by
   unfold roundE at Kx;split at Kx
   ·omega
   ·exact Kx
  split at h
  ·omega
  ·split at h
   ·omega
   ·split at h
    ·omega
    ·exact⟨TU hp,by omega,by omega⟩
theorem kL{a:Adv} (h:∀ s,s<a.states.length->stateE a (a.states.getD s [])=0) {s j:Nat} (hs:s<a.states.length) (hj:j<a.states[s].length) :
  (0<=a.states[s][j].r.f/\a.states[s][j].r.f<32)/\0<=a.states[s][j].to/\a.states[s][j].to<a.states.length:=by
 have h1:=h s hs;rw[show a.states.getD s []=a.states[s] by simp[hs]]at h1;unfold stateE at h1;rw[if_neg (by omega)]at h1;have:=Dc (fo h1 j hj)
 rwa [show a.states[s].getD j default=a.states[s][j] by simp[hj]]at this
theorem J4(l:List (List Mv)) (i:Nat) (h:i<movesN l):∃ s j,∃ hs:s<l.length,∃ _:j<l[s].length,i=cnt l s+j:=by
 have key:∀ n,n<=l.length->i<cnt l n->∃ s j,∃ hs:s<l.length,∃ _:j<l[s].length,i=cnt l s+j:=by
  intro n;induction n with
  | zero=>intro _ h;rw[oI]at h;omega
  | succ n ih=>
   intro hn h;by_cases aA:i<cnt l n
   ·exact ih (by omega) aA
   ·have xW:n<l.length:=by omega
    rw[oJ l n xW]at h;exact⟨n,i - cnt l n,xW,by omega,by omega⟩
 exact key l.length (Nat.le_refl _) (by rw[ui l _ (Nat.le_refl _)];exact h)
theorem TV{a:Adv} (h:∀ s,s<a.states.length->stateE a (a.states.getD s [])=0) {i:Nat} (hi:i<movesN a.states) :
  (0<=(mvAt a.states i).2.r.f/\(mvAt a.states i).2.r.f<32)/\0<=(mvAt a.states i).2.to/\(mvAt a.states i).2.to<a.states.length:=by
 obtain⟨s,j,hs,hj,rfl⟩:=J4 a.states i hi;rw[yV a.states s j hs hj];exact kL h hs hj
def bU(a:Adv):Nat->Nat->List (List Rd)
 | 0,_=>[[]]
 | k+1,s=>(a.states.getD s []).flatMap fun m=>(bU a k m.to.toNat).map (m.r :: ·)
theorem jR(a:Adv) (k:Nat):∀ s,∀ x∈bU a k s,x.length=k:=by
 induction k with
 | zero=>intro s x hx;simp[bU]at hx;rw[hx];rfl
 | succ k ih=>
  intro s x hx;simp only[bU,List.mem_flatMap,List.mem_map]at hx;obtain⟨m,_,y,hy,rfl⟩:=hx;simp[ih _ y hy]
def pn(L:Int) (c:List Int) (n:Int) (m:Mv):Int:=min (n+c.getD m.to.toNat 0) (L+1)
def AI(L:Int) (c:List Int) (l:List Mv):Int:=l.foldl (pn L c) 0
def yW(L:Int) (a:Adv) (c:List Int):List Int:=a.states.map (AI L c)
def dP(L:Int) (a:Adv):Nat->List Int
 | 0=>List.replicate a.states.length 1
 | k+1=>yW L a (dP L a k)
def numberL(L:Int) (a:Adv) (k:Nat):Int:=(dP L a k).getD 0 0
theorem D7(L:Int) (a:Adv) (k:Nat):(dP L a k).length=a.states.length:=by
 cases k with
 | zero=>simp[dP]
 | succ k=>simp[dP,yW]
def Bj(L:Int) (c:List Int):Prop:=∀ x∈c,0<=x/\x<=L+1
theorem uj{L:Int} (hL:0<=L) {c:List Int} (h:Bj L c) (i:Nat):0<=c.getD i 0/\c.getD i 0<=L+1:=by
 by_cases hi:i<c.length
 ·rw[List.getD_eq_getElem?_getD,List.getElem?_eq_getElem hi];exact h _ (List.getElem_mem hi)
 ·rw[List.getD_eq_getElem?_getD,List.getElem?_eq_none (by omega)];simp;omega
theorem Gk{L:Int} (hL:0<=L) {c:List Int} (h:Bj L c) {n:Int} (hn:0<=n/\n<=L+1) (m:Mv):0<=pn L c n m/\pn L c n m<=L+1:=by
 have:=uj hL h m.to.toNat;unfold pn;omega
theorem Qc{L:Int} (hL:0<=L) {c:List Int} (h:Bj L c) (l:List Mv):∀ n:Int,(0<=n/\n<=L+1)->0<=l.foldl (pn L c) n/\l.foldl (pn L c) n<=L+1:=by
 induction l with
 | nil=>intro n hn;exact hn
 | cons m r ih=>intro n hn;exact ih _ (Gk hL h hn m)
theorem TW{L:Int} (hL:0<=L) {c:List Int} (h:Bj L c) (l:List Mv):0<=AI L c l/\AI L c l<=L+1:=Qc hL h l 0 (by omega)
theorem AJ{L:Int} (hL:0<=L) (a:Adv) (k:Nat):Bj L (dP L a k):=by
 induction k with
 | zero=>intro x hx;rw[(List.mem_replicate.1 hx).2];omega
 | succ k ih=>intro x hx;obtain⟨l,_,rfl⟩:=List.mem_map.1 hx;exact TW hL ih l
theorem Nm{L:Int} (hL:0<=L) (c:List Int) (f:Mv->Int) (l:List Mv) (hc:∀ m∈l,c.getD m.to.toNat 0=min (f m) (L+1)) (hf:∀ m∈l,0<=f m):∀ n s:Int,0<=s->n=min s (L+1) →
  l.foldl (pn L c) n=min (s+(l.map f).sum) (L+1):=by
 induction l with
 | nil=>intro n s _ hn;simp[hn]
 | cons m r ih=>
  intro n s hs hn;have h1:=hc m (by simp);have h2:=hf m (by simp);rw[List.foldl_cons,ih (fun x hx=>hc x (by simp[hx])) (fun x hx=>hf x (by simp[hx])) _ (s+f m) (by omega) ?_,List.map_cons,List.sum_cons]
  ·rw[Int.add_assoc]
  ·unfold pn
   rw[h1,hn];omega
theorem Jr{α β:Type} (l:List α) (f:α->List β):((l.flatMap f).length:Int)=(l.map fun x=>((f x).length:Int)).sum:=by
 induction l with
 | nil=>rfl
 | cons a r ih=>rw[List.flatMap_cons,List.length_append,List.map_cons,List.sum_cons,<-ih];omega
theorem Nn{L:Int} (hL:0<=L) (a:Adv) (oB:∀ s,s<a.states.length->∀ m∈a.states.getD s [],m.to.toNat<a.states.length) (k:Nat):∀ s,s<a.states.length->(dP L a k).getD s 0=min ((bU a k s).length:Int) (L+1):=by
 induction k with
 | zero=>
  intro s hs;simp[dP,bU,hs];omega
 | succ k ih=>
  intro s hs
  have h1:(dP L a (k+1)).getD s 0=AI L (dP L a k) (a.states.getD s []):=by
   simp[dP,yW,hs]
  rw[h1];unfold AI;rw[Nm hL (dP L a k) (fun m=>((bU a k m.to.toNat).length:Int)) _ (fun m hm=>ih _ (oB s hs m hm)) (fun m _=>by omega) 0 0 (by omega) (by omega)];simp only[bU];rw[Jr];simp
theorem qI{L:Int} (hL:0<=L) (a:Adv) (oB:∀ s,s<a.states.length->∀ m∈a.states.getD s [],m.to.toNat<a.states.length) (h0:0<a.states.length) (k:Nat):numberL L a k=min ((bU a k 0).length:Int) (L+1):=Nn hL a oB k 0 h0
theorem Xm{a:Adv} (h:∀ s,s<a.states.length->stateE a (a.states.getD s [])=0):∀ s,s<a.states.length->∀ m∈a.states.getD s [],m.to.toNat<a.states.length:=fun s hs m hm=>by
 obtain⟨j,hj,rfl⟩:=List.mem_iff_getElem.1 hm;have h1:=h s hs;unfold stateE at h1;split at h1
 ·cases h1
 have h2:=fo h1 j hj;have h3:=(Dc h2).2;have e:(a.states.getD s []).getD j default=(a.states.getD s [])[j]:=by rw[List.getD_eq_getElem?_getD,List.getElem?_eq_getElem hj];rfl
 rw[e]at h3;omega
structure Vw where
 p:Int
 k:Int
 i:Int
 h0:Int
 h1:Int
 h2:Int
 h3:Int
 h4:Int
instance:Inhabited Vw:=⟨⟨0,0,0,0,0,0,0,0⟩⟩
instance:DecidableEq Vw:=fun a b=>decidable_of_iff (a.p=b.p/\a.k=b.k/\a.i=b.i/\a.h0=b.h0/\a.h1=b.h1/\a.h2=b.h2/\a.h3=b.h3/\a.h4=b.h4) (by cases a;cases b;simp)
structure Ex where
 c:Int
 word:List Rd
 views:List (List Int)
structure Sys where
 prob:Pb
 n:Int
 tab:List Vw
 ex:List Ex
def putV(tb:List Vw) (v:Vw):List Vw × Nat:=if v∈tb then(tb,tb.idxOf v) else(tb++[v],tb.length)
def gO(st:List Vw × List Int) (v:Vw):List Vw × List Int:=((putV st.1 v).1,st.2++[((putV st.1 v).2:Int)])
def addAll(tb:List Vw) (vs:List Vw):List Vw × List Int:=vs.foldl gO (tb,[])
theorem tm(tb:List Vw) (vs:List Vw) (k:Nat) (hk:k<vs.length):addAll tb (vs.take (k+1))=gO (addAll tb (vs.take k)) vs[k]:=by
 unfold addAll;rw[List.take_succ_eq_append_getElem hk,List.foldl_append];rfl
theorem D8(st:List Vw × List Int) (v:Vw):(gO st v).2.length=st.2.length+1/\(gO st v).1.length<=st.1.length+1:=by
 unfold gO putV;refine⟨by simp,?_⟩;split<;>simp
theorem fA(vs:List Vw):∀ st:List Vw × List Int,(vs.foldl gO st).2.length=st.2.length+vs.length/\(vs.foldl gO st).1.length<=st.1.length+vs.length:=by
 induction vs with
 | nil=>intro st;simp
 | cons v r ih=>
  intro st;have h1:=ih (gO st v);have h2:=D8 st v;simp only[List.foldl_cons,List.length_cons];omega
def dS(inp:List Int) (p:Nat):Vw:=⟨p,0,inp.getD p 0,-1,-1,-1,-1,-1⟩
def lG(n:Nat) (r:Rd) (now:List Int) (p q:Nat):Int:=if q<n/\hasB (r.g.hear p) q=true then now.getD q 0 else -1
def nextV(n k:Nat) (r:Rd) (now:List Int) (p:Nat):Vw:=⟨p,k+1,0,lG n r now p 0,lG n r now p 1,lG n r now p 2,lG n r now p 3,lG n r now p 4⟩
def uk(n:Nat) (inp:List Int) (tb:List Vw):List Vw × List Int:=addAll tb ((List.range n).map (dS inp))
def Li(n k:Nat) (r:Rd) (st:List Vw × List (List Int)):List Vw × List (List Int):=
 let a:=addAll st.1 ((List.range n).map (nextV n k r (st.2.getLastD [])))
 (a.1,st.2++[a.2])
def playTo(n:Nat) (inp:List Int) (word:List Rd) (tb:List Vw):Nat->List Vw × List (List Int)
 | 0=>let a:=uk n inp tb;(a.1,[a.2])
 | k+1=>Li n k (word.getD k default) (playTo n inp word tb k)
def gh(n:Nat) (inp:List Int) (word:List Rd) (tb:List Vw):List Vw × List (List Int):=playTo n inp word tb word.length
def ja(cases words:Nat):List (Nat × Nat):=(List.range cases).flatMap fun c=>(List.range words).map fun w=>(c,w)
def jS(p:Pb) (words:List (List Rd)) (st:List Vw × List Ex) (x:Nat × Nat):List Vw × List Ex:=
 let a:=gh p.t.n.toNat (p.t.cases.getD x.1 default).inp (words.getD x.2 []) st.1
 (a.1,st.2++[⟨x.1,words.getD x.2 [],a.2⟩])
def execsS(p:Pb) (words:List (List Rd)) (l:List (Nat × Nat)):List Vw × List Ex:=l.foldl (jS p words) ([],[])
def aK(p:Pb):List (List Rd):=bU p.a p.rounds.toNat 0
def aM(p:Pb):Sys:=
 let a:=execsS p (aK p) (ja p.t.cases.length (aK p).length)
 ⟨p,p.t.n,a.1,a.2⟩
def buildE(p:Pb):Int:=if probE p≠0 then probE p else if 4096<p.t.cases.length * (aK p).length then 17 else if 8192<(aM p).tab.length then 17 else 0
end Go.Proofs.YtmeaoneaephjeaaGreatDoor
namespace Go.Proofs.YtmeaoneaephjeaaGreatDoor
open Go.RowKit Go Go.Shelf
structure Chg (B:Nat) (A A':World):Prop where
 os:A'.os=A.os
 tape:A'.tape=A.tape
 output:A'.output=A.output
 size:A.heap.size<=A'.heap.size
 same:∀ (k:Nat) (o:Obj),A.heap[k]?=some o->(k<B\/o.isCells=true)->A'.heap[k]?=some o
theorem Chg.of_below{B:Nat} {A A':World} (h:Below A.heap.size A A'):Chg B A A':=⟨h.os,h.tape,h.output,h.size,fun _ _ hk _=>af h hk⟩
theorem Chg.ck{B:Nat} {A A':World} (h:Chg B A A'):CK A A':=fun k o hk ho=>h.same k o hk (.inr ho)
theorem Chg.put{B:Nat} {A:World} {l:Nat} {o:Obj} (o':Obj) (hl:A.heap[l]?=some o) (hB:B<=l) (ho:o.isCells=false):Chg B A (A.putObj l o'):=
 ⟨rfl,rfl,rfl,by simp,fun k x hk hx=>by
  by_cases e:k=l
  ·subst e;rw[hl]at hk;cases hk
   rcases hx with hx|hx
   ·omega
   ·rw[ho]at hx;cases hx
  ·exact(World.putObj_heap_other e).trans hk⟩
theorem Chg.below{B n:Nat} {w A A':World} (h:Chg B A A') (hn:n<=B) (hs:n<=A.heap.size) (hb:Below n w A):Below n w A':=
 ⟨h.os.trans hb.os,h.tape.trans hb.tape,h.output.trans hb.output,Nat.le_trans hb.size h.size,fun k hk=>by
  have aA:k<A.heap.size:=by omega
  have h1:A.heap[k]?=some A.heap[k]:=Array.getElem?_eq_getElem aA
  rw[h.same k _ h1 (.inl (by omega)),<-h1];exact hb.block k hk⟩
def cB(B:Nat) (I:World->Prop):Prop:=∀ A A',Chg B A A'->I A->I A'
theorem cB.and{B:Nat} {I J:World->Prop} (h:cB B I) (k:cB B J):cB B (fun W=>I W/\J W):=fun A A' c x=>⟨h A A' c x.1,k A A' c x.2⟩
theorem cB.below{B:Nat} {w:World} (h:w.heap.size<=B):cB B (fun W=>Below w.heap.size w W):=fun _ _ c x=>c.below h x.size x
theorem cB.cells{B b:Nat} {c:Array Value} {t:TypeId} {f:Nat × Nat}:cB B (fun W=>W.heap[b]?=some (.cells c t f)):=fun _ _ c x=>c.same _ _ x (.inr rfl)
theorem cB.pure{B:Nat} {p:Prop}:cB B (fun _=>p):=fun _ _ _ x=>x
structure Bod (B:Nat) (S:Nat->Prop) (W W':World):Prop where
 size:W.heap.size<=W'.heap.size
 keep:∀ k,S k->W'.heap[k]?=W.heap[k]?
 same:∀ (k:Nat) (o:Obj),B<=k->W.heap[k]?=some o->o.isCells=false->W'.heap[k]?=some o
theorem Bod.refl(B:Nat) (S:Nat->Prop) (W:World):Bod B S W W:=⟨Nat.le_refl _,fun _ _=>rfl,fun _ _ _ h _=>h⟩
theorem Bod.trans{B:Nat} {S:Nat->Prop} {X Y Z:World} (h:Bod B S X Y) (k:Bod B S Y Z):Bod B S X Z:=
 ⟨Nat.le_trans h.size k.size,fun i hi=>(k.keep i hi).trans (h.keep i hi),fun i o hB hi ho=>k.same i o hB (h.same i o hB hi ho) ho⟩
theorem Bod.of_below{B:Nat} {S:Nat->Prop} {W W':World} (hS:∀ k,S k->k<W.heap.size) (h:Below W.heap.size W W'):Bod B S W W':=
 ⟨h.size,fun k hk=>h.block k (hS k hk),fun _ _ _ hk _=>af h hk⟩
theorem Bod.setCell{B:Nat} {S:Nat->Prop} (W:World) (p:Addr) (v:Value) (hp:¬ S p.block):Bod B S W (W.setCell p v):=
 ⟨by simp,fun k hk=>Below.heap_setCell _ _ _ _ (fun e=>hp (e ▸ hk)),fun k o _ hk ho=>(KeepsOthers.setCell W p v).same k o hk ho⟩
theorem Bod.put{S:Nat->Prop} (W:World) {l:Nat} (o':Obj) (hS:¬ S l):Bod (l+1) S W (W.putObj l o'):=
 ⟨by simp,fun k hk=>World.putObj_heap_other (fun e=>hS (e ▸ hk)),fun k x hk hx _=>(World.putObj_heap_other (by omega)).trans hx⟩
theorem Bod.mono{B C:Nat} {S:Nat->Prop} {W W':World} (h:Bod B S W W') (hB:B<=C):Bod C S W W':=⟨h.size,h.keep,fun k o hk hx ho=>h.same k o (Nat.le_trans hB hk) hx ho⟩
def rR(P:Program) (g:Nat) (lb:Array Value) (encs:Nat->Array Value) (N:Nat) (S:Nat->Prop) (w:World):Prop:=
 ∀ (l:Nat) (J Jx:Nat->World->Prop) (W:World),Below w.heap.size w W →
  (∀ i A A',J i A->Below A.heap.size A A'->J i A')->(∀ i A A',Jx i A->Below A.heap.size A A'->Jx i A') →
  (∀ i W1,i<N->J i W1->YieldAt Fence.wide 0 P l (encs i) W1 fun e W'=>
   (e=.returned (.bool true)/\J (i+1) W'/\W1.heap.size<=W'.heap.size/\∀ k,S k->W'.heap[k]?=W1.heap[k]?)\/(e=.returned (.bool false)/\Jx (i+1) W')) →
  J 0 W →
  Calls P g (#[.func (.yield l) #[] #[]]++lb) W fun e W'=>(∃ v,e=.returned v)/\(J N W'\/∃ i,i<=N/\Jx i W')
def Lj(B:Nat) (S:Nat->Prop) (I:Nat->World->Prop) (Ix:Code->Nat->World->Prop) (i:Nat) (W:World):Exit->Act->World->Prop
 | .normal,_,W'=>Bod B S W W'/\I i W'
 | .ret,_,W'=>Bod B S W W'/\Ix .ret i W'
 | .exit id,_,W'=>Bod B S W W'/\Ix (.exit id) i W'
 | .goto t,_,W'=>Bod B S W W'/\Ix (.goto t) i W'
 | .panic _,_,_=>False
 | .outgrown,_,_=>False
abbrev gX(D:Nat):Deferred:={ target:=.collected D,args:=#[] }
theorem Gl{P:Program} {B:Nat} {S:Nat->Prop} {ps:Array Tmp} {assign body:Code} {tmps:Array Value} {l i:Nat} {I:Nat->World->Prop} {Ix:Code->Nat->World->Prop} {W:World} {args:Array Value} {r:Loop} (R:Ending->World->Prop)
  (uO:B<=l) (qB:¬ S l) (hr:r.params=ps/\r.assign=assign/\r.body=body/\r.tmps=tmps/\r.state=.ready/\r.pending=none) (hl:W.heap[l]?=some (.loop r)) (xT:args.size=ps.size)
  (k9:assign.wpIn (Fence.wide.inRound l) 0 P (Exit.then (fun a1 W1=>Bod B S W W1/\∃ Ax:World->Prop,cB B Ax/\Ax W1/\∀ W2,Ax W2->(∃ r,W2.heap[l]?=some (.loop r))->body.wpIn (Fence.wide.inRound l) 0 P (Lj B S I Ix (i+1) W2) a1 W2) (fun _ _ _=>False))
   { tmps:=(ps.zip args).foldl (fun t (p,v)=>t.setIfInBounds p v) tmps,defers:=[] } W)
  (ro:∀ W3 W4,W.heap.size<=W3.heap.size->Bod (l+1) S W W4->W4.heap[l]?=some (.loop r)->Chg B W3 W4->I (i+1) W3->(∀ k o,B<=k->k≠l->W.heap[k]?=some o->o.isCells=false->W4.heap[k]?=some o)->R (.returned (.bool true)) W4)
  (l3:∀ c W3 W4,W.heap.size<=W3.heap.size->Bod (l+1) S W W4->W4.heap[l]?=some (.loop { r with state:=.done,pending:=some c })->Chg B W3 W4->Ix c (i+1) W3->(∀ k o,B<=k->k≠l->W.heap[k]?=some o->o.isCells=false->W4.heap[k]?=some o)->R (.returned (.bool false)) W4) :
  YieldAt Fence.wide 0 P l args W R:=by
 obtain⟨h1,h2,h3,h4,h5,h6⟩:=hr;refine⟨r.fn,_,r.assign,r.body,run_yield hl (by rw[h1];exact xT),roundIn_of_wpIn trivial ?_⟩;rw[h1,h2,h3,h4];refine wpIn_mono k9 ?_;rintro e a1 W1 hp;cases e<;>first|exact hp.elim|skip
 obtain⟨Be,Ax,VV,VX,MG⟩:=hp;have ie:W1.heap[l]?=some (.loop r):=Be.same l _ uO hl rfl;have mP:(W1.putObj l (.loop { r with state:=.busy })).heap[l]?=some (.loop { r with state:=.busy }):=World.putObj_heap_same (aB ie);have aU:Bod (l+1) S W (W1.putObj l (.loop { r with state:=.busy })):=(Be.mono (by omega)).trans (Bod.put _ _ qB)
 have n8:∀ k o,B<=k->k≠l->W.heap[k]?=some o->o.isCells=false->(W1.putObj l (.loop { r with state:=.busy })).heap[k]?=some o:=
  fun k o hk bJ ho hc=>(World.putObj_heap_other bJ).trans (Be.same k o hk ho hc)
 refine⟨_,run_beginRound ie h5,wpIn_mono (MG _ (VV _ _ (Chg.put _ ie uO rfl) VX) ⟨_,mP⟩) ?_⟩;generalize W1.putObj l (.loop { r with state:=.busy })=W2 at mP aU n8;rintro e a3 W3 hp
 have fin:∀ (jump:Option Code),Bod B S W2 W3->(Instr.endRound l jump).run P W3=.ok (.bool jump.isNone) (W3.putObj l (.loop { r with state:=if jump.isNone then .ready else .done,pending:=jump })) ∧
   (W3.putObj l (.loop { r with state:=if jump.isNone then .ready else .done,pending:=jump })).heap[l]?=some (.loop { r with state:=if jump.isNone then .ready else .done,pending:=jump }) ∧
   Chg B W3 (W3.putObj l (.loop { r with state:=if jump.isNone then .ready else .done,pending:=jump }))/\Bod (l+1) S W (W3.putObj l (.loop { r with state:=if jump.isNone then .ready else .done,pending:=jump })) ∧
   (∀ k o,B<=k->k≠l->W.heap[k]?=some o->o.isCells=false->(W3.putObj l (.loop { r with state:=if jump.isNone then .ready else .done,pending:=jump })).heap[k]?=some o):=fun jump bC=>by
  have sI:=bC.same l _ uO mP rfl
  exact⟨run_endRound (r:={ r with state:=.busy }) jump sI,World.putObj_heap_same (aB sI),Chg.put _ sI uO rfl,(aU.trans (bC.mono (by omega))).trans (Bod.put _ _ qB),
   fun k o hk bJ ho hc=>(World.putObj_heap_other bJ).trans (bC.same k o hk (n8 k o hk bJ ho hc) hc)⟩
 cases e with
 | normal=>
  obtain⟨bC,hi⟩:=hp;obtain⟨f1,f2,f3,f4,f5⟩:=fin none bC;refine⟨_,_,f1,ro W3 _ (Nat.le_trans aU.size bC.size) f4 ?_ f3 hi f5⟩;rw[f2];cases r;simp_all
 | ret=>
  obtain⟨bC,hi⟩:=hp;obtain⟨f1,f2,f3,f4,f5⟩:=fin (some .ret) bC;exact⟨_,_,f1,l3 .ret W3 _ (Nat.le_trans aU.size bC.size) f4 f2 f3 hi f5⟩
 | exit id=>
  obtain⟨bC,hi⟩:=hp;obtain⟨f1,f2,f3,f4,f5⟩:=fin (some (.exit id)) bC;exact⟨_,_,f1,l3 (.exit id) W3 _ (Nat.le_trans aU.size bC.size) f4 f2 f3 hi f5⟩
 | goto t=>
  obtain⟨bC,hi⟩:=hp;obtain⟨f1,f2,f3,f4,f5⟩:=fin (some (.goto t)) bC;exact⟨_,_,f1,l3 (.goto t) W3 _ (Nat.le_trans aU.size bC.size) f4 f2 f3 hi f5⟩
 | panic ch=>exact hp.elim
 | outgrown=>exact hp.elim
theorem mj{P:Program} {g:Operand} {ps:Array Tmp} {assign body:Code} {Q:Exit->Act->World->Prop} {a:Act} {w:World}
  {gf:Nat} {lb:Array Value} (hg:a.eval g=.func (.func gf) #[] lb) (eg:∀ args w,(callFunc gf args).run P w=.ok (.enter gf args) w)
  {encs:Nat->Array Value} {N:Nat} {S:Nat->Prop} {w0:World} (cY:rR P gf lb encs N S w0) (aH:Below w0.heap.size w0 w) (hS:∀ k,S k->k<w.heap.size) (xT:∀ i,(encs i).size=ps.size)
  (I:Nat->World->Prop) (Ix:Code->Nat->World->Prop) (hI:∀ i,cB w.heap.size (I i)) (sE:∀ c i,cB w.heap.size (Ix c i)) (h0:I 0 w)
  (k9:∀ l i W,i<N->w.heap.size<=l->I i W →
   assign.wpIn (Fence.wide.inRound l) 0 P (Exit.then (fun a1 W1=>Bod w.heap.size S W W1/\∃ Ax:World->Prop,cB w.heap.size Ax/\Ax W1/\∀ W2,Ax W2->(∃ r,W2.heap[l]?=some (.loop r))->body.wpIn (Fence.wide.inRound l) 0 P (Lj w.heap.size S I Ix (i+1) W2) a1 W2) (fun _ _ _=>False))
    { tmps:=(ps.zip (encs i)).foldl (fun t (p,v)=>t.setIfInBounds p v) a.tmps,defers:=[] } W)
  (vZ:∀ D W,w.heap.size<=D->I N W->W.heap[D]?=some (.deferred (some []))->Q .normal { a with defers:=gX D :: a.defers } W)
  (v8:∀ D c i W,w.heap.size<=D->i<=N->Ix c i W->W.heap[D]?=some (.deferred (some []))->c.wp P Q { a with defers:=gX D :: a.defers } W) :
  (Code.rangeFunc g ps assign body).wp P Q a w:=by
 refine(wpIn_wide (n:=0)).1 (wpIn_rangeFunc ?_);intro fn _;obtain⟨rec,j7⟩:∃ rec:Loop,rec={ state:=.ready,pending:=none,fn,tmps:=a.tmps,params:=ps,assign,body,defers:=w.heap.size }:=⟨_,rfl⟩;obtain⟨W1,cD⟩:∃ W1,(w.alloc (.deferred (some []))).alloc (.loop rec)=W1:=⟨_,rfl⟩
 have IN:W1.heap[w.heap.size+1]?=some (.loop rec):=by
  rw[<-cD];have:=am (w.alloc (.deferred (some []))) (.loop rec);rwa [World.size_alloc]at this
 have I7:W1.heap[w.heap.size]?=some (.deferred (some [])):=by rw[<-cD];exact ap _ (am w _)
 have rI:Below w.heap.size w W1:=by rw[<-cD];exact((Below.refl _ w).alloc (Nat.le_refl _) _).alloc (by simp) _
 have PD:¬ S (w.heap.size+1):=fun h=>by have:=hS _ h;omega
 refine⟨w.heap.size+1,[gX w.heap.size],W1,{ target:=.fn (.func gf) lb,args:=#[.func (.yield (w.heap.size+1)) #[] #[]] },W1,gf,
  #[.func (.yield (w.heap.size+1)) #[] #[]]++lb,W1,?_,?_,fun _ _=>trivial,?_,fun h=>(by simp[Fence.wide]at h),?_⟩
 ·rw[<-cD,j7];exact run_enterLoop_outer _ _ _ _ _
 ·simp only[resolve,hg]
  simp[go_sem]
 ·simp[invoke,go_sem,eg]
 ·refine(callsIn_wide (n:=0 - 1)).2 ?_
  refine(cY (w.heap.size+1)
   (fun i W=>I i W/\W.heap[w.heap.size+1]?=some (.loop rec)/\W.heap[w.heap.size]?=some (.deferred (some [])))
   (fun i W=>∃ c,Ix c i W/\W.heap[w.heap.size+1]?=some (.loop { rec with state:=.done,pending:=some c })/\W.heap[w.heap.size]?=some (.deferred (some [])))
   W1 (ae aH rI)
   (fun i A A' h hb=>⟨hI i A A' (.of_below hb) h.1,af hb h.2.1,af hb h.2.2⟩)
   (fun i A A' h hb=>by obtain⟨c,h1,h2,h3⟩:=h;exact⟨c,sE c i A A' (.of_below hb) h1,af hb h2,af hb h3⟩)
   ?_ ⟨hI 0 _ _ (.of_below rI) h0,IN,I7⟩).mono ?_
  ·rintro i W hi ⟨Jl,hl,hk⟩
   refine Gl (B:=w.heap.size) (S:=S) (ps:=ps) (assign:=assign) (body:=body) (tmps:=a.tmps) (i:=i) (I:=I) (Ix:=Ix) _ (by omega) PD (by rw[j7];simp) hl (xT i) (k9 _ i W hi (by omega) Jl) ?_ ?_
   ·intro W3 W4 _ bQ n9 hc rM lD
    exact .inl ⟨rfl,⟨hI _ _ _ hc rM,n9,lD _ _ (Nat.le_refl _) (by omega) hk rfl⟩,bQ.size,bQ.keep⟩
   ·intro c W3 W4 _ _ n9 hc rM lD
    exact .inr ⟨rfl,c,sE _ _ _ _ hc rM,n9,lD _ _ (Nat.le_refl _) (by omega) hk rfl⟩
  ·rintro e W2 ⟨⟨v,rfl⟩,(⟨hi,hl,hk⟩|⟨i,cO,c,hi,hl,hk⟩)⟩
   ·exact⟨none,_,by have:=run_endLoop (P:=P) hl (by rw[j7];simp);rw[this,j7],vZ _ _ (Nat.le_refl _) (hI _ _ _ (Chg.put _ hl (by omega) rfl) hi) ((World.putObj_heap_other (by omega)).trans hk)⟩
   ·exact⟨some c,_,by have:=run_endLoop (P:=P) hl (by simp);rw[this],wpIn_wide.2 (v8 _ c i _ (Nat.le_refl _) cO (sE _ _ _ _ (Chg.put _ hl (by omega) rfl) hi) ((World.putObj_heap_other (by omega)).trans hk))⟩
theorem fQ{P:Program} {f:FuncId} {fn:Func} {c:Code} {args:Array Value} {w:World} {R:Ending->World->Prop}
  (hf:P.funcs[f]?=some fn) (hb:fn.body=some c)
  (h:c.wp P (bodyPostM Fence.wide 0 P fn R) { tmps:=args++Array.replicate (fn.ntmps - args.size) undef,defers:=[] } w):Calls P f args w R:=
 callsIn_wide.1 (callsIn_of_wp_marks hf hb trivial (wpIn_wide.2 h))
theorem ip{P:Program} {fn:Func} {R:Ending->World->Prop} {tmps:Array Value} {D:Nat} {W:World} {v:Value} (hK:W.heap[D]?=some (.deferred (some [])))
  (hv:(results fn tmps).run P (W.putObj D (.deferred none))=.ok v (W.putObj D (.deferred none))) (h:R (.returned v) (W.putObj D (.deferred none))) :
  bodyPostM Fence.wide 0 P fn R .ret { tmps:=tmps,defers:=[gX D] } W:=
 ⟨by simp,.inl ⟨_,_,rfl,run_takeDeferred hK,⟨v,hv,h⟩⟩⟩
theorem No{P:Program} {fn:Func} {R:Ending->World->Prop} {tmps:Array Value} {D:Nat} {W:World} {v:Value} (hK:W.heap[D]?=some (.deferred (some [])))
  (hv:(results fn tmps).run P (W.putObj D (.deferred none))=.ok v (W.putObj D (.deferred none))) (h:R (.returned v) (W.putObj D (.deferred none))) :
  bodyPostM Fence.wide 0 P fn R .normal { tmps:=tmps,defers:=[gX D] } W:=
 ⟨by simp,.inl ⟨_,_,rfl,run_takeDeferred hK,⟨v,hv,h⟩⟩⟩
theorem ig{P:Program} {fn:Func} {R:Ending->World->Prop} {tmps:Array Value} {W:World} {v:Value}
  (hv:(results fn tmps).run P W=.ok v W) (h:R (.returned v) W):bodyPostM Fence.wide 0 P fn R .ret { tmps:=tmps,defers:=[] } W:=⟨v,hv,h⟩
theorem eH{n:Nat} {w W:World} {D:Nat} {o:Obj} (hn:n<=D) (h:Below n w W):Below n w (W.putObj D o):=
 ⟨h.os,h.tape,h.output,by simpa using h.size,fun k hk=>(World.putObj_heap_other (by omega)).trans (h.block k hk)⟩
end Go.Proofs.YtmeaoneaephjeaaGreatDoor
namespace Go.Proofs.YtmeaoneaephjeaaGreatDoor
open Go
theorem zx(a b:Nat) (ha:a<9223372036854775808) (hb:b<9223372036854775808):bits .and .i64 (a:Int) (b:Int)=((a &&& b:Nat):Int):=by
 have hx:a &&& b<2 ^ 63:=Nat.and_lt_two_pow _ (by omega)
 show IntKind.i64.wrap ((BitVec.ofInt 64 (a:Int) &&& BitVec.ofInt 64 (b:Int)).toNat:Int)=_
 rw[BitVec.toNat_and,ofInt_u64 a (by omega),ofInt_u64 b (by omega)];simp[IntKind.wrap,IntKind.bits,IntKind.signed];omega
theorem vu(a b:Nat) (ha:a<9223372036854775808) (hb:b<9223372036854775808):bits .or .i64 (a:Int) (b:Int)=((a ||| b:Nat):Int):=by
 have hx:a ||| b<2 ^ 63:=Nat.or_lt_two_pow (by omega) (by omega)
 show IntKind.i64.wrap ((BitVec.ofInt 64 (a:Int) ||| BitVec.ofInt 64 (b:Int)).toNat:Int)=_
 rw[BitVec.toNat_or,ofInt_u64 a (by omega),ofInt_u64 b (by omega)];simp[IntKind.wrap,IntKind.bits,IntKind.signed];omega
theorem Gm(a:Int):bits .and .i64 a 1=a % 2:=by
 show IntKind.i64.wrap ((BitVec.ofInt 64 a &&& BitVec.ofInt 64 ((1:Nat):Int)).toNat:Int)=_
 rw[BitVec.toNat_and,ofInt_u64 1 (by omega),Nat.and_one_is_mod,BitVec.toNat_ofInt];simp[IntKind.wrap,IntKind.bits,IntKind.signed];omega
theorem rS(x:Int) (p:Nat):(bits .and .i64 (x / 2 ^ p) 1 == 0)=!hasB x p:=by
 rw[Gm];unfold hasB;rcases (show x / 2 ^ p % 2=0\/x / 2 ^ p % 2=1 by omega) with h|h<;>rw[h]<;>rfl
theorem qJ(x:Int) (p:Nat):(bits .and .i64 (x / 2 ^ p) 1 == 1)=hasB x p:=by
 rw[Gm];unfold hasB;rfl
theorem mZ(x:Int) (h0:0<=x) (p:Nat):hasB x p=x.toNat.testBit p:=by
 obtain⟨A,rfl⟩:=Int.eq_ofNat_of_zero_le h0;unfold hasB;rw[Int.toNat_natCast,Nat.testBit_eq_decide_div_mod_eq];have:((A:Int) / 2 ^ p % 2)=((A / 2 ^ p % 2:Nat):Int):=by simp
 rw[this,Bool.eq_iff_iff];simp only[beq_iff_eq,decide_eq_true_eq];omega
theorem FL(x y:Int) (cN:0<=x) (hx:x<32) (iR:0<=y) (hy:y<32):(bits .andNot .i64 x y != 0)=!iA x y:=by
 obtain⟨A,rfl⟩:=Int.eq_ofNat_of_zero_le cN;obtain⟨B,rfl⟩:=Int.eq_ofNat_of_zero_le iR;have hA:A<32:=by omega
 have hB:B<32:=by omega
 have key:∀ a:Fin 32,∀ b:Fin 32,(bits .andNot .i64 ((a.val:Nat):Int) ((b.val:Nat):Int) != 0)=!iA ((a.val:Nat):Int) ((b.val:Nat):Int):=by decide +kernel
 exact key ⟨A,hA⟩ ⟨B,hB⟩
end Go.Proofs.YtmeaoneaephjeaaGreatDoor
namespace Go.Proofs.YtmeaoneaephjeaaGreatDoor
open Go.RowKit Go
theorem D9(n:Int) (w:World) :
  Calls Tryz.prog 226 #[.int .i64 n] w fun e w'=>e=.returned (.int .i64 (iB n))/\w=w':=by
 go_enter Tryz.func226,Tryz.ntmps226
 go_wp2
 all_goals go_ret;exact⟨aD (by unfold iB;first|rw[if_pos (by omega)]|rw[if_neg (by omega)]),rfl⟩
theorem AK(n x:Int) (w:World) :
  Calls Tryz.prog 223 #[.int .i64 n,.int .i64 x] w fun e w'=>e=.returned (.int .i64 (jQ n x))/\w=w':=by
 by_cases hn:n<1\/5<n
 ·have hp:iB n=1:=by unfold iB;rw[if_pos hn]
  have hc:=D9 n w;rw[hp]at hc;have H:=aa hp;clear hp
  go_enter Tryz.func223,Tryz.ntmps223
  go_wp2_with (go_at_call 226;refine hc.mono ?_;rintro e w' ⟨rfl,rfl⟩)
  go_ret;exact⟨aD (by unfold jQ;rw[H.out];rfl),rfl⟩
 ·have hp:iB n=0:=by unfold iB;rw[if_neg hn]
  have hc:=D9 n w;rw[hp]at hc;have H:=aa hp;clear hp;have h1:1<=n:=by omega
  have h2:n<=5:=by omega
  clear hn
  go_enter Tryz.func223,Tryz.ntmps223
  go_wp2_with (go_at_call 226;refine hc.mono ?_;rintro e w' ⟨rfl,rfl⟩)
  all_goals
   go_ret
   refine⟨aD ?_,rfl⟩
   go_light
   unfold jQ;rw[H.out]
   grind
theorem Ll(g:Gr) (k:Nat) (hk:k<5) (w:World):(Instr.index 137 (.agg #[.int .i64 g.h0,.int .i64 g.h1,.int .i64 g.h2,.int .i64 g.h3,.int .i64 g.h4]) (.int .i64 k)).run Tryz.prog w=.ok (.int .i64 (g.hear k)) w:=by
 have:k=0\/k=1\/k=2\/k=3\/k=4:=by omega
 rcases this with h|h|h|h|h<;>(subst h;with_reducible refine Eq.trans ?_ (Eq.refl _);kernel_rfl)
theorem Qd(n:Int) (w:World) (h1:1<=n) (h2:n<=5) :
  Calls Tryz.prog 225 #[.int .i64 n] w fun e w'=>e=.returned (.int .i64 (2 ^ n.toNat - 1))/\w=w':=by
 have:n=1\/n=2\/n=3\/n=4\/n=5:=by omega
 rcases this with rfl|rfl|rfl|rfl|rfl
 all_goals
  go_enter Tryz.func225,Tryz.ntmps225
  go_wp2
  go_ret
  exact⟨rfl,rfl⟩
theorem Dd(g:Gr) (w:World) :
  Calls Tryz.prog 222 #[g.v] w fun e w'=>e=.returned (.int .i64 (gF g))/\Below w.heap.size w w':=by
 obtain⟨n,h0,h1,h2,h3,h4⟩:=g;by_cases hn:n<1\/5<n
 ·have H:Hid (gF ⟨n,h0,h1,h2,h3,h4⟩=2):=by unfold gF;rw[if_pos hn];rfl
  rcases hn with hn|hn
  ·go_enter Tryz.func222,Tryz.ntmps222
   go_wp2
   go_ret;exact⟨aD H.out.symm,by go_grown⟩
  ·have xW:¬ n<1:=by omega
   go_enter Tryz.func222,Tryz.ntmps222
   go_wp2
   go_ret;exact⟨aD H.out.symm,by go_grown⟩
 have jP:1<=n:=by omega
 have nW:n<=5:=by omega
 have HE:Hid (gF ⟨n,h0,h1,h2,h3,h4⟩=aZ 5 fun p=>l5 n (Gr.hear ⟨n,h0,h1,h2,h3,h4⟩ p) p):=by unfold gF;rw[if_neg hn];rfl
 clear hn
 go_enter Tryz.func222,Tryz.ntmps222
 go_wp2
 go_loop [15] (fun i=>∃ k:Nat,k<=5/\i=.int .i64 k/\∀ j,j<k->l5 n (Gr.hear ⟨n,h0,h1,h2,h3,h4⟩ j) j=0) (fun i=>5 - (intOf i).toNat)
 case atStart=>exact⟨0,by omega,rfl,by simp⟩
 case round=>
  obtain⟨k,hk,rfl,aR⟩:=hrel;have H:=aa aR;clear aR;by_cases aA:k<5
  ·have hx:=Ll ⟨n,h0,h1,h2,h3,h4⟩ k aA
   have hEx:∃ x,x=Gr.hear ⟨n,h0,h1,h2,h3,h4⟩ k:=⟨_,rfl⟩;obtain⟨x,kY⟩:=hEx;rw[<-kY]at hx;have HX:=aa kY;clear kY;have gw:=rS x k
   go_wp2_with (go_at_call 225;refine(Qd _ _ (by omega) (by omega)).mono ?_;rintro e w' ⟨rfl,rfl⟩)
   all_goals first
    | (go_ret
       refine⟨aD ?_,by go_grown⟩
       rw[HE.out]
       go_light
       refine bN k _ aA H.out ?_ (by decide)
       rw[<-HX.out]
       unfold l5
       grind)
    | (go_round
       case rel=>
        refine⟨k+1,by omega,by go_num,aS H.out ?_⟩
        go_light
        rw[<-HX.out]
        unfold l5
        grind
       case measure=>simp[intOf];omega)
  ·go_wp2
   go_ret;exact⟨aD (by rw[HE.out,cJ];intro j hj;exact H.out j (by omega)),by go_grown⟩
theorem yY(a b:Int) (w:World) :
  Calls Tryz.prog 203 #[.int .i64 a,.int .i64 b] w fun e w'=>e=.returned (.int .i64 (cmpI a b))/\w=w':=by
 go_enter Tryz.func203,Tryz.ntmps203
 go_wp2
 all_goals
  go_ret
  refine⟨aD ?_,rfl⟩
  go_light
  unfold cmpI
  grind
theorem Gn(d:Nat) (a0 a1 a2 a3 a4 b0 b1 b2 b3 b4:Int) (w:World):(Op.equalIn (d+2) 137 (.agg #[.int .i64 a0,.int .i64 a1,.int .i64 a2,.int .i64 a3,.int .i64 a4]) (.agg #[.int .i64 b0,.int .i64 b1,.int .i64 b2,.int .i64 b3,.int .i64 b4])).run Tryz.prog w=.ok (decide (a0=b0/\a1=b1/\a2=b2/\a3=b3/\a4=b4)) w:=by
 obtain⟨i,hi⟩:∃ i,Tryz.prog.info? 3=some i:=Option.isSome_iff_exists.1 (by kernel_rfl);have hc:Tryz.prog.cellsOf 3=1:=by kernel_rfl
 rw[run_equalIn_array w (d+1) _ _ Tryz.underlying137 hi,hc];have ag:=Tryz.isAgg3;have u3:=Tryz.underlying3;have hr:List.range 5=[0,1,2,3,4]:=rfl;rw[hr];simp only[Op.eqItems,Sem.run_bind,part,ag,Result.andThen_ok];simp[run_equalIn_int w d 3 _ .i64 _ _ u3];by_cases h0:a0=b0
 case neg=>simp[h0]
 by_cases h1:a1=b1
 case neg=>simp[h0,h1]
 by_cases h2:a2=b2
 case neg=>simp[h0,h1,h2]
 by_cases h3:a3=b3
 case neg=>simp[h0,h1,h2,h3]
 by_cases h4:a4=b4<;>simp[h0,h1,h2,h3,h4]
theorem De(d:Nat) (a b:Gr) (w:World):(Op.equalIn (d+3) 139 a.v b.v).run Tryz.prog w=.ok (decide (a=b)) w:=by
 have hS:Tryz.prog.underlying 139=some (.struct (Tryz.prog.fieldsOf 139)):=by kernel_rfl
 have hp:Tryz.prog.stoodInHeld 139=false:=by kernel_rfl
 rw[run_equalIn_struct w (d+2) 139 _ _ hS hp];have ag:=Tryz.isAgg3;have ah:=Tryz.isAgg137;have zh:=Tryz.sizeOf137;have u3:=Tryz.underlying3;simp only[Program.fieldsOf,Tryz.underlying139];simp[Op.eqFields,part,ag,ah,zh,run_equalIn_int w (d+1) 3 _ .i64 _ _ u3,Gn d];obtain⟨n,h0,h1,h2,h3,h4⟩:=a;obtain⟨m,g0,g1,g2,g3,g4⟩:=b;by_cases hn:n=m
 case neg=>simp[hn]
 by_cases hh:h0=g0/\h1=g1/\h2=g2/\h3=g3/\h4=g4<;>simp[hn,hh]
theorem Df(d:Nat) (a b:Rd) (w:World):(Op.equalIn (d+4) 141 a.v b.v).run Tryz.prog w=.ok (decide (a=b)) w:=by
 have hS:Tryz.prog.underlying 141=some (.struct (Tryz.prog.fieldsOf 141)):=by kernel_rfl
 have hp:Tryz.prog.stoodInHeld 141=false:=by kernel_rfl
 rw[run_equalIn_struct w (d+3) 141 _ _ hS hp];have ag:=Tryz.isAgg3;have ah:=Tryz.isAgg139;have zh:=Tryz.sizeOf139;have u3:=Tryz.underlying3;have hg:=De d a.g b.g w;simp only[Program.fieldsOf,Tryz.underlying141];simp[Op.eqFields,part,ag,ah,zh,run_equalIn_int w (d+2) 3 _ .i64 _ _ u3,hg];obtain⟨ga,fa⟩:=a;obtain⟨gb,fb⟩:=b;by_cases hn:ga=gb
 case neg=>simp[hn]
 by_cases hh:fa=fb<;>simp[hn,hh]
theorem Np(a b:Gr) (w:World):(binOp .eql 139 a.v b.v).run Tryz.prog w=.ok (.bool (decide (a=b))) w:=by
 rw[run_eql_struct,De 9997];rfl
theorem Nq(a b:Gr) (w:World):(binOp .neq 139 a.v b.v).run Tryz.prog w=.ok (.bool (!decide (a=b))) w:=by
 rw[run_neq_struct,De 9997];rfl
theorem Nr(a b:Rd) (w:World):(binOp .eql 141 a.v b.v).run Tryz.prog w=.ok (.bool (decide (a=b))) w:=by
 rw[run_eql_struct,Df 9996];rfl
theorem pF(a:Int):cmpI a a=0:=by unfold cmpI;grind
theorem kM{a b:Int} (h:cmpI a b=0):a=b:=by unfold cmpI at h;grind
theorem tp(a:Gr):fd a a=0:=by
 unfold fd;rw[pF];simp;exact cJ _ _ (fun j _=>pF _)
theorem mC(g:Gr) (k:Nat) (hk:k<5) (w:World) (B:Nat) (hw:w.heap[B]?=some (.cells #[.int .i64 g.n,.int .i64 g.h0,.int .i64 g.h1,.int .i64 g.h2,.int .i64 g.h3,.int .i64 g.h4] 139)) :
  w.cell? ⟨B,1+k,none⟩=some (.int .i64 (g.hear k)):=by
 have:k=0\/k=1\/k=2\/k=3\/k=4:=by omega
 rcases this with h|h|h|h|h<;>subst h<;>simp[World.cell?,hw,Gr.hear]
theorem AL(a b:Gr) (w:World) :
  Calls Tryz.prog 224 #[a.v,b.v] w fun e w'=>e=.returned (.int .i64 (fd a b))/\Below w.heap.size w w':=by
 by_cases Ae:a=b
 ·subst Ae
  have jK:∀ w,(binOp .eql 139 a.v a.v).run Tryz.prog w=.ok (.bool true) w:=fun w=>by rw[Np];simp
  have H:=aa (tp a);obtain⟨n,h0,h1,h2,h3,h4⟩:=a
  go_enter Tryz.func224,Tryz.ntmps224
  go_wp2
  go_ret;exact⟨aD H.out.symm,by go_grown⟩
 have jK:∀ w,(binOp .eql 139 a.v b.v).run Tryz.prog w=.ok (.bool false) w:=fun w=>by rw[Np];simp[Ae]
 clear Ae;by_cases hn:a.n=b.n
 ·have iy:(a.n != b.n)=false:=by simp[hn]
  have HC:Hid (fd a b=aZ 5 fun p=>cmpI (a.hear p) (b.hear p)):=by(have h:fd a b=aZ 5 fun p=>cmpI (a.hear p) (b.hear p):=by(unfold fd;rw[hn,pF];simp));exact h
  clear hn
  go_enter Tryz.func224,Tryz.ntmps224
  go_wp2
  refine bm (fun W=>Below w.heap.size w W/\W.heap[w.heap.size]?=some (.cells #[.int .i64 a.n,.int .i64 a.h0,.int .i64 a.h1,.int .i64 a.h2,.int .i64 a.h3,.int .i64 a.h4] 139)/\W.heap[w.heap.size+1]?=some (.cells #[.int .i64 b.n,.int .i64 b.h0,.int .i64 b.h1,.int .i64 b.h2,.int .i64 b.h3,.int .i64 b.h4] 139))
   ⟨by go_grown,ap _ (am _ _),by have:=am (w.alloc (.cells #[.int .i64 a.n,.int .i64 a.h0,.int .i64 a.h1,.int .i64 a.h2,.int .i64 a.h3,.int .i64 a.h4] 139));rw[World.size_alloc]at this;exact this _⟩ (fun W0 aV=>?_)
  obtain⟨aH,hA,hB⟩:=aV;have HA:=aa hA;clear hA;have HB:=aa hB;clear hB
  go_loopw [20] (fun i wr=>Below W0.heap.size W0 wr/\∃ k:Nat,k<=5/\i=.int .i64 k/\∀ j,j<k->cmpI (a.hear j) (b.hear j)=0) (fun i _=>5 - (intOf i).toNat)
  case atStart=>exact⟨Below.refl _ _,0,by omega,rfl,by simp⟩
  case round=>
   obtain⟨ar,k,hk,rfl,aR⟩:=hrel;have H:=aa aR;clear aR;by_cases aA:k<5
   ·have c1:∀ x:ExtW wr,x.val.cell? ⟨w.heap.size,1+k,none⟩=some (.int .i64 (a.hear k)):=fun x=>x.cell (mC a k aA wr _ (af ar HA.out))
    have c2:∀ x:ExtW wr,x.val.cell? ⟨w.heap.size+1,1+k,none⟩=some (.int .i64 (b.hear k)):=fun x=>x.cell (mC b k aA wr _ (af ar HB.out))
    go_wp2
    refine aC (by kernel_rfl) (by kernel_rfl) ?_
    repeat (quiet_step ((go_at_call 203;exact Calls.ext_of ((yY _ _ _).mono fun _ _ ⟨h1,h2⟩=>⟨h1,h2 ▸ Below.refl _ _⟩))))
    refine wpQuiet_nil ?_;intro _ dY;obtain⟨xq,cX⟩:=dY;subst cX
    go_wp2
    ·have ht:(cmpI (a.hear k) (b.hear k) != 0)=true:=by assumption
     go_ret
     exact⟨aD (by rw[HC.out];exact bN k _ aA H.out rfl (by simpa using ht)),ae aH (ae ar xq.ext)⟩
    ·have ht:(cmpI (a.hear k) (b.hear k) != 0)=false:=by assumption
     go_roundw
     case rel=>exact⟨ae ar xq.ext,k+1,by omega,by go_num,aS H.out (by simpa using ht)⟩
     case measure=>simp[intOf];omega
   ·go_wp2
    go_ret;exact⟨aD (by rw[HC.out,cJ];intro j hj;exact H.out j (by omega)),ae aH ar⟩
 ·have iy:(a.n != b.n)=true:=by simp[hn]
  have HC:Hid (fd a b=cmpI a.n b.n):=by unfold fd;rw[if_pos];exact rfl;intro h;exact hn (kM h)
  clear hn
  go_enter Tryz.func224,Tryz.ntmps224
  go_wp2_with (go_at_call 203;refine(yY _ _ _).mono ?_;rintro e w' ⟨rfl,rfl⟩)
  go_ret;exact⟨aD HC.out.symm,by go_grown⟩
theorem Dg(r:Rd) (w:World) :
  Calls Tryz.prog 219 #[r.v] w fun e w'=>e=.returned (.int .i64 (roundE r))/\Below w.heap.size w w':=by
 obtain⟨⟨n,h0,h1,h2,h3,h4⟩,f⟩:=r
 go_enter Tryz.func219,Tryz.ntmps219
 go_wp2_with (first
  | (go_at_call 222;refine(Dd ⟨_,_,_,_,_,_⟩ _).mono ?_;rintro e w1 ⟨rfl,hb⟩;obtain⟨hc,hf⟩:=Lh hb)
  | (go_at_call 223;refine(AK _ _ _).mono ?_;rintro e w2 ⟨rfl,rfl⟩))
 all_goals
  go_ret
  refine⟨aD ?_,?_⟩
  ·go_light
   unfold roundE
   grind
  ·exact ae (by go_grown) hb
theorem Js(a:Rd):roundC a a=0:=by
 unfold roundC;rw[tp,pF];simp
theorem Qe{a b:Gr} (hn:a.n=b.n) (h:∀ j,j<5->cmpI (a.hear j) (b.hear j)=0):a=b:=by
 obtain⟨n,h0,h1,h2,h3,h4⟩:=a;obtain⟨m,g0,g1,g2,g3,g4⟩:=b;have e0:=kM (h 0 (by omega));have e1:=kM (h 1 (by omega));have e2:=kM (h 2 (by omega));have e3:=kM (h 3 (by omega));have e4:=kM (h 4 (by omega));simp[Gr.hear]at e0 e1 e2 e3 e4 hn;simp[e0,e1,e2,e3,e4,hn]
theorem Jt{a b:Gr} (h:fd a b=0):a=b:=by
 unfold fd at h;by_cases hc:cmpI a.n b.n=0
 ·rw[if_neg (by simpa using hc)]at h
  exact Qe (kM hc) (fo h)
 ·rw[if_pos hc]at h;exact absurd h hc
theorem AM(a b:Rd) (w:World) :
  Calls Tryz.prog 220 #[a.v,b.v] w fun e w'=>e=.returned (.int .i64 (roundC a b))/\Below w.heap.size w w':=by
 by_cases Ae:a=b
 ·subst Ae
  have jK:∀ w,(binOp .eql 141 a.v a.v).run Tryz.prog w=.ok (.bool true) w:=fun w=>by rw[Nr];simp
  have H:=aa (Js a)
  go_enter Tryz.func220,Tryz.ntmps220
  go_wp2
  go_ret;exact⟨aD H.out.symm,by go_grown⟩
 have jK:∀ w,(binOp .eql 141 a.v b.v).run Tryz.prog w=.ok (.bool false) w:=fun w=>by rw[Nr];simp[Ae]
 by_cases hg:a.g=b.g
 ·have bJ:∀ w,(binOp .neq 139 a.g.v b.g.v).run Tryz.prog w=.ok (.bool false) w:=fun w=>by rw[Nq];simp[hg]
  have HC:Hid (roundC a b=cmpI a.f b.f):=by(have h:roundC a b=cmpI a.f b.f:=by(unfold roundC;rw[hg,tp];simp));exact h
  clear hg Ae
  go_enter Tryz.func220,Tryz.ntmps220
  go_wp2_with (go_at_call 203;refine(yY _ _ _).mono ?_;rintro e w' ⟨rfl,rfl⟩)
  go_ret;exact⟨aD HC.out.symm,by go_grown⟩
 ·have bJ:∀ w,(binOp .neq 139 a.g.v b.g.v).run Tryz.prog w=.ok (.bool true) w:=fun w=>by rw[Nq];simp[hg]
  have HC:Hid (roundC a b=fd a.g b.g):=by(have h:roundC a b=fd a.g b.g:=by(unfold roundC;rw[if_pos (fun h=>hg (Jt h))]));exact h
  clear hg Ae
  go_enter Tryz.func220,Tryz.ntmps220
  go_wp2_with (go_at_call 224;refine(AL a.g b.g _).mono ?_;rintro e w1 ⟨rfl,hb⟩)
  go_ret;exact⟨aD HC.out.symm,ae (by go_grown) hb⟩
end Go.Proofs.YtmeaoneaephjeaaGreatDoor
namespace Go.Proofs.YtmeaoneaephjeaaGreatDoor
open Go.RowKit Go Go.Shelf
attribute [local go_sem] Oper.semAt_some
theorem aF{W:World} {B:Nat} {cs:Array Value} {t:TypeId} {f:Nat × Nat} (h:W.heap[B]?=some (.cells cs t f)) (o:Nat) (v:Value):(W.setCell ⟨B,o,none⟩ v).heap[B]?=some (.cells (cs.setIfInBounds o v) t f):=by
 simp[World.setCell,Array.getElem?_modify,h]
theorem aJ{W:World} {B C:Nat} {x:Obj} (h:W.heap[C]?=some x) (bJ:C≠B) (o:Nat) (v:Value):(W.setCell ⟨B,o,none⟩ v).heap[C]?=some x:=
 (Below.heap_setCell W ⟨B,o,none⟩ v C bJ).trans h
def iV(n:Nat) (w w':World):Prop:=∀ k,k<n->w'.heap[k]?=w.heap[k]?
theorem iV.cell{w w':World} (h:iV w.heap.size w w') {a:Addr} {v:Value} (hc:w.cell? a=some v):w'.cell? a=some v:=by
 have:=eX hc;rw[World.cell?_of_block (w:=w) (h a.block this)];exact hc
theorem iV.ck{w w':World} (h:iV w.heap.size w w'):CK w w':=fun k _ hk _=>(h k (aB hk)).trans hk
theorem iV.of_below{w w':World} (h:Below w.heap.size w w'):iV w.heap.size w w':=h.block
theorem iV.alloc{w w':World} (h:iV w.heap.size w w') (o:Obj):iV w.heap.size w (w'.alloc o):=fun k hk=>by
 have h1:w.heap[k]?=some w.heap[k]:=Array.getElem?_eq_getElem hk;rw[h1];exact ap o ((h k hk).trans h1)
theorem iV.trans{n:Nat} {a b c:World} (h:iV n a b) (k:iV n b c):iV n a c:=fun i hi=>(k i hi).trans (h i hi)
theorem xa(n:Int) (p:Option Addr) (len cap:Nat) (w:World) :
  Calls Tryz.prog 218 #[.agg #[.int .i64 n,.slice p len cap]] w fun e w'=>e=.returned (.func (.func 221) #[] #[.pointer (some ⟨w.heap.size,0,none⟩)])/\w'=w.alloc (.cells #[.int .i64 n,.slice p len cap] 27):=by
 go_enter Tryz.func218,Tryz.ntmps218
 go_wp2
 go_ret
 exact⟨rfl,rfl⟩
def Gp(l:List (List Mv)) (i:Nat):Array Value:=#[.int .i64 (mvAt l i).1,(mvAt l i).2.v]
theorem vy(wd:World) (v:Value) (l:List (List Mv)) (hv:bh wd v l) (w:World) (hb:Below wd.heap.size wd w) (Bx:Nat) (hx:w.cell? ⟨Bx,1,none⟩=some v) :
  rR Tryz.prog 221 #[.pointer (some ⟨Bx,0,none⟩)] (Gp l) (movesN l) (fun k=>k<wd.heap.size) w:=by
 intro yl J Jx W hW hJ nM hY h0;have df:=ak hW hx;have eP:iV wd.heap.size wd W:=(iV.of_below hb).trans (fun k hk=>hW.block k (Nat.lt_of_lt_of_le hk hb.size));obtain⟨pa,ca,rfl,la1,la2,ea⟩:=hv.at;clear hv hx hW hb;have EA:=aa ea;clear ea;have HJ:=aa hJ;clear hJ;have Jb:=aa nM;clear nM;have HY:=aa hY;clear hY;refine(callsIn_wide (n:=0)).1 ?_;refine callsIn_of_wp Tryz.func221 rfl trivial ?_ rfl;simp only[Tryz.ntmps221,List.size_toArray,List.length_cons,List.length_nil,Nat.reduceAdd,Nat.reduceSub,Array.replicate_succ,Array.replicate_zero,List.push_toArray,List.append_toArray,List.nil_append,List.cons_append]
 gi_wp2
 gi_loopw [10] (fun i wr=>∃ s:Nat,s<=l.length/\i=.int .i64 s/\iV wd.heap.size wd wr/\J (cnt l s) wr) (fun i _=>l.length - (intOf i).toNat)
 case atStart=>exact⟨0,by omega,rfl,eP,by rw[oI];exact h0⟩
 case round=>
  obtain⟨s,hs,rfl,fL,hj⟩:=hrel;have jM:=aa fL;clear fL;have iT:=aa hj;clear hj;by_cases aA:s<l.length
  ·obtain⟨b1,o1,rfl,x,cx,hxs⟩:=EA.out s aA
   rw[Nat.mul_one]at cx;have d1:=jM.out.cell cx;obtain⟨p2,c2,rfl,m1,m2,e2⟩:=hxs.at;clear hxs cx;have E2:=aa e2;clear e2
   gi_wp2
   obtain⟨W0,aV⟩:∃ W0:World,W0=wr:=⟨_,rfl⟩;rw[<-aV]at jM iT d1 ⊢;clear aV wr
   gi_loopw [17] (fun i wr=>∃ j:Nat,j<=l[s].length/\i=.int .i64 j/\iV wd.heap.size wd wr/\J (cnt l s+j) wr) (fun i _=>l[s].length - (intOf i).toNat)
   case atStart=>exact⟨0,by omega,rfl,jM.out,iT.out⟩
   case round=>
    obtain⟨j,hj,rfl,fL,xU⟩:=hrel;have nA:=aa fL;clear fL;have IE:=aa xU;clear xU;by_cases K7:j<l[s].length
    ·obtain⟨b2,o2,rfl,⟨⟨c0,_⟩,⟨c1,_⟩,⟨c2,_⟩,⟨c3,_⟩,⟨c4,_⟩,⟨c5,_⟩,⟨c6,_⟩⟩,c7,_⟩:=E2.out j K7
     have d0:=nA.out.cell c0;have d1:=nA.out.cell c1;have d2:=nA.out.cell c2;have d3:=nA.out.cell c3;have d4:=nA.out.cell c4;have d5:=nA.out.cell c5;have d6:=nA.out.cell c6;have d7:=nA.out.cell c7;clear c0 c1 c2 c3 c4 c5 c6 c7;have S5:=yV l s j aA K7;have kH:=Gi l s aA;generalize hm:l[s][j]=m at d0 d1 d2 d3 d4 d5 d6 d7 S5;obtain⟨fn,tmps,assign,body,hy,hR⟩:=HY.out (cnt l s+j) (wr.alloc (.cells #[.int .i64 m.r.g.n,.int .i64 m.r.g.h0,.int .i64 m.r.g.h1,.int .i64 m.r.g.h2,.int .i64 m.r.g.h3,.int .i64 m.r.g.h4,.int .i64 m.r.f,.int .i64 m.to] 143)) (by omega) (HJ.out _ _ _ IE.out (by go_grown));unfold Gp at hy;rw[S5]at hy;dsimp only at hy;have HR:=aa hR;clear hR S5 hm
     gi_wp2
     refine⟨rfl,HR.out.mono ?_⟩;rintro e W3 (⟨rfl,C6,CE,hZ⟩|⟨rfl,rA⟩)
     ·gi_wp2
      go_roundw
      case rel=>exact⟨j+1,by omega,by go_num,iV.trans (nA.out.alloc _) hZ,C6⟩
      case measure=>simp[intOf];omega
     ·gi_wp2
      refine bodyPost_ret (results_none rfl _ _ _) rfl ?_;exact⟨⟨_,rfl⟩,.inr ⟨_,by omega,rA⟩⟩
    ·gi_wp2
     go_roundw
     case rel=>
      refine⟨s+1,by omega,by go_num,nA.out,?_⟩;have e:l[s].length=j:=by omega
      rw[oJ l s aA,e];exact IE.out
     case measure=>simp[intOf];omega
  ·gi_wp2
   go_end0
   exact⟨⟨_,rfl⟩,.inl (by rw[<-ui l s (by omega)];exact iT.out)⟩
def sizedE(a:Adv):Int:=if a.states.length<1\/256<a.states.length\/4096<movesN a.states then 5 else 0
theorem Ns(a:Adv) (v:Value) (w:World) (hv:bh w v a.states) (hN:movesN a.states<1099511627776) :
  Calls Tryz.prog 216 #[.agg #[.int .i64 a.n,v]] w fun e w'=>e=.returned (.int .i64 (sizedE a))/\Below w.heap.size w w':=by
 have G:=aa hv;obtain⟨pa,ca,rfl,la1,la2,_⟩:=hv.at;clear hv;refine fQ Tryz.func216 rfl ?_;simp only[Tryz.ntmps216,List.size_toArray,List.length_cons,List.length_nil,Nat.reduceAdd,Nat.reduceSub,Array.replicate_succ,Array.replicate_zero,List.push_toArray,List.append_toArray,List.nil_append,List.cons_append]
 go_wp2_with fail
 refine(xa _ _ _ _ _).mono ?_;rintro e w1 ⟨rfl,rfl⟩
 go_wp2_with fail
 refine bm (fun W=>Below w.heap.size w W/\W.heap[w.heap.size]?=some (.cells #[.int .i64 a.n,.slice pa a.states.length ca] 27)/\W.heap[w.heap.size+1]?=some (.cells #[.int .i64 0] 3)/\W.heap[w.heap.size+1+1]?=some (.cells #[.int .i64 a.n,.slice pa a.states.length ca] 27))
  ⟨by go_grown,ap _ (ap _ (am _ _)),ap _ (by simpa using am (w.alloc (.cells #[.int .i64 a.n,.slice pa a.states.length ca] 27)) (.cells #[.int .i64 0] 3)),by simpa using am ((w.alloc (.cells #[.int .i64 a.n,.slice pa a.states.length ca] 27)).alloc (.cells #[.int .i64 0] 3)) (.cells #[.int .i64 a.n,.slice pa a.states.length ca] 27)⟩ (fun W0 aV=>?_)
 obtain⟨aH,hA,oA,hX⟩:=aV;have cY:=vy w _ a.states G.out W0 aH (w.heap.size+1+1) (by simp[ab hX]);have eT:=aB hX
 refine mj (gf:=221) (lb:=#[.pointer (some ⟨w.heap.size+1+1,0,none⟩)]) rfl (enters_of Tryz.func221 (by kernel_rfl) rfl) cY (Below.refl _ _) (fun k hk=>Nat.lt_of_lt_of_le hk aH.size) (fun i=>rfl)
  (fun i W=>Below w.heap.size w W/\W.heap[w.heap.size]?=some (.cells #[.int .i64 a.n,.slice pa a.states.length ca] 27)/\W.heap[w.heap.size+1]?=some (.cells #[.int .i64 i] 3))
  (fun _ _ _=>False) (fun i=>(cB.below (by omega)).and (cB.cells.and cB.cells)) (fun _ _=>cB.pure) ⟨aH,hA,oA⟩ ?round ?done ?stop
 case round=>
  intro l i W hi hl hI;unfold Gp
  gi_wp2
  refine⟨Bod.refl _ _ _,_,(cB.below (w:=w) (by omega)).and (cB.cells.and cB.cells),hI,fun W2 h2 _=>?_⟩;obtain⟨g1,g2,g3⟩:=h2;have c1:=ab g3 0;have f1:=aE g3 0;simp at c1;have HG:=aa (And.intro g1 (And.intro g2 g3));clear g1 g2 g3 hI cY
  gi_wp2
  obtain⟨g1,g2,g3⟩:=HG.out;refine⟨Bod.setCell _ _ _ (by simp),g1.setCell (by simp) _,aJ g2 (by omega) _ _,?_⟩;rw[aF g3];simp
 case done=>
  intro D W hD hI hK;obtain⟨g1,g2,g3⟩:=hI;have HG:=aa (And.intro g1 (And.intro g2 g3));have t1:=ab g2;have t2:=ab g3;clear g1 g2 g3 cY
  go_wp2
  all_goals
   refine ip hK (results_tmp rfl _ _ _) ?_;refine⟨aD ?_,eH (by omega) HG.out.1⟩
   go_light
   unfold sizedE
   grind
 case stop=>
  intro D c i W _ _ h;exact h.elim
end Go.Proofs.YtmeaoneaephjeaaGreatDoor
namespace Go.Proofs.YtmeaoneaephjeaaGreatDoor
open Go.RowKit Go Go.Shelf
theorem lf(g:Nat):∀ (vs:List Value) (o:Nat) (w:World),(∀ k,k≠g->(w.setCells g o vs).heap[k]?=w.heap[k]?)/\(w.setCells g o vs).os=w.os/\(w.setCells g o vs).tape=w.tape/\(w.setCells g o vs).output=w.output/\(w.setCells g o vs).heap.size=w.heap.size
 | [],o,w=>⟨fun _ _=>rfl,rfl,rfl,rfl,rfl⟩
 | v :: r,o,w=>by
  obtain⟨h1,h2,h3,h4,h5⟩:=lf g r (o+1) (w.setCell ⟨g,o,none⟩ v);exact⟨fun k hk=>(h1 k hk).trans (Below.heap_setCell w ⟨g,o,none⟩ v k hk),h2,h3,h4,h5.trans (by simp)⟩
theorem l6(g:Nat) (e:TypeId) (fz:Nat × Nat):∀ (vs:List Value) (o:Nat) (w:World) (cur:Array Value),w.heap[g]?=some (.cells cur e fz)->o+vs.length<=cur.size →
  ∃ cur',(w.setCells g o vs).heap[g]?=some (.cells cur' e fz)/\cur'.size=cur.size/\cur'.toList.take (o+vs.length)=cur.toList.take o++vs
 | [],o,w,cur,hg,_=>⟨cur,hg,rfl,by simp⟩
 | v :: r,o,w,cur,hg,hl=>by
  simp only[List.length_cons]at hl;obtain⟨cur',h1,h2,h3⟩:=l6 g e fz r (o+1) (w.setCell ⟨g,o,none⟩ v) (cur.setIfInBounds o v) (aF hg o v) (by simp;omega);refine⟨cur',h1,by simpa using h2,?_⟩;rw[show o+(v :: r).length=o+1+r.length by simp;omega,h3,Array.toList_setIfInBounds,List.take_succ_eq_append_getElem (by simp;omega),List.take_set_of_le (by omega),List.getElem_set_self];simp
def aG(w:World) (base:Nat) (e:TypeId) (size:Nat) (v:Value) (n:Nat) (xs:List Value):Prop:=
 xs.length=n * size/\((v=.slice none 0 0/\n=0)\/∃ g cap cur fz,v=.slice (some ⟨g,0,none⟩) n cap/\base<=g/\w.heap[g]?=some (.cells cur e fz)/\(∀ i,i<cur.size->¬ (fz.1<=i/\i<fz.2))/\n<=cap/\cap<=maxLen/\cur.size=cap * size/\cur.toList.take (n * size)=xs)
theorem aG.nil(w:World) (base:Nat) (e:TypeId) (size:Nat):aG w base e size (.slice none 0 0) 0 []:=⟨by simp,.inl ⟨rfl,rfl⟩⟩
theorem aG.of_owns{w:World} {base:Nat} {e:TypeId} {size:Nat} {v:Value} {n:Nat} {xs:List Value} (h:w.ownsRow base e size v n xs):aG w base e size v n xs:=by
 refine⟨h.1,?_⟩;rcases h.2 with hn|⟨g,cap,cur,hv,hb,hg,rest⟩
 ·exact .inl hn
 ·exact .inr ⟨g,cap,cur,(0,0),hv,hb,hg,fun i _ h=>by have:=h.2;simp at this,rest⟩
theorem aG.slice{w:World} {base size:Nat} {e:TypeId} {v:Value} {n:Nat} {xs:List Value} (h:aG w base e size v n xs):∃ a c,v=.slice a n c:=by
 rcases h.2 with ⟨rfl,rfl⟩|⟨g,cap,cur,fz,rfl,_⟩
 ·exact⟨_,_,rfl⟩
 ·exact⟨_,_,rfl⟩
theorem aG.ck{w w':World} {base size:Nat} {e:TypeId} {v:Value} {n:Nat} {xs:List Value} (h:aG w base e size v n xs) (hb:CK w w'):aG w' base e size v n xs:=by
 obtain⟨hl,h⟩:=h;refine⟨hl,?_⟩;rcases h with h|⟨g,cap,cur,fz,h1,h2,h3,h4⟩
 ·exact .inl h
 ·exact .inr ⟨g,cap,cur,fz,h1,h2,hb _ _ h3 rfl,h4⟩
theorem aG.up{w w':World} {base size:Nat} {e:TypeId} {v:Value} {n:Nat} {xs:List Value} (h:aG w base e size v n xs) (hb:Below w.heap.size w w'):aG w' base e size v n xs:=h.ck (.of_below hb)
theorem aG.lt{w:World} {base size:Nat} {e:TypeId} {v:Value} {n:Nat} {xs:List Value} (h:aG w base e size v n xs):∀ k,v.ownBlock=some k->base<=k/\k<w.heap.size:=by
 intro k hk;rcases h.2 with ⟨rfl,_⟩|⟨g,cap,cur,fz,rfl,hb,hg,_⟩
 ·simp[Value.ownBlock]at hk
 ·simp[Value.ownBlock]at hk
  subst hk;exact⟨hb,aB hg⟩
theorem aG.ne{w:World} {base sz:Nat} {e e':TypeId} {v:Value} {n:Nat} {xs:List Value} {B:Nat} {cs:Array Value} {f:Nat × Nat} (h:aG w base e sz v n xs) (hB:w.heap[B]?=some (.cells cs e' f)) (bJ:e≠e'):∀ g,v.ownBlock=some g->g≠B:=by
 intro g hg hgB;rcases h.2 with ⟨rfl,_⟩|⟨g',cap,cur,fz,rfl,_,h3,_⟩
 ·cases hg
 ·have:g'=g:=by simpa[Value.ownBlock] using hg
  rw[this,hgB,hB]at h3;cases h3;exact bJ rfl
theorem aG.isCells{w:World} {base sz:Nat} {e:TypeId} {v:Value} {n:Nat} {xs:List Value} {B:Nat} {o:Obj} (h:aG w base e sz v n xs) (hB:w.heap[B]?=some o) (ho:o.isCells=false):some B≠v.ownBlock:=by
 intro hg;rcases h.2 with ⟨rfl,_⟩|⟨g',cap,cur,fz,rfl,_,h3,_⟩
 ·cases hg
 ·have:B=g':=by simpa[Value.ownBlock] using hg
  rw[<-this,hB]at h3;cases h3;cases ho
theorem aG.put{w:World} {base sz:Nat} {e:TypeId} {v:Value} {n:Nat} {xs:List Value} {B:Nat} (h:aG w base e sz v n xs) (bJ:∀ g,v.ownBlock=some g->g≠B) (o:Nat) (x:Value):aG (w.setCell ⟨B,o,none⟩ x) base e sz v n xs:=by
 obtain⟨hl,h⟩:=h;refine⟨hl,?_⟩;rcases h with h|⟨g,cap,cur,fz,rfl,h2,h3,h4⟩
 ·exact .inl h
 ·exact .inr ⟨g,cap,cur,fz,rfl,h2,aJ h3 (bJ g rfl) _ _,h4⟩
theorem aG.base{w:World} {base base':Nat} {e:TypeId} {sz:Nat} {v:Value} {n:Nat} {xs:List Value} (h:aG w base e sz v n xs) (hb:base'<=base):aG w base' e sz v n xs:=by
 obtain⟨hl,h⟩:=h;refine⟨hl,?_⟩;rcases h with h|⟨g,cap,cur,fz,h1,h2,h3⟩
 ·exact .inl h
 ·exact .inr ⟨g,cap,cur,fz,h1,Nat.le_trans hb h2,h3⟩
theorem aG.cell{w:World} {base size:Nat} {e:TypeId} {v:Value} {n:Nat} {xs:List Value} (h:aG w base e size v n xs) (j:Nat) (u:Value) (hu:xs[j]?=some u):∃ g c,v=.slice (some ⟨g,0,none⟩) n c/\w.cell? ⟨g,j,none⟩=some u:=by
 rcases h.2 with ⟨rfl,hn⟩|⟨g,cap,cur,fz,rfl,_,hg,_,_,_,_,ht⟩
 ·subst hn
  have:xs=[]:=List.eq_nil_of_length_eq_zero (by simpa using h.1);rw[this]at hu;simp at hu
 ·refine⟨g,cap,rfl,?_⟩
  rw[ab hg];rw[<-ht,List.getElem?_take]at hu;split at hu
  ·simpa using hu
  ·cases hu
section
variable {P : Program} (w : World)
theorem qZ(base:Nat) (t ty e:TypeId) (i:TypeInfo) (z:Value) (size bytes:Nat) (ht:P.underlying t=some (.slice e)) (hi:P.info? e=some i) (hz:i.zero=some z)
  (eO:i.size=size) (gy:i.bytes=bytes) (rK:z.cells.size=size) (eT:0<size)
  (v:Value) (n:Nat) (xs:List Value) (aX:aG w base e size v n xs)
  (a:Addr) (m c:Nat) (news:List Value) (hl:news.length=m * size) (bL:∀ j u,news[j]?=some u->w.cell? (a.add j)=some u) (h1:∀ u∈news,u.oneCell'=true)
  (oh:n+m<=maxLen) (go:(n+m) * bytes<=140737488355328) (l9:base<=w.heap.size) :
  ∃ v' w',(Builtin.append_ #[t,t] ty #[v,.slice (some a) m c]).run P w=.ok v' w'/\aG w' base e size v' (n+m) (xs++news)/\w.grownBy w' v.ownBlock/\(v'.ownBlock=v.ownBlock\/v'.ownBlock=some w.heap.size):=by
 rcases aX.2 with ⟨rfl,rfl⟩|⟨g,cap,cur,fz,rfl,Cq,hg,mU,jO,p7,jt,Ng⟩
 ·have hx:xs=[]:=List.eq_nil_of_length_eq_zero (by simpa using aX.1)
  subst hx;by_cases hm:m=0
  ·obtain⟨v',w',q1,q2,q3,q4⟩:=run_append_own (P:=P) w base t ty e i z size bytes ht hi hz eO gy rK eT (.slice none 0 0) 0 [] (World.ownsRow_nil w base e size) a m c news hl bL h1 oh go l9
   have:=q4.2 ⟨rfl,hm⟩;exact⟨v',w',q1,.of_owns q2,q3,.inl (by rw[this])⟩
  ·obtain⟨v',w',q1,q2,q3,q4⟩:=run_append_own (P:=P) w w.heap.size t ty e i z size bytes ht hi hz eO gy rK eT (.slice none 0 0) 0 [] (World.ownsRow_nil w _ e size) a m c news hl bL h1 oh go (Nat.le_refl _)
   subst eO gy;have hr:=run_append_nil (P:=P) w t ty e i z ht hi hz a m c news hl bL (by omega) (by simp only[maxLen]at oh;omega) (by have hb:=go;simp only[Nat.zero_add]at hb;omega);have e1:=hr.symm.trans q1;injection e1 with e1 e2
   subst e1 e2;exact⟨_,_,hr,(aG.of_owns q2).base l9,q3,.inr rfl⟩
 ·subst eO
  have cG:(xs++news).length=(n+m) * i.size:=by rw[List.length_append,aX.1,hl,Nat.add_mul]
  by_cases mg:n+m<=cap
  ·have Iq:n * i.size+news.length<=cur.size:=by rw[hl,jt,<-Nat.add_mul];exact Nat.mul_le_mul_right _ mg
   have hr:=run_append_room_cells (P:=P) w t ty e i ht hi g 0 n cap a m c news hl bL h1 mg (fun j hj=>by rw[Nat.zero_add,ab hg];simp;omega)
    (fun j hj=>by
     simp only[World.frozen?,hg,Nat.zero_add];have:=mU (n * i.size+j) (by omega)
     simpa using this)
   rw[Nat.zero_add]at hr;obtain⟨cur',g1,g2,g3⟩:=l6 g e fz news (n * i.size) w cur hg Iq;obtain⟨o1,o2,o3,o4,o5⟩:=lf g news (n * i.size) w;refine⟨_,_,hr,⟨cG,.inr ⟨g,cap,cur',fz,rfl,Cq,g1,fun k hk=>mU k (by omega),mg,p7,by omega,?_⟩⟩,⟨o2,o3,o4,by omega,fun k _ hk=>o1 k (fun e=>hk (by rw[e];rfl))⟩,.inl rfl⟩;rw[Nat.add_mul,<-hl,g3,Ng]
  ·subst gy
   have C':∀ j u,xs[j]?=some u->w.cell? ((⟨g,0,none⟩:Addr).add j)=some u:=fun j u hu=>by
    obtain⟨g',c',e1,hc⟩:=aX.cell j u hu;have:g'=g:=by simp at e1;exact e1.1.symm
    subst this;rw[<-hc];congr 1;unfold Addr.add;split<;>simp_all
   have hr:=run_append_grow (P:=P) w t ty e i z ht hi hz ⟨g,0,none⟩ n cap xs aX.1 C' a m c news hl bL (by omega) (by simp only[maxLen]at oh;omega) (growslice_fits (by omega) go);obtain⟨v',w',q1,q2,q3⟩:=run_append_arg_grows (P:=P) w t ty e i z i.size i.bytes ht hi hz rfl rfl rK eT ⟨g,0,none⟩ n cap xs aX.1 C' a m c news hl bL (by omega) oh go;have e1:=hr.symm.trans q1;injection e1 with e1 e2
   subst e1 e2;exact⟨_,_,hr,(aG.of_owns q2).base l9,⟨q3.os,q3.tape,q3.output,q3.size,fun k hk _=>q3.block k hk (by simp)⟩,.inr rfl⟩
theorem aY{ops:Array Oper} {rest:List Oper} {o:Oper} {a:Act} {Q:Exit->Act->World->Prop} (kX:o.guard=none) (s x:Operand) (t:TypeId)
  (ho:o.op=.call { callee:=.builtin .append,args:=#[s,x],argTypes:=#[t,t] })
  (base:Nat) (e:TypeId) (i:TypeInfo) (z:Value) (size bytes:Nat) (ht:P.underlying t=some (.slice e)) (hi:P.info? e=some i) (hz:i.zero=some z)
  (eO:i.size=size) (gy:i.bytes=bytes) (rK:z.cells.size=size) (eT:0<size)
  (v:Value) (n:Nat) (xs:List Value) (hs:a.eval s=v) (aX:aG w base e size v n xs)
  (ad:Addr) (m c:Nat) (news:List Value) (hx:a.eval x=.slice (some ad) m c) (hl:news.length=m * size) (bL:∀ j u,news[j]?=some u->w.cell? (ad.add j)=some u) (h1:∀ u∈news,u.oneCell'=true)
  (oh:n+m<=maxLen) (go:(n+m) * bytes<=140737488355328) (l9:base<=w.heap.size)
  (h:∀ v' w',aG w' base e size v' (n+m) (xs++news)->w.grownBy w' v.ownBlock->(v'.ownBlock=v.ownBlock\/v'.ownBlock=some w.heap.size)->wpList P ops Q rest (a.put o.dst v') w'):wpList P ops Q (o :: rest) a w:=by
 refine wpList_plain kX fun _ hK=>?_
 obtain⟨v',w',hr,h2,h3,h4⟩:=qZ (P:=P) w base t o.type e i z size bytes ht hi hz eO gy rK eT v n xs aX ad m c news hl bL h1 oh go l9;unfold Oper.wp execOp;simp only[ho,resolve,invoke,builtin,Sem.run_bind,Sem.run_pure,Result.andThen_ok,List.map_toArray,List.map_cons,List.map_nil,hs,hx,hr];exact hK _ _ (h v' w' h2 h3 h4)
theorem qn{F:Fence} {d:Nat} {ops:Array Oper} {rest:List Oper} {o:Oper} {a:Act} {Q:Exit->Act->World->Prop} (kX:o.guard=none) (s x:Operand) (t:TypeId)
  (ho:o.op=.call { callee:=.builtin .append,args:=#[s,x],argTypes:=#[t,t] })
  (base:Nat) (e:TypeId) (i:TypeInfo) (z:Value) (size bytes:Nat) (ht:P.underlying t=some (.slice e)) (hi:P.info? e=some i) (hz:i.zero=some z)
  (eO:i.size=size) (gy:i.bytes=bytes) (rK:z.cells.size=size) (eT:0<size)
  (v:Value) (n:Nat) (xs:List Value) (hs:a.eval s=v) (aX:aG w base e size v n xs)
  (ad:Addr) (m c:Nat) (news:List Value) (hx:a.eval x=.slice (some ad) m c) (hl:news.length=m * size) (bL:∀ j u,news[j]?=some u->w.cell? (ad.add j)=some u) (h1:∀ u∈news,u.oneCell'=true)
  (oh:n+m<=maxLen) (go:(n+m) * bytes<=140737488355328) (l9:base<=w.heap.size)
  (h:∀ v' w',aG w' base e size v' (n+m) (xs++news)->w.grownBy w' v.ownBlock->(v'.ownBlock=v.ownBlock\/v'.ownBlock=some w.heap.size)->wpListIn F d P ops Q rest (a.put o.dst v') w'):wpListIn F d P ops Q (o :: rest) a w:=by
 refine wpListIn_plain kX fun K hK'=>?_
 obtain⟨v',w',RY,r1,r2,r3⟩:=qZ (P:=P) w base t o.type e i z size bytes ht hi hz eO gy rK eT v n xs aX ad m c news hl bL h1 oh go l9;unfold Oper.wpIn;refine⟨?_,?_⟩
 ·simp[Oper.about,ho,resolve,Target.leads,Sem.run_pure]
 ·rw[Oper.semAt_plain F _ _ (by rw[ho];intro c kF;cases kF)]
  simp[execOp,ho,resolve,invoke,builtin,hs,hx,RY,Result.andThen];exact hK' _ _ (h v' w' r1 r2 r3)
end
theorem aG.apart{w w':World} {base base' k k':Nat} {e e':TypeId} {u v:Value} {n m:Nat} {xs ys:List Value} (h:aG w base e k u n xs) (hv:aG w base' e' k' v m ys) (bJ:e≠e') (hg:w.grownBy w' v.ownBlock):aG w' base e k u n xs:=by
 obtain⟨hl,h⟩:=h;refine⟨hl,?_⟩;rcases h with h|⟨g,cap,cur,fz,h1,h2,h3,h4⟩
 ·exact .inl h
 ·refine .inr ⟨g,cap,cur,fz,h1,h2,(hg.block g (aB h3) (fun e1=>?_)).trans h3,h4⟩
  exact hv.ne h3 (Ne.symm bJ) g e1.symm rfl
def bX{α:Type} (to ti:TypeId) (k:Nat) (flat:List α->List Value) (w:World) (base:Nat) (v:Value) (l:List (List α)):Prop:=
 ∃ xs:List Value,aG w base to 1 v l.length xs/\∀ i (hi:i<l.length),∃ x,xs[i]?=some x/\aG w base ti k x l[i].length (flat l[i])
section
variable {α : Type} {to ti : TypeId} {k : Nat} {flat : List α → List Value} {w w' : World} {base : Nat} {v : Value} {l : List (List α)}
theorem bX.nil(w:World) (base:Nat):bX to ti k flat w base (.slice none 0 0) []:=⟨[],aG.nil _ _ _ _,fun i hi=>by simp at hi⟩
theorem bX.ck(h:bX to ti k flat w base v l) (hb:CK w w'):bX to ti k flat w' base v l:=by
 obtain⟨xs,h1,h2⟩:=h;exact⟨xs,h1.ck hb,fun i hi=>by obtain⟨x,q1,q2⟩:=h2 i hi;exact⟨x,q1,q2.ck hb⟩⟩
theorem bX.up(h:bX to ti k flat w base v l) (hb:Below w.heap.size w w'):bX to ti k flat w' base v l:=h.ck (.of_below hb)
theorem bX.snoc{xs:List Value} (h1:aG w base to 1 v l.length xs) (h2:∀ i (hi:i<l.length),∃ x,xs[i]?=some x/\aG w base ti k x l[i].length (flat l[i])) (bJ:ti≠to) {x:Value} {a:List α} (hx:aG w base ti k x a.length (flat a))
  (hg:w.grownBy w' v.ownBlock) {v':Value} (ho:aG w' base to 1 v' (l.length+1) (xs++[x])):bX to ti k flat w' base v' (l++[a]):=by
 have hl:xs.length=l.length:=by have:=h1.1;omega
 refine⟨xs++[x],by simpa using ho,fun i hi=>?_⟩;simp at hi;by_cases aA:i<l.length
 ·obtain⟨y,q1,q2⟩:=h2 i aA
  refine⟨y,by rw[List.getElem?_append_left (by omega)];exact q1,?_⟩;rw[List.getElem_append_left aA];exact q2.apart h1 bJ hg
 ·obtain rfl:i=l.length:=by omega
  refine⟨x,by rw[<-hl,List.getElem?_append_right (Nat.le_refl _)];simp,?_⟩;have e:(l++[a])[l.length]'(by simp)=a:=by simp
  rw[e];exact hx.apart h1 bJ hg
theorem bX.sl{R:World->Nat->Nat->α->Prop} (h:bX to ti k flat w base v l) (hr:∀ (x:Value) (a:List α),a∈l->aG w base ti k x a.length (flat a)->eR k R w x a) (hn:l.length<=17592186044416):eR 1 (mi k R) w v l:=by
 obtain⟨xs,h1,h2⟩:=h;rcases h1.2 with ⟨rfl,h0⟩|⟨g,cap,cur,fz,rfl,_,hg,_,jO,p7,_,ht⟩
 ·have:l=[]:=List.eq_nil_of_length_eq_zero h0
  subst this;exact⟨none,0,rfl,⟨by simp,by omega,fun _=>rfl⟩,by simp,fun i x hx=>by simp at hx⟩
 ·refine⟨some ⟨g,0,none⟩,cap,rfl,⟨jO,by unfold maxLen at p7;omega,fun e=>by cases e⟩,hn,fun i a ha=>⟨g,0,rfl,?_⟩⟩
  obtain⟨hi,rfl⟩:=List.getElem?_eq_some_iff.1 ha;obtain⟨x,q1,q2⟩:=h2 i hi;refine⟨x,?_,hr x _ (List.getElem_mem hi) q2⟩;rw[Nat.zero_add,Nat.mul_one,ab hg];rw[<-ht,List.getElem?_take]at q1;split at q1
  ·simpa using q1
  ·cases q1
end
theorem Nt(a:Adv) (ps:Option Addr) (cs:Nat) (v:Value) (l:List Mv) (w:World) (hv:oG w v l) :
  Calls Tryz.prog 217 #[.agg #[.int .i64 a.n,.slice ps a.states.length cs],v] w fun e w'=>e=.returned (.int .i64 (stateE a l))/\Below w.heap.size w w':=by
 obtain⟨pa,ca,rfl,l1,m1,e1⟩:=hv.at;clear hv;have E:=aa e1;clear e1;by_cases hz:l.length=0
 ·have bV:((l.length:Int) == 0)=true:=beq_iff_eq.2 (by omega)
  have HV:Hid (stateE a l=19):=by(have h:stateE a l=19:=by(unfold stateE;rw[if_pos hz]));exact h
  clear hz
  go_enter Tryz.func217,Tryz.ntmps217
  go_wp2_with fail
  go_ret
  exact⟨aD HV.out.symm,by go_grown⟩
 have bV:((l.length:Int) == 0)=false:=beq_eq_false_iff_ne.2 (by omega);have HV:Hid (stateE a l=aZ l.length (dH a l)):=by(have h:stateE a l=aZ l.length (dH a l):=by(unfold stateE;rw[if_neg hz]));exact h
 clear hz
 go_enter Tryz.func217,Tryz.ntmps217
 go_wp2_with fail
 refine bm (fun W=>Below w.heap.size w W/\W.heap[w.heap.size]?=some (.cells #[.int .i64 a.n,.slice ps a.states.length cs] 27))
  ⟨by go_grown,am _ _⟩ (fun W0 aV=>?_)
 obtain⟨aH,hT⟩:=aV;have HT:=aa hT;clear hT bV
 go_loopw [13] (fun i wr=>Below W0.heap.size W0 wr/\∃ k:Nat,k<=l.length/\i=.int .i64 k/\∀ j,j<k->dH a l j=0) (fun i _=>l.length - (intOf i).toNat)
 case atStart=>exact⟨Below.refl _ _,0,by omega,rfl,by simp⟩
 case round=>
  obtain⟨ar,k,hk,rfl,aR⟩:=hrel;have H:=aa aR;clear aR;have dm:=ae aH ar;by_cases aA:k<l.length
  ·obtain⟨b1,o1,rfl,⟨⟨c0,_⟩,⟨c1,_⟩,⟨c2,_⟩,⟨c3,_⟩,⟨c4,_⟩,⟨c5,_⟩,⟨c6,_⟩⟩,c7,_⟩:=E.out k aA
   have d0:=ak dm c0;have d1:=ak dm c1;have d2:=ak dm c2;have d3:=ak dm c3;have d4:=ak dm c4;have d5:=ak dm c5;have d6:=ak dm c6;have d7:=ak dm c7;clear c0 c1 c2 c3 c4 c5 c6 c7
   have HO:Hid (dH a l k=if roundE l[k].r≠0 then roundE l[k].r else if l[k].r.g.n≠a.n then 22 else if 0<k/\0<=roundC (l.getD (k - 1) default).r l[k].r then 14 else if l[k].to<0\/(a.states.length:Int)<=l[k].to then 2 else 0):=by
    have h:dH a l k=if roundE l[k].r≠0 then roundE l[k].r else if l[k].r.g.n≠a.n then 22 else if 0<k/\0<=roundC (l.getD (k - 1) default).r l[k].r then 14 else if l[k].to<0\/(a.states.length:Int)<=l[k].to then 2 else 0:=by unfold dH;rw[az default aA]
    exact h
   generalize l[k]=m at d0 d1 d2 d3 d4 d5 d6 d7 HO
   go_wp2_with fail
   refine aN (fun W=>Below wr.heap.size wr W/\W.heap[wr.heap.size]?=some (.cells #[.int .i64 m.r.g.n,.int .i64 m.r.g.h0,.int .i64 m.r.g.h1,.int .i64 m.r.g.h2,.int .i64 m.r.g.h3,.int .i64 m.r.g.h4,.int .i64 m.r.f,.int .i64 m.to] 143)) ⟨by go_grown,am _ _⟩ (fun V hV=>?_);obtain⟨kD,hC⟩:=hV;have HC:=aa hC;clear hC;have SH:=ae dm kD;refine(Dg m.r _).mono ?_;rintro e w1 ⟨rfl,aI⟩;clear d0 d1 d2 d3 d4 d5 d6 d7;have iQ:=ae SH aI;have yz:=ae ar (ae kD aI);have s1:=ab (af yz HT.out);have s2:=ab (af aI HC.out);generalize roundE m.r=er at HO;by_cases Fv:er=0
   case neg=>
    have her':(er != 0)=true:=by simpa using Fv
    go_wp2_with fail
    go_ret
    exact⟨aD (by rw[HV.out,<-bN k er aA H.out (by rw[HO.out,if_pos Fv]) Fv]),iQ⟩
   subst Fv;by_cases yv:m.r.g.n=a.n
   case neg=>
    have IF:(m.r.g.n != a.n)=true:=by simpa using yv
    go_wp2_with fail
    go_ret
    exact⟨aD (by rw[HV.out,<-bN k 22 aA H.out (by rw[HO.out,if_neg (by simp),if_pos yv]) (by decide)]),iQ⟩
   have IF:(m.r.g.n != a.n)=false:=by simpa using yv
   have gp:Hid (dH a l k=if 0<k/\0<=roundC (l.getD (k - 1) default).r m.r then 14 else if m.to<0\/(a.states.length:Int)<=m.to then 2 else 0):=by
    have h:dH a l k=if 0<k/\0<=roundC (l.getD (k - 1) default).r m.r then 14 else if m.to<0\/(a.states.length:Int)<=m.to then 2 else 0:=by rw[HO.out,if_neg (by simp),if_neg (by simpa using yv)]
    exact h
   clear HO yv
   go_wp2_with fail
   clear IF;by_cases eP:k=0
   ·have eE:Hid (dH a l k=if m.to<0\/(a.states.length:Int)<=m.to then 2 else 0):=by(have h:dH a l k=if m.to<0\/(a.states.length:Int)<=m.to then 2 else 0:=by(rw[gp.out,if_neg (by omega)]));exact h
    have hd:decide ((0:Int)<(k:Int))=false:=by simp;omega
    have fY:decide (0<k)=false:=by simp;omega
    clear gp eP s1 s2;refine aC (by kernel_rfl) (by kernel_rfl) ?_
    repeat (go_big_quiet_step (fail))
    refine wpQuiet_nil ?_;intro _ dY;obtain⟨xq,cX⟩:=dY;subst cX;clear hd fY;have r1:=ab (af (ae yz xq.ext) HT.out);have r2:=ab (af (ae aI xq.ext) HC.out);have sX:=ae iQ xq.ext
    go_wp2_with fail
    all_goals first
     | (go_ret
        refine⟨aD ?_,sX⟩
        rw[HV.out]
        go_light
        refine bN k _ aA H.out ?_ (by decide)
        rw[eE.out]
        grind)
     | (go_roundw
        case rel=>
         refine⟨ae (ae yz xq.ext) (Below.refl _ _),k+1,by omega,by go_num,aS H.out ?_⟩
         go_light
         rw[eE.out]
         grind
        case measure=>simp[intOf];omega)
   ·obtain⟨j,hj⟩:∃ j,k=j+1:=⟨k - 1,by omega⟩
    have fx:j<l.length:=by omega
    have HJ:=aa hj;obtain⟨b2,o2,e2,⟨⟨c0,_⟩,⟨c1,_⟩,⟨c2,_⟩,⟨c3,_⟩,⟨c4,_⟩,⟨c5,_⟩,⟨c6,_⟩⟩,_⟩:=E.out j fx;obtain⟨rfl,rfl⟩:b1=b2/\o1=o2:=by simpa using e2
    clear e2;have hd:decide ((0:Int)<(k:Int))=true:=by simp;omega
    have fY:0<k:=by omega
    have eE:Hid (dH a l k=if 0<=roundC l[j].r m.r then 14 else if m.to<0\/(a.states.length:Int)<=m.to then 2 else 0):=by
     have h:dH a l k=if 0<=roundC l[j].r m.r then 14 else if m.to<0\/(a.states.length:Int)<=m.to then 2 else 0:=by
      rw[gp.out];have e:k - 1=j:=by omega
      rw[e,az default fx]
      grind
     exact h
    clear gp eP hj s1 s2;have js:IntKind.i64.wrap ((k:Int) - 1)=(j:Int):=by rw[HJ.out];rw[IntWalk.i64_in _ (by omega)];omega
    generalize l[j]=m2 at c0 c1 c2 c3 c4 c5 c6 eE;have q1:∀ x:ExtW w1,∀ o,x.val.cell? ⟨w.heap.size,o,none⟩=_:=fun x=>ab (af (ae yz x.ext) HT.out)
    have q2:∀ x:ExtW w1,∀ o,x.val.cell? ⟨wr.heap.size,o,none⟩=_:=fun x=>ab (af (ae aI x.ext) HC.out)
    have k0:∀ x:ExtW w1,x.val.cell? _=_:=fun x=>x.cell (ak iQ c0)
    have k1:∀ x:ExtW w1,x.val.cell? _=_:=fun x=>x.cell (ak iQ c1)
    have k2:∀ x:ExtW w1,x.val.cell? _=_:=fun x=>x.cell (ak iQ c2)
    have k3:∀ x:ExtW w1,x.val.cell? _=_:=fun x=>x.cell (ak iQ c3)
    have k4:∀ x:ExtW w1,x.val.cell? _=_:=fun x=>x.cell (ak iQ c4)
    have k5:∀ x:ExtW w1,x.val.cell? _=_:=fun x=>x.cell (ak iQ c5)
    have k6:∀ x:ExtW w1,x.val.cell? _=_:=fun x=>x.cell (ak iQ c6)
    clear c0 c1 c2 c3 c4 c5 c6;refine aC (by kernel_rfl) (by kernel_rfl) ?_
    repeat (go_big_quiet_step ((go_at_call 220;exact Calls.ext_of (AM m2.r m.r _))))
    refine wpQuiet_nil ?_;intro _ dY;obtain⟨xq,cX⟩:=dY;subst cX;have r1:=q1 xq;have r2:=q2 xq;clear q1 q2 k0 k1 k2 k3 k4 k5 k6 hd fY js;have sX:=ae iQ xq.ext;generalize roundC m2.r m.r=oo at eE
    go_wp2_with fail
    all_goals first
     | (go_ret
        refine⟨aD ?_,sX⟩
        rw[HV.out]
        go_light
        refine bN k _ aA H.out ?_ (by decide)
        rw[eE.out]
        grind)
     | (go_roundw
        case rel=>
         refine⟨ae (ae yz xq.ext) (Below.refl _ _),k+1,by omega,by go_num,aS H.out ?_⟩
         go_light
         rw[eE.out]
         grind
        case measure=>simp[intOf];omega)
  ·go_wp2_with fail
   go_ret
   exact⟨aD (by rw[HV.out,cJ];intro j hj;exact H.out j (by omega)),dm⟩
end Go.Proofs.YtmeaoneaephjeaaGreatDoor
namespace Go.Proofs.YtmeaoneaephjeaaGreatDoor
open Go.RowKit Go Go.Shelf
attribute [local go_sem] Oper.semAt_some
theorem bd(w:World) (a b:Obj):((w.alloc a).alloc b).heap[w.heap.size+1]?=some b:=by simpa using am (w.alloc a) b
theorem dW(w:World) (a b c:Obj):(((w.alloc a).alloc b).alloc c).heap[w.heap.size+1+1]?=some c:=by simpa using am ((w.alloc a).alloc b) c
theorem iZ(tmps:Array Value) (B:Nat) (W:World) (x:Int) (ty:TypeId) (ht:tmps[2]?.getD undef=.pointer (some ⟨B,0,none⟩)) (hb:W.heap[B]?=some (.cells #[.int .i64 x] ty)) :
  (results Tryz.f211 tmps).run Tryz.prog W=.ok (.int .i64 x) W:=by
 have c:=ab hb 0;simp at c;simp[results,Tryz.results211,go_sem,ht,c]
theorem xb(a:Adv) (v:Value) (w:World) (hv:bh w v a.states) (hN:movesN a.states<1099511627776) :
  Calls Tryz.prog 211 #[.agg #[.int .i64 a.n,v]] w fun e w'=>e=.returned (.int .i64 (advE a))/\Below w.heap.size w w':=by
 have G:=aa hv;obtain⟨pa,ca,rfl,la1,la2,ea⟩:=hv.at;clear hv;have E:=aa ea;clear ea;refine fQ Tryz.func211 rfl ?_;simp only[Tryz.ntmps211,List.size_toArray,List.length_cons,List.length_nil,Nat.reduceAdd,Nat.reduceSub,Array.replicate_succ,Array.replicate_zero,List.push_toArray,List.append_toArray,List.nil_append,List.cons_append];by_cases hn:a.n<1\/5<a.n
 ·have HV:Hid (advE a=2):=by(have h:advE a=2:=by(unfold advE;rw[if_pos hn]));exact h
  rcases hn with hn|hn
  ·go_wp2_with fail
   refine ig (iZ _ _ _ 2 _ rfl (bd _ _ _)) ?_;exact⟨aD HV.out.symm,by go_grown⟩
  ·go_wp2_with fail
   refine ig (iZ _ _ _ 2 _ rfl (bd _ _ _)) ?_;exact⟨aD HV.out.symm,by go_grown⟩
 have jP:1<=a.n:=by omega
 have nW:a.n<=5:=by omega
 have HV:Hid (advE a=if sizedE a≠0 then sizedE a else if aZ a.states.length (fun s=>stateE a (a.states.getD s []))≠0 then aZ a.states.length (fun s=>stateE a (a.states.getD s [])) else if growsB a then 0 else 21):=by
  have h:advE a=if sizedE a≠0 then sizedE a else if aZ a.states.length (fun s=>stateE a (a.states.getD s []))≠0 then aZ a.states.length (fun s=>stateE a (a.states.getD s [])) else if growsB a then 0 else 21:=by
   unfold advE sizedE;rw[if_neg hn];grind
  exact h
 clear hn
 go_wp2_with fail
 refine aN (fun W=>Below w.heap.size w W/\W.heap[w.heap.size]?=some (.cells #[.int .i64 a.n,.slice pa a.states.length ca] 27)/\W.heap[w.heap.size+1]?=some (.cells #[.int .i64 0] 39)) ⟨by go_grown,ap _ (am _ _),bd _ _ _⟩ (fun W0 aV=>?_);obtain⟨aH,bB,gL⟩:=aV;refine(Ns a _ W0 (G.out.up up_moves aH) hN).mono ?_;rintro e w1 ⟨rfl,aI⟩;have dZ:=af aI bB;have ro:=af aI gL;have iX:=ae aH aI;have c1:=ab ro 0;have f1:=aE ro 0;simp at c1;have t1:=ab dZ;generalize sizedE a=es at HV;have du:=aa dZ;have cZ:=aa ro;clear bB gL aH aI W0 dZ ro;by_cases iJ:es=0
 case neg=>
  have hes':(es != 0)=true:=by simpa using iJ
  go_wp2_with fail
  refine ig (iZ _ _ _ es _ rfl (by rw[aF cZ.out];rfl)) ?_;exact⟨aD (by rw[HV.out,if_pos iJ]),iX.setCell (by simp) _⟩
 subst iJ
 go_wp2_with fail
 clear t1 c1 f1
 go_loopw [27] (fun i wr=>Below w1.heap.size w1 wr/\∃ k:Nat,k<=a.states.length/\i=.int .i64 k/\∀ j,j<k->stateE a (a.states.getD j [])=0) (fun i _=>a.states.length - (intOf i).toNat)
 case atStart=>exact⟨Below.refl _ _,0,by omega,rfl,by simp⟩
 case round=>
  obtain⟨ar,k,hk,rfl,aR⟩:=hrel;have H:=aa aR;clear aR;have dm:=ae iX ar;have sW:=af ar du.out;have TO:=af ar cZ.out;have t1:=ab sW;by_cases aA:k<a.states.length
  ·obtain⟨b1,o1,rfl,x,cx,hx⟩:=E.out k aA
   rw[Nat.mul_one]at cx;have d1:=ak dm cx;have HX:=aa (hx.up up_move dm);obtain⟨px,qx,rfl,_⟩:=hx;clear cx;have Ti:=aa TO;clear sW TO
   go_wp2_with fail
   refine(Nt a _ _ _ _ _ HX.out).mono ?_;rintro e w2 ⟨rfl,aU⟩;have l3:=af aU Ti.out;have c1:=ab l3 0;have f1:=aE l3 0;simp at c1;have dN:=aa l3;clear l3;have HS:Hid (stateE a (a.states.getD k [])=stateE a a.states[k]):=by(have h:stateE a (a.states.getD k [])=stateE a a.states[k]:=by(rw[az [] aA]));exact h
   generalize stateE a a.states[k]=ek at HS;clear t1 d1;by_cases sQ:ek=0
   ·subst sQ
    go_wp2_with fail
    go_roundw
    case rel=>exact⟨ae ar aU,k+1,by omega,by go_num,aS H.out HS.out⟩
    case measure=>simp[intOf];omega
   ·have RC:(ek != 0)=true:=by simpa using sQ
    go_wp2_with fail
    refine ig (iZ _ _ _ ek _ rfl (by rw[aF dN.out];rfl)) ?_;exact⟨aD (by rw[HV.out,if_neg (by simp),<-bN (f:=fun s=>stateE a (a.states.getD s [])) k ek aA H.out HS.out sQ,if_pos sQ]),(ae dm aU).setCell (by simp) _⟩
  ·have aQ:∀ j,j<a.states.length->stateE a (a.states.getD j [])=0:=fun j hj=>H.out j (by omega)
   have cV:Hid (advE a=if growsB a then 0 else 21):=by
    have h:advE a=if growsB a then 0 else 21:=by rw[HV.out,if_neg (by simp),cJ _ _ aQ];simp
    exact h
   have mz:=aa aQ;clear aQ H HV;have HAr:=aa sW;have Ti:=aa TO;clear sW TO
   go_wp2_with fail
   refine(xa _ _ _ _ _).mono ?_;rintro e w2 ⟨rfl,rfl⟩;clear t1
   go_wp2_with fail
   refine bm (fun W=>Below w.heap.size w W/\W.heap[w.heap.size]?=some (.cells #[.int .i64 a.n,.slice pa a.states.length ca] 27)/\W.heap[w.heap.size+1]?=some (.cells #[.int .i64 0] 39)/\W.heap[wr.heap.size]?=some (.cells #[.int .i64 a.n,.slice pa a.states.length ca] 27))
    ⟨dm.alloc dm.size _,ap _ HAr.out,ap _ Ti.out,am _ _⟩ (fun W0 aV=>?_)
   obtain⟨aH,hA,hR,hX⟩:=aV;have cY:=vy w _ a.states G.out W0 aH wr.heap.size (by simp[ab hX]);have eT:=aB hX;have hsw:=dm.size;have hsR:=aB Ti.out
   refine mj (gf:=221) (lb:=#[.pointer (some ⟨wr.heap.size,0,none⟩)]) rfl (enters_of Tryz.func221 (by kernel_rfl) rfl) cY (Below.refl _ _) (fun k hk=>Nat.lt_of_lt_of_le hk aH.size) (fun i=>rfl)
    (fun i W=>Below w.heap.size w W/\W.heap[w.heap.size]?=some (.cells #[.int .i64 a.n,.slice pa a.states.length ca] 27)/\W.heap[w.heap.size+1]?=some (.cells #[.int .i64 0] 39)/\∀ j,j<i->pk a j=false)
    (fun c _ W=>c=.ret/\Below w.heap.size w W/\W.heap[w.heap.size+1]?=some (.cells #[.int .i64 21] 39)/\growsB a=false)
    (fun i=>(cB.below (by omega)).and (cB.cells.and (cB.cells.and cB.pure))) (fun c i=>cB.pure.and ((cB.below (by omega)).and (cB.cells.and cB.pure))) ⟨aH,hA,hR,by simp⟩ ?round ?done ?stop
   case round=>
    intro yl i W hi hl hI;unfold Gp;have gg:=TV mz.out hi;have HB:Hid (pk a i=anyLt (mY a i).length fun k=>!iA (mvAt a.states i).2.r.f ((mY a i).getD k default).r.f):=by(have h:pk a i=anyLt (mY a i).length fun k=>!iA (mvAt a.states i).2.r.f ((mY a i).getD k default).r.f:=rfl);exact h
    have P5:Hid (mY a i=a.states.getD (mvAt a.states i).2.to.toNat []):=by(have h:mY a i=a.states.getD (mvAt a.states i).2.to.toNat []:=rfl);exact h
    generalize mvAt a.states i=sm at gg HB P5;obtain⟨sx,m⟩:=sm;dsimp only at gg HB P5;obtain⟨⟨gI,eF⟩,ht0,ht1⟩:=gg;have HI:=aa hI;clear hI;have RB:=HI.out.1.size
    gi_wp2
    refine⟨Bod.of_below (fun k hk=>Nat.lt_of_lt_of_le hk RB) (by go_grown),(fun W'=>Below w.heap.size w W'/\W'.heap[w.heap.size]?=some (.cells #[.int .i64 a.n,.slice pa a.states.length ca] 27)/\W'.heap[w.heap.size+1]?=some (.cells #[.int .i64 0] 39)/\W'.heap[W.heap.size]?=some (.cells #[.int .i64 m.r.g.n,.int .i64 m.r.g.h0,.int .i64 m.r.g.h1,.int .i64 m.r.g.h2,.int .i64 m.r.g.h3,.int .i64 m.r.g.h4,.int .i64 m.r.f,.int .i64 m.to] 143)),
     (cB.below (by omega)).and (cB.cells.and (cB.cells.and cB.cells)),⟨HI.out.1.alloc RB _,ap _ HI.out.2.1,ap _ HI.out.2.2.1,am _ _⟩,fun W2 h2 _=>?_⟩
    obtain⟨g1,g2,g3,g4⟩:=h2;have qi:=aa HI.out.2.2.2;have Ic:=g1.size;have hszR:=aB g3;have hszM:=aB g4;have tA:=ab g2;have tM:=ab g4;have nQ:=aa g1;have Ch:=aa g3;have ru:=aa g2;have Tz:=aa g4;clear g1 g2 g3 g4 HI cY hA hR hX;obtain⟨b1,o1,rfl,x,cx,hx⟩:=E.out m.to.toNat (by omega);have HL:Hid (mY a i=a.states[m.to.toNat]):=by(have h:mY a i=a.states[m.to.toNat]:=by(rw[P5.out,az [] (by omega)]));exact h
    rw[Nat.mul_one]at cx;have d1:=ak nQ.out cx;obtain⟨p2,c2,rfl,m1,m2,e2⟩:=hx.at;clear hx cx;have E2:=aa e2;clear e2;generalize hLL:a.states[m.to.toNat]=L at HL E2 d1 m1 m2;have kJ:=aa hLL;clear hLL
    gi_wp2
    clear tA tM d1
    gi_loopw [49] (fun i wr=>Below W2.heap.size W2 wr/\∃ q:Nat,q<=L.length/\i=.int .i64 q/\∀ j,j<q->iA m.r.f (L.getD j default).r.f=true) (fun i _=>L.length - (intOf i).toNat)
    case atStart=>exact⟨Below.refl _ _,0,by omega,rfl,by simp⟩
    case round=>
     obtain⟨jJ,q,hq,rfl,pD⟩:=hrel;have H2:=aa pD;clear pD;have tM:=ab (af jJ Tz.out);have C5:=af jJ Ch.out;have c1':=ab C5 0;have f1':=aE C5 0;simp at c1';have fm:=aa C5;clear C5;have kr:=ae nQ.out jJ;have iI:=jJ.size;have rm:W.heap.size<wr.heap.size:=by omega
     have hR3':w.heap.size+1<wr.heap.size:=by omega
     by_cases As:q<L.length
     ·have MI:0<=L[q].r.f/\L[q].r.f<32:=by
       have:=(kL mz.out (s:=m.to.toNat) (j:=q) (by omega) (by rw[kJ.out];exact As)).1;simpa[kJ.out] using this
      have Xj:Hid (L.getD q default=L[q]):=az default As;obtain⟨b2,o2,rfl,⟨⟨c0,_⟩,⟨c1,_⟩,⟨c2,_⟩,⟨c3,_⟩,⟨c4,_⟩,⟨c5,_⟩,⟨c6,_⟩⟩,c7,_⟩:=E2.out q As;have d0:=ak kr c0;have d1:=ak kr c1;have d2:=ak kr c2;have d3:=ak kr c3;have d4:=ak kr c4;have d5:=ak kr c5;have d6:=ak kr c6;have d7:=ak kr c7;clear c0 c1 c2 c3 c4 c5 c6 c7;generalize L[q]=y at MI Xj d0 d1 d2 d3 d4 d5 d6 d7;have gw:=FL m.r.f y.r.f gI eF MI.1 MI.2;clear MI;cases cO:iA m.r.f y.r.f with
      | true=>
       rw[cO]at gw;have iS:=aa cO;clear cO
       gi_wp2
       go_roundw
       case rel=>exact⟨jJ.alloc jJ.size _,q+1,by omega,by go_num,aS H2.out (by rw[Xj.out];exact iS.out)⟩
       case measure=>simp[intOf];omega
      | false=>
       rw[cO]at gw;have iS:=aa cO;clear cO
       gi_wp2
       refine⟨((Bod.of_below (fun k hk=>Nat.lt_of_lt_of_le hk Ic) jJ).trans (Bod.setCell _ ⟨w.heap.size+1,0,none⟩ _ (fun h=>by dsimp only at h;omega))).trans (Bod.of_below (fun k hk=>by simp only[World.size_setCell];omega) (by go_grown)),rfl,(kr.setCell (p:=⟨w.heap.size+1,0,none⟩) (by dsimp only;omega) _).alloc (by simp only[World.size_setCell];omega) _,?_,?_⟩
       ·exact ap _ (by rw[aF fm.out];rfl)
       ·unfold growsB
        rw[dV _ i _ hi (by rw[HB.out,HL.out];exact dV _ q _ As (by rw[Xj.out,iS.out];rfl))];rfl
     ·gi_wp2
      refine⟨Bod.of_below (fun k hk=>Nat.lt_of_lt_of_le hk Ic) jJ,kr,af jJ ru.out,fm.out,aS qi.out ?_⟩;rw[HB.out,HL.out];exact eG _ _ (fun j hj=>by rw[H2.out j (by omega)];rfl)
   case done=>
    intro D W hD hI hK;obtain⟨g1,g2,g3,g4⟩:=hI;have HG:=aa (And.intro g1 (And.intro g2 (And.intro g3 g4)));have c1:=ab g3 0;have f1:=aE g3 0;simp at c1;clear g1 g2 g3 g4 cY hA hR hX
    go_wp2_with fail
    refine ip (by rw[<-hK];exact Below.heap_setCell _ _ _ _ (by dsimp only;omega)) (iZ _ _ _ 0 _ rfl ((World.putObj_heap_other (by omega)).trans (by rw[aF HG.out.2.2.1];rfl))) ?_;refine⟨aD ?_,eH (by omega) (HG.out.1.setCell (by simp) _)⟩;rw[cV.out];unfold growsB;rw[eG _ _ HG.out.2.2.2];rfl
   case stop=>
    rintro D c i W hD hi ⟨rfl,g1,g2,g3⟩ hK;have HG:=aa (And.intro g1 (And.intro g2 g3));clear g1 g2 g3 cY hA hR hX
    go_wp2_with fail
    refine ip hK (iZ _ _ _ 21 _ rfl ((World.putObj_heap_other (by omega)).trans HG.out.2.1)) ?_;exact⟨aD (by rw[cV.out,HG.out.2.2];rfl),eH (by omega) HG.out.1⟩
end Go.Proofs.YtmeaoneaephjeaaGreatDoor
namespace Go.Proofs.YtmeaoneaephjeaaGreatDoor
open Go.RowKit Go Go.Shelf
theorem wo{l n:Nat} {P:Program} {f:FuncId} {args:Array Value} {w:World} {R:Ending->World->Prop} (h:Calls P f args w R):CallsIn (Fence.wide.inRound l) n P f args w R:=(callsIn_wide (n:=n)).2 h
theorem wu{l l' n:Nat} {P:Program} {f:FuncId} {tmps:Array Value} {assign body:Code} {w:World} {R:Ending->World->Prop} (h:RoundIn Fence.wide n P l f tmps assign body w R):RoundIn (Fence.wide.inRound l') n P l f tmps assign body w R:=h
end Go.Proofs.YtmeaoneaephjeaaGreatDoor
namespace Go.Proofs.YtmeaoneaephjeaaGreatDoor
theorem Nu(x y:Int) (r s:List Int):ordV (x :: r) (y :: s)=if cmpI x y≠0 then cmpI x y else ordV r s:=by
 rw[ordV];unfold cmpI;grind
theorem jy(n:Nat) (f:Nat->Int):aZ (n+1) f=if f 0≠0 then f 0 else aZ n (fun j=>f (j+1)):=by
 induction n with
 | zero=>simp[aZ]
 | succ n ih=>
  rw[aZ,ih]
  conv=>rhs;rw[aZ]
  grind
def Rd.list(r:Rd):List Int:=[r.g.n,r.g.h0,r.g.h1,r.g.h2,r.g.h3,r.g.h4,r.f]
theorem Ju(a b:Rd):roundC a b=ordV a.list b.list:=by
 unfold Rd.list roundC fd;rw[jy,jy,jy,jy,jy];simp only[Nu,aZ,Gr.hear];have h0:ordV [] []=0:=rfl;rw[h0];generalize cmpI a.g.n b.g.n=c0;generalize cmpI a.g.h0 b.g.h0=c1;generalize cmpI a.g.h1 b.g.h1=c2;generalize cmpI a.g.h2 b.g.h2=c3;generalize cmpI a.g.h3 b.g.h3=c4;generalize cmpI a.g.h4 b.g.h4=c5;generalize cmpI a.f b.f=c6
 grind
theorem Lm{a b c:List Int} (h1:ordV a b<0) (h2:ordV b c<0):ordV a c<0:=by
 induction a generalizing b c with
 | nil=>
  cases b with
  | nil=>simp[ordV]at h1
  | cons y s=>
   cases c with
   | nil=>simp[ordV]at h2
   | cons z t=>simp[ordV]
 | cons x r ih=>
  cases b with
  | nil=>simp[ordV]at h1
  | cons y s=>
   cases c with
   | nil=>simp[ordV]at h2
   | cons z t=>
    unfold ordV at h1 h2 ⊢;by_cases bY:x<y
    ·by_cases Xf:y<z
     ·rw[if_pos (by omega)];omega
     ·rw[if_neg Xf]at h2
      by_cases SG:z<y
      ·rw[if_pos SG]at h2;omega
      ·rw[if_pos (by omega)];omega
    ·rw[if_neg bY]at h1
     by_cases oC:y<x
     ·rw[if_pos oC]at h1;omega
     ·rw[if_neg oC]at h1
      by_cases Xf:y<z
      ·rw[if_pos (by omega)];omega
      ·rw[if_neg Xf]at h2
       by_cases SG:z<y
       ·rw[if_pos SG]at h2;omega
       ·rw[if_neg SG]at h2
        rw[if_neg (by omega),if_neg (by omega)];exact ih h1 h2
theorem gY{a:Adv} (h:advE a=0):(1<=a.states.length/\a.states.length<=256)/\(∀ s,s<a.states.length->stateE a (a.states.getD s [])=0)/\growsB a=true/\1<=a.n/\a.n<=5:=by
 unfold advE at h;by_cases h1:a.n<1\/5<a.n
 ·rw[if_pos h1]at h;omega
 ·rw[if_neg h1]at h
  by_cases h2:a.states.length<1\/256<a.states.length\/4096<movesN a.states
  ·rw[if_pos h2]at h;omega
  ·rw[if_neg h2]at h
   by_cases h3:aZ a.states.length (fun s=>stateE a (a.states.getD s []))=0
   ·rw[if_neg (by simpa using h3)]at h
    refine⟨by omega,fo h3,?_,by omega,by omega⟩;cases hg:growsB a with
    | true=>rfl
    | false=>rw[hg]at h;simp at h
   ·rw[if_pos h3]at h;exact absurd h h3
structure Pl where
 rd:Int
 pr:Int
 h0:Int
 h1:Int
 h2:Int
 h3:Int
 h4:Int
instance:DecidableEq Pl:=fun a b=>decidable_of_iff (a.rd=b.rd/\a.pr=b.pr/\a.h0=b.h0/\a.h1=b.h1/\a.h2=b.h2/\a.h3=b.h3/\a.h4=b.h4) (by cases a;cases b;simp)
end Go.Proofs.YtmeaoneaephjeaaGreatDoor
namespace Go.Proofs.YtmeaoneaephjeaaGreatDoor
open Go.RowKit Go Go.Shelf
attribute [local go_sem] Oper.semAt_some
abbrev Rd.c(r:Rd):Array Value:=#[.int .i64 r.g.n,.int .i64 r.g.h0,.int .i64 r.g.h1,.int .i64 r.g.h2,.int .i64 r.g.h3,.int .i64 r.g.h4,.int .i64 r.f]
end Go.Proofs.YtmeaoneaephjeaaGreatDoor
