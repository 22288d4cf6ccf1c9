/-
  A part of the proof: lemmas and contracts that the parts behind it use. Each one's conditions are its own premises.
-/
import Derived.Handy
import Derived.LoopTactic
import Derived.Outline
import Derived.Lib.Hide
import Derived.Deep.QuietTactic
import Derived.BigQuiet
import Derived.Deep.Cut
import Derived.Deep.Light
import Derived.Shelf.Abstract
import Derived.RangeFuncNested
import Derived.StillTailTactics
import Derived.OrdersIn
import Derived.StillTail
import Derived.WalkKit
import Derived.ProofKit
import Derived.OpenShut
import Derived.ShutString
import Derived.ChangeOld
import Derived.Below
import Derived.SizedLaws
import Derived.Deep.Slices
import Derived.Test.YtiocdkdkndpgkaaGreatRows
set_option maxRecDepth 100000
set_option maxHeartbeats 8000000
set_option linter.unusedVariables false
set_option linter.unusedSimpArgs false
namespace Go.Proofs.YtiocdkdkndpgkaaGreat
structure Gr where
 n:Int
 h0:Int
 h1:Int
 h2:Int
 h3:Int
 h4:Int
structure Rd where
 g:Gr
 f:Int
structure Mv where
 r:Rd
 to:Int
structure Adv where
 n:Int
 states:List (List Mv)
structure Cs where
 inp:List Int
 out:List (List Int)
 calm:List (List Int)
structure Tk where
 n:Int
 ins:Int
 outs:Int
 cases:List Cs
structure Pb where
 t:Tk
 a:Adv
 rounds:Int
instance:Inhabited Gr:=⟨⟨0,0,0,0,0,0⟩⟩
instance:Inhabited Rd:=⟨⟨default,0⟩⟩
instance:Inhabited Mv:=⟨⟨default,0⟩⟩
instance:Inhabited Cs:=⟨⟨[],[],[]⟩⟩
instance:DecidableEq Gr:=fun a b=>decidable_of_iff (a.n=b.n/\a.h0=b.h0/\a.h1=b.h1/\a.h2=b.h2/\a.h3=b.h3/\a.h4=b.h4) (by cases a;cases b;simp)
instance:DecidableEq Rd:=fun a b=>decidable_of_iff (a.g=b.g/\a.f=b.f) (by cases a;cases b;simp)
def Gr.hear(g:Gr) (k:Nat):Int:=match k with|0=>g.h0|1=>g.h1|2=>g.h2|3=>g.h3|4=>g.h4|_=>0
def ay(n:Nat) (f:Nat->Int):Int:=match n with|0=>0|m+1=>if ay m f≠0 then ay m f else f m
theorem cj(n:Nat) (f:Nat->Int) (h:∀ j,j<n->f j=0):ay n f=0:=by
 induction n with
 | zero=>rfl
 | succ m ih=>unfold ay;rw[ih (fun j hj=>h j (by omega))];simp;exact h m (by omega)
theorem v5(n k:Nat) (f:Nat->Int) (hk:k<n) (h:∀ j,j<k->f j=0) (hz:f k≠0):ay n f=f k:=by
 induction n with
 | zero=>omega
 | succ m ih=>
  unfold ay;by_cases e:k=m
  ·subst e;rw[cj k f h];simp
  ·rw[ih (by omega)];simp[hz]
theorem bR{n:Nat} {f:Nat->Int} (k:Nat) (v:Int) (hk:k<n) (h:∀ j,j<k->f j=0) (hv:f k=v) (hz:v≠0):v=ay n f:=by
 subst hv;exact(v5 n k f hk h hz).symm
theorem bG{p:Nat->Prop} {k:Nat} (h:∀ j,j<k->p j) (hk:p k):∀ j,j<k+1->p j:=fun j hj=>by
 by_cases e:j=k
 ·subst e;exact hk
 ·exact h j (by omega)
theorem bH{n:Nat} {f:Nat->Int} (h:ay n f=0):∀ j,j<n->f j=0:=by
 induction n with
 | zero=>intro j hj;omega
 | succ m ih=>
  unfold ay at h;by_cases e:ay m f=0
  ·simp[e]at h;intro j hj;by_cases ej:j=m
   ·subst ej;exact h
   ·exact ih e j (by omega)
  ·simp[e]at h
def firstIx(n:Nat) (p:Nat->Bool):Int:=match n with|0=>-1|m+1=>if firstIx m p≠-1 then firstIx m p else if p m then m else -1
theorem cU(n:Nat) (p:Nat->Bool) (h:∀ j,j<n->p j=false):firstIx n p=-1:=by
 induction n with
 | zero=>rfl
 | succ m ih=>unfold firstIx;rw[ih (fun j hj=>h j (by omega))];simp[h m (by omega)]
theorem cD(n k:Nat) (p:Nat->Bool) (hk:k<n) (h:∀ j,j<k->p j=false) (hz:p k=true):firstIx n p=k:=by
 induction n with
 | zero=>omega
 | succ m ih=>
  unfold firstIx;by_cases e:k=m
  ·subst e;rw[cU k p h];simp[hz]
  ·rw[ih (by omega)];simp
theorem cn(n:Nat) (p:Nat->Bool):(firstIx n p=-1/\∀ j,j<n->p j=false)\/∃ k,k<n/\firstIx n p=k/\p k=true/\∀ j,j<k->p j=false:=by
 induction n with
 | zero=>exact .inl ⟨rfl,fun j hj=>by omega⟩
 | succ m ih=>
  rcases ih with ⟨h,hn⟩|⟨k,hk,h,hp,hn⟩
  ·by_cases e:p m=true
   ·exact .inr ⟨m,by omega,by rw[cD (m+1) m p (by omega) hn e],e,hn⟩
   ·refine .inl ⟨cU _ _ (fun j hj=>?_),fun j hj=>?_⟩ <;>
    ·by_cases ej:j=m
     ·subst ej;simpa using e
     ·exact hn j (by omega)
  ·exact .inr ⟨k,by omega,by rw[cD (m+1) k p (by omega) hn hp],hp,hn⟩
def anyLt(n:Nat) (p:Nat->Bool):Bool:=match n with|0=>false|m+1=>anyLt m p || p m
theorem jI(n:Nat) (p:Nat->Bool) (h:∀ j,j<n->p j=false):anyLt n p=false:=by
 induction n with
 | zero=>rfl
 | succ m ih=>unfold anyLt;rw[ih (fun j hj=>h j (by omega)),h m (by omega)];rfl
theorem aD(n k:Nat) (p:Nat->Bool) (hk:k<n) (h:p k=true):anyLt n p=true:=by
 induction n with
 | zero=>omega
 | succ m ih=>
  unfold anyLt;by_cases e:k=m
  ·subst e;simp[h]
  ·rw[ih (by omega)];rfl
theorem Im(n:Nat) (p:Nat->Bool):anyLt n p=true↔∃ k,k<n/\p k=true:=by
 constructor
 ·intro h;induction n with
  | zero=>simp[anyLt]at h
  | succ m ih=>
   unfold anyLt at h;cases hm:anyLt m p with
   | true=>obtain⟨k,hk,hp⟩:=ih hm;exact⟨k,by omega,hp⟩
   | false=>rw[hm]at h;exact⟨m,by omega,by simpa using h⟩
 ·rintro⟨k,hk,hp⟩;exact aD n k p hk hp
theorem aI(n:Nat) (p:Nat->Bool):anyLt n p=false↔∀ k,k<n->p k=false:=by
 constructor
 ·intro h k hk;cases hp:p k with
  | false=>rfl
  | true=>rw[aD n k p hk hp]at h;cases h
 ·exact jI n p
theorem lO(n:Nat) (p:Nat->Bool):decide (0<=firstIx n p)=anyLt n p:=by
 rcases cn n p with ⟨h,hn⟩|⟨k,hk,h,hp,_⟩
 ·rw[h,jI n p hn];rfl
 ·rw[h,aD n k p hk hp];simp
def dR(n:Int):Int:=if n<1\/5<n then 1 else 0
def gj(n set:Int):Int:=if dR n≠0 then dR n else if set<0\/set / 2 ^ n.toNat≠0 then 2 else 0
def bX(set:Int) (p:Nat):Bool:=set / 2 ^ p % 2 == 1
def ji(n x:Int) (p:Nat):Int:=
 if n<=p then(if x≠0 then 3 else 0) else if x<0\/2 ^ n.toNat - 1<x then 2 else if bX x p then 0 else 3
def dS(g:Gr):Int:=if g.n<1\/5<g.n then 2 else ay 5 fun p=>ji g.n (g.hear p) p
def cmpI(a b:Int):Int:=if a<b then -1 else if b<a then 1 else 0
def bJ(a b:Gr):Int:=if cmpI a.n b.n≠0 then cmpI a.n b.n else ay 5 fun p=>cmpI (a.hear p) (b.hear p)
def roundE(r:Rd):Int:=if dS r.g≠0 then dS r.g else gj r.g.n r.f
def roundC(a b:Rd):Int:=if bJ a.g b.g≠0 then bJ a.g b.g else cmpI a.f b.f
theorem cA{α:Type} {l:List α} {k:Nat} (h:k<l.length):l.drop k=l[k] :: l.drop (k+1):=(List.drop_eq_getElem_cons h)
def ordV:List Int->List Int->Int
 | [],[]=>0
 | [],_ :: _=>-1
 | _ :: _,[]=>1
 | a :: r,b :: s=>if a<b then -1 else if b<a then 1 else ordV r s
theorem my(b:List Int):ordV [] b=if 0<b.length then -1 else 0:=by cases b<;>simp[ordV]
theorem l9(a:List Int):ordV a a=0:=by induction a with|nil=>rfl|cons x r ih=>simp[ordV,ih]
theorem In{a b:List Int} (h:ordV a b=0):a=b:=by
 induction a generalizing b with
 | nil=>cases b with|nil=>rfl|cons y s=>simp[ordV]at h
 | cons x r ih=>
  cases b with
  | nil=>simp[ordV]at h
  | cons y s=>
   unfold ordV at h;split at h
   ·omega
   ·split at h
    ·omega
    ·rw[ih h,show x=y by omega]
def vectorE(v:List Int) (n most:Int):Int:=if (v.length:Int)≠n then 15 else if anyLt v.length (fun i=>decide (v.getD i 0<0) || decide (most<=v.getD i 0)) then 2 else 0
def unordB(l:List (List Int)) (i:Nat):Bool:=decide (0<i)&&decide (0<=ordV (l.getD (i - 1) []) (l.getD i []))
def eqV(a b:List Int):Bool:=decide (a=b)
def hasV(l:List (List Int)) (v:List Int):Bool:=anyLt l.length fun i=>eqV (l.getD i []) v
def iM(t:Tk) (c:Cs) (i:Nat):Int:=if vectorE (c.out.getD i []) t.n t.outs≠0 then vectorE (c.out.getD i []) t.n t.outs else if unordB c.out i then 14 else 0
def gk(c:Cs) (i:Nat):Int:=if hasV c.out (c.calm.getD i []) then(if unordB c.calm i then 14 else 0) else 6
def vectorsE(t:Tk) (c:Cs):Int:=
 if c.out.length<1\/1024<c.out.length then 5
 else if ay c.out.length (iM t c)≠0 then ay c.out.length (iM t c) else ay c.calm.length (gk c)
def dl(t:Tk) (i:Nat):Int:=
 if vectorE (t.cases.getD i default).inp t.n t.ins≠0 then vectorE (t.cases.getD i default).inp t.n t.ins
 else if 0<i/\0<=ordV (t.cases.getD (i - 1) default).inp (t.cases.getD i default).inp then 14 else vectorsE t (t.cases.getD i default)
def taskE(t:Tk):Int:=
 if t.n<1\/5<t.n\/t.ins<1\/8<t.ins\/t.outs<1\/8<t.outs then 2
 else if t.cases.length<1\/1024<t.cases.length then 5 else ay t.cases.length (dl t)
def az(l:List (List Mv)):Nat:=(l.map List.length).sum
def cr(a:Adv) (l:List Mv) (i:Nat):Int:=
 if roundE (l.getD i default).r≠0 then roundE (l.getD i default).r
 else if (l.getD i default).r.g.n≠a.n then 22
 else if 0<i/\0<=roundC (l.getD (i - 1) default).r (l.getD i default).r then 14
 else if (l.getD i default).to<0\/(a.states.length:Int)<=(l.getD i default).to then 2 else 0
def stateE(a:Adv) (l:List Mv):Int:=if l.length=0 then 19 else ay l.length (cr a l)
def bF(x y:Int):Bool:=!anyLt 5 fun p=>bX x p&&!bX y p
theorem aj{α:Type} {l:List α} {i:Nat} (d:α) (h:i<l.length):l.getD i d=l[i]:=by simp[h]
end Go.Proofs.YtiocdkdkndpgkaaGreat
namespace Go.Proofs.YtiocdkdkndpgkaaGreat
open Go.RowKit Go Go.Shelf
def cV(x:Int):Prop:=-9223372036854775808<=x/\x<=9223372036854775807
theorem EK{w:World} {a:Addr} {v:Value} (h:w.cell? a=some v):a.block<w.heap.size:=by
 unfold World.cell? at h;split at h
 ·rename_i hb;exact(Array.getElem?_eq_some_iff.1 hb).1
 ·cases h
theorem aC{w w':World} (hb:Below w.heap.size w w') {a:Addr} {v:Value} (h:w.cell? a=some v):w'.cell? a=some v:=(hb.cell (EK h)).trans h
theorem RF{B:Nat} {W w1:World} (hb:Below B W w1):(∀ b o,b<B->w1.cell? ⟨b,o,none⟩=W.cell? ⟨b,o,none⟩)/\(∀ b o,b<B->w1.frozen? ⟨b,o,none⟩=W.frozen? ⟨b,o,none⟩):=
 ⟨fun b o h=>hb.cell (p:=⟨b,o,none⟩) h,fun b o h=>hb.frozen (p:=⟨b,o,none⟩) h⟩
theorem aE{k:IntKind} {a b:Int} (h:a=b):Ending.returned (.int k a)=.returned (.int k b):=by rw[h]
theorem fW{a b:Bool} (h:a=b):Ending.returned (.bool a)=.returned (.bool b):=by rw[h]
theorem ak{a b c:World} (h:Below a.heap.size a b) (k:Below b.heap.size b c):Below a.heap.size a c:=h.trans (k.mono h.size)
theorem lP{B:Nat} {a w:World} (h:Below B a w) (n:Nat):Below B a (w.drewN n):=⟨h.os,h.tape,h.output,h.size,h.block⟩
theorem aA(w:World) (o:Obj):(w.alloc o).heap[w.heap.size]?=some o:=by
 show (w.heap.push o)[w.heap.size]?=some o
 simp
theorem aH{w:World} {k:Nat} {x:Obj} (o:Obj) (h:w.heap[k]?=some x):(w.alloc o).heap[k]?=some x:=
 (Below.heap_alloc w o k (Array.getElem?_eq_some_iff.1 h).1).trans h
theorem aw{w:World} {k:Nat} {x:Obj} (h:w.heap[k]?=some x):k<w.heap.size:=(Array.getElem?_eq_some_iff.1 h).1
theorem aq{w w':World} (hb:Below w.heap.size w w') {k:Nat} {x:Obj} (h:w.heap[k]?=some x):w'.heap[k]?=some x:=
 (hb.block k (Array.getElem?_eq_some_iff.1 h).1).trans h
theorem ae{w:World} {B:Nat} {cs:Array Value} {t:TypeId} {f:Nat × Nat} (h:w.heap[B]?=some (.cells cs t f)) (o:Nat):w.cell? ⟨B,o,none⟩=cs[o]?:=by
 simp[World.cell?,h]
theorem bf{w:World} {B:Nat} {cs:Array Value} {t:TypeId} (h:w.heap[B]?=some (.cells cs t (0,0))) (o:Nat):w.frozen? ⟨B,o,none⟩=false:=by
 simp[World.frozen?,h]
theorem eE{P:Program} {c:Code} {Q:Exit->Act->World->Prop} {a:Act} {W:World} (I:World->Prop) (h:I W) (k:∀ W0,I W0->c.wp P Q a W0):c.wp P Q a W:=k W h
def CK(w w':World):Prop:=∀ (k:Nat) (o:Obj),w.heap[k]?=some o->o.isCells=true->w'.heap[k]?=some o
theorem CK.of_below{w w':World} (h:Below w.heap.size w w'):CK w w':=fun _ _ hk _=>aq h hk
theorem CK.cell{w w':World} (h:CK w w') {a:Addr} {v:Value} (hc:w.cell? a=some v):w'.cell? a=some v:=by
 unfold World.cell? at hc ⊢;cases ho:w.heap[a.block]? with
 | none=>simp[ho]at hc
 | some o=>cases o<;>simp only[ho]at hc<;>first|(rw[h _ _ ho rfl];exact hc)|cases hc
def Up{α:Type} (R:World->Nat->Nat->α->Prop):Prop:=∀ (w w':World) (b o:Nat) (x:α),CK w w'->R w b o x->R w' b o x
theorem dB{P:Program} {f:FuncId} {args:Array Value} {R:Ending->World->Prop} {W:World} (I:World->Prop) (h:I W) (k:∀ W0,I W0->Calls P f args W0 R):Calls P f args W R:=k W h
def fu{α:Type} (k:Nat) (R:World->Nat->Nat->α->Prop) (w:World) (v:Value) (l:List α):Prop:=
 ∃ a cap,v=.slice a l.length cap/\(l.length<=cap/\cap<=9223372036854775807/\(a=none->cap=0))/\l.length<=17592186044416/\∀ i x,l[i]?=some x->∃ b off,a=some ⟨b,off,none⟩/\R w b (off+i * k) x
theorem fu.ck{α:Type} {k:Nat} {R:World->Nat->Nat->α->Prop} (hR:Up R) {w w':World} {v:Value} {l:List α} (hb:CK w w') (h:fu k R w v l):fu k R w' v l:=by
 obtain⟨a,cap,rfl,h1,h2,h3⟩:=h;refine⟨a,cap,rfl,h1,h2,fun i x hx=>?_⟩;obtain⟨b,off,ha,hr⟩:=h3 i x hx;exact⟨b,off,ha,hR _ _ _ _ _ hb hr⟩
theorem fu.up{α:Type} {k:Nat} {R:World->Nat->Nat->α->Prop} (hR:Up R) {w w':World} {v:Value} {l:List α} (hb:Below w.heap.size w w') (h:fu k R w v l):fu k R w' v l:=h.ck hR (.of_below hb)
theorem fu.at{α:Type} {k:Nat} {R:World->Nat->Nat->α->Prop} {w:World} {v:Value} {l:List α} (h:fu k R w v l) :
  ∃ a cap,v=.slice a l.length cap/\l.length<=cap/\l.length<=17592186044416/\∀ i (hi:i<l.length),∃ b off,a=some ⟨b,off,none⟩/\R w b (off+i * k) l[i]:=by
 obtain⟨a,cap,rfl,h1,h2,h3⟩:=h;exact⟨a,cap,rfl,h1.1,h2,fun i hi=>h3 i _ (List.getElem?_eq_getElem hi)⟩
def o8{α:Type} (k:Nat) (R:World->Nat->Nat->α->Prop) (w:World) (b o:Nat) (l:List α):Prop:=∃ v,w.cell? ⟨b,o,none⟩=some v/\fu k R w v l
theorem xW{α:Type} {k:Nat} {R:World->Nat->Nat->α->Prop} (hR:Up R):Up (o8 k R):=fun _ _ _ _ _ hb ⟨v,hc,hs⟩=>⟨v,hb.cell hc,hs.ck hR hb⟩
def gH(w:World) (b o:Nat) (x:Int):Prop:=w.cell? ⟨b,o,none⟩=some (.int .i64 x)/\cV x
theorem up_int:Up gH:=fun _ _ _ _ _ hb h=>⟨hb.cell h.1,h.2⟩
abbrev cW:=fu 1 gH
abbrev pv:=o8 1 gH
theorem up_ints:Up pv:=xW up_int
abbrev iN:=fu 1 pv
abbrev v6:=o8 1 pv
theorem up_vecs:Up v6:=xW up_ints
def v7(w:World) (b o:Nat) (c:Cs):Prop:=pv w b o c.inp/\v6 w b (o+1) c.out/\v6 w b (o+2) c.calm
theorem up_case:Up v7:=fun _ _ _ _ _ hb h=>⟨up_ints _ _ _ _ _ hb h.1,up_vecs _ _ _ _ _ hb h.2.1,up_vecs _ _ _ _ _ hb h.2.2⟩
abbrev it:=fu 3 v7
def ki(w:World) (b o:Nat) (r:Rd):Prop:=
 gH w b o r.g.n/\gH w b (o+1) r.g.h0/\gH w b (o+2) r.g.h1/\gH w b (o+3) r.g.h2/\gH w b (o+4) r.g.h3/\gH w b (o+5) r.g.h4/\gH w b (o+6) r.f
theorem up_round:Up ki:=fun _ _ _ _ _ hb ⟨h0,h1,h2,h3,h4,h5,h6⟩=>
 ⟨up_int _ _ _ _ _ hb h0,up_int _ _ _ _ _ hb h1,up_int _ _ _ _ _ hb h2,up_int _ _ _ _ _ hb h3,up_int _ _ _ _ _ hb h4,up_int _ _ _ _ _ hb h5,up_int _ _ _ _ _ hb h6⟩
abbrev iP:=fu 7 ki
def rI(w:World) (b o:Nat) (m:Mv):Prop:=ki w b o m.r/\gH w b (o+7) m.to
theorem up_move:Up rI:=fun _ _ _ _ _ hb h=>⟨up_round _ _ _ _ _ hb h.1,up_int _ _ _ _ _ hb h.2⟩
abbrev EL:=fu 8 rI
abbrev xX:=o8 8 rI
theorem up_moves:Up xX:=xW up_move
abbrev cO:=fu 1 xX
abbrev Gr.v(g:Gr):Value:=.agg #[.int .i64 g.n,.int .i64 g.h0,.int .i64 g.h1,.int .i64 g.h2,.int .i64 g.h3,.int .i64 g.h4]
abbrev Rd.v(r:Rd):Value:=.agg #[.int .i64 r.g.n,.int .i64 r.g.h0,.int .i64 r.g.h1,.int .i64 r.g.h2,.int .i64 r.g.h3,.int .i64 r.g.h4,.int .i64 r.f]
abbrev Mv.v(m:Mv):Value:=.agg #[.int .i64 m.r.g.n,.int .i64 m.r.g.h0,.int .i64 m.r.g.h1,.int .i64 m.r.g.h2,.int .i64 m.r.g.h3,.int .i64 m.r.g.h4,.int .i64 m.r.f,.int .i64 m.to]
structure ExtW (w:World) where
 val:World
 ext:Below w.heap.size w val
instance (w:World):Inhabited (ExtW w):=⟨⟨w,Below.refl _ _⟩⟩
theorem bI{P:Program} {id:Nat} {Q:Exit->Act->World->Prop} {a:Act} {w:World} {l:List Oper} (hm:P.follows .mixedOrders=true) (hB:Region.lexB .any l.toArray=true)
  (h:wpQuiet P l.toArray (fun w'=>∃ x:ExtW w,w'=x.val) (fun a'=>∀ w',(∃ x:ExtW w,w'=x.val)->Q .normal a' w') l a):(Code.region id l.toArray true).wp P Q a w:=
 wp_region_quiet (C:=fun w'=>∃ x:ExtW w,w'=x.val) hm hB ⟨⟨w.drew,(Below.refl _ _).drew⟩,rfl⟩ (by simpa using h)
theorem Calls.ext_of{P:Program} {f:FuncId} {args:Array Value} {w:World} {x:ExtW w} {v:Value}
  (h:Calls P f args x.val fun e w'=>e=.returned v/\Below x.val.heap.size x.val w'):Calls P f args x.val fun e w''=>e=.returned v/\∃ p:ExtW w,w''=p.val:=
 h.mono fun _ w'' ⟨he,hb⟩=>⟨he,⟨w'',ak x.ext hb⟩,rfl⟩
theorem ExtW.cell{w:World} (x:ExtW w) {a:Addr} {v:Value} (h:w.cell? a=some v):x.val.cell? a=some v:=aC x.ext h
end Go.Proofs.YtiocdkdkndpgkaaGreat
namespace Go.Proofs.YtiocdkdkndpgkaaGreat
open Go.RowKit Go Go.Shelf
def bc(p:Prop):Prop:=p
theorem bc.o{p:Prop} (h:bc p):p:=h
theorem bc.out{p:Prop} (h:bc p):p:=h
theorem ab{p:Prop} (h:p):bc p:=h
theorem kj{α:Type} {a b:α} (h:some a=some b):a=b:=Option.some.inj h
theorem ri{a:Value}:∀ c,some a=some c->a=c:=fun _ h=>Option.some.inj h
def aZ(D:Nat->Bool) (i:Nat):Nat->Bool:=fun j=>if j=i then true else D j
theorem yZ(D:Nat->Bool) (i:Nat) (hi:D i=false) (l:List Nat):l.countP (fun j=>!aZ D i j)+(if i∈l then 1 else 0)<=l.countP (fun j=>!D j):=by
 induction l with
 | nil=>simp
 | cons x t ih=>
  rw[List.countP_cons,List.countP_cons];by_cases hx:x=i
  ·subst hx;have h1:(!aZ D x x)=false:=by simp[aZ]
   have h2:(!D x)=true:=by simp[hi]
   rw[h1,h2];simp only[List.mem_cons,true_or,if_true]
   have:t.countP (fun j=>!aZ D x j)<=t.countP (fun j=>!D j):=by
    refine Nat.le_trans ?_ ih;omega
   simp;omega
  ·have h1:(!aZ D i x)=!D x:=by simp[aZ,hx]
   rw[h1]
   have hm:(if i∈x :: t then 1 else 0)=(if i∈t then 1 else 0):=by
    have:i∈x :: t↔i∈t:=by simp[Ne.symm hx]
    simp only[this]
   rw[hm];omega
theorem gI{P:Program} {ops:Array Oper} {Q:Exit->Act->World->Prop} {i:Nat} {K K':Act->World->Prop} {a:Act} {w:World} (h:∀ a w,K a w->K' a w) (hh:wpOp P ops Q i K a w):wpOp P ops Q i K' a w:=by
 unfold wpOp at hh ⊢;split at hh
 ·exact h _ _ hh
 ·split at hh
  ·rename_i hw;rw[if_pos hw];rcases hh with hh|hh
   ·exact .inl (Oper.wp_mono h hh)
   ·exact .inr hh
  ·rename_i hw;rw[if_neg hw];exact h _ _ hh
theorem Io{P:Program} {o:Oper} {a:Act} {K next:Act->World->Prop} {Q:Exit->Act->World->Prop} {r:Result Next} (h:o.upon P a next (Exit.then K Q) r):o.upon P a next Q r:=by
 cases r with
 | ok x w'=>
  cases x with
  | enter f args=>
   refine Calls.mono h ?_;rintro e w'' he;cases e with
   | returned v=>exact he
   | panicked ch=>exact he
   | outgrown=>exact he
  | _=>exact h
 | halt x w'=>cases x<;>exact h
theorem vf{P:Program} {ops:Array Oper} {Q:Exit->Act->World->Prop} {i:Nat} {o:Oper} {K:Act->World->Prop} {a:Act} {w:World} (ho:ops[i]?=some o)
  (h:wpList P ops (Exit.then K Q) [o] a w):wpOp P ops Q i K a w:=by
 unfold wpOp;rw[ho];unfold wpList at h;dsimp only;split at h
 ·rename_i hw;rw[if_pos hw];rcases h with h|⟨h1,h2⟩
  ·exact .inl (Io h)
  ·exact .inr ⟨h1,h2⟩
 ·rename_i hw;rw[if_neg hw];exact h
structure MP where
 p:Value->World->Prop
 up:∀ v W W',p v W->Below W.heap.size W W'->p v W'
def MP.any:MP:=⟨fun _ _=>True,fun _ _ _ _ _=>trivial⟩
def MP.eq(c:Value):MP:=⟨fun v _=>v=c,fun _ _ _ h _=>h⟩
def gt(x:Nat->Value) (i:Nat) (v:Value):Nat->Value:=fun j=>if j=i then v else x j
theorem ow(x:Nat->Value) (i:Nat) (v:Value):gt x i v i=v:=by simp[gt]
theorem nh(x:Nat->Value) {i j:Nat} (v:Value) (h:j≠i):gt x i v j=x j:=by simp[gt,h]
def d9(x:Nat->Value):List Nat->Nat->Array Value->Array Value
 | [],_,T=>T
 | s :: r,j,T=>d9 x r (j+1) (T.setIfInBounds s (x j))
def bS(T:Array Value) (S:List Nat) (x:Nat->Value):Array Value:=d9 x S 0 T
theorem jJ(x:Nat->Value) (S:List Nat):∀ (j:Nat) (T:Array Value) (k:Nat),k∉S->(d9 x S j T)[k]?=T[k]?:=by
 induction S with
 | nil=>intro j T k _;rfl
 | cons s r ih=>
  intro j T k hk;simp at hk;unfold d9;rw[ih _ _ _ hk.2,Array.getElem?_setIfInBounds_ne (Ne.symm hk.1)]
theorem fg(x:Nat->Value) (S:List Nat):∀ (j:Nat) (T:Array Value),(d9 x S j T).size=T.size:=by
 induction S with
 | nil=>intro j T;rfl
 | cons s r ih=>intro j T;unfold d9;rw[ih];simp
theorem mN(x:Nat->Value) (S:List Nat) (hS:S.Nodup):∀ (j:Nat) (T:Array Value) (i s:Nat),S[i]?=some s->s<T.size->(d9 x S j T)[s]?=some (x (j+i)):=by
 induction S with
 | nil=>intro j T i s h;simp at h
 | cons s0 r ih=>
  intro j T i s h hs;rw[List.nodup_cons]at hS;unfold d9;cases i with
  | zero=>
   simp at h;subst h;rw[jJ _ _ _ _ _ hS.1,Array.getElem?_setIfInBounds_self_of_lt (by exact hs)];simp
  | succ i=>
   simp at h;rw[ih hS.2 (j+1) _ i s h (by simpa using hs)];congr 2;omega
theorem mO(T:Array Value) (S:List Nat) (hS:S.Nodup) (x:Nat->Value) (i s:Nat) (v:Value) (hi:S[i]?=some s):bS T S (gt x i v)=(bS T S x).setIfInBounds s v:=by
 unfold bS;apply Array.ext_getElem?;intro k;by_cases sZ:k=s
 ·subst sZ;by_cases aG:k<T.size
  ·rw[mN _ _ hS _ _ _ _ hi aG,Array.getElem?_setIfInBounds_self_of_lt (by rw[fg];exact aG)];simp[gt]
  ·rw[Array.getElem?_eq_none (by rw[fg];omega),Array.getElem?_eq_none (by rw[Array.size_setIfInBounds,fg];omega)]
 ·rw[Array.getElem?_setIfInBounds_ne (Ne.symm sZ)];by_cases hm:k∈S
  ·obtain⟨i',jS⟩:=List.mem_iff_getElem?.1 hm;by_cases aG:k<T.size
   ·rw[mN _ _ hS _ _ _ _ jS aG,mN _ _ hS _ _ _ _ jS aG];have:i'≠i:=fun e=>by subst e;rw[hi]at jS;exact sZ (kj jS).symm
    simp[gt,this]
   ·rw[Array.getElem?_eq_none (by rw[fg];omega),Array.getElem?_eq_none (by rw[fg];omega)]
  ·rw[jJ _ _ _ _ _ hm,jJ _ _ _ _ _ hm]
theorem o9(T:Array Value) (S:List Nat) (hS:S.Nodup) (x:Nat->Value) (hx:∀ i s,S[i]?=some s->s<T.size->x i=T[s]!):bS T S x=T:=by
 unfold bS;apply Array.ext_getElem?;intro k;by_cases hm:k∈S
 ·obtain⟨i,hi⟩:=List.mem_iff_getElem?.1 hm;by_cases aG:k<T.size
  ·rw[mN _ _ hS _ _ _ _ hi aG,Nat.zero_add,hx i k hi aG];simp[aG]
  ·rw[Array.getElem?_eq_none (by rw[fg];omega),Array.getElem?_eq_none (by omega)]
 ·rw[jJ _ _ _ _ _ hm]
def tx(F:Array Value) (d:List Deferred) (r:MP) (s:Nat) (W:World) (a':Act) (W':World):Prop:=
 ∃ v,a'={ tmps:=F.setIfInBounds s v,defers:=d }/\Below W.heap.size W W'/\r.p v W'
theorem tx.mk{F:Array Value} {d:List Deferred} {r:MP} {s:Nat} {W:World} {a':Act} {W':World} (v:Value) (hb:Below W.heap.size W W') (hr:r.p v W') (ha:a'={ tmps:=F.setIfInBounds s v,defers:=d }):tx F d r s W a' W':=⟨v,ha,hb,hr⟩
end Go.Proofs.YtiocdkdkndpgkaaGreat
namespace Go.Proofs.YtiocdkdkndpgkaaGreat
open Go.RowKit Go Go.Shelf
theorem Ip{F:Array Value} {d:List Deferred} {r:MP} {s:Nat} {W:World} {a':Act} {W':World} (v:Value) (hb:Below W.heap.size W W') (hr:r.p v W') (ha:a'={ tmps:=F.setIfInBounds s v,defers:=d }:=by simp only[List.setIfInBounds_toArray,List.set_cons_succ,List.set_cons_zero]):tx F d r s W a' W':=⟨v,ha,hb,hr⟩
theorem PR{c v:Value} {W:World} (h:(MP.eq c).p v W):v=c:=h
structure Chg (B:Nat) (A A':World):Prop where
 os:A'.os=A.os
 tape:A'.tape=A.tape
 output:A'.output=A.output
 size:A.heap.size<=A'.heap.size
 same:∀ (k:Nat) (o:Obj),A.heap[k]?=some o->(k<B\/o.isCells=true)->A'.heap[k]?=some o
theorem Chg.of_below{B:Nat} {A A':World} (h:Below A.heap.size A A'):Chg B A A':=⟨h.os,h.tape,h.output,h.size,fun _ _ hk _=>aq h hk⟩
theorem Chg.ck{B:Nat} {A A':World} (h:Chg B A A'):CK A A':=fun k o hk ho=>h.same k o hk (.inr ho)
theorem Chg.put{B:Nat} {A:World} {l:Nat} {o:Obj} (o':Obj) (hl:A.heap[l]?=some o) (hB:B<=l) (ho:o.isCells=false):Chg B A (A.putObj l o'):=
 ⟨rfl,rfl,rfl,by simp,fun k x hk hx=>by
  by_cases e:k=l
  ·subst e;rw[hl]at hk;cases hk;rcases hx with hx|hx
   ·omega
   ·rw[ho]at hx;cases hx
  ·exact(World.putObj_heap_other e).trans hk⟩
theorem Chg.below{B n:Nat} {w A A':World} (h:Chg B A A') (hn:n<=B) (hs:n<=A.heap.size) (hb:Below n w A):Below n w A':=
 ⟨h.os.trans hb.os,h.tape.trans hb.tape,h.output.trans hb.output,Nat.le_trans hb.size h.size,fun k hk=>by
  have aG:k<A.heap.size:=by omega
  have h1:A.heap[k]?=some A.heap[k]:=Array.getElem?_eq_getElem aG
  rw[h.same k _ h1 (.inl (by omega)),<-h1];exact hb.block k hk⟩
def cF(B:Nat) (I:World->Prop):Prop:=∀ A A',Chg B A A'->I A->I A'
theorem cF.and{B:Nat} {I J:World->Prop} (h:cF B I) (k:cF B J):cF B (fun W=>I W/\J W):=fun A A' c x=>⟨h A A' c x.1,k A A' c x.2⟩
theorem cF.below{B:Nat} {w:World} (h:w.heap.size<=B):cF B (fun W=>Below w.heap.size w W):=fun _ _ c x=>c.below h x.size x
theorem cF.cells{B b:Nat} {c:Array Value} {t:TypeId} {f:Nat × Nat}:cF B (fun W=>W.heap[b]?=some (.cells c t f)):=fun _ _ c x=>c.same _ _ x (.inr rfl)
theorem cF.pure{B:Nat} {p:Prop}:cF B (fun _=>p):=fun _ _ _ x=>x
structure Bod (B:Nat) (S:Nat->Prop) (W W':World):Prop where
 size:W.heap.size<=W'.heap.size
 keep:∀ k,S k->W'.heap[k]?=W.heap[k]?
 same:∀ (k:Nat) (o:Obj),B<=k->W.heap[k]?=some o->o.isCells=false->W'.heap[k]?=some o
theorem Bod.refl(B:Nat) (S:Nat->Prop) (W:World):Bod B S W W:=⟨Nat.le_refl _,fun _ _=>rfl,fun _ _ _ h _=>h⟩
theorem Bod.trans{B:Nat} {S:Nat->Prop} {X Y Z:World} (h:Bod B S X Y) (k:Bod B S Y Z):Bod B S X Z:=
 ⟨Nat.le_trans h.size k.size,fun i hi=>(k.keep i hi).trans (h.keep i hi),fun i o hB hi ho=>k.same i o hB (h.same i o hB hi ho) ho⟩
theorem Bod.of_below{B:Nat} {S:Nat->Prop} {W W':World} (hS:∀ k,S k->k<W.heap.size) (h:Below W.heap.size W W'):Bod B S W W':=
 ⟨h.size,fun k hk=>h.block k (hS k hk),fun _ _ _ hk _=>aq h hk⟩
theorem Bod.setCell{B:Nat} {S:Nat->Prop} (W:World) (p:Addr) (v:Value) (hp:¬ S p.block):Bod B S W (W.setCell p v):=
 ⟨by simp,fun k hk=>Below.heap_setCell _ _ _ _ (fun e=>hp (e ▸ hk)),fun k o _ hk ho=>(KeepsOthers.setCell W p v).same k o hk ho⟩
theorem Bod.put{S:Nat->Prop} (W:World) {l:Nat} (o':Obj) (hS:¬ S l):Bod (l+1) S W (W.putObj l o'):=
 ⟨by simp,fun k hk=>World.putObj_heap_other (fun e=>hS (e ▸ hk)),fun k x hk hx _=>(World.putObj_heap_other (by omega)).trans hx⟩
theorem Bod.mono{B C:Nat} {S:Nat->Prop} {W W':World} (h:Bod B S W W') (hB:B<=C):Bod C S W W':=⟨h.size,h.keep,fun k o hk hx ho=>h.same k o (Nat.le_trans hB hk) hx ho⟩
def FZ(P:Program) (g:Nat) (lb:Array Value) (encs:Nat->Array Value) (N:Nat) (S:Nat->Prop) (w:World):Prop:=
 ∀ (l:Nat) (J Jx:Nat->World->Prop) (W:World),Below w.heap.size w W →
  (∀ i A A',J i A->Below A.heap.size A A'->J i A')->(∀ i A A',Jx i A->Below A.heap.size A A'->Jx i A') →
  (∀ i W1,i<N->J i W1->YieldAt Fence.wide 0 P l (encs i) W1 fun e W'=>
   (e=.returned (.bool true)/\J (i+1) W'/\W1.heap.size<=W'.heap.size/\∀ k,S k->W'.heap[k]?=W1.heap[k]?)\/(e=.returned (.bool false)/\Jx (i+1) W')) →
  J 0 W →
  Calls P g (#[.func (.yield l) #[] #[]]++lb) W fun e W'=>(∃ v,e=.returned v)/\(J N W'\/∃ i,i<=N/\Jx i W')
def F0(B:Nat) (S:Nat->Prop) (I:Nat->World->Prop) (Ix:Code->Nat->World->Prop) (i:Nat) (W:World):Exit->Act->World->Prop
 | .normal,_,W'=>Bod B S W W'/\I i W'
 | .ret,_,W'=>Bod B S W W'/\Ix .ret i W'
 | .exit id,_,W'=>Bod B S W W'/\Ix (.exit id) i W'
 | .goto t,_,W'=>Bod B S W W'/\Ix (.goto t) i W'
 | .panic _,_,_=>False
 | .outgrown,_,_=>False
abbrev cH(D:Nat):Deferred:={ target:=.collected D,args:=#[] }
theorem A0{P:Program} {B:Nat} {S:Nat->Prop} {ps:Array Tmp} {assign body:Code} {tmps:Array Value} {l i:Nat} {I:Nat->World->Prop} {Ix:Code->Nat->World->Prop} {W:World} {args:Array Value} {r:Loop} (R:Ending->World->Prop)
  (FQ:B<=l) (sP:¬ S l) (hr:r.params=ps/\r.assign=assign/\r.body=body/\r.tmps=tmps/\r.state=.ready/\r.pending=none) (hl:W.heap[l]?=some (.loop r)) (mM:args.size=ps.size)
  (tg:assign.wpIn (Fence.wide.inRound l) 0 P (Exit.then (fun a1 W1=>Bod B S W W1/\∃ Ax:World->Prop,cF B Ax/\Ax W1/\∀ W2,Ax W2->(∃ r,W2.heap[l]?=some (.loop r))->body.wpIn (Fence.wide.inRound l) 0 P (F0 B S I Ix (i+1) W2) a1 W2) (fun _ _ _=>False))
   { tmps:=(ps.zip args).foldl (fun t (p,v)=>t.setIfInBounds p v) tmps,defers:=[] } W)
  (oq:∀ W3 W4,W.heap.size<=W3.heap.size->Bod (l+1) S W W4->W4.heap[l]?=some (.loop r)->Chg B W3 W4->I (i+1) W3->(∀ k o,B<=k->k≠l->W.heap[k]?=some o->o.isCells=false->W4.heap[k]?=some o)->R (.returned (.bool true)) W4)
  (p5:∀ c W3 W4,W.heap.size<=W3.heap.size->Bod (l+1) S W W4->W4.heap[l]?=some (.loop { r with state:=.done,pending:=some c })->Chg B W3 W4->Ix c (i+1) W3->(∀ k o,B<=k->k≠l->W.heap[k]?=some o->o.isCells=false->W4.heap[k]?=some o)->R (.returned (.bool false)) W4) :
  YieldAt Fence.wide 0 P l args W R:=by
 obtain⟨h1,h2,h3,h4,h5,h6⟩:=hr;refine⟨r.fn,_,r.assign,r.body,run_yield hl (by rw[h1];exact mM),roundIn_of_wpIn trivial ?_⟩;rw[h1,h2,h3,h4];refine wpIn_mono tg ?_;rintro e a1 W1 hp;cases e<;>first|exact hp.elim|skip
 obtain⟨vY,Ax,hAx,hax,H6⟩:=hp;have ge:W1.heap[l]?=some (.loop r):=vY.same l _ FQ hl rfl;have dJ:(W1.putObj l (.loop { r with state:=.busy })).heap[l]?=some (.loop { r with state:=.busy }):=World.putObj_heap_same (aw ge);have bo:Bod (l+1) S W (W1.putObj l (.loop { r with state:=.busy })):=(vY.mono (by omega)).trans (Bod.put _ _ sP)
 have bV:∀ k o,B<=k->k≠l->W.heap[k]?=some o->o.isCells=false->(W1.putObj l (.loop { r with state:=.busy })).heap[k]?=some o:=
  fun k o hk aV ho hc=>(World.putObj_heap_other aV).trans (vY.same k o hk ho hc)
 refine⟨_,run_beginRound ge h5,wpIn_mono (H6 _ (hAx _ _ (Chg.put _ ge FQ rfl) hax) ⟨_,dJ⟩) ?_⟩;generalize W1.putObj l (.loop { r with state:=.busy })=W2 at dJ bo bV;rintro e a3 W3 hp
 have fin:∀ (jump:Option Code),Bod B S W2 W3->(Instr.endRound l jump).run P W3=.ok (.bool jump.isNone) (W3.putObj l (.loop { r with state:=if jump.isNone then .ready else .done,pending:=jump })) ∧
   (W3.putObj l (.loop { r with state:=if jump.isNone then .ready else .done,pending:=jump })).heap[l]?=some (.loop { r with state:=if jump.isNone then .ready else .done,pending:=jump }) ∧
   Chg B W3 (W3.putObj l (.loop { r with state:=if jump.isNone then .ready else .done,pending:=jump }))/\Bod (l+1) S W (W3.putObj l (.loop { r with state:=if jump.isNone then .ready else .done,pending:=jump })) ∧
   (∀ k o,B<=k->k≠l->W.heap[k]?=some o->o.isCells=false->(W3.putObj l (.loop { r with state:=if jump.isNone then .ready else .done,pending:=jump })).heap[k]?=some o):=fun jump eK=>by
  have As:=eK.same l _ FQ dJ rfl
  exact⟨run_endRound (r:={ r with state:=.busy }) jump As,World.putObj_heap_same (aw As),Chg.put _ As FQ rfl,(bo.trans (eK.mono (by omega))).trans (Bod.put _ _ sP),
   fun k o hk aV ho hc=>(World.putObj_heap_other aV).trans (eK.same k o hk (bV k o hk aV ho hc) hc)⟩
 cases e with
 | normal=>
  obtain⟨eK,hi⟩:=hp;obtain⟨f1,f2,f3,f4,f5⟩:=fin none eK;refine⟨_,_,f1,oq W3 _ (Nat.le_trans bo.size eK.size) f4 ?_ f3 hi f5⟩;rw[f2];cases r;simp_all
 | ret=>
  obtain⟨eK,hi⟩:=hp;obtain⟨f1,f2,f3,f4,f5⟩:=fin (some .ret) eK;exact⟨_,_,f1,p5 .ret W3 _ (Nat.le_trans bo.size eK.size) f4 f2 f3 hi f5⟩
 | exit id=>
  obtain⟨eK,hi⟩:=hp;obtain⟨f1,f2,f3,f4,f5⟩:=fin (some (.exit id)) eK;exact⟨_,_,f1,p5 (.exit id) W3 _ (Nat.le_trans bo.size eK.size) f4 f2 f3 hi f5⟩
 | goto t=>
  obtain⟨eK,hi⟩:=hp;obtain⟨f1,f2,f3,f4,f5⟩:=fin (some (.goto t)) eK;exact⟨_,_,f1,p5 (.goto t) W3 _ (Nat.le_trans bo.size eK.size) f4 f2 f3 hi f5⟩
 | panic ch=>exact hp.elim
 | outgrown=>exact hp.elim
theorem p8{P:Program} {g:Operand} {ps:Array Tmp} {assign body:Code} {Q:Exit->Act->World->Prop} {a:Act} {w:World}
  {gf:Nat} {lb:Array Value} (hg:a.eval g=.func (.func gf) #[] lb) (eg:∀ args w,(callFunc gf args).run P w=.ok (.enter gf args) w)
  {encs:Nat->Array Value} {N:Nat} {S:Nat->Prop} {w0:World} (dZ:FZ P gf lb encs N S w0) (bw:Below w0.heap.size w0 w) (hS:∀ k,S k->k<w.heap.size) (mM:∀ i,(encs i).size=ps.size)
  (I:Nat->World->Prop) (Ix:Code->Nat->World->Prop) (hI:∀ i,cF w.heap.size (I i)) (FN:∀ c i,cF w.heap.size (Ix c i)) (h0:I 0 w)
  (tg:∀ l i W,i<N->w.heap.size<=l->I i W →
   assign.wpIn (Fence.wide.inRound l) 0 P (Exit.then (fun a1 W1=>Bod w.heap.size S W W1/\∃ Ax:World->Prop,cF w.heap.size Ax/\Ax W1/\∀ W2,Ax W2->(∃ r,W2.heap[l]?=some (.loop r))->body.wpIn (Fence.wide.inRound l) 0 P (F0 w.heap.size S I Ix (i+1) W2) a1 W2) (fun _ _ _=>False))
    { tmps:=(ps.zip (encs i)).foldl (fun t (p,v)=>t.setIfInBounds p v) a.tmps,defers:=[] } W)
  (Id:∀ D W,w.heap.size<=D->I N W->W.heap[D]?=some (.deferred (some []))->Q .normal { a with defers:=cH D :: a.defers } W)
  (Ih:∀ D c i W,w.heap.size<=D->i<=N->Ix c i W->W.heap[D]?=some (.deferred (some []))->c.wp P Q { a with defers:=cH D :: a.defers } W) :
  (Code.rangeFunc g ps assign body).wp P Q a w:=by
 refine(wpIn_wide (n:=0)).1 (wpIn_rangeFunc ?_);intro fn _;obtain⟨rec,gX⟩:∃ rec:Loop,rec={ state:=.ready,pending:=none,fn,tmps:=a.tmps,params:=ps,assign,body,defers:=w.heap.size }:=⟨_,rfl⟩;obtain⟨W1,io⟩:∃ W1,(w.alloc (.deferred (some []))).alloc (.loop rec)=W1:=⟨_,rfl⟩
 have Dq:W1.heap[w.heap.size+1]?=some (.loop rec):=by
  rw[<-io];have:=aA (w.alloc (.deferred (some []))) (.loop rec);rwa [World.size_alloc]at this
 have FM:W1.heap[w.heap.size]?=some (.deferred (some [])):=by rw[<-io];exact aH _ (aA w _)
 have oa:Below w.heap.size w W1:=by rw[<-io];exact((Below.refl _ w).alloc (Nat.le_refl _) _).alloc (by simp) _
 have RE:¬ S (w.heap.size+1):=fun h=>by have:=hS _ h;omega
 refine⟨w.heap.size+1,[cH w.heap.size],W1,{ target:=.fn (.func gf) lb,args:=#[.func (.yield (w.heap.size+1)) #[] #[]] },W1,gf,
  #[.func (.yield (w.heap.size+1)) #[] #[]]++lb,W1,?_,?_,fun _ _=>trivial,?_,fun h=>(by simp[Fence.wide]at h),?_⟩
 ·rw[<-io,gX];exact run_enterLoop_outer _ _ _ _ _
 ·simp only[resolve,hg];simp[go_sem]
 ·simp[invoke,go_sem,eg]
 ·refine(callsIn_wide (n:=0 - 1)).2 ?_
  refine(dZ (w.heap.size+1)
   (fun i W=>I i W/\W.heap[w.heap.size+1]?=some (.loop rec)/\W.heap[w.heap.size]?=some (.deferred (some [])))
   (fun i W=>∃ c,Ix c i W/\W.heap[w.heap.size+1]?=some (.loop { rec with state:=.done,pending:=some c })/\W.heap[w.heap.size]?=some (.deferred (some [])))
   W1 (ak bw oa)
   (fun i A A' h hb=>⟨hI i A A' (.of_below hb) h.1,aq hb h.2.1,aq hb h.2.2⟩)
   (fun i A A' h hb=>by obtain⟨c,h1,h2,h3⟩:=h;exact⟨c,FN c i A A' (.of_below hb) h1,aq hb h2,aq hb h3⟩)
   ?_ ⟨hI 0 _ _ (.of_below oa) h0,Dq,FM⟩).mono ?_
  ·rintro i W hi ⟨Q0,hl,hk⟩;refine A0 (B:=w.heap.size) (S:=S) (ps:=ps) (assign:=assign) (body:=body) (tmps:=a.tmps) (i:=i) (I:=I) (Ix:=Ix) _ (by omega) RE (by rw[gX];simp) hl (mM i) (tg _ i W hi (by omega) Q0) ?_ ?_
   ·intro W3 W4 _ mq DI hc jD vU;exact .inl ⟨rfl,⟨hI _ _ _ hc jD,DI,vU _ _ (Nat.le_refl _) (by omega) hk rfl⟩,mq.size,mq.keep⟩
   ·intro c W3 W4 _ _ DI hc jD vU;exact .inr ⟨rfl,c,FN _ _ _ _ hc jD,DI,vU _ _ (Nat.le_refl _) (by omega) hk rfl⟩
  ·rintro e W2 ⟨⟨v,rfl⟩,(⟨hi,hl,hk⟩|⟨i,cg,c,hi,hl,hk⟩)⟩
   ·exact⟨none,_,by have:=run_endLoop (P:=P) hl (by rw[gX];simp);rw[this,gX],Id _ _ (Nat.le_refl _) (hI _ _ _ (Chg.put _ hl (by omega) rfl) hi) ((World.putObj_heap_other (by omega)).trans hk)⟩
   ·exact⟨some c,_,by have:=run_endLoop (P:=P) hl (by simp);rw[this],wpIn_wide.2 (Ih _ c i _ (Nat.le_refl _) cg (FN _ _ _ _ (Chg.put _ hl (by omega) rfl) hi) ((World.putObj_heap_other (by omega)).trans hk))⟩
theorem cX{P:Program} {f:FuncId} {fn:Func} {c:Code} {args:Array Value} {w:World} {R:Ending->World->Prop}
  (hf:P.funcs[f]?=some fn) (hb:fn.body=some c)
  (h:c.wp P (bodyPostM Fence.wide 0 P fn R) { tmps:=args++Array.replicate (fn.ntmps - args.size) undef,defers:=[] } w):Calls P f args w R:=
 callsIn_wide.1 (callsIn_of_wp_marks hf hb trivial (wpIn_wide.2 h))
theorem iQ{P:Program} {fn:Func} {R:Ending->World->Prop} {tmps:Array Value} {D:Nat} {W:World} {v:Value} (hK:W.heap[D]?=some (.deferred (some [])))
  (hv:(results fn tmps).run P (W.putObj D (.deferred none))=.ok v (W.putObj D (.deferred none))) (h:R (.returned v) (W.putObj D (.deferred none))) :
  bodyPostM Fence.wide 0 P fn R .ret { tmps:=tmps,defers:=[cH D] } W:=
 ⟨by simp,.inl ⟨_,_,rfl,run_takeDeferred hK,⟨v,hv,h⟩⟩⟩
theorem Iq{P:Program} {fn:Func} {R:Ending->World->Prop} {tmps:Array Value} {D:Nat} {W:World} {v:Value} (hK:W.heap[D]?=some (.deferred (some [])))
  (hv:(results fn tmps).run P (W.putObj D (.deferred none))=.ok v (W.putObj D (.deferred none))) (h:R (.returned v) (W.putObj D (.deferred none))) :
  bodyPostM Fence.wide 0 P fn R .normal { tmps:=tmps,defers:=[cH D] } W:=
 ⟨by simp,.inl ⟨_,_,rfl,run_takeDeferred hK,⟨v,hv,h⟩⟩⟩
theorem mP{P:Program} {fn:Func} {R:Ending->World->Prop} {tmps:Array Value} {W:World} {v:Value}
  (hv:(results fn tmps).run P W=.ok v W) (h:R (.returned v) W):bodyPostM Fence.wide 0 P fn R .ret { tmps:=tmps,defers:=[] } W:=⟨v,hv,h⟩
theorem eN{n:Nat} {w W:World} {D:Nat} {o:Obj} (hn:n<=D) (h:Below n w W):Below n w (W.putObj D o):=
 ⟨h.os,h.tape,h.output,by simpa using h.size,fun k hk=>(World.putObj_heap_other (by omega)).trans (h.block k hk)⟩
def tz(ops:Array Oper):Bool:=ops.all fun o=>match o.op with|.defer _=>false|_=>true
theorem A1{ops:Array Oper} (h:tz ops=true) {i:Nat} {o:Oper} (ho:ops[i]?=some o):∀ c,o.op≠.defer c:=by
 intro c hc;have h1:=Array.all_eq_true'.1 h o (Array.mem_of_getElem? ho);rw[hc]at h1;cases h1
theorem y5{P:Program} {yl n:Nat} {o:Oper} {a:Act} {w:World} {K K':Act->World->Prop} {Q:Exit->Act->World->Prop} (hd:∀ c,o.op≠.defer c) (_hQ:¬ LetsOut Q) (hK:∀ a w,K a w->K' a w)
  (h:o.wp P a w K Q):o.wpIn (Fence.wide.inRound yl) n P a w K' Q:=by
 refine⟨fun _ _=>trivial,?_⟩;rw[Oper.semAt_eq _ _ _ hd];unfold Oper.wp at h;generalize (execOp a.eval o).run P w=r at h;cases r with
 | ok x w'=>
  cases x with
  | value v=>exact hK _ _ h
  | skip=>exact hK _ _ h
  | defer d=>exact hK _ _ h
  | enter f args=>
   refine⟨fun h'=>(by simp[Fence.wide,Fence.inRound]at h'),CallsIn.inRound yl ((callsIn_wide (n:=n - 1)).2 ?_)⟩;refine Calls.mono h ?_;rintro e w'' he;cases e with
   | returned v=>exact hK _ _ he
   | panicked ch=>exact he
   | outgrown=>exact he
  | row r args=>
   refine⟨fun h'=>(by simp[Fence.wide,Fence.inRound]at h'),fun c cs _=>?_⟩;obtain⟨v,w'',hv,hs⟩:=h c cs;exact⟨v,w'',hK _ _ hv,stepsIn_wide.2 hs⟩
  | _=>exact h.elim
 | halt x w'=>
  cases x with
  | panic v=>exact h
  | _=>exact h.elim
theorem p9{P:Program} {yl n:Nat} {ops:Array Oper} {md:Region.Mode} {Q:Exit->Act->World->Prop} (hd:tz ops=true) (hQ:¬ LetsOut Q) :
  ∀ (fuel:Nat) (listed:Array Bool) (a:Act) (w:World),wpAny P md ops Q fuel listed a w->wpAnyIn (Fence.wide.inRound yl) n P md ops Q fuel listed a w
 | 0,_,_,_,h=>h
 | fuel+1,listed,a,w,h=>⟨h.1,fun i hi=>by
  have h2:=h.2 i hi;unfold wpOp at h2;unfold wpOpIn;cases ho:ops[i]? with
  | none=>rw[ho]at h2;exact p9 hd hQ fuel _ _ _ h2
  | some o=>
   rw[ho]at h2;dsimp only at h2 ⊢;split
   ·rename_i hw;rw[if_pos hw]at h2;rcases h2 with h2|h2
    ·exact y5 (A1 hd ho) hQ (fun a w h=>p9 hd hQ fuel _ a w h) h2
    ·exact absurd h2.2 hQ
   ·rename_i hw;rw[if_neg hw]at h2
    exact⟨fun _ _=>trivial,p9 hd hQ fuel _ _ _ h2⟩⟩
theorem tX{P:Program} {yl m:Nat} {id:Nat} {Q:Exit->Act->World->Prop} {a:Act} {w:World} {l:List Oper} (n:Nat) (hQ:¬ LetsOut Q) (hm:P.follows .mixedOrders=true) (hB:Region.lexTailB .any l.toArray n=true) (hd:tz l.toArray=true)
  (h:wpStill P l.toArray w.drew (fun a'=>wpList P l.toArray Q (l.drop n) a' w.drew) (l.take n) a):(Code.region id l.toArray true).wpIn (Fence.wide.inRound yl) m P Q a w:=by
 simp only[Region.lexTailB,Bool.and_eq_true,decide_eq_true_eq]at hB;obtain⟨⟨⟨⟨hsel,hn⟩,hs⟩,hc⟩,hlex⟩:=hB;have ms:n<l.length:=by simpa using hn
 have Am:(l.take n).length=n:=by simp;omega
 have ve:(l.drop n).length=l.toArray.size - n:=by simp
 have inv0:HeadInv .any l.toArray n (Array.replicate l.toArray.size false):=
  ⟨by simp,fun j oj _ hl=>(by rw[getD_replicate_false]at hl;cases hl),fun t _ ht=>getD_in (by simpa using ht) (getD_replicate_false _ _)⟩
 have H:=wpAnyL_lex (md:=.any) (g:=l.toArray.size - n) hsel hs hc hn (l.take n) 0 _ a (fun j hj=>by
  have jA:j<n:=by rw[Am]at hj;exact hj
  simp[jA]) (by simpa using Am) inv0 (by rw[Am];exact hlex) h
 refine wpIn_region_any hm (p9 hd hQ _ _ _ _ ?_)
 have:=wpAny_of_head (Q':=Q) (g:=l.toArray.size - n) (fun listed a' hL=>by
  have:=wpAny_of_seq (md:=.any) (Q':=Q) (l.drop n) n listed a' w.drew (fun j=>by simp[List.getElem?_drop]) (by rw[ve];exact hL.1) hL.2
  rwa [ve]at this) _ _ _ H
 rw[Am,show n+(l.toArray.size - n)=l.toArray.size by omega]at this;exact this
theorem rJ{P:Program} {yl m:Nat} {id:Nat} {Q:Exit->Act->World->Prop} {a:Act} {w:World} {l:List Oper} (n:Nat) (hQ:¬ LetsOut Q) (hm:P.follows .mixedOrders=true) (hB:Region.lexTailB .any l.toArray n=true) (hd:tz l.toArray=true)
  (h:∀ (ops:Array Oper) (Lq:Act->Prop),ops=l.toArray->(∀ a',wpList P l.toArray Q (l.drop n) a' w.drew->Lq a')->wpStill P ops w.drew Lq (l.take n) a):(Code.region id l.toArray true).wpIn (Fence.wide.inRound yl) m P Q a w:=
 tX n hQ hm hB hd (h _ _ rfl (fun _ h=>h))
def iR(ops:Array Oper) (n:Nat):Bool:=
 (List.range n).all (fun i=>match ops[i]? with|some o=>o.after.all fun e=>!Region.binds .any e || decide (e.on<i)|none=>false)
theorem jK{ops:Array Oper} {n:Nat} (h:iR ops n=true) {i:Nat} {o:Oper} (hi:i<n) (ho:ops[i]?=some o):∀ e∈o.after,Region.binds .any e=true->e.on<i:=by
 simp only[iR,List.all_eq_true]at h;have:=h i (List.mem_range.2 hi);rw[ho]at this;intro e he hb;have:=Array.all_eq_true'.1 this e he;rw[hb]at this;simpa using this
theorem v8{P:Program} {ops:Array Oper} {Q:Exit->Act->World->Prop} {n:Nat} (hn:ops.size=n) (hB:iR ops n=true) (Inv:(Nat->Bool)->Act->World->Prop)
  (cG:∀ D a w i o,i<n->ops[i]?=some o->D i=false->(∀ e∈o.after,Region.binds .any e=true->D e.on=true)->Inv D a w->wpOp P ops Q i (fun a' w'=>Inv (aZ D i) a' w') a w)
  (dh:∀ D a w,(∀ j,j<n->D j=true)->Inv D a w->Q .normal a w) :
  ∀ (fuel:Nat) (L:Array Bool) (a:Act) (w:World),L.size=n->(List.range n).countP (fun j=>!L.getD j false)<=fuel->Inv (fun j=>L.getD j false) a w->wpAny P .any ops Q fuel L a w:=by
 have lh:∀ L:Array Bool,L.size=n->(∀ j,j<n->L.getD j false=true)->Region.ready .any ops L=[]:=by
  intro L hL h1;refine List.eq_nil_iff_forall_not_mem.2 fun j hj=>?_
  obtain⟨Oi,o,ho,_⟩:=mem_ready.1 hj;have Lc:j<n:=by have:=(Array.getElem?_eq_some_iff.1 ho).1;omega
  have:=h1 j Lc;rw[show L.getD j false=L.getD j true by simp[Array.getD,hL,Lc]]at this;rw[Oi]at this;cases this
 intro fuel;induction fuel with
 | zero=>
  intro L a w hL hc h1;have h3:(List.range n).countP (fun j=>!L.getD j false)=0:=by omega
  rw[List.countP_eq_zero]at h3;have aX:∀ j,j<n->L.getD j false=true:=fun j hj=>by simpa using h3 j (List.mem_range.2 hj)
  exact⟨lh L hL aX,dh _ a w aX h1⟩
 | succ fuel ih=>
  intro L a w hL hc h2;refine⟨fun hr=>?_,fun i hi=>?_⟩
  ·refine dh _ a w ?_ h2;intro j;induction j using Nat.strongRecOn with
   | ind j ihj=>
    intro hj;cases hv:L.getD j false with
    | true=>rfl
    | false=>
     exfalso;obtain⟨o,ho⟩:∃ o,ops[j]?=some o:=⟨ops[j]'(by omega),Array.getElem?_eq_getElem _⟩
     have:j∈Region.ready .any ops L:=mem_ready.2 ⟨by rw[show L.getD j true=L.getD j false by simp[Array.getD,hL,hj]];exact hv,o,ho,fun e he oU=>by
      have:=jK hB hj ho e he oU
      exact ihj e.on this (by omega)⟩
     rw[hr]at this;cases this
  ·obtain⟨gi,o,ho,aN⟩:=mem_ready.1 hi;have cg:i<n:=by have:=(Array.getElem?_eq_some_iff.1 ho).1;omega
   have Le:L.getD i false=false:=by rw[show L.getD i false=L.getD i true by simp[Array.getD,hL,cg]];exact gi
   have DL:(fun j=>(L.setIfInBounds i true).getD j false)=aZ (fun j=>L.getD j false) i:=by
    funext j
    unfold aZ;by_cases tw:j=i
    ·subst tw;simp[Array.getD,hL,cg]
    ·rw[if_neg tw];simp only[Array.getD,Array.size_setIfInBounds];split
     ·exact Array.getElem_setIfInBounds_ne _ (Ne.symm tw)
     ·rfl
   have rg:(List.range n).countP (fun j=>!(L.setIfInBounds i true).getD j false)<=fuel:=by
    have h3:=yZ (fun j=>L.getD j false) i Le (List.range n);rw[if_pos (List.mem_range.2 cg)]at h3
    have h4:(fun j=>!(L.setIfInBounds i true).getD j false)=fun j=>!aZ (fun j=>L.getD j false) i j:=by
     funext j;rw[<-DL]
    rw[h4];omega
   exact gI (fun a' w' h=>ih (L.setIfInBounds i true) a' w' (by simpa using hL) rg (by rw[DL];exact h)) (cG (fun j=>L.getD j false) a w i o cg ho Le aN h2)
def dm(F:Array Value) (d:List Deferred) (V:List (Option Value)) (Core:(Nat->Bool)->(Nat->Value)->World->Prop) (D:Nat->Bool) (i s:Nat) (x:Nat->Value) (a':Act) (W':World):Prop:=
 ∃ v,a'={ tmps:=F.setIfInBounds s v,defers:=d }/\(∀ c,V.getD i none=some c->v=c)/\Core (aZ D i) (gt x i v) W'
theorem dm.mk{F:Array Value} {d:List Deferred} {V:List (Option Value)} {Core:(Nat->Bool)->(Nat->Value)->World->Prop} {D:Nat->Bool} {i s:Nat} {x:Nat->Value} {a':Act} {W':World} (v:Value) (hv:∀ c,V.getD i none=some c->v=c) (hc:Core (aZ D i) (gt x i v) W') (ha:a'={ tmps:=F.setIfInBounds s v,defers:=d }):dm F d V Core D i s x a' W':=⟨v,ha,hv,hc⟩
theorem xY{T:Array Value} {S:List Nat} {x:Nat->Value} {k:Nat} (hk:k∉S):(bS T S x).getD k undef=T.getD k undef:=by
 have:=jJ x S 0 T k hk;simp only[Array.getD_eq_getD_getElem?];exact congrArg (fun o=>Option.getD o undef) this
theorem A2{T:Array Value} {S:List Nat} {x:Nat->Value} {i s:Nat} (hS:S.Nodup) (hi:S[i]?=some s):bS T S x=(bS T S x).setIfInBounds s (x i):=by
 have h:=mO T S hS x i s (x i) hi
 have e:gt x i (x i)=x:=by
  funext j
  by_cases e:j=i
  ·subst e;exact ow _ _ _
  ·exact nh _ _ e
 rw[e]at h;exact h
theorem lQ{T:Array Value} {S:List Nat} {x:Nat->Value} {i k:Nat} (hS:S.Nodup) (hi:S[i]?=some k) (hT:k<T.size):(bS T S x).getD k undef=x i:=by
 rw[A2 (x:=x) hS hi];have:k<(bS T S x).size:=by unfold bS;rw[fg];exact hT
 simp[Array.getD,this]
theorem ma{P:Program} {ops:Array Oper} {o:Oper} {a:Act} {w:World} {Q:Exit->Act->World->Prop} (y:Operand) (hg:o.guard=none) (ho:o.op=.move y) (h:Q .normal (a.put o.dst (a.eval y)) w):wpList P ops Q [o] a w:=by
 refine wpList_plain hg fun _ hK=>?_
 unfold Oper.wp execOp;simp only[ho,Sem.run_pure];exact hK _ _ h
end Go.Proofs.YtiocdkdkndpgkaaGreat
namespace Go.Proofs.YtiocdkdkndpgkaaGreat
open Go.RowKit Go Go.Shelf
theorem nz{F T:Array Value} {S:List Nat} {x:Nat->Value} (hF:F=bS T S x) (i k:Nat) {v:Value} (hS:S.Nodup) (hi:S[i]?=some k) (hT:Nat.ble (k+1) T.size=true) (hv:x i=v):F.getD k undef=v:=by
  rw[<-hv,hF];exact lQ hS hi (Nat.le_of_ble_eq_true hT)
theorem EM{F T:Array Value} {S:List Nat} {x:Nat->Value} {k:Nat} {v:Value} (hF:F=bS T S x) (hk:k∉S) (hv:T.getD k undef=v):F.getD k undef=v:=by
  rw[hF,xY hk];exact hv
theorem kD{F:Array Value} {k:Nat} {v:Value} (h:F.getD k undef=v):F[k]?.getD undef=v:=by rw[<-h,Array.getD_eq_getD_getElem?]
theorem DN{P:Program} {l:List Oper} {Q:Exit->Act->World->Prop} {T:Array Value} {d:List Deferred} {w:World} (n:Nat) (S:List Nat) (V:List (Option Value)) (Core:(Nat->Bool)->(Nat->Value)->World->Prop) (hn:l.toArray.size=n) (hS:S.Nodup) (sP:S.length=n) (hB:iR l.toArray n=true)
  (h0:∀ x,Core (fun _=>false) x w.drew)
  (cG:∀ x W D i o s F,i<n->l.toArray[i]?=some o->S[i]?=some s->D i=false->(∀ j s',S[j]?=some s'->D j=false->x j=T[s']!)->(∀ j o',l.toArray[j]?=some o'->D j=true->∀ e∈o'.after,Region.binds .any e=true->D e.on=true)->(∀ e∈o.after,Region.binds .any e=true->D e.on=true)->(∀ j c,j<n->D j=true->V.getD j none=some c->x j=c)->Core D x W->F=bS T S x →
   wpList P l.toArray (Exit.then (dm F d V Core D i s x) Q) [o] { tmps:=F,defers:=d } W)
  (dh:∀ x W D F,(∀ j,j<n->D j=true)->(∀ j c,j<n->V.getD j none=some c->x j=c)->Core D x W->F=bS T S x->Q .normal { tmps:=F,defers:=d } W) :
  wpAny P .any l.toArray Q l.toArray.size (Array.replicate l.toArray.size false) { tmps:=T,defers:=d } w.drew:=by
 refine v8 hn hB (fun D a W=>∃ x,a={ tmps:=bS T S x,defers:=d }/\(∀ j s,S[j]?=some s->D j=false->x j=T[s]!)/\(∀ j o',l.toArray[j]?=some o'->D j=true->∀ e∈o'.after,Region.binds .any e=true->D e.on=true)/\(∀ j c,j<n->D j=true->V.getD j none=some c->x j=c)/\Core D x W) ?_ ?_ _ _ _ _ (by rw[Array.size_replicate,hn]) ?_ ?_
 ·rintro D a W i o hi ho hD aN ⟨x,rfl,kC,bQ,hv,hc⟩;obtain⟨s,hs⟩:∃ s,S[i]?=some s:=⟨S[i],List.getElem?_eq_getElem (by omega)⟩;refine gI ?_ (vf ho (cG x W D i o s _ hi ho hs hD kC bQ aN hv hc rfl));rintro a' W' ⟨v,rfl,Fy,QC⟩;refine⟨gt x i v,by rw[mO T S hS x i s v hs],fun j sj pX ig=>?_,fun j oj DE ig e he hb=>?_,fun j c hj ig hV=>?_,QC⟩
  ·by_cases e:j=i
   ·subst e;simp[aZ]at ig
   ·rw[nh _ _ e];exact kC j sj pX (by simpa[aZ,e] using ig)
  ·have hgo:D e.on=true:=by
    by_cases ej:j=i
    ·subst ej;rw[ho]at DE;cases DE;exact aN e he hb
    ·exact bQ j oj DE (by simpa[aZ,ej] using ig) e he hb
   unfold aZ;split
   ·rfl
   ·exact hgo
  by_cases e:j=i
  ·subst e;rw[ow];exact Fy c hV
  ·rw[nh _ _ e];exact hv j c hj (by simpa[aZ,e] using ig) hV
 ·rintro D a W aX ⟨x,rfl,_,_,hv,hc⟩;exact dh x W D _ aX (fun j c hj hV=>hv j c hj (aX j hj) hV) hc rfl
 ·rw[hn];exact Nat.le_trans List.countP_le_length (by simp)
 ·refine⟨fun i=>T[S.getD i 0]!,?_,fun j s hs _=>by(show T[S.getD j 0]! = _;rw[List.getD_eq_getElem?_getD,hs];rfl),fun j o' _ h=>?_,fun j c hj h=>?_,?_⟩
  ·rw[o9 T S hS];intro i s hi hs;rw[List.getD_eq_getElem?_getD,hi];rfl
  ·exfalso;simp only[Array.getD]at h;split at h<;>simp at h
  ·exfalso;simp only[Array.getD]at h;split at h<;>simp at h
  ·have:(fun j=>(Array.replicate l.toArray.size false).getD j false)=fun _=>false:=by
    funext j
    simp only[Array.getD];split<;>simp
   rw[this];exact h0 _
theorem wa{P:Program} {id:Nat} {l:List Oper} {Q:Exit->Act->World->Prop} {T:Array Value} {d:List Deferred} {w:World} (n:Nat) (S:List Nat) (V:List (Option Value)) (Core:(Nat->Bool)->(Nat->Value)->World->Prop) (hm:P.follows .mixedOrders=true) (hn:l.toArray.size=n) (hS:S.Nodup) (sP:S.length=n) (hB:iR l.toArray n=true)
  (h0:∀ x,Core (fun _=>false) x w.drew)
  (cG:∀ x W D i o s F,i<n->l.toArray[i]?=some o->S[i]?=some s->D i=false->(∀ j s',S[j]?=some s'->D j=false->x j=T[s']!)->(∀ j o',l.toArray[j]?=some o'->D j=true->∀ e∈o'.after,Region.binds .any e=true->D e.on=true)->(∀ e∈o.after,Region.binds .any e=true->D e.on=true)->(∀ j c,j<n->D j=true->V.getD j none=some c->x j=c)->Core D x W->F=bS T S x →
   wpList P l.toArray (Exit.then (dm F d V Core D i s x) Q) [o] { tmps:=F,defers:=d } W)
  (dh:∀ x W D F,(∀ j,j<n->D j=true)->(∀ j c,j<n->V.getD j none=some c->x j=c)->Core D x W->F=bS T S x->Q .normal { tmps:=F,defers:=d } W) :
  (Code.region id l.toArray true).wp P Q { tmps:=T,defers:=d } w:=
 wp_region_any hm (DN n S V Core hn hS sP hB h0 cG dh)
theorem ox{ops:Array Oper} {t j:Nat} (h:Region.waitsFor .any ops t j=true) {o:Oper} (ho:ops[t]?=some o):∃ e∈o.after,Region.binds .any e=true/\e.on=j:=by
 unfold Region.waitsFor at h;rw[ho]at h;obtain⟨e,he,h2⟩:=Array.any_eq_true'.1 h;simp at h2;exact⟨e,he,by grind⟩
theorem rK{P:Program} {l:List Oper} {Q:Exit->Act->World->Prop} {i:Nat} {a:Act} {w:World} (hi:i<l.length) (h:wpList P l.toArray Q (l.drop i) a w):wpOp P l.toArray Q i (fun a' w'=>wpList P l.toArray Q (l.drop (i+1)) a' w') a w:=by
 rw[List.drop_eq_getElem_cons hi]at h;unfold wpList at h;unfold wpOp;rw[show l.toArray[i]?=some l[i] by simp[hi]];exact h
theorem pw{P:Program} {l:List Oper} {Q:Exit->Act->World->Prop} (n:Nat) (hn:n<l.length) (hB:iR l.toArray l.length=true) (hs:Region.sinkB .any l.toArray n=true) (hc:Region.chainB .any l.toArray n=true) (Inv:(Nat->Bool)->Act->World->Prop)
  (cG:∀ D a w i o,i<n->l.toArray[i]?=some o->D i=false->(∀ j o',l.toArray[j]?=some o'->D j=true->∀ e∈o'.after,Region.binds .any e=true->D e.on=true)->(∀ e∈o.after,Region.binds .any e=true->D e.on=true)->Inv D a w->wpOp P l.toArray Q i (fun a' w'=>Inv (aZ D i) a' w') a w)
  (Ii:∀ D a w,(∀ j,j<n->D j=true)->Inv D a w->wpList P l.toArray Q (l.drop n) a w) {a:Act} {w:World} (h0:Inv (fun _=>false) a w) :
  wpAny P .any l.toArray Q l.toArray.size (Array.replicate l.toArray.size false) a w:=by
 have bA:l.toArray.size=l.length:=by simp
 refine v8 (n:=l.length) bA hB (fun D a W=>(∀ j o',l.toArray[j]?=some o'->D j=true->∀ e∈o'.after,Region.binds .any e=true->D e.on=true) ∧
  (((∀ t,n<=t->D t=false)/\Inv D a W)\/∃ k,n<k/\(∀ j,j<k->D j=true)/\(∀ t,k<=t->D t=false)/\wpList P l.toArray Q (l.drop k) a W)) ?_ ?_ _ _ _ _ (by simp) (by simp only[Array.size_replicate,bA];exact Nat.le_trans List.countP_le_length (by simp)) ?_
 ·rintro D a W i o hi ho hD aN ⟨bQ,Dw⟩
  have vX:∀ j o',l.toArray[j]?=some o'->aZ D i j=true->∀ e∈o'.after,Region.binds .any e=true->aZ D i e.on=true:=by
   intro j o' cT hj e he hb;unfold aZ at hj ⊢;by_cases h1:e.on=i
   ·simp[h1]
   ·rw[if_neg h1];by_cases h2:j=i
    ·subst h2;rw[ho]at cT;cases cT;exact aN e he hb
    ·rw[if_neg h2]at hj;exact bQ j o' cT hj e he hb
  have sY:∀ t o',n<t->l.toArray[t]?=some o'->∃ e∈o'.after,Region.binds .any e=true/\e.on=t - 1:=by
   intro t o' ht cT;have Rh:t<l.toArray.size:=(Array.getElem?_eq_some_iff.1 cT).1;unfold Region.chainB at hc;have:=List.all_eq_true.1 hc t (List.mem_range.2 Rh);simp only[Bool.or_eq_true,decide_eq_true_eq]at this;rcases this with h|h
   ·omega
   ·exact ox h cT
  rcases Dw with ⟨ht,bB⟩|⟨k,hk,aX,xJ,hl⟩
  ·by_cases cg:i<n
   ·refine gI (fun a' w' h=>⟨vX,.inl ⟨fun t htn=>?_,h⟩⟩) (cG D a W i o cg ho hD bQ aN bB);unfold aZ;rw[if_neg (by omega)];exact ht t htn
   ·have NH:i=n:=by
     by_cases e:i=n
     ·exact e
     ·exfalso;obtain⟨e1,oP,aK,h1⟩:=sY i o (by omega) ho;have h2:=aN e1 oP aK;rw[h1,ht _ (by omega)]at h2;cases h2
    subst NH
    have H4:∀ d j,j<i->i - j<=d->D j=true:=by
     intro d;induction d with
     | zero=>intro j hj hd;omega
     | succ d ih=>
      intro j hj hd;unfold Region.sinkB at hs;have:=List.all_eq_true.1 hs j (List.mem_range.2 hj);obtain⟨j',jA,h3⟩:=List.any_eq_true.1 this;simp only[Bool.and_eq_true,decide_eq_true_eq]at h3;have hj'':=List.mem_range.1 jA;obtain⟨o',cT⟩:∃ o',l.toArray[j']?=some o':=⟨l.toArray[j']'(by omega),Array.getElem?_eq_getElem _⟩;obtain⟨e1,oP,aK,h1⟩:=ox h3.2 cT;by_cases e:j'=i
      ·subst e;rw[ho]at cT;cases cT;have:=aN e1 oP aK
       rwa [h1]at this
      ·have:=bQ j' o' cT (ih j' (by omega) (by omega)) e1 oP aK
       rwa [h1]at this
    have th:∀ j,j<i->D j=true:=fun j hj=>H4 (i - j) j hj (Nat.le_refl _)
    refine gI (fun a' w' h=>⟨vX,.inr ⟨i+1,by omega,fun j hj=>?_,fun t htn=>?_,h⟩⟩) (rK hn (Ii D a W th bB))
    ·unfold aZ;split
     ·rfl
     ·exact th j (by omega)
    ·unfold aZ;rw[if_neg (by omega)];exact ht t (by omega)
  ·have Ak:i=k:=by
    by_cases e:i=k
    ·exact e
    ·exfalso
     have:k<=i:=by
      by_cases h:i<k
      ·rw[aX i h]at hD;cases hD
      ·omega
     obtain⟨e1,oP,aK,h1⟩:=sY i o (by omega) ho;have h2:=aN e1 oP aK;rw[h1,xJ _ (by omega)]at h2;cases h2
   subst Ak;refine gI (fun a' w' h=>⟨vX,.inr ⟨i+1,by omega,fun j hj=>?_,fun t htn=>?_,h⟩⟩) (rK hi hl)
   ·unfold aZ;split
    ·rfl
    ·exact aX j (by omega)
   ·unfold aZ;rw[if_neg (by omega)];exact xJ t (by omega)
 ·rintro D a W aX ⟨bQ,Dw⟩;rcases Dw with ⟨ht,_⟩|⟨k,hk,_,xJ,hl⟩
  ·have:=aX n hn;rw[ht n (Nat.le_refl _)]at this;cases this
  ·have ot:l.length<=k:=by
    by_cases h:k<l.length
    ·have:=aX k h;rw[xJ k (Nat.le_refl _)]at this;cases this
    ·omega
   rw[List.drop_of_length_le ot]at hl;exact hl
 ·have hf:(fun j=>(Array.replicate l.toArray.size false).getD j false)=fun _=>false:=by
   funext j
   simp only[Array.getD];split<;>simp
  rw[hf];exact⟨fun j o' _ h=>(by cases h),.inl ⟨fun _ _=>rfl,h0⟩⟩
theorem oy{P:Program} {id:Nat} {l:List Oper} {Q:Exit->Act->World->Prop} {T:Array Value} {d:List Deferred} {w:World} (n:Nat) (S:List Nat) (Rs:List MP) (hm:P.follows .mixedOrders=true) (hn:n<l.length) (hS:S.Nodup) (sP:S.length=n)
  (hB:iR l.toArray l.length=true) (hs:Region.sinkB .any l.toArray n=true) (hc:Region.chainB .any l.toArray n=true)
  (cG:∀ x W i o s F,i<n->l.toArray[i]?=some o->S[i]?=some s->Below w.heap.size w W->(∀ e∈o.after,Region.binds .any e=true->(Rs.getD e.on MP.any).p (x e.on) W)->F=bS T S x →
   wpList P l.toArray (Exit.then (tx F d (Rs.getD i MP.any) s W) Q) [o] { tmps:=F,defers:=d } W)
  (hlast:∀ x W F,Below w.heap.size w W->(∀ j,j<n->(Rs.getD j MP.any).p (x j) W)->F=bS T S x->wpList P l.toArray Q (l.drop n) { tmps:=F,defers:=d } W) :
  (Code.region id l.toArray true).wp P Q { tmps:=T,defers:=d } w:=by
 refine wp_region_any hm (pw n hn hB hs hc (fun D a W=>∃ x,a={ tmps:=bS T S x,defers:=d }/\Below w.heap.size w W/\∀ j,j<n->D j=true->(Rs.getD j MP.any).p (x j) W) ?_ ?_ ?_)
 ·rintro D a W i o hi ho hD bQ aN ⟨x,rfl,hb,hx⟩;obtain⟨s,Lw⟩:∃ s,S[i]?=some s:=⟨S[i],List.getElem?_eq_getElem (by omega)⟩;refine gI ?_ (vf ho (cG x W i o s _ hi ho Lw hb (fun e he Lr=>hx e.on (by have:=jK hB (by omega) ho e he Lr;omega) (aN e he Lr)) rfl));rintro a' W' ⟨v,rfl,jz,hr⟩;refine⟨gt x i v,by rw[mO T S hS x i s v Lw],ak hb jz,fun j hj ig=>?_⟩;by_cases e:j=i
  ·subst e;rw[ow];exact hr
  ·rw[nh _ _ e];refine(Rs.getD j MP.any).up _ _ _ (hx j hj ?_) jz;simpa[aZ,e] using ig
 ·rintro D a W aX ⟨x,rfl,hb,hx⟩;exact hlast x W _ hb (fun j hj=>hx j hj (aX j hj)) rfl
 ·refine⟨fun i=>T[S.getD i 0]!,?_,(Below.refl _ _).drew,fun j _ h=>by cases h⟩;rw[o9 T S hS];intro i s hi hs;rw[List.getD_eq_getElem?_getD,hi];rfl
theorem vh{P:Program} {id:Nat} {l:List Oper} {Q:Exit->Act->World->Prop} {T:Array Value} {d:List Deferred} {w:World} (n:Nat) (S:List Nat) (V:List (Option Value)) (Core:(Nat->Bool)->(Nat->Value)->World->Prop) (hm:P.follows .mixedOrders=true) (hn:decide (n<l.length)=true) (hS:S.Nodup) (sP:S.length=n)
  (hB:iR l.toArray l.length=true) (hs:Region.sinkB .any l.toArray n=true) (hc:Region.chainB .any l.toArray n=true)
  (h0:∀ x,Core (fun _=>false) x w.drew)
  (cG:∀ x W D i o s F,i<n->l.toArray[i]?=some o->S[i]?=some s->D i=false->(∀ j s',S[j]?=some s'->D j=false->x j=T[s']!)->(∀ j o',l.toArray[j]?=some o'->D j=true->∀ e∈o'.after,Region.binds .any e=true->D e.on=true)->(∀ e∈o.after,Region.binds .any e=true->D e.on=true)->(∀ j c,j<n->D j=true->V.getD j none=some c->x j=c)->Core D x W->F=bS T S x →
   wpList P l.toArray (Exit.then (dm F d V Core D i s x) Q) [o] { tmps:=F,defers:=d } W)
  (dh:∀ x W D F,(∀ j,j<n->D j=true)->(∀ j c,j<n->V.getD j none=some c->x j=c)->Core D x W->F=bS T S x->wpList P l.toArray Q (l.drop n) { tmps:=F,defers:=d } W) :
  (Code.region id l.toArray true).wp P Q { tmps:=T,defers:=d } w:=by
 have ms:n<l.length:=by simpa using hn
 refine wp_region_any hm (pw n ms hB hs hc (fun D a W=>∃ x,a={ tmps:=bS T S x,defers:=d }/\(∀ j s,S[j]?=some s->D j=false->x j=T[s]!)/\(∀ j c,j<n->D j=true->V.getD j none=some c->x j=c)/\Core D x W) ?_ ?_ ?_)
 ·rintro D a W i o hi ho hD bQ aN ⟨x,rfl,kC,hv,DF⟩;obtain⟨s,Lw⟩:∃ s,S[i]?=some s:=⟨S[i],List.getElem?_eq_getElem (by omega)⟩;refine gI ?_ (vf ho (cG x W D i o s _ hi ho Lw hD kC bQ aN hv DF rfl));rintro a' W' ⟨v,rfl,Fy,QC⟩;refine⟨gt x i v,by rw[mO T S hS x i s v Lw],fun j sj pX ig=>?_,fun j c hj ig hV=>?_,QC⟩
  ·by_cases e:j=i
   ·subst e;simp[aZ]at ig
   ·rw[nh _ _ e];exact kC j sj pX (by simpa[aZ,e] using ig)
  ·by_cases e:j=i
   ·subst e;rw[ow];exact Fy c hV
   ·rw[nh _ _ e];exact hv j c hj (by simpa[aZ,e] using ig) hV
 ·rintro D a W aX ⟨x,rfl,_,hv,DF⟩;exact dh x W D _ aX (fun j c hj hV=>hv j c hj (aX j hj) hV) DF rfl
 ·refine⟨fun i=>T[S.getD i 0]!,?_,fun j s pX _=>by(show T[S.getD j 0]! = _;rw[List.getD_eq_getElem?_getD,pX];rfl),fun j c _ h=>(by cases h),h0 _⟩;rw[o9 T S hS];intro i s hi bA;rw[List.getD_eq_getElem?_getD,hi];rfl
abbrev lw(Ds:List Nat):List Deferred:=Ds.map cH
def bY(B:Nat) (Ds:List Nat) (W:World):Prop:=Ds.Nodup/\∀ D∈Ds,B<=D/\W.heap[D]?=some (.deferred (some []))
theorem bY.nil(B:Nat) (W:World):bY B [] W:=⟨List.nodup_nil,fun D h=>by simp at h⟩
theorem bY.up{B:Nat} {Ds:List Nat} {W W':World} (h:bY B Ds W) (hb:Below W.heap.size W W'):bY B Ds W':=⟨h.1,fun D hD=>⟨(h.2 D hD).1,aq hb (h.2 D hD).2⟩⟩
theorem bY.cons{B:Nat} {Ds:List Nat} {W:World} {D:Nat} (h:bY B Ds W) (hD:B<=D) (hk:W.heap[D]?=some (.deferred (some []))) (hn:∀ E∈Ds,E<D):bY B (D :: Ds) W:=
 ⟨List.nodup_cons.2 ⟨fun e=>Nat.lt_irrefl _ (hn _ e),h.1⟩,fun E hE=>by
  rcases List.mem_cons.1 hE with rfl|hE
  ·exact⟨hD,hk⟩
  ·exact h.2 E hE⟩
def dK(Ds:List Nat) (W:World):World:=Ds.foldl (fun W D=>W.putObj D (.deferred none)) W
theorem gZ(Ds:List Nat) (W:World) {k:Nat} (hk:k∉Ds):(dK Ds W).heap[k]?=W.heap[k]?:=by
 unfold dK;induction Ds generalizing W with
 | nil=>rfl
 | cons D r ih=>
  simp at hk;rw[List.foldl_cons,ih _ hk.2];exact World.putObj_heap_other hk.1
theorem rj{B n:Nat} {w W:World} {Ds:List Nat} (h:∀ D∈Ds,B<=D) (hn:n<=B) (hb:Below n w W):Below n w (dK Ds W):=by
 unfold dK;induction Ds generalizing W with
 | nil=>exact hb
 | cons D r ih=>exact ih (fun E hE=>h E (by simp[hE])) (eN (Nat.le_trans hn (h D (by simp))) hb)
theorem F1{B:Nat} {Ds:List Nat} {W:World} (h:bY B Ds W):CK W (dK Ds W):=fun k o hk ho=>by
 rw[gZ]
 ·exact hk
 ·intro hm;have:=(h.2 k hm).2;rw[hk]at this;cases this;cases ho
theorem A3{P:Program} {fn:Func} {R:Ending->World->Prop} {tmps:Array Value} (Ds:List Nat):∀ (W:World),Ds.Nodup->(∀ D∈Ds,W.heap[D]?=some (.deferred (some [])))->∀ {v:Value},
  (results fn tmps).run P (dK Ds W)=.ok v (dK Ds W)->R (.returned v) (dK Ds W)->LeavesInM Fence.wide 0 P fn tmps R (lw Ds) .returning W:=by
 induction Ds with
 | nil=>intro W _ _ v hv h;exact⟨v,hv,h⟩
 | cons D r ih=>
  intro W oX hk v hv h;rw[List.nodup_cons]at oX;refine⟨by simp,.inl ⟨_,_,rfl,run_takeDeferred (hk D (by simp)),?_⟩⟩;exact ih _ oX.2 (fun E hE=>(World.putObj_heap_other (by rintro rfl;exact oX.1 hE)).trans (hk E (by simp[hE]))) hv h
theorem jj{P:Program} {fn:Func} {R:Ending->World->Prop} {tmps:Array Value} {B:Nat} {Ds:List Nat} {W:World} {v:Value} (hm:bY B Ds W)
  (hv:(results fn tmps).run P (dK Ds W)=.ok v (dK Ds W)) (h:R (.returned v) (dK Ds W)):bodyPostM Fence.wide 0 P fn R .ret { tmps:=tmps,defers:=lw Ds } W:=
 A3 Ds W hm.1 (fun D hD=>(hm.2 D hD).2) hv h
theorem nA{F:Fence} {nn:Nat} {P:Program} {ops:Array Oper} {Q:Exit->Act->World->Prop} {n:Nat} (hn:ops.size=n) (hB:iR ops n=true) (Inv:(Nat->Bool)->Act->World->Prop)
  (cG:∀ D a w i o,i<n->ops[i]?=some o->D i=false->(∀ e∈o.after,Region.binds .any e=true->D e.on=true)->Inv D a w->wpOpIn F nn P ops Q i (fun a' w'=>Inv (aZ D i) a' w') a w)
  (dh:∀ D a w,(∀ j,j<n->D j=true)->Inv D a w->Q .normal a w) :
  ∀ (fuel:Nat) (L:Array Bool) (a:Act) (w:World),L.size=n->(List.range n).countP (fun j=>!L.getD j false)<=fuel->Inv (fun j=>L.getD j false) a w->wpAnyIn F nn P .any ops Q fuel L a w:=by
 have lh:∀ L:Array Bool,L.size=n->(∀ j,j<n->L.getD j false=true)->Region.ready .any ops L=[]:=by
  intro L hL h1;refine List.eq_nil_iff_forall_not_mem.2 fun j hj=>?_
  obtain⟨Oi,o,ho,_⟩:=mem_ready.1 hj;have Lc:j<n:=by have:=(Array.getElem?_eq_some_iff.1 ho).1;omega
  have:=h1 j Lc;rw[show L.getD j false=L.getD j true by simp[Array.getD,hL,Lc]]at this;rw[Oi]at this;cases this
 intro fuel;induction fuel with
 | zero=>
  intro L a w hL hc h1;have h3:(List.range n).countP (fun j=>!L.getD j false)=0:=by omega
  rw[List.countP_eq_zero]at h3;have aX:∀ j,j<n->L.getD j false=true:=fun j hj=>by simpa using h3 j (List.mem_range.2 hj)
  exact⟨lh L hL aX,dh _ a w aX h1⟩
 | succ fuel ih=>
  intro L a w hL hc h2;refine⟨fun hr=>?_,fun i hi=>?_⟩
  ·refine dh _ a w ?_ h2;intro j;induction j using Nat.strongRecOn with
   | ind j ihj=>
    intro hj;cases hv:L.getD j false with
    | true=>rfl
    | false=>
     exfalso;obtain⟨o,ho⟩:∃ o,ops[j]?=some o:=⟨ops[j]'(by omega),Array.getElem?_eq_getElem _⟩
     have:j∈Region.ready .any ops L:=mem_ready.2 ⟨by rw[show L.getD j true=L.getD j false by simp[Array.getD,hL,hj]];exact hv,o,ho,fun e he oU=>by
      have:=jK hB hj ho e he oU
      exact ihj e.on this (by omega)⟩
     rw[hr]at this;cases this
  ·obtain⟨gi,o,ho,aN⟩:=mem_ready.1 hi;have cg:i<n:=by have:=(Array.getElem?_eq_some_iff.1 ho).1;omega
   have Le:L.getD i false=false:=by rw[show L.getD i false=L.getD i true by simp[Array.getD,hL,cg]];exact gi
   have DL:(fun j=>(L.setIfInBounds i true).getD j false)=aZ (fun j=>L.getD j false) i:=by
    funext j
    unfold aZ;by_cases tw:j=i
    ·subst tw;simp[Array.getD,hL,cg]
    ·rw[if_neg tw];simp only[Array.getD,Array.size_setIfInBounds];split
     ·exact Array.getElem_setIfInBounds_ne _ (Ne.symm tw)
     ·rfl
   have rg:(List.range n).countP (fun j=>!(L.setIfInBounds i true).getD j false)<=fuel:=by
    have h3:=yZ (fun j=>L.getD j false) i Le (List.range n);rw[if_pos (List.mem_range.2 cg)]at h3
    have h4:(fun j=>!(L.setIfInBounds i true).getD j false)=fun j=>!aZ (fun j=>L.getD j false) i j:=by
     funext j;rw[<-DL]
    rw[h4];omega
   exact wpOpIn_mono (fun a' w' h=>ih (L.setIfInBounds i true) a' w' (by simpa using hL) rg (by rw[DL];exact h)) (cG (fun j=>L.getD j false) a w i o cg ho Le aN h2)
theorem py{F:Fence} {nn:Nat} {P:Program} {l:List Oper} {Q:Exit->Act->World->Prop} {i:Nat} {a:Act} {w:World} (hi:i<l.length) (h:wpListIn F nn P l.toArray Q (l.drop i) a w):wpOpIn F nn P l.toArray Q i (fun a' w'=>wpListIn F nn P l.toArray Q (l.drop (i+1)) a' w') a w:=by
 rw[List.drop_eq_getElem_cons hi]at h;unfold wpListIn at h;unfold wpOpIn;rw[show l.toArray[i]?=some l[i] by simp[hi]];exact h
theorem nB{F:Fence} {nn:Nat} {P:Program} {l:List Oper} {Q:Exit->Act->World->Prop} (n:Nat) (hn:n<l.length) (hB:iR l.toArray l.length=true) (hs:Region.sinkB .any l.toArray n=true) (hc:Region.chainB .any l.toArray n=true) (Inv:(Nat->Bool)->Act->World->Prop)
  (cG:∀ D a w i o,i<n->l.toArray[i]?=some o->D i=false->(∀ j o',l.toArray[j]?=some o'->D j=true->∀ e∈o'.after,Region.binds .any e=true->D e.on=true)->(∀ e∈o.after,Region.binds .any e=true->D e.on=true)->Inv D a w->wpOpIn F nn P l.toArray Q i (fun a' w'=>Inv (aZ D i) a' w') a w)
  (Ii:∀ D a w,(∀ j,j<n->D j=true)->Inv D a w->wpListIn F nn P l.toArray Q (l.drop n) a w) {a:Act} {w:World} (h0:Inv (fun _=>false) a w) :
  wpAnyIn F nn P .any l.toArray Q l.toArray.size (Array.replicate l.toArray.size false) a w:=by
 have bA:l.toArray.size=l.length:=by simp
 refine nA (n:=l.length) bA hB (fun D a W=>(∀ j o',l.toArray[j]?=some o'->D j=true->∀ e∈o'.after,Region.binds .any e=true->D e.on=true) ∧
  (((∀ t,n<=t->D t=false)/\Inv D a W)\/∃ k,n<k/\(∀ j,j<k->D j=true)/\(∀ t,k<=t->D t=false)/\wpListIn F nn P l.toArray Q (l.drop k) a W)) ?_ ?_ _ _ _ _ (by simp) (by simp only[Array.size_replicate,bA];exact Nat.le_trans List.countP_le_length (by simp)) ?_
 ·rintro D a W i o hi ho hD aN ⟨bQ,Dw⟩
  have vX:∀ j o',l.toArray[j]?=some o'->aZ D i j=true->∀ e∈o'.after,Region.binds .any e=true->aZ D i e.on=true:=by
   intro j o' cT hj e he hb;unfold aZ at hj ⊢;by_cases h1:e.on=i
   ·simp[h1]
   ·rw[if_neg h1];by_cases h2:j=i
    ·subst h2;rw[ho]at cT;cases cT;exact aN e he hb
    ·rw[if_neg h2]at hj;exact bQ j o' cT hj e he hb
  have sY:∀ t o',n<t->l.toArray[t]?=some o'->∃ e∈o'.after,Region.binds .any e=true/\e.on=t - 1:=by
   intro t o' ht cT;have Rh:t<l.toArray.size:=(Array.getElem?_eq_some_iff.1 cT).1;unfold Region.chainB at hc;have:=List.all_eq_true.1 hc t (List.mem_range.2 Rh);simp only[Bool.or_eq_true,decide_eq_true_eq]at this;rcases this with h|h
   ·omega
   ·exact ox h cT
  rcases Dw with ⟨ht,bB⟩|⟨k,hk,aX,xJ,hl⟩
  ·by_cases cg:i<n
   ·refine wpOpIn_mono (fun a' w' h=>⟨vX,.inl ⟨fun t htn=>?_,h⟩⟩) (cG D a W i o cg ho hD bQ aN bB);unfold aZ;rw[if_neg (by omega)];exact ht t htn
   ·have NH:i=n:=by
     by_cases e:i=n
     ·exact e
     ·exfalso;obtain⟨e1,oP,aK,h1⟩:=sY i o (by omega) ho;have h2:=aN e1 oP aK;rw[h1,ht _ (by omega)]at h2;cases h2
    subst NH
    have H4:∀ d j,j<i->i - j<=d->D j=true:=by
     intro d;induction d with
     | zero=>intro j hj hd;omega
     | succ d ih=>
      intro j hj hd;unfold Region.sinkB at hs;have:=List.all_eq_true.1 hs j (List.mem_range.2 hj);obtain⟨j',jA,h3⟩:=List.any_eq_true.1 this;simp only[Bool.and_eq_true,decide_eq_true_eq]at h3;have hj'':=List.mem_range.1 jA;obtain⟨o',cT⟩:∃ o',l.toArray[j']?=some o':=⟨l.toArray[j']'(by omega),Array.getElem?_eq_getElem _⟩;obtain⟨e1,oP,aK,h1⟩:=ox h3.2 cT;by_cases e:j'=i
      ·subst e;rw[ho]at cT;cases cT;have:=aN e1 oP aK
       rwa [h1]at this
      ·have:=bQ j' o' cT (ih j' (by omega) (by omega)) e1 oP aK
       rwa [h1]at this
    have th:∀ j,j<i->D j=true:=fun j hj=>H4 (i - j) j hj (Nat.le_refl _)
    refine wpOpIn_mono (fun a' w' h=>⟨vX,.inr ⟨i+1,by omega,fun j hj=>?_,fun t htn=>?_,h⟩⟩) (py hn (Ii D a W th bB))
    ·unfold aZ;split
     ·rfl
     ·exact th j (by omega)
    ·unfold aZ;rw[if_neg (by omega)];exact ht t (by omega)
  ·have Ak:i=k:=by
    by_cases e:i=k
    ·exact e
    ·exfalso
     have:k<=i:=by
      by_cases h:i<k
      ·rw[aX i h]at hD;cases hD
      ·omega
     obtain⟨e1,oP,aK,h1⟩:=sY i o (by omega) ho;have h2:=aN e1 oP aK;rw[h1,xJ _ (by omega)]at h2;cases h2
   subst Ak;refine wpOpIn_mono (fun a' w' h=>⟨vX,.inr ⟨i+1,by omega,fun j hj=>?_,fun t htn=>?_,h⟩⟩) (py hi hl)
   ·unfold aZ;split
    ·rfl
    ·exact aX j (by omega)
   ·unfold aZ;rw[if_neg (by omega)];exact xJ t (by omega)
 ·rintro D a W aX ⟨bQ,Dw⟩;rcases Dw with ⟨ht,_⟩|⟨k,hk,_,xJ,hl⟩
  ·have:=aX n hn;rw[ht n (Nat.le_refl _)]at this;cases this
  ·have ot:l.length<=k:=by
    by_cases h:k<l.length
    ·have:=aX k h;rw[xJ k (Nat.le_refl _)]at this;cases this
    ·omega
   rw[List.drop_of_length_le ot]at hl;exact hl
 ·have hf:(fun j=>(Array.replicate l.toArray.size false).getD j false)=fun _=>false:=by
   funext j
   simp only[Array.getD];split<;>simp
  rw[hf];exact⟨fun j o' _ h=>(by cases h),.inl ⟨fun _ _=>rfl,h0⟩⟩
theorem DO{P:Program} {n:Nat} {o:Oper} {a:Act} {w:World} {K K':Act->World->Prop} {Q:Exit->Act->World->Prop} (hd:∀ c,o.op≠.defer c) (_hQ:¬ LetsOut Q) (hK:∀ a w,K a w->K' a w)
  (h:o.wp P a w K Q):o.wpIn Fence.wide n P a w K' Q:=by
 refine⟨fun _ _=>trivial,?_⟩;rw[Oper.semAt_eq _ _ _ hd];unfold Oper.wp at h;generalize (execOp a.eval o).run P w=r at h;cases r with
 | ok x w'=>
  cases x with
  | value v=>exact hK _ _ h
  | skip=>exact hK _ _ h
  | defer d=>exact hK _ _ h
  | enter f args=>
   refine⟨fun h'=>(by simp[Fence.wide]at h'),(callsIn_wide (n:=n - 1)).2 ?_⟩;refine Calls.mono h ?_;rintro e w'' he;cases e with
   | returned v=>exact hK _ _ he
   | panicked ch=>exact he
   | outgrown=>exact he
  | row r args=>
   refine⟨fun h'=>(by simp[Fence.wide]at h'),fun c cs _=>?_⟩;obtain⟨v,w'',hv,hs⟩:=h c cs;exact⟨v,w'',hK _ _ hv,stepsIn_wide.2 hs⟩
  | _=>exact h.elim
 | halt x w'=>
  cases x with
  | panic v=>exact h
  | _=>exact h.elim
def R8(n:Nat) (S:Nat->Prop) (W W':World):Prop:=W.heap.size<=W'.heap.size/\∀ k,S k\/n<=k->k<W.heap.size->W'.heap[k]?=W.heap[k]?
def Ir(P:Program) (g:Nat) (lb:Array Value) (E:Nat->Array Value->Prop) (N:Nat) (S:Nat->Prop) (w:World):Prop:=
 ∀ (l:Nat) (J Jx:Nat->World->Prop) (W:World),Below w.heap.size w W->l<W.heap.size →
  (∀ i A A',J i A->Below W.heap.size A A'->J i A')->(∀ i A A',Jx i A->Below W.heap.size A A'->Jx i A') →
  (∀ i W1 args,i<N->E i args->W.heap.size<=W1.heap.size->J i W1->YieldAt Fence.wide 0 P l args W1 fun e W'=>
   R8 W.heap.size S W1 W'/\((e=.returned (.bool true)/\J (i+1) W')\/(e=.returned (.bool false)/\Jx (i+1) W'))) →
  J 0 W →
  Calls P g (#[.func (.yield l) #[] #[]]++lb) W fun e W'=>(∃ v,e=.returned v)/\(J N W'\/∃ i,i<=N/\Jx i W')
theorem Chg.belowN{B n:Nat} {A A':World} (h:Chg B A A') (hn:n<=B) (hs:n<=A.heap.size):Below n A A':=h.below hn hs (Below.refl _ _)
theorem DP{P:Program} {g:Operand} {ps:Array Tmp} {assign body:Code} {Q:Exit->Act->World->Prop} {a:Act} {w:World}
  {gf:Nat} {lb:Array Value} (hg:a.eval g=.func (.func gf) #[] lb) (eg:∀ args w,(callFunc gf args).run P w=.ok (.enter gf args) w)
  {E:Nat->Array Value->Prop} {N:Nat} {S:Nat->Prop} {w0:World} (dZ:Ir P gf lb E N S w0) (bw:Below w0.heap.size w0 w) (hS:∀ k,S k->k<w.heap.size) (mM:∀ i args,E i args->args.size=ps.size)
  (I:Nat->World->Prop) (Ix:Code->Nat->World->Prop) (hI:∀ i A A',I i A->Below w.heap.size A A'->I i A') (FN:∀ c i A A',Ix c i A->Below w.heap.size A A'->Ix c i A') (h0:I 0 w)
  (tg:∀ l i W args,i<N->w.heap.size<l->l<W.heap.size->E i args->I i W →
   assign.wpIn (Fence.wide.inRound l) 0 P (Exit.then (fun a1 W1=>Bod w.heap.size (fun k=>(S k\/w.heap.size+2<=k)/\k<W.heap.size) W W1/\∃ Ax:World->Prop,cF w.heap.size Ax/\Ax W1/\∀ W2,Ax W2->(∃ r,W2.heap[l]?=some (.loop r))->body.wpIn (Fence.wide.inRound l) 0 P (F0 w.heap.size (fun k=>(S k\/w.heap.size+2<=k)/\k<W.heap.size) I Ix (i+1) W2) a1 W2) (fun _ _ _=>False))
    { tmps:=(ps.zip args).foldl (fun t (p,v)=>t.setIfInBounds p v) a.tmps,defers:=[] } W)
  (Id:∀ D W,w.heap.size<=D->I N W->W.heap[D]?=some (.deferred (some []))->Q .normal { a with defers:=cH D :: a.defers } W)
  (Ih:∀ D c i W,w.heap.size<=D->i<=N->Ix c i W->W.heap[D]?=some (.deferred (some []))->c.wp P Q { a with defers:=cH D :: a.defers } W) :
  (Code.rangeFunc g ps assign body).wp P Q a w:=by
 refine(wpIn_wide (n:=0)).1 (wpIn_rangeFunc ?_);intro fn _;obtain⟨rec,gX⟩:∃ rec:Loop,rec={ state:=.ready,pending:=none,fn,tmps:=a.tmps,params:=ps,assign,body,defers:=w.heap.size }:=⟨_,rfl⟩;obtain⟨W1,io⟩:∃ W1,(w.alloc (.deferred (some []))).alloc (.loop rec)=W1:=⟨_,rfl⟩
 have Dq:W1.heap[w.heap.size+1]?=some (.loop rec):=by
  rw[<-io];have:=aA (w.alloc (.deferred (some []))) (.loop rec);rwa [World.size_alloc]at this
 have FM:W1.heap[w.heap.size]?=some (.deferred (some [])):=by rw[<-io];exact aH _ (aA w _)
 have dc:W1.heap.size=w.heap.size+2:=by rw[<-io];simp
 have oa:Below w.heap.size w W1:=by rw[<-io];exact((Below.refl _ w).alloc (Nat.le_refl _) _).alloc (by simp) _
 have RE:¬ S (w.heap.size+1):=fun h=>by have:=hS _ h;omega
 have hlow:∀ {A A':World},Below W1.heap.size A A'->Below w.heap.size A A':=fun h=>h.mono (by omega)
 have hI1:∀ {i:Nat} {A A':World},Chg w.heap.size A A'->w.heap.size<=A.heap.size->I i A->I i A':=fun hc hs h=>hI _ _ _ h (hc.belowN (Nat.le_refl _) hs)
 have hIx1:∀ {c:Code} {i:Nat} {A A':World},Chg w.heap.size A A'->w.heap.size<=A.heap.size->Ix c i A->Ix c i A':=fun hc hs h=>FN _ _ _ _ h (hc.belowN (Nat.le_refl _) hs)
 refine⟨w.heap.size+1,[cH w.heap.size],W1,{ target:=.fn (.func gf) lb,args:=#[.func (.yield (w.heap.size+1)) #[] #[]] },W1,gf,
  #[.func (.yield (w.heap.size+1)) #[] #[]]++lb,W1,?_,?_,fun _ _=>trivial,?_,fun h=>(by simp[Fence.wide]at h),?_⟩
 ·rw[<-io,gX];exact run_enterLoop_outer _ _ _ _ _
 ·simp only[resolve,hg];simp[go_sem]
 ·simp[invoke,go_sem,eg]
 ·refine(callsIn_wide (n:=0 - 1)).2 ?_
  refine(dZ (w.heap.size+1)
   (fun i W=>I i W/\W.heap[w.heap.size+1]?=some (.loop rec)/\W.heap[w.heap.size]?=some (.deferred (some [])))
   (fun i W=>∃ c,Ix c i W/\W.heap[w.heap.size+1]?=some (.loop { rec with state:=.done,pending:=some c })/\W.heap[w.heap.size]?=some (.deferred (some [])))
   W1 (ak bw oa) (by omega)
   (fun i A A' h hb=>⟨hI i A A' h.1 (hlow hb),(hb.block _ (by omega)).trans h.2.1,(hb.block _ (by omega)).trans h.2.2⟩)
   (fun i A A' h hb=>by obtain⟨c,h1,h2,h3⟩:=h;exact⟨c,FN c i A A' h1 (hlow hb),(hb.block _ (by omega)).trans h2,(hb.block _ (by omega)).trans h3⟩)
   ?_ ⟨hI 0 _ _ h0 oa,Dq,FM⟩).mono ?_
  ·rintro i W args hi hE bA ⟨Q0,hl,hk⟩;refine A0 (B:=w.heap.size) (S:=fun k=>(S k\/w.heap.size+2<=k)/\k<W.heap.size) (ps:=ps) (assign:=assign) (body:=body) (tmps:=a.tmps) (i:=i) (I:=I) (Ix:=Ix) _ (by omega) (fun h=>by have:=h.1;rcases this with h|h;exact RE h;omega) (by rw[gX];simp) hl (mM i args hE) (tg _ i W args hi (by omega) (by omega) hE Q0) ?_ ?_
   ·intro W3 W4 oV mq DI hc jD vU;exact⟨⟨mq.size,fun k hk aG=>mq.keep k ⟨by rw[dc]at hk;exact hk,aG⟩⟩,.inl ⟨rfl,hI1 hc (by omega) jD,DI,vU _ _ (Nat.le_refl _) (by omega) hk rfl⟩⟩
   ·intro c W3 W4 oV mq DI hc jD vU;exact⟨⟨mq.size,fun k hk aG=>mq.keep k ⟨by rw[dc]at hk;exact hk,aG⟩⟩,.inr ⟨rfl,c,hIx1 hc (by omega) jD,DI,vU _ _ (Nat.le_refl _) (by omega) hk rfl⟩⟩
  ·rintro e W2 ⟨⟨v,rfl⟩,(⟨hi,hl,hk⟩|⟨i,cg,c,hi,hl,hk⟩)⟩
   ·have dJ:=aw hl;exact⟨none,_,by have:=run_endLoop (P:=P) hl (by rw[gX];simp);rw[this,gX],Id _ _ (Nat.le_refl _) (hI1 (Chg.put _ hl (by omega) rfl) (by omega) hi) ((World.putObj_heap_other (by omega)).trans hk)⟩
   ·have dJ:=aw hl;exact⟨some c,_,by have:=run_endLoop (P:=P) hl (by simp);rw[this],wpIn_wide.2 (Ih _ c i _ (Nat.le_refl _) cg (hIx1 (Chg.put _ hl (by omega) rfl) (by omega) hi) ((World.putObj_heap_other (by omega)).trans hk))⟩
theorem At{l n:Nat} {P:Program} {f:FuncId} {args:Array Value} {w:World} {R:Ending->World->Prop} (h:Calls P f args w R):CallsIn (Fence.wide.inRound l) n P f args w R:=(callsIn_wide (n:=n)).2 h
theorem Au{l l' n:Nat} {P:Program} {f:FuncId} {tmps:Array Value} {assign body:Code} {w:World} {R:Ending->World->Prop} (h:RoundIn Fence.wide n P l f tmps assign body w R):RoundIn (Fence.wide.inRound l') n P l f tmps assign body w R:=h
end Go.Proofs.YtiocdkdkndpgkaaGreat
namespace Go.Proofs.YtiocdkdkndpgkaaGreat
open Go.ChangeShapes Go.WideShapes Go.ChangeAt Go.RowKit Go Go.Deep
section
variable {H : Type} {enc : TypeId × Value → H} {w : World}
abbrev iS(enc:TypeId × Value->H) (w:World) (fuel:Nat) (t:TypeId) (cs:List Value) (x:DataW H × List MemPlace):Prop:=DataW.trod enc Tryz.prog w 0 (fun _=>true) true fuel t cs=some x
def nC(t:TypeId) (d:DataW H):Prop:=∀ n∈d.weights Tryz.prog t,n<=reachBytes
theorem A4{n:Int} (h:(Lit.int .i64 n).wf=true):cV n:=by
 simp[Lit.wf,IntKind.min,IntKind.max,IntKind.bits,IntKind.signed]at h;unfold cV;omega
theorem wc{ts:List TypeId} {ds:List (DataW H)} {j:Nat} {t:TypeId} {d:DataW H} (ht:ts[j]?=some t) (hd:ds[j]?=some d) {n:Nat} (hn:n∈d.weights Tryz.prog t):n∈DataW.weightsEach Tryz.prog ts ds:=DataW.weights_mem_each ht hd n hn
theorem xZ{e:TypeId} {ds:List (DataW H)} {d:DataW H} (hd:d∈ds) {n:Nat} (hn:n∈d.weights Tryz.prog e):n∈DataW.weightsAll Tryz.prog e ds:=by
 induction ds with
 | nil=>cases hd
 | cons x r ih=>
  simp only[DataW.weightsAll,List.mem_append];rcases List.mem_cons.1 hd with rfl|h
  ·exact .inl hn
  ·exact .inr (ih h)
theorem kE{fs:Array Field} {t:TypeId} {fuel:Nat} {cs:List Value} {x:DataW H × List MemPlace} (ht:Tryz.prog.underlying t=some (.struct fs)) (h:iS enc w fuel t cs x) (hz:nC t x.1) :
  cs.length=Tryz.prog.cellsOf t/\∃ n,∀ (i:Nat) (f:Field),fs[i]?=some f->∃ y,iS enc w n f.type ((cs.drop f.offset).take (Tryz.prog.cellsOf f.type)) y/\nC f.type y.1:=by
 obtain⟨xs,n,_,rfl,hl,hx,hf⟩:=DataW.trod_struct ht h;refine⟨hl,n,fun i f hi=>?_⟩;have aG:i<xs.length:=by have:=(Array.getElem?_eq_some_iff.1 hi).1;omega
 refine⟨xs[i],(hf i f hi).trans (List.getElem?_eq_getElem aG),fun m hm=>hz m ?_⟩;simp only[DataW.weights,ht];exact wc (j:=i) (by simp[hi]) (by simp[aG]) hm
def mb(enc:TypeId × Value->H) (w:World) (t:TypeId) (k:Nat):Prop:=∀ fuel cs x,iS enc w fuel t cs x->cs.length=k/\∀ j,j<k->∃ n,cs[j]?=some (.int .i64 n)/\cV n
theorem qa{t:TypeId} (ht:Tryz.prog.underlying t=some (.int .i64)):mb enc w t 1:=fun fuel cs x h=>by
 obtain⟨n,rfl,_,hw⟩:=DataW.trod_int ht h;refine⟨rfl,fun j hj=>⟨n,?_,A4 hw⟩⟩;obtain rfl:j=0:=by omega
 rfl
theorem A5{t e:TypeId} {m:Nat} (ht:Tryz.prog.underlying t=some (.array m e)) (he:Tryz.prog.underlying e=some (.int .i64)) (h1:Tryz.prog.cellsOf e=1) (hk:Tryz.prog.cellsOf t=m):mb enc w t m:=fun fuel cs x h=>by
 obtain⟨xs,n,_,_,hl,hx,hf⟩:=DataW.trod_array ht h;refine⟨by rw[hl,hk],fun j hj=>?_⟩;have h2:=hf j hj;rw[h1,Nat.mul_one,List.getElem?_eq_getElem (by omega)]at h2;obtain⟨v,e1,_,hw⟩:=DataW.trod_int he h2;refine⟨v,?_,A4 hw⟩;have h3:((cs.drop j).take 1)[0]?=cs[j]?:=by simp
 rw[<-h3,e1];rfl
theorem qb{t:TypeId} {f0 f1:Field} {k0 k1:Nat} (ht:Tryz.prog.underlying t=some (.struct #[f0,f1])) (o0:f0.offset=0) (o1:f1.offset=k0) (c0:Tryz.prog.cellsOf f0.type=k0) (c1:Tryz.prog.cellsOf f1.type=k1) (ct:Tryz.prog.cellsOf t=k0+k1)
  (h0:mb enc w f0.type k0) (h1:mb enc w f1.type k1):mb enc w t (k0+k1):=fun fuel cs x h=>by
 obtain⟨xs,n,_,_,hl,hx,hf⟩:=DataW.trod_struct ht h;refine⟨by rw[hl,ct],fun j hj=>?_⟩;have g0:=hf 0 f0 rfl;have g1:=hf 1 f1 rfl;have lf:xs.length=2:=hx;rw[o0,c0,List.getElem?_eq_getElem (by omega)]at g0;rw[o1,c1,List.getElem?_eq_getElem (by omega)]at g1;by_cases hj0:j<k0
 ·obtain⟨v,e,hv⟩:=(h0 _ _ _ g0).2 j hj0;refine⟨v,?_,hv⟩;rw[<-e];simp[List.getElem?_take_of_lt hj0]
 ·obtain⟨v,e,hv⟩:=(h1 _ _ _ g1).2 (j - k0) (by omega);refine⟨v,?_,hv⟩;rw[<-e,List.getElem?_take_of_lt (by omega),List.getElem?_drop,show k0+(j - k0)=j by omega]
def t7{α:Type} (enc:TypeId × Value->H) (w:World) (t:TypeId) (k:Nat) (R:World->Nat->Nat->α->Prop):Prop:=
 ∀ fuel cs x b off,iS enc w fuel t cs x->nC t x.1->(∀ j,j<k->w.cell? ⟨b,off+j,none⟩=cs[j]?)->∃ a:α,R w b off a
theorem opn_int:t7 enc w 3 1 gH:=fun fuel cs x b off h _ hc=>by
 obtain⟨n,rfl,_,hw⟩:=DataW.trod_int Tryz.underlying3 h;exact⟨n,(hc 0 (by omega)).trans rfl,A4 hw⟩
theorem rk{a:Addr} {j:Nat} (h:a.spot=none):a.add j=⟨a.block,a.off+j,none⟩:=by
 obtain⟨b,o,s⟩:=a;simp at h;subst h;unfold Addr.add;split<;>simp_all
theorem pz{α:Type} {t e:TypeId} {k:Nat} {R:World->Nat->Nat->α->Prop} (hu:Tryz.prog.underlying t=some (.slice e)) (hk:Tryz.prog.cellsOf e=k) (k7:0<k) (fm:8<=Tryz.prog.bytesOf e) (he:t7 enc w e k R)
  {fuel:Nat} {cs:List Value} {x:DataW H × List MemPlace} (h:iS enc w fuel t cs x) (hz:nC t x.1):∃ v l,cs=[v]/\fu k R w v l:=by
 rcases open_slice hu h with ⟨rfl,_⟩|⟨a,len,cap,m,n,D,Pl,rfl,_,hl,hm,hmm,rfl,hi⟩
 ·exact⟨_,[],rfl,none,0,rfl,⟨by simp,by omega,fun _=>rfl⟩,by simp,fun i x hx=>by simp at hx⟩
 ·have hmc:m=cap:=by rw[hmm];rfl
  subst hmc
  have hw:(((List.range len).map D).length+((List.range (m - len)).map fun j=>D (len+j)).length) * Tryz.prog.bytesOf e<=reachBytes:=by
   refine hz _ ?_;simp only[DataW.weights,hu];exact List.mem_cons_self
  have xN:m * 8<=reachBytes:=by
   refine Nat.le_trans (Nat.mul_le_mul_left m fm) ?_;refine Nat.le_trans ?_ hw;rw[List.length_map,List.length_map,List.length_range,List.length_range];exact Nat.mul_le_mul_right _ (by omega)
  have Rk:m<=17592186044416:=by unfold reachBytes at xN;omega
  have hsp0:0<len->a.spot=none:=fun h0=>by
   obtain⟨cs',hc,ht⟩:=hi 0 (by omega);rw[hk]at hc;obtain⟨_,bQ,eU⟩:=World.cells?_some hc;have h1:=eU 0 k7;rw[List.getElem?_eq_getElem (by omega)]at h1;have:=World.cell?_spot h1;simpa[Addr.add] using this
  have key:∀ i:Fin len,∃ y:α,a.spot=none/\R w a.block (a.off+i.1 * k) y:=fun i=>by
   obtain⟨cs',hc,ht⟩:=hi i.1 (by have:=i.2;omega);rw[hk]at hc;obtain⟨_,bQ,eU⟩:=World.cells?_some hc;have ON:=hsp0 (by have:=i.2;omega)
   have dc:nC e (D i.1):=fun q hq=>hz q (by
    simp only[DataW.weights,hu];refine List.mem_cons_of_mem _ (List.mem_append_left _ (xZ (d:=D i.1) ?_ hq))
    exact List.mem_map.2 ⟨i.1,List.mem_range.2 i.2,rfl⟩)
   obtain⟨y,hy⟩:=he _ _ _ a.block (a.off+i.1 * k) ht dc (fun j hj=>by
    rw[<-eU j hj,rk ON,rk rfl])
   exact⟨y,ON,hy⟩
  refine⟨_,List.ofFn fun i=>Classical.choose (key i),rfl,some a,m,by rw[List.length_ofFn],⟨by rw[List.length_ofFn];omega,by omega,fun h=>by cases h⟩,by rw[List.length_ofFn];omega,fun i y hy=>?_⟩;have oh:i<len:=by have:=(List.getElem?_eq_some_iff.1 hy).1;simpa using this
  have e1:y=Classical.choose (key ⟨i,oh⟩):=by
   rw[List.getElem?_ofFn]at hy;simp[oh]at hy;exact hy.symm
  obtain⟨hs,hr⟩:=Classical.choose_spec (key ⟨i,oh⟩);refine⟨a.block,a.off,?_,by rw[e1];exact hr⟩;obtain⟨b,o,s⟩:=a;simp at hs;subst hs;rfl
theorem rL{α:Type} {t e:TypeId} {k:Nat} {R:World->Nat->Nat->α->Prop} (hu:Tryz.prog.underlying t=some (.slice e)) (hk:Tryz.prog.cellsOf e=k) (k7:0<k) (fm:8<=Tryz.prog.bytesOf e) (he:t7 enc w e k R):t7 enc w t 1 (o8 k R):=fun fuel cs x b off h hz hc=>by
 obtain⟨v,l,rfl,hl⟩:=pz hu hk k7 fm he h hz;exact⟨l,v,(hc 0 (by omega)).trans rfl,hl⟩
theorem A6{cs:List Value} {j:Nat} (h:j<cs.length):(cs.drop j).take 1=[cs[j]]:=by
 rw[List.drop_eq_getElem_cons h];rfl
theorem Tryz.cInt:Tryz.prog.cellsOf 3=1:=by kernel_rfl
theorem Tryz.cInts:Tryz.prog.cellsOf 38=1:=by kernel_rfl
theorem Tryz.cVecs:Tryz.prog.cellsOf 30=1:=by kernel_rfl
theorem Tryz.cCase:Tryz.prog.cellsOf 94=3:=by kernel_rfl
theorem Tryz.cGraph:Tryz.prog.cellsOf 107=6:=by kernel_rfl
theorem Tryz.cRound:Tryz.prog.cellsOf 109=7:=by kernel_rfl
theorem Tryz.cMove:Tryz.prog.cellsOf 188=8:=by kernel_rfl
theorem Tryz.cMoves:Tryz.prog.cellsOf 184=1:=by kernel_rfl
theorem opn_ints:t7 enc w 38 1 pv:=rL Tryz.underlying38 Tryz.cInt (by omega) (of_decide_eq_true (by kernel_rfl)) opn_int
theorem opn_vecs:t7 enc w 30 1 v6:=rL Tryz.underlying30 Tryz.cInts (by omega) (of_decide_eq_true (by kernel_rfl)) opn_ints
theorem opn_case:t7 enc w 94 3 v7:=fun fuel cs x b off h hz hc=>by
 obtain⟨hl,n,hf⟩:=kE Tryz.underlying94 h hz;rw[Tryz.cCase]at hl;obtain⟨y0,r0,z0⟩:=hf 0 _ rfl;obtain⟨y1,r1,z1⟩:=hf 1 _ rfl;obtain⟨y2,r2,z2⟩:=hf 2 _ rfl;change iS enc w n 38 ((cs.drop 0).take (Tryz.prog.cellsOf 38)) y0 at r0;change iS enc w n 30 ((cs.drop 1).take (Tryz.prog.cellsOf 30)) y1 at r1;change iS enc w n 30 ((cs.drop 2).take (Tryz.prog.cellsOf 30)) y2 at r2;rw[Tryz.cInts,A6 (by omega)]at r0;rw[Tryz.cVecs,A6 (by omega)]at r1 r2
 obtain⟨a0,h0⟩:=opn_ints _ _ _ b off r0 z0 (fun j hj=>by obtain rfl:j=0:=by omega
                                                         rw[hc 0 (by omega),List.getElem?_eq_getElem (by omega)];rfl)
 obtain⟨a1,h1⟩:=opn_vecs _ _ _ b (off+1) r1 z1 (fun j hj=>by obtain rfl:j=0:=by omega
                                                             rw[show off+1+0=off+1 by omega,hc 1 (by omega),List.getElem?_eq_getElem (by omega)];rfl)
 obtain⟨a2,h2⟩:=opn_vecs _ _ _ b (off+2) r2 z2 (fun j hj=>by obtain rfl:j=0:=by omega
                                                             rw[show off+2+0=off+2 by omega,hc 2 (by omega),List.getElem?_eq_getElem (by omega)];rfl)
 exact⟨⟨a0,a1,a2⟩,h0,h1,h2⟩
theorem allInt_graph:mb enc w 107 6:=qb (k0:=1) (k1:=5) Tryz.underlying107 rfl rfl Tryz.cInt (by kernel_rfl) Tryz.cGraph (qa Tryz.underlying3) (A5 Tryz.underlying105 Tryz.underlying3 Tryz.cInt (by kernel_rfl))
theorem allInt_round:mb enc w 109 7:=qb (k0:=6) (k1:=1) Tryz.underlying109 rfl rfl Tryz.cGraph Tryz.cInt Tryz.cRound allInt_graph (qa Tryz.underlying3)
theorem allInt_move:mb enc w 188 8:=qb (k0:=7) (k1:=1) Tryz.underlying188 rfl rfl Tryz.cRound Tryz.cInt Tryz.cMove allInt_round (qa Tryz.underlying3)
theorem opn_round:t7 enc w 109 7 ki:=fun fuel cs x b off h _ hc=>by
 have ha:=(allInt_round _ _ _ h).2;obtain⟨n0,e0,i0⟩:=ha 0 (by omega);obtain⟨n1,e1,i1⟩:=ha 1 (by omega);obtain⟨n2,e2,i2⟩:=ha 2 (by omega);obtain⟨n3,e3,i3⟩:=ha 3 (by omega);obtain⟨n4,e4,i4⟩:=ha 4 (by omega);obtain⟨n5,e5,i5⟩:=ha 5 (by omega);obtain⟨n6,e6,i6⟩:=ha 6 (by omega);exact⟨⟨⟨n0,n1,n2,n3,n4,n5⟩,n6⟩,⟨(hc 0 (by omega)).trans e0,i0⟩,⟨(hc 1 (by omega)).trans e1,i1⟩,⟨(hc 2 (by omega)).trans e2,i2⟩,⟨(hc 3 (by omega)).trans e3,i3⟩,⟨(hc 4 (by omega)).trans e4,i4⟩,⟨(hc 5 (by omega)).trans e5,i5⟩,⟨(hc 6 (by omega)).trans e6,i6⟩⟩
theorem opn_move:t7 enc w 188 8 rI:=fun fuel cs x b off h _ hc=>by
 have ha:=(allInt_move _ _ _ h).2;obtain⟨n0,e0,i0⟩:=ha 0 (by omega);obtain⟨n1,e1,i1⟩:=ha 1 (by omega);obtain⟨n2,e2,i2⟩:=ha 2 (by omega);obtain⟨n3,e3,i3⟩:=ha 3 (by omega);obtain⟨n4,e4,i4⟩:=ha 4 (by omega);obtain⟨n5,e5,i5⟩:=ha 5 (by omega);obtain⟨n6,e6,i6⟩:=ha 6 (by omega);obtain⟨n7,e7,i7⟩:=ha 7 (by omega);exact⟨⟨⟨⟨n0,n1,n2,n3,n4,n5⟩,n6⟩,n7⟩,⟨⟨(hc 0 (by omega)).trans e0,i0⟩,⟨(hc 1 (by omega)).trans e1,i1⟩,⟨(hc 2 (by omega)).trans e2,i2⟩,⟨(hc 3 (by omega)).trans e3,i3⟩,⟨(hc 4 (by omega)).trans e4,i4⟩,⟨(hc 5 (by omega)).trans e5,i5⟩,⟨(hc 6 (by omega)).trans e6,i6⟩⟩,(hc 7 (by omega)).trans e7,i7⟩
theorem opn_moves:t7 enc w 184 1 xX:=rL Tryz.underlying184 Tryz.cMove (by omega) (of_decide_eq_true (by kernel_rfl)) opn_move
theorem RG{l:List Value} (h:l.length=7):∃ c0 c1 c2 c3 c4 c5 c6,l=[c0,c1,c2,c3,c4,c5,c6]:=by
 match l,h with
 | [c0,c1,c2,c3,c4,c5,c6],_=>exact⟨c0,c1,c2,c3,c4,c5,c6,rfl⟩
theorem Tryz.cProb:Tryz.prog.cellsOf 29=7:=by kernel_rfl
theorem Tryz.cTask:Tryz.prog.cellsOf 24=4:=by kernel_rfl
theorem Tryz.cAdv:Tryz.prog.cellsOf 27=2:=by kernel_rfl
theorem Tryz.cCases:Tryz.prog.cellsOf 22=1:=by kernel_rfl
theorem Tryz.cStates:Tryz.prog.cellsOf 25=1:=by kernel_rfl
theorem Is{fuel:Nat} {c0 c1 c2 c3:Value} {x:DataW H × List MemPlace} (h:iS enc w fuel 24 [c0,c1,c2,c3] x) (hz:nC 24 x.1) :
  ∃ (t:Tk),c0=.int .i64 t.n/\c1=.int .i64 t.ins/\c2=.int .i64 t.outs/\it w c3 t.cases:=by
 obtain⟨_,n,hf⟩:=kE Tryz.underlying24 h hz;obtain⟨u0,s0,_⟩:=hf 0 _ rfl;obtain⟨u1,s1,_⟩:=hf 1 _ rfl;obtain⟨u2,s2,_⟩:=hf 2 _ rfl;obtain⟨u3,s3,q3⟩:=hf 3 _ rfl;change iS enc w n 3 (([c0,c1,c2,c3].drop 0).take (Tryz.prog.cellsOf 3)) u0 at s0;change iS enc w n 3 (([c0,c1,c2,c3].drop 1).take (Tryz.prog.cellsOf 3)) u1 at s1;change iS enc w n 3 (([c0,c1,c2,c3].drop 2).take (Tryz.prog.cellsOf 3)) u2 at s2;change iS enc w n 22 (([c0,c1,c2,c3].drop 3).take (Tryz.prog.cellsOf 22)) u3 at s3;change nC 22 u3.1 at q3;rw[Tryz.cInt]at s0 s1 s2;rw[Tryz.cCases]at s3;obtain⟨m0,e0,_,_⟩:=DataW.trod_int Tryz.underlying3 s0;obtain⟨m1,e1,_,_⟩:=DataW.trod_int Tryz.underlying3 s1;obtain⟨m2,e2,_,_⟩:=DataW.trod_int Tryz.underlying3 s2;obtain⟨vc,cases,e3,g3⟩:=pz Tryz.underlying22 Tryz.cCase (by omega) (of_decide_eq_true (by kernel_rfl)) opn_case s3 q3;simp at e0 e1 e2 e3;subst e3;exact⟨⟨m0,m1,m2,cases⟩,e0,e1,e2,g3⟩
theorem LA{fuel:Nat} {c0 c1:Value} {x:DataW H × List MemPlace} (h:iS enc w fuel 27 [c0,c1] x) (hz:nC 27 x.1) :
  ∃ (a:Adv),c0=.int .i64 a.n/\cO w c1 a.states:=by
 obtain⟨_,n,hf⟩:=kE Tryz.underlying27 h hz;obtain⟨u0,s0,_⟩:=hf 0 _ rfl;obtain⟨u1,s1,q1⟩:=hf 1 _ rfl;change iS enc w n 3 (([c0,c1].drop 0).take (Tryz.prog.cellsOf 3)) u0 at s0;change iS enc w n 25 (([c0,c1].drop 1).take (Tryz.prog.cellsOf 25)) u1 at s1;change nC 25 u1.1 at q1;rw[Tryz.cInt]at s0;rw[Tryz.cStates]at s1;obtain⟨m0,e0,_,_⟩:=DataW.trod_int Tryz.underlying3 s0;obtain⟨vs,states,e1,g1⟩:=pz Tryz.underlying25 Tryz.cMoves (by omega) (of_decide_eq_true (by kernel_rfl)) opn_moves s1 q1;simp at e0 e1;subst e1;exact⟨⟨m0,states⟩,e0,g1⟩
theorem It{fuel:Nat} {cs:List Value} {x:DataW H × List MemPlace} (h:iS enc w fuel 29 cs x) (hz:nC 29 x.1) :
  ∃ (p:Pb) (vc vs:Value),cs=[.int .i64 p.t.n,.int .i64 p.t.ins,.int .i64 p.t.outs,vc,.int .i64 p.a.n,vs,.int .i64 p.rounds]/\it w vc p.t.cases/\cO w vs p.a.states:=by
 obtain⟨hl,n,hf⟩:=kE Tryz.underlying29 h hz;rw[Tryz.cProb]at hl;obtain⟨c0,c1,c2,c3,c4,c5,c6,rfl⟩:=RG hl;obtain⟨y0,r0,z0⟩:=hf 0 _ rfl;obtain⟨y1,r1,z1⟩:=hf 1 _ rfl;obtain⟨y2,r2,z2⟩:=hf 2 _ rfl;change iS enc w n 24 (([c0,c1,c2,c3,c4,c5,c6].drop 0).take (Tryz.prog.cellsOf 24)) y0 at r0;change iS enc w n 27 (([c0,c1,c2,c3,c4,c5,c6].drop 4).take (Tryz.prog.cellsOf 27)) y1 at r1;change iS enc w n 3 (([c0,c1,c2,c3,c4,c5,c6].drop 6).take (Tryz.prog.cellsOf 3)) y2 at r2;rw[Tryz.cTask]at r0;rw[Tryz.cAdv]at r1;rw[Tryz.cInt]at r2;obtain⟨t,rfl,rfl,rfl,g0⟩:=Is r0 z0;obtain⟨a,rfl,g1⟩:=LA r1 z1;obtain⟨m6,e6,_,_⟩:=DataW.trod_int Tryz.underlying3 r2;simp at e6;subst e6;exact⟨⟨t,a,m6⟩,c3,c5,rfl,g0,g1⟩
end
end Go.Proofs.YtiocdkdkndpgkaaGreat
namespace Go.Proofs.YtiocdkdkndpgkaaGreat
def eP(s:Nat):List (List Mv)->List (Nat × Mv)
 | []=>[]
 | l :: r=>l.map (fun m=>(s,m))++eP (s+1) r
def mc(l:List (List Mv)):List (Nat × Mv):=eP 0 l
theorem vj(s:Nat) (l:List (List Mv)):(eP s l).length=az l:=by
 induction l generalizing s with
 | nil=>rfl
 | cons x r ih=>simp[eP,az,ih]
theorem eA(l:List (List Mv)):(mc l).length=az l:=vj 0 l
def cB(l:List (List Mv)) (s:Nat):Nat:=az (l.take s)
theorem lx(l:List (List Mv)):cB l 0=0:=by simp[cB,az]
theorem ly(l:List (List Mv)) (s:Nat) (h:l.length<=s):cB l s=az l:=by simp[cB,List.take_of_length_le h]
theorem fX(l:List (List Mv)) (s:Nat) (h:s<l.length):cB l (s+1)=cB l s+l[s].length:=by
 unfold cB az;rw[List.take_succ_eq_append_getElem h];simp only[List.map_append,List.sum_append,List.map_cons,List.map_nil,List.sum_cons,List.sum_nil,Nat.add_zero]
theorem pA(l:List (List Mv)) (s:Nat) (h:s<l.length):cB l s+l[s].length<=az l:=by
 rw[<-fX l s h];have:az l=az (l.take (s+1))+az (l.drop (s+1)):=by unfold az;rw[<-List.sum_append,<-List.map_append,List.take_append_drop]
 unfold cB;omega
theorem A7(t:Nat) (l:List (List Mv)) (s j:Nat) (hs:s<l.length) (hj:j<l[s].length):(eP t l)[cB l s+j]?=some (t+s,l[s][j]):=by
 induction l generalizing t s with
 | nil=>simp at hs
 | cons x r ih=>
  cases s with
  | zero=>
   simp only[List.getElem_cons_zero]at hj ⊢;simp[eP,lx,List.getElem?_append,hj]
  | succ s=>
   have eL:s<r.length:=by simpa using hs
   have jA:j<r[s].length:=by simpa using hj
   have e:cB (x :: r) (s+1)=x.length+cB r s:=by simp[cB,az]
   rw[e];simp only[eP,List.getElem_cons_succ];rw[List.getElem?_append_right (by simp;omega)];have:x.length+cB r s+j - (x.map fun m=>(t,m)).length=cB r s+j:=by simp;omega
   rw[this,ih (t+1) s eL jA];simp;omega
theorem y7(l:List (List Mv)) (s j:Nat) (hs:s<l.length) (hj:j<l[s].length):(mc l)[cB l s+j]?=some (s,l[s][j]):=by
 have:=A7 0 l s j hs hj;rw[Nat.zero_add]at this;exact this
def mvAt(l:List (List Mv)) (i:Nat):Nat × Mv:=(mc l).getD i (0,default)
theorem pB(l:List (List Mv)) (s j:Nat) (hs:s<l.length) (hj:j<l[s].length):mvAt l (cB l s+j)=(s,l[s][j]):=by
 unfold mvAt;rw[List.getD_eq_getElem?_getD,y7 l s j hs hj];rfl
def kG(a:Adv) (i:Nat):List Mv:=a.states.getD (mvAt a.states i).2.to.toNat []
def kI(a:Adv) (i:Nat):Bool:=anyLt (kG a i).length fun k=>!bF (mvAt a.states i).2.r.f ((kG a i).getD k default).r.f
def fh(a:Adv):Bool:=!anyLt (az a.states) (kI a)
def advE(a:Adv):Int:=
 if a.n<1\/5<a.n then 2
 else if a.states.length<1\/256<a.states.length\/4096<az a.states then 5
 else if ay a.states.length (fun s=>stateE a (a.states.getD s []))≠0 then ay a.states.length (fun s=>stateE a (a.states.getD s []))
 else if fh a then 0 else 21
def bg(p:Pb):Int:=
 if taskE p.t≠0 then taskE p.t else if advE p.a≠0 then advE p.a
 else if p.t.n≠p.a.n then 22 else if p.rounds<0\/6<p.rounds then 2 else 0
theorem EN{n f:Int} (h:gj n f=0):0<=f/\f<32:=by
 unfold gj dR at h;by_cases hn:n<1\/5<n
 ·rw[if_pos hn]at h;simp at h
 ·rw[if_neg hn]at h;simp only[ne_eq,not_true_eq_false,if_false]at h;by_cases hf:f<0\/¬ f / 2 ^ n.toNat=0
  ·rw[if_pos hf]at h;simp at h
  ·have h0:0<=f:=by omega
   have hq:f / 2 ^ n.toNat=0:=by omega
   have aG:f<2 ^ n.toNat:=by
    by_cases h':f<2 ^ n.toNat
    ·exact h'
    ·have h1:(1:Int)<=f / 2 ^ n.toNat:=(Int.le_ediv_iff_mul_le (Int.pow_pos (by decide))).2 (by omega);omega
   have hp:(2:Int) ^ n.toNat<=32:=by
    have:n=1\/n=2\/n=3\/n=4\/n=5:=by omega
    rcases this with h|h|h|h|h<;>subst h<;>decide
   exact⟨h0,by omega⟩
theorem EO{a:Adv} {l:List Mv} {j:Nat} (h:cr a l j=0):(0<=(l.getD j default).r.f/\(l.getD j default).r.f<32)/\0<=(l.getD j default).to/\(l.getD j default).to<a.states.length:=by
 unfold cr at h;split at h
 ·omega
 ·rename_i h1;have tc:roundE (l.getD j default).r=0:=by simpa using h1
  have hp:gj (l.getD j default).r.g.n (l.getD j default).r.f=0:=by
   unfold roundE at tc;split at tc
   ·omega
   ·exact tc
  split at h
  ·omega
  ·split at h
   ·omega
   ·split at h
    ·omega
    ·exact⟨EN hp,by omega,by omega⟩
theorem fB{a:Adv} (h:∀ s,s<a.states.length->stateE a (a.states.getD s [])=0) {s j:Nat} (hs:s<a.states.length) (hj:j<a.states[s].length) :
  (0<=a.states[s][j].r.f/\a.states[s][j].r.f<32)/\0<=a.states[s][j].to/\a.states[s][j].to<a.states.length:=by
 have h1:=h s hs;rw[show a.states.getD s []=a.states[s] by simp[hs]]at h1;unfold stateE at h1;rw[if_neg (by omega)]at h1;have:=EO (bH h1 j hj)
 rwa [show a.states[s].getD j default=a.states[s][j] by simp[hj]]at this
theorem yd(l:List (List Mv)) (i:Nat) (h:i<az l):∃ s j,∃ hs:s<l.length,∃ _:j<l[s].length,i=cB l s+j:=by
 have key:∀ n,n<=l.length->i<cB l n->∃ s j,∃ hs:s<l.length,∃ _:j<l[s].length,i=cB l s+j:=by
  intro n;induction n with
  | zero=>intro _ h;rw[lx]at h;omega
  | succ n ih=>
   intro hn h;by_cases aG:i<cB l n
   ·exact ih (by omega) aG
   ·have ms:n<l.length:=by omega
    rw[fX l n ms]at h;exact⟨n,i - cB l n,ms,by omega,by omega⟩
 exact key l.length (Nat.le_refl _) (by rw[ly l _ (Nat.le_refl _)];exact h)
theorem ye{a:Adv} (h:∀ s,s<a.states.length->stateE a (a.states.getD s [])=0) {i:Nat} (hi:i<az a.states) :
  (0<=(mvAt a.states i).2.r.f/\(mvAt a.states i).2.r.f<32)/\0<=(mvAt a.states i).2.to/\(mvAt a.states i).2.to<a.states.length:=by
 obtain⟨s,j,hs,hj,rfl⟩:=yd a.states i hi;rw[pB a.states s j hs hj];exact fB h hs hj
theorem rM(x y:Int) (r s:List Int):ordV (x :: r) (y :: s)=if cmpI x y≠0 then cmpI x y else ordV r s:=by
 rw[ordV];unfold cmpI;grind
theorem gu(n:Nat) (f:Nat->Int):ay (n+1) f=if f 0≠0 then f 0 else ay n (fun j=>f (j+1)):=by
 induction n with
 | zero=>simp[ay]
 | succ n ih=>
  rw[ay,ih]
  conv=>rhs;rw[ay]
  grind
def Rd.list(r:Rd):List Int:=[r.g.n,r.g.h0,r.g.h1,r.g.h2,r.g.h3,r.g.h4,r.f]
theorem iu(a b:Rd):roundC a b=ordV a.list b.list:=by
 unfold Rd.list roundC bJ;rw[gu,gu,gu,gu,gu];simp only[rM,ay,Gr.hear];have h0:ordV [] []=0:=rfl;rw[h0];generalize cmpI a.g.n b.g.n=c0;generalize cmpI a.g.h0 b.g.h0=c1;generalize cmpI a.g.h1 b.g.h1=c2;generalize cmpI a.g.h2 b.g.h2=c3;generalize cmpI a.g.h3 b.g.h3=c4;generalize cmpI a.g.h4 b.g.h4=c5;generalize cmpI a.f b.f=c6
 grind
theorem gJ{a b c:List Int} (h1:ordV a b<0) (h2:ordV b c<0):ordV a c<0:=by
 induction a generalizing b c with
 | nil=>
  cases b with
  | nil=>simp[ordV]at h1
  | cons y s=>
   cases c with
   | nil=>simp[ordV]at h2
   | cons z t=>simp[ordV]
 | cons x r ih=>
  cases b with
  | nil=>simp[ordV]at h1
  | cons y s=>
   cases c with
   | nil=>simp[ordV]at h2
   | cons z t=>
    unfold ordV at h1 h2 ⊢;by_cases La:x<y
    ·by_cases FD:y<z
     ·rw[if_pos (by omega)];omega
     ·rw[if_neg FD]at h2;by_cases OE:z<y
      ·rw[if_pos OE]at h2;omega
      ·rw[if_pos (by omega)];omega
    ·rw[if_neg La]at h1;by_cases hyx:y<x
     ·rw[if_pos hyx]at h1;omega
     ·rw[if_neg hyx]at h1;by_cases FD:y<z
      ·rw[if_pos (by omega)];omega
      ·rw[if_neg FD]at h2;by_cases OE:z<y
       ·rw[if_pos OE]at h2;omega
       ·rw[if_neg OE]at h2;rw[if_neg (by omega),if_neg (by omega)];exact ih h1 h2
theorem OP{a:Adv} {l:List Mv} {j:Nat} (h:cr a l (j+1)=0):roundC (l.getD j default).r (l.getD (j+1) default).r<0:=by
 unfold cr at h;rw[Nat.add_sub_cancel]at h
 grind
theorem y8{a:Adv} {l:List Mv} (h:∀ j,j<l.length->cr a l j=0):∀ j i,i<j->j<l.length->ordV (l.getD i default).r.list (l.getD j default).r.list<0:=by
 intro j;induction j with
 | zero=>intro i hi;omega
 | succ j ih=>
  intro i hi hj;have h1:=OP (h (j+1) hj);rw[iu]at h1;by_cases e:i=j
  ·subst e;exact h1
  ·exact gJ (ih i (by omega) (by omega)) h1
theorem Aw{a:Adv} (h:∀ s,s<a.states.length->stateE a (a.states.getD s [])=0) (s:Nat) (hs:s<a.states.length) (j:Nat) (hj:j<a.states[s].length) (i:Nat) (hi:i<j):a.states[s][i].r≠a.states[s][j].r:=by
 have h1:=h s hs;rw[show a.states.getD s []=a.states[s] by simp[hs]]at h1;unfold stateE at h1;rw[if_neg (by omega)]at h1;have h2:=y8 (bH h1) j i hi hj;rw[show a.states[s].getD i default=a.states[s][i] by simp[show i<a.states[s].length by omega],show a.states[s].getD j default=a.states[s][j] by simp[hj]]at h2;intro e;rw[e,l9]at h2;omega
theorem cZ{a:Adv} (h:advE a=0):(1<=a.states.length/\a.states.length<=256)/\(∀ s,s<a.states.length->stateE a (a.states.getD s [])=0)/\fh a=true/\1<=a.n/\a.n<=5:=by
 unfold advE at h;by_cases h1:a.n<1\/5<a.n
 ·rw[if_pos h1]at h;omega
 ·rw[if_neg h1]at h;by_cases h2:a.states.length<1\/256<a.states.length\/4096<az a.states
  ·rw[if_pos h2]at h;omega
  ·rw[if_neg h2]at h;by_cases h3:ay a.states.length (fun s=>stateE a (a.states.getD s []))=0
   ·rw[if_neg (by simpa using h3)]at h;refine⟨by omega,bH h3,?_,by omega,by omega⟩;cases hg:fh a with
    | true=>rfl
    | false=>rw[hg]at h;simp at h
   ·rw[if_pos h3]at h;exact absurd h h3
def toS(a:Adv) (s:Int) (r:Rd):Int:=(((a.states.getD s.toNat []).find? fun m=>decide (r=m.r)).map (·.to)).getD (-1)
def aQ(a:Adv) (s:Int):List Rd->Int
 | []=>s
 | r :: rest=>if toS a s r<0 then -1 else aQ a (toS a s r) rest
theorem rN{a:Adv} (h:∀ s,s<a.states.length->stateE a (a.states.getD s [])=0) (s:Nat) (hs:s<a.states.length) (r:Rd):toS a s r=-1\/(0<=toS a s r/\toS a s r<a.states.length):=by
 unfold toS;rw[Int.toNat_natCast,show a.states.getD s []=a.states[s] by simp[hs]];cases hf:a.states[s].find? (fun m=>decide (r=m.r)) with
 | none=>left;rfl
 | some m=>
  right;have hm:=List.mem_of_find?_eq_some hf;obtain⟨j,hj,rfl⟩:=List.getElem_of_mem hm;exact(fB h hs hj).2
structure St where
 rd:Int
 pr:Int
 h0:Int
 h1:Int
 h2:Int
 h3:Int
 h4:Int
 to:Int
structure Mac where
 n:Int
 rounds:Int
 ins:Int
 outs:Int
 first:List (List Int)
 syms:List (List (List (List Int)))
 steps:List St
 out:List (List (List Int))
instance:Inhabited St:=⟨⟨0,0,0,0,0,0,0,0⟩⟩
def St.hear(s:St) (k:Nat):Int:=match k with|0=>s.h0|1=>s.h1|2=>s.h2|3=>s.h3|4=>s.h4|_=>0
def St.heard(s:St):List Int:=[s.h0,s.h1,s.h2,s.h3,s.h4]
def inB(n lo hi:Int):Bool:=decide (lo<=n)&&decide (n<=hi)
def cL(l:List Int) (lo hi:Int):Bool:=!anyLt l.length fun i=>!inB (l.getD i 0) lo hi
def F2(o:List (List Int)) (p:Nat) (l:List (List Int)):Bool:=anyLt l.length fun q=>decide ((l.getD q []).length≠if p=q then 0 else(o.getD p []).length)
def jk(n:Int) (o:List (List Int)) (l:List (List (List Int))) (p:Nat):Bool:=decide (((l.getD p []).length:Int)≠n) || F2 o p (l.getD p [])
def fD(m:Mac) (k:Nat):Bool:=decide (((m.syms.getD k []).length:Int)≠m.n) || anyLt (m.syms.getD k []).length (jk m.n (m.out.getD k []) (m.syms.getD k []))
def ec(m:Mac):Bool:=
 if (m.first.length:Int)≠m.n\/(m.out.length:Int)≠m.rounds+1\/(m.syms.length:Int)≠m.rounds then false
 else if anyLt m.first.length (fun i=>decide (((m.first.getD i []).length:Int)≠m.ins)) then false
 else if anyLt m.out.length (fun i=>decide (((m.out.getD i []).length:Int)≠m.n)) then false
 else !anyLt m.syms.length (fD m)
def iv(m:Mac):Bool:=
 if anyLt m.first.length (fun p=>!cL (m.first.getD p []) (-1) ((((m.out.getD 0 []).getD p []).length:Int) - 1)) then false
 else if anyLt m.out.length (fun k=>anyLt (m.out.getD k []).length fun p=>!cL ((m.out.getD k []).getD p []) (-1) (m.outs - 1)) then false
 else !anyLt m.syms.length (fun k=>anyLt (m.syms.getD k []).length fun p=>anyLt ((m.syms.getD k []).getD p []).length fun q=>!cL (((m.syms.getD k []).getD p []).getD q []) 0 1048576)
def lz(m:Mac):Nat:=(m.out.map fun l=>(l.map List.length).sum).sum
def pe(m:Mac) (k p:Int):Int:=(((m.out.getD k.toNat []).getD p.toNat []).length:Int)
def eX(m:Mac) (s:St):Bool:=!inB s.rd 0 (m.rounds - 1) || !inB s.pr 0 (m.n - 1) || !inB s.to 0 (pe m (s.rd+1) s.pr - 1)
def fx(m:Mac) (s:St) (q:Nat):Bool:=if (q:Int)=s.pr then !inB (s.hear q) 0 (pe m s.rd q - 1) else !inB (s.hear q) (-1) 1048576
def lR(m:Mac) (s:St):Int:=
 if eX m s then 2 else if !cL (s.heard.drop m.n.toNat) (-1) (-1) then 3 else if anyLt m.n.toNat (fx m s) then 2 else 0
def A8(l:List Int):Int:=ay l.length fun i=>l.getD i 0
def iT(a b:St):Int:=A8 [cmpI a.rd b.rd,cmpI a.pr b.pr,ordV a.heard b.heard]
def eH(m:Mac) (i:Nat):Int:=
 if lR m (m.steps.getD i default)≠0 then lR m (m.steps.getD i default)
 else if 0<i/\0<=iT (m.steps.getD (i - 1) default) (m.steps.getD i default) then 14 else 0
def gK(m:Mac):Bool:=!inB m.n 1 5 || !inB m.rounds 0 6 || !inB m.ins 1 8 || !inB m.outs 1 8
def da(m:Mac):Int:=
 if gK m then 2 else if !ec m then 15 else if 8192<lz m\/65536<m.steps.length then 5
 else if !iv m then 2 else ay m.steps.length (eH m)
def eY(l:List Rd) (i:Nat):Int:=if i=0 then 0 else(l.getD (i - 1) default).f
def pC(n:Int) (l:List Rd) (i:Nat):Int:=
 if roundE (l.getD i default)≠0 then roundE (l.getD i default) else if (l.getD i default).g.n≠n then 22 else if !bF (eY l i) (l.getD i default).f then 14 else 0
def jl(n:Int) (l:List Rd):Int:=if n<1\/5<n then 1 else if 1024<l.length then 5 else ay l.length (pC n l)
structure Pl where
 rd:Int
 pr:Int
 h0:Int
 h1:Int
 h2:Int
 h3:Int
 h4:Int
instance:DecidableEq Pl:=fun a b=>decidable_of_iff (a.rd=b.rd/\a.pr=b.pr/\a.h0=b.h0/\a.h1=b.h1/\a.h2=b.h2/\a.h3=b.h3/\a.h4=b.h4) (by cases a;cases b;simp)
def St.pl(s:St):Pl:=⟨s.rd,s.pr,s.h0,s.h1,s.h2,s.h3,s.h4⟩
def pD(m:Mac) (x:Pl):Option Int:=(m.steps.find? fun s=>decide (x=s.pl)).map (·.to)
def symS(m:Mac) (k q p:Nat) (s:Int):Int:=(((m.syms.getD k []).getD q []).getD p []).getD s.toNat 0
def hU(m:Mac) (k p:Nat) (now:List Int) (set:Int) (q:Nat):Int:=
 if q=p then now.getD p 0 else if (q:Int)<m.n/\bX set q=true then symS m k q p (now.getD q 0) else -1
def wg(m:Mac) (k p:Nat) (now:List Int) (set:Int):Pl:=
 ⟨k,p,hU m k p now set 0,hU m k p now set 1,hU m k p now set 2,hU m k p now set 3,hU m k p now set 4⟩
def qc(m:Mac) (k:Nat) (now:List Int) (r:Rd) (p:Nat):Option Int:=pD m (wg m k p now (r.g.hear p))
def lS(m:Mac) (k:Nat) (now:List Int) (r:Rd):Option (List Int):=
 if anyLt m.n.toNat (fun p=>(qc m k now r p).isNone) then none else some ((List.range m.n.toNat).map fun p=>(qc m k now r p).getD 0)
def bZ(m:Mac) (inputs:List Int):List Int:=(List.range m.n.toNat).map fun p=>(m.first.getD p []).getD (inputs.getD p 0).toNat 0
def dx(m:Mac) (k:Nat) (now:List Int):List Rd->List (List Int)
 | []=>[now]
 | r :: rest=>match lS m k now r with|none=>[now]|some x=>now :: dx m (k+1) x rest
def gv(m:Mac) (inputs:List Int) (word:List Rd):List (List Int):=
 if (bZ m inputs).contains (-1) then [] else dx m 0 (bZ m inputs) word
theorem kJ(m:Mac) (k:Nat) (now:List Int) (word:List Rd):(dx m k now word)[0]?=some now:=by
 cases word with
 | nil=>rfl
 | cons r rest=>unfold dx;split<;>rfl
theorem qd(m:Mac) (k:Nat) (now:List Int) (word:List Rd):(dx m k now word).length<=word.length+1:=by
 induction word generalizing k now with
 | nil=>simp[dx]
 | cons r rest ih=>
  unfold dx;split
  ·simp
  ·rename_i x _;have:=ih (k+1) x;simp;omega
theorem rO(m:Mac) (k:Nat) (now:List Int) (word:List Rd) (i:Nat) (x:List Int) (hx:(dx m k now word)[i]?=some x) (hi:i<word.length) :
  (∀ y,lS m (k+i) x word[i]=some y->(dx m k now word)[i+1]?=some y)/\(lS m (k+i) x word[i]=none->(dx m k now word).length=i+1):=by
 induction word generalizing k now i with
 | nil=>simp at hi
 | cons r rest ih=>
  cases i with
  | zero=>
   rw[kJ]at hx;cases hx;refine⟨fun y hy=>?_,fun hy=>?_⟩
   ·simp only[Nat.add_zero,List.getElem_cons_zero]at hy;unfold dx;rw[hy];simp only[List.getElem?_cons_succ];exact kJ _ _ _ _
   ·simp only[Nat.add_zero,List.getElem_cons_zero]at hy;unfold dx;rw[hy];rfl
  | succ i=>
   unfold dx at hx ⊢;cases hn:lS m k now r with
   | none=>rw[hn]at hx;simp at hx
   | some z=>
    rw[hn]at hx;simp only[List.getElem?_cons_succ]at hx;have:=ih (k+1) z i hx (by simpa using hi);simp only[List.getElem_cons_succ,List.getElem?_cons_succ,List.length_cons];rw[show k+(i+1)=k+1+i by omega];exact⟨this.1,fun h=>by rw[this.2 h]⟩
def playE(m:Mac) (inputs:List Int) (word:List Rd):Int:=
 if da m≠0 then da m else if (inputs.length:Int)≠m.n then 15 else if !cL inputs 0 (m.ins - 1) then 2
 else if jl m.n word≠0 then jl m.n word else if (word.length:Int)≠m.rounds then 15 else if ((gv m inputs word).length:Int)≠m.rounds+1 then 20 else 0
def wh(m:Mac) (k:Nat):Bool:=anyLt (m.out.getD k []).length fun p=>!cL ((m.out.getD k []).getD p []) (-1) (m.outs - 1)
def EP(l:List (List (List Int))) (p:Nat):Bool:=anyLt (l.getD p []).length fun q=>!cL ((l.getD p []).getD q []) 0 1048576
def wj(m:Mac) (k:Nat):Bool:=anyLt (m.syms.getD k []).length (EP (m.syms.getD k []))
def iU(m:Mac) (p:Nat):Bool:=!cL (m.first.getD p []) (-1) ((((m.out.getD 0 []).getD p []).length:Int) - 1)
theorem F3(m:Mac):iv m=if anyLt m.first.length (iU m) then false else if anyLt m.out.length (wh m) then false else !anyLt m.syms.length (wj m):=rfl
theorem A9{m:Mac} (h:ec m=true):(m.first.length:Int)=m.n/\(m.out.length:Int)=m.rounds+1/\(m.syms.length:Int)=m.rounds/\(∀ i (hi:i<m.first.length),(m.first[i].length:Int)=m.ins)/\(∀ i (hi:i<m.out.length),(m.out[i].length:Int)=m.n)/\∀ k,k<m.syms.length->fD m k=false:=by
 unfold ec at h;split at h
 ·cases h
 ·rename_i h1;split at h
  ·cases h
  ·rename_i h2;split at h
   ·cases h
   ·rename_i h3;have Ob:=(aI _ _).1 (eq_false_of_ne_true h2);have FW:=(aI _ _).1 (eq_false_of_ne_true h3);have OF:=(aI _ _).1 (Bool.not_eq_true' _ ▸ h);refine⟨by omega,by omega,by omega,fun i hi=>?_,fun i hi=>?_,OF⟩
    ·have:=Ob i hi;rw[aj [] hi]at this;simpa using this
    ·have:=FW i hi;rw[aj [] hi]at this;simpa using this
def tB(m:Mac) (k p:Nat):Bool:=!cL ((m.out.getD k []).getD p []) (-1) (m.outs - 1)
def oz(m:Mac) (k p q:Nat):Bool:=!cL (((m.syms.getD k []).getD p []).getD q []) 0 1048576
def nD(m:Mac) (n k p:Nat):Bool:=tB m k p || (decide (k<m.syms.length)&&anyLt n (oz m k p))
def pE(m:Mac) (n:Nat):Bool:=!anyLt n fun p=>iU m p || anyLt m.out.length fun k=>nD m n k p
structure Shp (m:Mac) (n:Nat):Prop where
 hn:m.n=n
 f:m.first.length=n
 o:(m.out.length:Int)=m.rounds+1
 s:(m.syms.length:Int)=m.rounds
 ok:∀ k (hk:k<m.out.length),m.out[k].length=n
 sk:∀ k (hk:k<m.syms.length),m.syms[k].length=n
 sp:∀ k (hk:k<m.syms.length) p (hp:p<m.syms[k].length),m.syms[k][p].length=n
theorem PS{m:Mac} (h:ec m=true) (_hn:1<=m.n):∃ n:Nat,Shp m n:=by
 obtain⟨h1,h2,h3,_,h5,h6⟩:=A9 h;refine⟨m.first.length,h1.symm,rfl,h2,h3,fun k hk=>by have:=h5 k hk;omega,?_,?_⟩
 ·intro k hk;have:=h6 k hk;unfold fD at this;simp only[aj [] hk,Bool.or_eq_false_iff]at this;have:=this.1;simp at this;omega
 ·intro k hk p hp;have:=h6 k hk;unfold fD at this;simp only[aj [] hk,Bool.or_eq_false_iff]at this;have:=(aI _ _).1 this.2 p hp;unfold jk at this;simp only[aj [] hp,Bool.or_eq_false_iff]at this;have:=this.1;simp at this;omega
theorem F4{m:Mac} {n:Nat} (h:Shp m n):pE m n=iv m:=by
 have h1:pE m n=true↔(∀ p,p<n->iU m p=false)/\(∀ k,k<m.out.length->∀ p,p<n->tB m k p=false)/\∀ k,k<m.syms.length->∀ p,p<n->∀ q,q<n->oz m k p q=false:=by
  unfold pE nD;simp only[Bool.not_eq_true',aI,Bool.or_eq_false_iff,Bool.and_eq_false_iff,decide_eq_false_iff_not];constructor
  ·intro h0;refine⟨fun p hp=>(h0 p hp).1,fun k hk p hp=>((h0 p hp).2 k hk).1,fun k hk p hp q hq=>?_⟩;rcases ((h0 p hp).2 k (by have:=h.o;have:=h.s;omega)).2 with h2|h2
   ·exact absurd hk h2
   ·exact h2 q hq
  ·rintro⟨g1,g2,g3⟩ p hp;refine⟨g1 p hp,fun k hk=>⟨g2 k hk p hp,?_⟩⟩;by_cases sZ:k<m.syms.length
   ·exact .inr (g3 k sZ p hp)
   ·exact .inl sZ
 have h2:iv m=true↔(∀ p,p<n->iU m p=false)/\(∀ k,k<m.out.length->∀ p,p<n->tB m k p=false)/\∀ k,k<m.syms.length->∀ p,p<n->∀ q,q<n->oz m k p q=false:=by
  rw[F3,h.f]
  have e2:anyLt m.out.length (wh m)=false↔∀ k,k<m.out.length->∀ p,p<n->tB m k p=false:=by
   rw[aI];refine forall_congr' fun k=>forall_congr' fun hk=>?_
   unfold wh;rw[aI,show (m.out.getD k []).length=n by rw[aj [] hk];exact h.ok k hk];rfl
  have e3:anyLt m.syms.length (wj m)=false↔∀ k,k<m.syms.length->∀ p,p<n->∀ q,q<n->oz m k p q=false:=by
   rw[aI];refine forall_congr' fun k=>forall_congr' fun hk=>?_
   unfold wj;have ek:(m.syms.getD k []).length=n:=by rw[aj [] hk];exact h.sk k hk
   rw[aI,ek];refine forall_congr' fun p=>forall_congr' fun hp=>?_
   unfold EP;have mL:p<m.syms[k].length:=by rw[h.sk k hk];exact hp
   rw[aI,show ((m.syms.getD k []).getD p []).length=n by rw[aj [] hk,aj [] mL];exact h.sp k hk p mL];rfl
  rw[<-e2,<-e3,<-aI];cases anyLt n (iU m)<;>cases anyLt m.out.length (wh m)<;>cases anyLt m.syms.length (wj m)<;>simp
 exact Bool.eq_iff_iff.2 (h1.trans h2.symm)
def St.all(s:St):List Int:=s.rd :: s.pr :: s.heard
theorem St.all_len(s:St):s.all.length=7:=rfl
theorem Iu{a b:List Int} {k:Nat} (hl:a.length=b.length) (hk:k=a.length) (h:∀ j,j<k->a.getD j 0=b.getD j 0):ordV a b=0:=by
 have:a=b:=List.ext_getElem hl fun i h1 h2=>by
  have:=h i (by omega)
  rwa [aj 0 h1,aj 0 h2]at this
 rw[this,l9]
theorem OQ{a b:List Int} {k:Nat} (hk:k<a.length) (hl:a.length=b.length) (h:∀ j,j<k->a.getD j 0=b.getD j 0):ordV a b=ordV (a.drop k) (b.drop k):=by
 induction k generalizing a b with
 | zero=>rfl
 | succ k ih=>
  match a,b,hl with
  | x :: r,y :: s,hl=>
   have h0:x=y:=h 0 (by omega);subst h0;simp only[ordV,Int.lt_irrefl,if_false,List.drop_succ_cons];exact ih (by simpa using hk) (by simpa using hl) (fun j hj=>h (j+1) (by omega))
  | [],_,_=>simp at hk
theorem y9{a b:List Int} {k:Nat} (hk:k<a.length) (hl:a.length=b.length) (h:∀ j,j<k->a.getD j 0=b.getD j 0) (aV:a.getD k 0≠b.getD k 0):ordV a b=if a.getD k 0<b.getD k 0 then -1 else 1:=by
 rw[OQ hk hl h,cA hk,cA (show k<b.length by omega)];rw[aj 0 hk,aj 0 (show k<b.length by omega)]at aV ⊢;simp only[ordV];split
 ·rfl
 ·rw[if_pos (by omega)]
theorem OR(ya yb:St):ordV ya.all yb.all=iT ya yb:=by
 unfold iT A8 St.all;simp only[ordV,List.length_cons,List.length_nil,ay,List.getD_cons_zero,List.getD_cons_succ,cmpI];generalize ordV ya.heard yb.heard=o
 grind
theorem oA(s:St) (n i:Nat) (h:n+i<5):(s.heard.drop n).getD i 0=s.hear (n+i):=by
 rw[List.getD_eq_getElem?_getD,List.getElem?_drop];rcases (show n+i=0\/n+i=1\/n+i=2\/n+i=3\/n+i=4 by omega) with e|e|e|e|e<;>rw[e]<;>rfl
theorem F5(s:St) (n:Nat) (hn:n<=5):cL (s.heard.drop n) (-1) (-1)=true↔∀ k,n<=k->k<5->s.hear k=-1:=by
 unfold cL;have hl:(s.heard.drop n).length=5 - n:=by simp[St.heard]
 rw[Bool.not_eq_true',aI,hl];constructor
 ·intro h k h1 h2;have:=h (k - n) (by omega);rw[oA s n (k - n) (by omega),show n+(k - n)=k by omega]at this;simp[inB]at this;omega
 ·intro h i hi;rw[oA s n i (by omega),h (n+i) (by omega) (by omega)];rfl
structure Msg where
 rd:Int
 fr:Int
 to:Int
 bs:ByteArray
structure Tr where
 inp:List Int
 word:List Rd
 states:List (List Int)
 msgs:List Msg
 dec:List Int
 times:List Int
instance:Inhabited Msg:=⟨⟨0,0,0,ByteArray.empty⟩⟩
instance:DecidableEq Msg:=fun a b=>decidable_of_iff (a.rd=b.rd/\a.fr=b.fr/\a.to=b.to/\a.bs=b.bs) (by cases a;cases b;simp)
def ckAt(l:List UInt8) (n:Nat):Nat->Nat
 | 0=>n % 65521
 | k+1=>(ckAt l n k+(k+1) % 65521 * (l.getD k 0).toNat) % 65521
def ckS(l:List UInt8):Nat:=ckAt l l.length l.length
theorem EQ(l:List UInt8) (n k:Nat):ckAt l n k<65521:=by
 cases k with
 | zero=>exact Nat.mod_lt _ (by omega)
 | succ k=>exact Nat.mod_lt _ (by omega)
theorem PT(l:List UInt8):ckS l<65521:=EQ _ _ _
def iV(n:Nat):List UInt8:=if n<=127 then [UInt8.ofNat n] else UInt8.ofNat (n % 128+128) :: iV (n / 128)
termination_by n
decreasing_by omega
def tD(l:List UInt8):List UInt8:=l++[UInt8.ofNat (ckS l / 256),UInt8.ofNat (ckS l % 256)]
def vl(k p q sym:Nat):List UInt8:=tD ([UInt8.ofNat k,UInt8.ofNat p,UInt8.ofNat q]++iV sym)
def bytesOf(l:List UInt8):ByteArray:=⟨l.toArray⟩
def dO{α:Type} (f:Nat->Option α) (n:Nat):List α:=(List.range n).filterMap f
theorem qe{α:Type} (f:Nat->Option α) (n:Nat):dO f (n+1)=dO f n++(f n).toList:=by
 unfold dO;rw[List.range_succ,List.filterMap_append];cases h:f n<;>simp[h]
theorem qf{α:Type} {f:Nat->Option α} {n:Nat} (h:f n=none):dO f (n+1)=dO f n:=by rw[qe,h];simp
theorem qg{α:Type} {f:Nat->Option α} {n:Nat} {x:α} (h:f n=some x):dO f (n+1)=dO f n++[x]:=by rw[qe,h];rfl
theorem mQ{α:Type} {f:Nat->Option α} {a b:Nat} (k9:a<=b) (h:∀ j,a<=j->j<b->f j=none):dO f b=dO f a:=by
 induction b with
 | zero=>rw[show a=0 by omega]
 | succ b ih=>
  by_cases e:a=b+1
  ·rw[e]
  ·rw[qf (h b (by omega) (by omega)),ih (by omega) fun j h1 h2=>h j h1 (by omega)]
theorem rP{α:Type} (f:Nat->Option α) {a b:Nat} (k9:a<=b):dO f a <+: dO f b:=by
 induction b with
 | zero=>rw[show a=0 by omega];exact List.prefix_refl _
 | succ b ih=>
  by_cases e:a=b+1
  ·rw[e];exact List.prefix_refl _
  ·rw[qe];exact(ih (by omega)).trans (List.prefix_append _ _)
theorem LB{α:Type} {f:Nat->Option α} {j n:Nat} {x:α} (hj:j<n) (h:f j=some x):(dO f n)[(dO f j).length]?=some x:=by
 obtain⟨t,ht⟩:=rP f (show j+1<=n by omega);rw[<-ht,qg h,List.append_assoc,List.getElem?_append_right (Nat.le_refl _)];simp
def ni(n:Nat) (word:List Rd) (j:Nat):Option (Nat × Nat × Nat):=
 if j / 5 % 5<n/\j % 5<n/\j / 5 % 5≠j % 5/\bX ((word.getD (j / 25) default).g.hear (j % 5)) (j / 5 % 5)=true then some (j / 25,j / 5 % 5,j % 5) else none
def b9(n:Nat) (word:List Rd) (j:Nat):List (Nat × Nat × Nat):=dO (ni n word) j
def placesL(n:Nat) (word:List Rd):List (Nat × Nat × Nat):=b9 n word (word.length * 25)
def statesE(t:Tr):Int:=
 if t.states.length≠t.word.length+1 then 15 else if anyLt t.states.length (fun i=>decide ((t.states.getD i []).length≠t.inp.length)) then 15
 else if anyLt t.states.length (fun i=>anyLt (t.states.getD i []).length fun j=>!inB ((t.states.getD i []).getD j 0) 0 1048576) then 2 else 0
def jV(b:ByteArray) (i:Nat):Int:=((b.data.toList.getD i 0).toNat:Int)
def lA(b:ByteArray):Bool:=
 decide (b.size<6) || decide ((ckS (b.data.toList.take (b.size - 2)):Int)≠jV b (b.size - 2) * 256+jV b (b.size - 1))
def AL(t:Tr) (i:Nat):Int:=
 let x:=t.msgs.getD i default
 let d:=(placesL t.inp.length t.word).getD i (0,0,0)
 if x.rd≠d.1\/x.fr≠d.2.1\/x.to≠d.2.2 then 14 else if lA x.bs then 24
 else if jV x.bs 0≠x.rd\/jV x.bs 1≠x.fr\/jV x.bs 2≠x.to then 22 else 0
def messagesE(t:Tr):Int:=if (placesL t.inp.length t.word).length≠t.msgs.length then 15 else ay t.msgs.length (AL t)
def wm(t:Tr) (p:Nat):Int:=
 if !inB (t.times.getD p 0) (-1) t.word.length || !inB (t.dec.getD p 0) (-1) 7 then 2 else if decide (t.dec.getD p 0=-1) != decide (t.times.getD p 0=-1) then 3 else 0
def decisionsE(t:Tr):Int:=if t.dec.length≠t.inp.length\/t.times.length≠t.inp.length then 15 else ay t.dec.length (wm t)
def hZ(t:Tr):Int:=
 if t.inp.length<1\/5<t.inp.length then 2 else if anyLt t.inp.length (fun i=>!inB (t.inp.getD i 0) 0 7) then 2
 else if jl t.inp.length t.word≠0 then jl t.inp.length t.word else if 6<t.word.length then 5
 else if statesE t≠0 then statesE t else if messagesE t≠0 then messagesE t else decisionsE t
def yf(m:Mac) (k p:Nat) (s:Int):Int:=((m.out.getD k []).getD p []).getD s.toNat 0
def oB(m:Mac) (states:List (List Int)) (p:Nat):Int:=firstIx states.length fun k=>decide (yf m k p ((states.getD k []).getD p 0)≠-1)
def yg(m:Mac) (states:List (List Int)) (p:Nat):Int:=
 if oB m states p<0 then -1 else yf m (oB m states p).toNat p ((states.getD (oB m states p).toNat []).getD p 0)
def yh(m:Mac) (states:List (List Int)) (x:Nat × Nat × Nat):Msg:=
 ⟨x.1,x.2.1,x.2.2,bytesOf (vl x.1 x.2.1 x.2.2 (symS m x.1 x.2.1 x.2.2 ((states.getD x.1 []).getD x.2.1 0)).toNat)⟩
def madeT(m:Mac) (inputs:List Int) (word:List Rd):Tr:=
 let s:=gv m inputs word
 ⟨inputs,word,s,(placesL m.n.toNat word).map (yh m s),(List.range m.n.toNat).map (yg m s),(List.range m.n.toNat).map (oB m s)⟩
def sameT(a b:Tr):Bool:=
 eqV a.inp b.inp&&decide (a.word=b.word)&&decide (a.states=b.states)&&decide (a.msgs=b.msgs)&&eqV a.dec b.dec&&eqV a.times b.times
def tE(m:Mac) (t:Tr):Int:=
 if da m≠0 then da m else if hZ t≠0 then hZ t else if playE m t.inp t.word≠0 then playE m t.inp t.word else if sameT (madeT m t.inp t.word) t then 0 else 18
end Go.Proofs.YtiocdkdkndpgkaaGreat
