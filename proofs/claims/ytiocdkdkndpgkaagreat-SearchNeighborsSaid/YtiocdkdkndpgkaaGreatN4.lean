/-
  A part of the proof: lemmas and contracts that the parts behind it use. Each one's conditions are its own premises.
-/
import Derived.Deep.MidRow
import Derived.Laws.OwnMore
import Derived.Test.YtiocdkdkndpgkaaGreatN3
set_option maxRecDepth 100000
set_option maxHeartbeats 8000000
set_option linter.unusedVariables false
set_option linter.unusedSimpArgs false
namespace Go.Proofs.YtiocdkdkndpgkaaGreat
open Go.RowKit Go Go.Shelf
abbrev Gh:=Nat->Option Obj
inductive D where
 | v (x:Value)
 | agg (l:List D)
 | tup (l:List D)
 | fz (s:Nat) (L:List (List D))
 | fp (s:Nat) (L:List (List D)) (i j:Nat)
 | fn (f:Fn) (a c:List D)
instance:Inhabited D:=⟨.v undef⟩
def D.cell:D->Bool
 | .v x=>x.oneCell'
 | .agg _|.tup _=>false
 | _=>true
def cP(s:Nat) (L:List (List D)):Prop:=∀ r∈L,r.length=s/\∀ x∈r,x.cell=true
inductive RD (G:Gh):D->Value->Prop where
 | v (x:Value):RD G (.v x) x
 | agg (l:List D) (vs:Array Value) (h:vs.size=l.length) (H:∀ (i:Nat) x,l[i]?=some x->RD G x (vs[i]?.getD undef)):RD G (.agg l) (.agg vs)
 | tup (l:List D) (vs:Array Value) (h:vs.size=l.length) (H:∀ (i:Nat) x,l[i]?=some x->RD G x (vs[i]?.getD undef)):RD G (.tup l) (.tuple vs)
 | fz (s:Nat) (L:List (List D)) (p:Option Addr) (c b o:Nat) (cs:Array Value) (ty:TypeId) (fr:Nat × Nat)
   (hc:L.length<=c/\c<=9223372036854775807/\(p=none->c=0)/\L.length<=140737488355328) (hs:cP s L)
   (hp:L≠[]->p=some ⟨b,o,none⟩/\G b=some (.cells cs ty fr)/\o+L.length * s<=cs.size)
   (H:∀ (i j:Nat) r x,L[i]?=some r->r[j]?=some x->RD G x (cs[o+i * s+j]?.getD undef)):RD G (.fz s L) (.slice p L.length c)
 | fp (s:Nat) (L:List (List D)) (i j b o:Nat) (cs:Array Value) (ty:TypeId) (fr:Nat × Nat) (hi:i<L.length) (hs:cP s L)
   (hp:G b=some (.cells cs ty fr)/\o+L.length * s<=cs.size)
   (H:∀ (i j:Nat) r x,L[i]?=some r->r[j]?=some x->RD G x (cs[o+i * s+j]?.getD undef)):RD G (.fp s L i j) (.pointer (some ⟨b,o+i * s+j,none⟩))
 | fn (f:Fn) (a c:List D) (us cs:Array Value) (ha:us.size=a.length) (hc:cs.size=c.length) (HA:∀ (i:Nat) x,a[i]?=some x->RD G x (us[i]?.getD undef)) (HC:∀ (i:Nat) x,c[i]?=some x->RD G x (cs[i]?.getD undef)) :
   RD G (.fn f a c) (.func f us cs)
theorem RD.mono{G G':Gh} (h:∀ k o,G k=some o->G' k=some o) {x:D} {u:Value} (r:RD G x u):RD G' x u:=by
 induction r with
 | v x=>exact .v x
 | agg l vs hl _ ih=>exact .agg l vs hl ih
 | tup l vs hl _ ih=>exact .tup l vs hl ih
 | fz s L p c b o cs ty fr hc hs hp _ ih=>exact .fz s L p c b o cs ty fr hc hs (fun e=>let ⟨a,b,c⟩:=hp e;⟨a,h _ _ b,c⟩) ih
 | fp s L i j b o cs ty fr hi hs hp _ ih=>exact .fp s L i j b o cs ty fr hi hs ⟨h _ _ hp.1,hp.2⟩ ih
 | fn f a c us cs ha hc _ _ ih1 ih2=>exact .fn f a c us cs ha hc ih1 ih2
inductive AV where
 | d (x:D)
 | any
 | ptr (r i j:Nat)
 | sl (r n:Nat)
 | mp (r:Nat)
 | bs (r j n:Nat)
 | agg (l:List AV)
 | tup (l:List AV)
 | fn (f:Fn) (a c:List AV)
instance:Inhabited AV:=⟨.any⟩
def AV.cell:AV->Bool
 | .d x=>x.cell
 | .ptr _ _ _|.sl _ _|.mp _|.bs _ _ _|.fn _ _ _=>true
 | _=>false
structure Own where
 b:Nat
 cap:Nat
 s:Nat
 nil:Bool
abbrev Sg:=Nat->Option Own
inductive RA (σ:Sg) (G:Gh):AV->Value->Prop where
 | d {x:D} {u:Value} (h:RD G x u):RA σ G (.d x) u
 | any (u:Value):RA σ G .any u
 | ptr {r i j:Nat} {o:Own} (h:σ r=some o):RA σ G (.ptr r i j) (.pointer (some ⟨o.b,i * o.s+j,none⟩))
 | sl {r n:Nat} {o:Own} (h:σ r=some o) (hn:n<=o.cap):RA σ G (.sl r n) (.slice (if o.nil then none else some ⟨o.b,0,none⟩) n o.cap)
 | mp {r:Nat} {o:Own} (h:σ r=some o):RA σ G (.mp r) (.map (some o.b))
 | bs {r j n:Nat} {o:Own} (h:σ r=some o):RA σ G (.bs r j n) (.slice (some ⟨o.b,j,none⟩) n n)
 | agg (l:List AV) (vs:Array Value) (h:vs.size=l.length) (H:∀ (i:Nat) x,l[i]?=some x->RA σ G x (vs[i]?.getD undef)):RA σ G (.agg l) (.agg vs)
 | tup (l:List AV) (vs:Array Value) (h:vs.size=l.length) (H:∀ (i:Nat) x,l[i]?=some x->RA σ G x (vs[i]?.getD undef)):RA σ G (.tup l) (.tuple vs)
 | fn (f:Fn) (a c:List AV) (us cs:Array Value) (ha:us.size=a.length) (hc:cs.size=c.length) (HA:∀ (i:Nat) x,a[i]?=some x->RA σ G x (us[i]?.getD undef)) (HC:∀ (i:Nat) x,c[i]?=some x->RA σ G x (cs[i]?.getD undef)) :
   RA σ G (.fn f a c) (.func f us cs)
structure Mo (σ:Sg) (G:Gh) (σ':Sg) (G':Gh):Prop where
 s:∀ r o,σ r=some o->σ' r=some o
 g:∀ k o,G k=some o->G' k=some o
theorem Mo.refl(σ:Sg) (G:Gh):Mo σ G σ G:=⟨fun _ _ h=>h,fun _ _ h=>h⟩
theorem RA.mono{σ σ':Sg} {G G':Gh} (h:Mo σ G σ' G') {x:AV} {u:Value} (r:RA σ G x u):RA σ' G' x u:=by
 induction r with
 | d x=>exact .d (x.mono h.g)
 | any x=>exact .any x
 | ptr e=>exact .ptr (h.s _ _ e)
 | sl e hn=>exact .sl (h.s _ _ e) hn
 | mp e=>exact .mp (h.s _ _ e)
 | bs e=>exact .bs (h.s _ _ e)
 | agg l vs hl _ ih=>exact .agg l vs hl ih
 | tup l vs hl _ ih=>exact .tup l vs hl ih
 | fn f a c us cs ha hc _ _ ih1 ih2=>exact .fn f a c us cs ha hc ih1 ih2
theorem RD.val{G:Gh} {x u:Value} (h:RD G (.v x) u):u=x:=by cases h;rfl
theorem RA.un{σ:Sg} {G:Gh} {x:D} {u:Value} (h:RA σ G (.d x) u):RD G x u:=by cases h;assumption
theorem RD.cell{G:Gh} {x:D} {u:Value} (h:RD G x u) (e:x.cell=true):u.oneCell'=true:=by
 cases h with
 | v x=>exact e
 | agg=>cases e
 | tup=>cases e
 | fz=>rfl
 | fp=>rfl
 | fn=>rfl
theorem RA.cell{σ:Sg} {G:Gh} {x:AV} {u:Value} (h:RA σ G x u) (e:x.cell=true):u.oneCell'=true:=by
 cases h with
 | d h=>exact h.cell e
 | any=>cases e
 | ptr=>rfl
 | sl=>rfl
 | mp=>rfl
 | bs=>rfl
 | agg=>cases e
 | tup=>cases e
 | fn=>rfl
def allD:List AV->Option (List D)
 | []=>some []
 | .d x :: l=>match allD l with|some r=>some (x :: r)|none=>none
 | _=>none
def mkAgg(l:List AV):AV:=match allD l with|some r=>.d (.agg r)|none=>.agg l
def mkTup(l:List AV):AV:=match allD l with|some r=>.d (.tup r)|none=>.tup l
def mkFn(f:Fn) (a c:List AV):AV:=match allD a,allD c with|some r,some t=>.d (.fn f r t)|_,_=>.fn f a c
theorem allD_eq:∀ {l:List AV} {r:List D},allD l=some r->l=r.map AV.d
 | [],r,h=>by cases h;rfl
 | .d x :: l,r,h=>by
  unfold allD at h;split at h
  ·rename_i r' e;cases h;rw[allD_eq e];rfl
  ·cases h
 | .any :: l,r,h=>by cases h
 | .ptr _ _ _ :: l,r,h=>by cases h
 | .sl _ _ :: l,r,h=>by cases h
 | .mp _ :: l,r,h=>by cases h
 | .bs _ _ _ :: l,r,h=>by cases h
 | .agg _ :: l,r,h=>by cases h
 | .tup _ :: l,r,h=>by cases h
 | .fn _ _ _ :: l,r,h=>by cases h
theorem RA.un_all{σ:Sg} {G:Gh} {l:List AV} {r:List D} {vs:Array Value} (e:allD l=some r) (H:∀ (i:Nat) x,l[i]?=some x->RA σ G x (vs[i]?.getD undef)):∀ (i:Nat) x,r[i]?=some x->RD G x (vs[i]?.getD undef):=by
 intro i x hx;rw[allD_eq e]at H;exact(H i (.d x) (by simp[hx])).un
theorem RA.mkAgg{σ:Sg} {G:Gh} {l:List AV} {vs:Array Value} (h:vs.size=l.length) (H:∀ (i:Nat) x,l[i]?=some x->RA σ G x (vs[i]?.getD undef)):RA σ G (mkAgg l) (.agg vs):=by
 unfold YtiocdkdkndpgkaaGreat.mkAgg;split
 ·rename_i r e;exact .d (.agg _ _ (by rw[h,allD_eq e];simp) (RA.un_all e H))
 ·exact .agg _ _ h H
theorem RA.mkTup{σ:Sg} {G:Gh} {l:List AV} {vs:Array Value} (h:vs.size=l.length) (H:∀ (i:Nat) x,l[i]?=some x->RA σ G x (vs[i]?.getD undef)):RA σ G (mkTup l) (.tuple vs):=by
 unfold YtiocdkdkndpgkaaGreat.mkTup;split
 ·rename_i r e;exact .d (.tup _ _ (by rw[h,allD_eq e];simp) (RA.un_all e H))
 ·exact .tup _ _ h H
theorem RA.mkFn{σ:Sg} {G:Gh} {f:Fn} {a c:List AV} {us cs:Array Value} (ha:us.size=a.length) (hc:cs.size=c.length) (HA:∀ (i:Nat) x,a[i]?=some x->RA σ G x (us[i]?.getD undef)) (HC:∀ (i:Nat) x,c[i]?=some x->RA σ G x (cs[i]?.getD undef)) :
  RA σ G (mkFn f a c) (.func f us cs):=by
 unfold YtiocdkdkndpgkaaGreat.mkFn;split
 ·rename_i r t e1 e2;exact .d (.fn _ _ _ _ _ (by rw[ha,allD_eq e1];simp) (by rw[hc,allD_eq e2];simp) (RA.un_all e1 HA) (RA.un_all e2 HC))
 ·exact .fn _ _ _ _ _ ha hc HA HC
def concs:List D->Option (List Value)
 | []=>some []
 | .v x :: l=>match concs l with|some r=>some (x :: r)|none=>none
 | _=>none
def D.conc:D->Option Value
 | .v x=>some x
 | .agg l=>match concs l with|some r=>some (.agg r.toArray)|none=>none
 | _=>none
def AV.conc:AV->Option Value
 | .d x=>x.conc
 | _=>none
theorem concs_eq:∀ {l:List D} {r:List Value},concs l=some r->l=r.map D.v
 | [],r,h=>by cases h;rfl
 | .v x :: l,r,h=>by
  unfold concs at h;split at h
  ·rename_i r' e;cases h;rw[concs_eq e];rfl
  ·cases h
 | .agg _ :: l,r,h=>by cases h
 | .tup _ :: l,r,h=>by cases h
 | .fz _ _ :: l,r,h=>by cases h
 | .fp _ _ _ _ :: l,r,h=>by cases h
 | .fn _ _ _ :: l,r,h=>by cases h
theorem jr{σ:Sg} {G:Gh} {x:AV} {u c:Value} (h:RA σ G x u) (e:x.conc=some c):u=c:=by
 cases h with
 | d h=>
  cases h with
  | v x=>unfold AV.conc D.conc at e;cases e;rfl
  | agg l vs hl H=>
   unfold AV.conc D.conc at e;dsimp only at e;split at e
   ·rename_i r hr;cases e;have dJ:=concs_eq hr;subst dJ
    have:vs=r.toArray:=by
     apply Array.ext
     ·simpa using hl
     ·intro i h1 h2;have h3:i<r.length:=by simpa using h2
      have:=(H i (.v r[i]) (by simp[h3])).val;simpa[h1] using this
    rw[this]
   ·cases e
  | _=>cases e
 | _=>cases e
inductive Blk where
 | row (ty s:Nat) (L:List (List D))
 | box (ty:Nat) (l:List AV)
 | map (f:List (Value × D))
def Gv(o:Obj):Bool:=match o with|.cells ..=>true|.map ..=>true|_=>false
def MR(G:Gh):List (Value × D)->List (Value × Value)->Prop
 | [],[]=>True
 | q :: f,p :: g=>p.1=q.1/\RD G q.2 p.2/\MR G f g
 | _,_=>False
theorem MR.mono{G G':Gh} (h:∀ k o,G k=some o->G' k=some o):∀ {f:List (Value × D)} {g:List (Value × Value)},MR G f g->MR G' f g
 | [],[],_=>trivial
 | _ :: _,_ :: _,⟨h1,h2,h3⟩=>⟨h1,h2.mono h,h3.mono h⟩
 | [],_ :: _,e=>e.elim
 | _ :: _,[],e=>e.elim
def iI(σ:Sg) (G:Gh) (w:World) (o:Own):Blk->Prop
 | .row ty s L=>o.s=s/\o.cap<=9223372036854775807/\cP s L/\L.length<=o.cap ∧
   (o.nil=true->o.cap=0)/\(o.nil=false->∃ cs,w.heap[o.b]?=some (.cells cs ty (0,0))/\cs.size=o.cap * s/\∀ (i j:Nat) r x,L[i]?=some r->r[j]?=some x->RD G x (cs[i * s+j]?.getD undef))
 | .box ty l=>o.s=l.length/\o.nil=false/\(∀ x∈l,x.cell=true)/\∃ cs,w.heap[o.b]?=some (.cells cs ty (0,0))/\cs.size=l.length/\∀ (j:Nat) x,l[j]?=some x->RA σ G x (cs[j]?.getD undef)
 | .map f=>o.nil=false/\∃ es clock,w.heap[o.b]?=some (.map es clock)/\MR G f (es.toList.map fun e=>(e.key,e.val))
def ix{α:Type} [Inhabited α] (l:List α) (i:Nat):α:=l[i]?.getD default
theorem mW{α:Type} [Inhabited α] {l:List α} {i:Nat} (h:i<l.length):l[i]?=some (ix l i):=by simp[ix,h]
theorem IV{α β:Type} [Inhabited α] [Inhabited β] (f:α->β) (l:List α) {i:Nat} (h:i<l.length):ix (l.map f) i=f (ix l i):=by simp[ix,h]
theorem tJ{α:Type} [Inhabited α] (x:α) (l:List α) (i:Nat):ix (x :: l) i=if i=0 then x else ix l (i - 1):=by
 cases i<;>simp[ix]
theorem P0{α:Type} [Inhabited α] (i:Nat):ix ([]:List α) i=default:=by simp[ix]
def lk{α:Type}:List (Nat × α)->Nat->Option α
 | [],_=>none
 | (d,x) :: l,t=>if t=d then some x else lk l t
structure AS where
 n:Nat
 F:List (Nat × AV)
 H:List (Nat × Option Blk)
 nx:Nat
 yc:Nat
def AS.get(s:AS) (t:Nat):AV:=(lk s.F t).getD .any
def AS.blk(s:AS) (r:Nat):Option Blk:=(lk s.H r).join
def AS.put(s:AS) (d:Option Nat) (x:AV):AS:=
 match d with
 | some d=>if d<s.n then { s with F:=(d,x) :: s.F } else s
 | none=>s
def AS.ev(s:AS):Operand->AV
 | .tmp t=>if t<s.n then s.get t else .any
 | .const v=>.d (.v v)
 | .global g=>.d (.v (.pointer (some ⟨g,0,none⟩)))
 | .func f=>.d (.v (.func (.func f) #[] #[]))
def lV(σ:Sg) (s:AS) (k:Nat):Prop:=∃ r b o,s.blk r=some b/\σ r=some o/\o.nil=false/\o.b=k
def JS(J:Nat->World->Gh->(Nat->Prop)->Prop):Prop:=∀ i W G C W' G' C',J i W G C->W'.os=W.os->W'.tape=W.tape->W'.output=W.output->W.heap.size<=W'.heap.size->(∀ k,k<W.heap.size->¬ C k->W'.heap[k]?=W.heap[k]?) →
 (∀ k o,G k=some o->G' k=some o)->(∀ k o,G' k=some o->k<W.heap.size->G k=some o\/C k)->(∀ k o,G' k=some o->W'.heap[k]?=some o/\o.isCells=true)->(∀ k,C' k->C k\/(W.heap.size<=k/\k<W'.heap.size))->J i W' G' C'
structure Cx where
 P:Program
 w0:World
 G0:Gh
 yl:Option Nat
 mu:List Nat
 cut:List Nat
 E:Nat->Prop
 J:Nat->World->Gh->(Nat->Prop)->Prop
 pr:List (Nat × Obj)
 fr:Array Value
structure BelowE (E:Nat->Prop) (w w':World):Prop where
 os:w'.os=w.os
 tape:w'.tape=w.tape
 output:w'.output=w.output
 size:w.heap.size<=w'.heap.size
 block:∀ k,k<w.heap.size->¬ E k->w'.heap[k]?=w.heap[k]?
theorem BelowE.trans{E:Nat->Prop} {a b c:World} (h:BelowE E a b) (k:Below b.heap.size b c):BelowE E a c:=
 ⟨k.os.trans h.os,k.tape.trans h.tape,k.output.trans h.output,Nat.le_trans h.size k.size,fun i hi he=>(k.block i (Nat.lt_of_lt_of_le hi h.size)).trans (h.block i hi he)⟩
structure Sat (K:Cx) (σ:Sg) (G:Gh) (s:AS) (a:Act) (w:World):Prop where
 size:a.tmps.size=s.n
 slot:∀ t,RA σ G (s.get t) ((a.tmps++K.fr)[t]?.getD undef)
 own:∀ r k,s.blk r=some k->∃ o,σ r=some o/\iI σ G w o k/\(o.nil=false->K.w0.heap.size<=o.b/\G o.b=none)
 inj:∀ r r' k k' o o',s.blk r=some k->s.blk r'=some k'->σ r=some o->σ r'=some o'->o.nil=false->o'.nil=false->o.b=o'.b->r=r'
 next:∀ r,s.nx<=r->σ r=none
 gsub:∀ k o,G k=some o->w.heap[k]?=some o
 gold:∀ k o,G k=some o->k<K.w0.heap.size->¬ K.E k->K.G0 k=some o
 gnew:∀ k o,K.G0 k=some o->G k=some o
 gcell:∀ k o,G k=some o->o.isCells=true
 below:BelowE K.E K.w0 w
 marks:∃ ds:List Nat,a.defers=lw ds/\bY K.w0.heap.size ds w/\∀ d∈ds,∀ p∈K.pr,p.1≠d
 pr:∀ p∈K.pr,w.heap[p.1]?=some p.2/\Gv p.2=false
 inv:∃ C:Nat->Prop,(∀ k,lV σ s k->C k)/\(∀ p∈K.pr,C p.1)/\(∀ k,cH k∈a.defers->C k)/\K.J s.yc w G C
 js:JS K.J
theorem Sat.ev{K:Cx} {σ:Sg} {G:Gh} {s:AS} {a:Act} {w:World} (h:Sat K σ G s a w) (x:Operand):RA σ G (s.ev x) (a.eval x):=by
 cases x with
 | tmp t=>
  unfold AS.ev;dsimp only;split
  ·rename_i ht;have:=h.slot t;rw[Array.getElem?_append_left (by rw[h.size];exact ht)]at this;simpa[Act.eval] using this
  ·exact .any _
 | const v=>exact .d (.v _)
 | global g=>exact .d (.v _)
 | func f=>exact .d (.v _)
theorem Sat.conc{K:Cx} {σ:Sg} {G:Gh} {s:AS} {a:Act} {w:World} (h:Sat K σ G s a w) {x:Operand} {c:Value} (e:(s.ev x).conc=some c):a.eval x=c:=jr (h.ev x) e
theorem Sat.put{K:Cx} {σ:Sg} {G:Gh} {s:AS} {a:Act} {w:World} (h:Sat K σ G s a w) (d:Option Nat) {x:AV} {u:Value} (hx:RA σ G x u):Sat K σ G (s.put d x) (a.put d u) w:=by
 cases d with
 | none=>exact h
 | some d=>
  unfold AS.put;dsimp only;split
  ·rename_i hd;refine⟨by simpa[Act.put] using h.size,fun t=>?_,h.own,h.inj,h.next,h.gsub,h.gold,h.gnew,h.gcell,h.below,h.marks,h.pr,h.inv,h.js⟩;by_cases e:t=d
   ·subst e;have:t<a.tmps.size:=by rw[h.size];exact hd
    simp only[AS.get,lk,if_true,Act.put];rw[Array.getElem?_append_left (by simpa using this)];simpa[this] using hx
   ·have:=h.slot t;simp only[AS.get,lk,if_neg e,Act.put];rw[Array.getElem?_append,Array.getElem?_setIfInBounds_ne (Ne.symm e),Array.size_setIfInBounds,<-Array.getElem?_append];exact this
  ·rename_i hd;have OH:a.tmps.size<=d:=by rw[h.size];omega
   have:a.put (some d) u=a:=by
    unfold Act.put;dsimp only;rw[Array.setIfInBounds_eq_of_size_le OH]
   rw[this];exact h
theorem Sat.world{K:Cx} {σ:Sg} {G:Gh} {s:AS} {a:Act} {w w':World} (h:Sat K σ G s a w) (hb:Below w.heap.size w w'):Sat K σ G s a w':=by
 refine⟨h.size,h.slot,fun r k hk=>?_,h.inj,h.next,fun k o ho=>aq hb (h.gsub k o ho),h.gold,h.gnew,h.gcell,h.below.trans hb,?_,fun p hp=>⟨aq hb (h.pr p hp).1,(h.pr p hp).2⟩,?_,h.js⟩
 ·obtain⟨o,h1,h2,h3⟩:=h.own r k hk;refine⟨o,h1,?_,h3⟩;cases k with
  | row ty s L=>
   obtain⟨a1,a2,a3,a4,a6,a5⟩:=h2;exact⟨a1,a2,a3,a4,a6,fun hc=>let ⟨cs,b1,b2,b3⟩:=a5 hc;⟨cs,aq hb b1,b2,b3⟩⟩
  | box ty l=>
   obtain⟨a1,a2,a0,cs,a3,a4,a5⟩:=h2;exact⟨a1,a2,a0,cs,aq hb a3,a4,a5⟩
  | map f=>
   obtain⟨a1,es,cl,a2,a3⟩:=h2;exact⟨a1,es,cl,aq hb a2,a3⟩
 ·obtain⟨ds,h1,h2,h3⟩:=h.marks;exact⟨ds,h1,h2.up hb,h3⟩
 ·obtain⟨C,c1,c2,c3,c4⟩:=h.inv;exact⟨C,c1,c2,c3,h.js _ _ _ _ _ _ _ c4 hb.os hb.tape hb.output hb.size (fun k hk _=>hb.block k hk) (fun _ _ e=>e) (fun _ _ e _=>.inl e) (fun k o e=>⟨aq hb (h.gsub k o e),h.gcell k o e⟩) (fun _ e=>.inl e)⟩
def Cx.fence(K:Cx):Fence:=match K.yl with|none=>Fence.wide|some l=>Fence.wide.inRound l
def gL(K:Cx) (Q:Exit->AS->Prop):Exit->Act->World->Prop
 | .panic _,_,_=>False
 | .outgrown,_,_=>False
 | e,a,w=>∃ σ G s,Q e s/\Sat K σ G s a w
theorem gL.noOut{K:Cx} {Q:Exit->AS->Prop}:¬ LetsOut (gL K Q):=fun ⟨_,_,h⟩=>h
theorem gL.mono{K:Cx} {Q Q':Exit->AS->Prop} (h:∀ e s,Q e s->Q' e s):∀ e a w,gL K Q e a w->gL K Q' e a w:=by
 intro e a w hq;cases e<;>first|exact hq|(obtain⟨σ,G,s,h1,h2⟩:=hq;exact⟨σ,G,s,h _ _ h1,h2⟩)
def ei(K:Cx) (c:Code) (Q:Exit->AS->Prop) (s:AS):Prop:=∀ σ G a w,Sat K σ G s a w->c.wpIn K.fence 0 K.P (gL K Q) a w
theorem ei.mono{K:Cx} {c:Code} {Q Q':Exit->AS->Prop} {s:AS} (h:∀ e s,Q e s->Q' e s) (k:ei K c Q s):ei K c Q' s:=fun σ G a w hs=>wpIn_mono (k σ G a w hs) (gL.mono h)
def qv(next:AS->Prop) (Q:Exit->AS->Prop):Exit->AS->Prop
 | .normal,s=>next s
 | e,s=>Q e s
def Gw(id:Nat) (Q:Exit->AS->Prop):Exit->AS->Prop
 | .exit id',s=>if id'=id then Q .normal s else Q (.exit id') s
 | e,s=>Q e s
theorem yv{K:Cx} {x y:Code} {Q:Exit->AS->Prop} {s:AS} (h:ei K x (qv (ei K y Q) Q) s):ei K (.seq x y) Q s:=fun σ G a w hs=>by
 refine wpIn_seq (wpIn_mono (h σ G a w hs) ?_);intro e a' w' hq;cases e<;>first|exact hq|(obtain⟨σ',G',s',h1,h2⟩:=hq;exact h1 _ _ _ _ h2)
theorem IW{K:Cx} {id:Nat} {c:Code} {Q:Exit->AS->Prop} {s:AS} (h:ei K c (Gw id Q) s):ei K (.block id c) Q s:=fun σ G a w hs=>by
 refine wpIn_block (wpIn_mono (h σ G a w hs) ?_);intro e a' w' hq;cases e<;>first|exact hq|skip
 rename_i id';obtain⟨σ',G',s',h1,h2⟩:=hq;unfold Gw at h1;dsimp only at h1;unfold Exit.inBlock;dsimp only;split at h1
 ·rename_i e;rw[if_pos e];exact⟨σ',G',s',h1,h2⟩
 ·rename_i e;rw[if_neg e];exact⟨σ',G',s',h1,h2⟩
theorem L5{K:Cx} {c:Operand} {x y:Code} {Q:Exit->AS->Prop} {s:AS} {t:Bool} (e:(s.ev c).conc=some (.bool t)) (h:ei K (if t then x else y) Q s):ei K (.cond c x y) Q s:=
 fun σ G a w hs=>wpIn_cond (hs.conc e) (h σ G a w hs)
theorem L6{p:Nat->Prop} (h:∃ n,p n):∃ n,p n/\∀ m,p m->n<=m:=by
 obtain⟨n,hn⟩:=h;induction n using Nat.strongRecOn with
 | _ n ih=>
  by_cases e:∃ m,m<n/\p m
  ·obtain⟨m,h1,h2⟩:=e;exact ih m h1 h2
  ·exact⟨n,hn,fun m hm=>by
    by_cases h:m<n
    ·exact(e ⟨m,h,hm⟩).elim
    ·omega⟩
theorem L7{K:Cx} {c:Code} {Q:Exit->AS->Prop} {s:AS} {X:Type} (I:X->AS) (μ:X->Nat) (C:X->Prop) (h0:∀ σ G a w,Sat K σ G s a w->∃ x σ' G',C x/\Sat K σ' G' (I x) a w)
  (h:∀ x,C x->ei K c (qv (fun s'=>∀ σ G a w,Sat K σ G s' a w->∃ y σ' G',(C y/\μ y<μ x)/\Sat K σ' G' (I y) a w) Q) (I x)):ei K (.loop c) Q s:=fun σ G a w hs=>by
 let p:Act->World->Nat->Prop:=fun a w n=>∃ x σ G,C x/\μ x=n/\Sat K σ G (I x) a w
 have hm:∃ m:Act->World->Nat,∀ a w,(∃ n,p a w n)->p a w (m a w)/\∀ k,p a w k->m a w<=k:=by
  have:∀ a w,∃ n,(∃ n,p a w n)->p a w n/\∀ k,p a w k->n<=k:=fun a w=>by
   by_cases e:∃ n,p a w n
   ·obtain⟨n,h1,h2⟩:=L6 e;exact⟨n,fun _=>⟨h1,h2⟩⟩
   ·exact⟨0,fun h=>(e h).elim⟩
  exact⟨fun a w=>Classical.choose (this a w),fun a w=>Classical.choose_spec (this a w)⟩
 obtain⟨m,hm⟩:=hm;obtain⟨x0,σ0,G0,ov,Ok⟩:=h0 σ G a w hs;refine wpIn_loop (fun a w=>∃ n,p a w n) m ⟨_,x0,σ0,G0,ov,rfl,Ok⟩ ?_;intro a1 w1 h1;obtain⟨⟨x,σ1,G1,hC,hx,gg⟩,im⟩:=hm a1 w1 h1;refine wpIn_mono (h x hC σ1 G1 a1 w1 gg) ?_;intro e a2 w2 hq;cases e<;>first|exact hq|skip
 obtain⟨σ2,G2,s2,h2,h3⟩:=hq;obtain⟨y,σ3,G3,⟨h4,h5⟩,h6⟩:=h2 _ _ _ _ h3;have hp:p a2 w2 (μ y):=⟨y,σ3,G3,h4,rfl,h6⟩;exact⟨⟨_,hp⟩,by have:=(hm a2 w2 ⟨_,hp⟩).2 _ hp;omega⟩
def jG(K:Cx) (o:Oper) (s:AS) (k:AS->Prop):Prop:=
 ∀ σ G a w,Sat K σ G s a w->∀ Q:Exit->Act->World->Prop,o.wp K.P a w (fun a' w'=>∃ σ' G' s',k s'/\Sat K σ' G' s' a' w') Q
def Br(t:Bool) (A B:Prop):Prop:=if t then A else B
@[simp] theorem Br_true (A B:Prop):Br true A B=A:=by simp[Br]
@[simp] theorem Br_false (A B:Prop):Br false A B=B:=by simp[Br]
theorem Br.split{t:Bool} {A B:Prop} (h1:t=true->A) (h2:t=false->B):Br t A B:=by cases t<;>simp_all
@[congr] theorem Br_congr {t u:Bool} {A B:Prop} (h:t=u):Br t A B=Br u A B:=by rw[h]
def V(p:Prop):Prop:=p
theorem V.o{p:Prop} (h:V p):p:=h
theorem V.i{p:Prop} (h:p):V p:=h
theorem vg{p q:Prop} (k:q) (h:p:=by omega):V p/\q:=⟨h,k⟩
@[simp] theorem V_true:V True=True:=rfl
def Sh(x:Int):Prop:=-9223372036854775808<=x/\x<=9223372036854775807
def kO(k:IntKind) (x:Int) (c:Value->Prop):Prop:=match k with|.i64=>V (-9223372036854775808<=x/\x<=9223372036854775807)/\c (.int .i64 x)|k=>c (.int k (k.wrap x))
theorem qw{k:IntKind} {x:Int} {c:Value->Prop} (h:kO k x c):c (.int k (k.wrap x)):=by
 unfold kO at h;split at h
 ·have e:IntKind.i64.wrap x=x:=by
   have h1:=h.1.o;rw[IntKind.wrap_i64];omega
  rw[e];exact h.2
 ·exact h
def yw(op:BinOp) (k:IntKind) (a b:Int) (c:Value->Prop) (els:Prop):Prop:=
 match op with
 | .add=>kO k (a+b) c
 | .sub=>kO k (a - b) c
 | .mul=>kO k (a * b) c
 | .quo=>V (b≠0)/\kO k (a.tdiv b) c
 | .rem=>V (b≠0)/\c (.int k (a.tmod b))
 | .and=>c (.int k (bits .and k a b))
 | .or=>c (.int k (bits .or k a b))
 | .xor=>c (.int k (bits .xor k a b))
 | .andNot=>c (.int k (bits .andNot k a b))
 | .eql=>c (.bool (a == b))
 | .neq=>c (.bool (a != b))
 | .lss=>c (.bool (a<b))
 | .leq=>c (.bool (a<=b))
 | .gtr=>c (.bool (a > b))
 | .geq=>c (.bool (a ≥ b))
 | _=>els
def mC(op:BinOp) (x y:Value) (c:Value->Prop) (els:Prop):Prop:=
 match x,y with
 | .int k a,.int k' b=>
  match op with
  | .shl=>V (0<=b/\b<=k.bits)/\kO k (a * 2 ^ b.toNat) c
  | .shr=>V (0<=b/\b<=k.bits)/\c (.int k (a / 2 ^ b.toNat))
  | _=>k=k'/\yw op k a b c els
 | .string a,.string b=>
  match op with
  | .eql=>c (.bool (a.toList == b.toList))
  | .neq=>c (.bool (!(a.toList == b.toList)))
  | _=>els
 | _,_=>els
def sf(op:UnOp) (x:Value) (c:Value->Prop) (els:Prop):Prop:=
 match op,x with
 | .neg,.int k n=>kO k (0 - n) c
 | .not,.bool b=>c (.bool !b)
 | _,_=>els
def oE(x y:AV) (c:Value->Value->Prop) (els:Prop):Prop:=match x.conc,y.conc with|some a,some b=>c a b|_,_=>els
def one(x:AV) (c:Value->Prop) (els:Prop):Prop:=match x.conc with|some a=>c a|_=>els
def gB(x:AV) (c:Bool->Prop) (no:Prop):Prop:=match x.conc with|some (.bool a)=>c a|some (.tuple _)=>no|_=>False
def wK(x:AV) (c:Bool->Prop):Prop:=match x.conc with|some (.bool a)=>c a|_=>False
theorem O5{P:Program} {op:BinOp} {t:TypeId} {x y:Operand} {a b:Value} {c:Value->Prop} {els:Prop} (h:mC op a b c els) :
  els\/∃ u,c u/\∀ w,(do eqGuard op t x y a b;binOp op t a b:Sem Value).run P w=.ok u w:=by
 unfold mC at h;split at h
 ·split at h
  ·rename_i kk aa kb bb oo;obtain⟨⟨h0,h1⟩,h⟩:=h;refine .inr ⟨_,qw h,fun w=>?_⟩;have e:min bb.toNat kk.bits=bb.toNat:=by omega
   have e3:(Op.shift .shl kk aa kb bb).run P w=.ok (.int kk (kk.wrap (aa * 2 ^ min bb.toNat kk.bits))) w:=by simp[Op.shift,go_sem,Int.not_lt.2 h0]
   rw[e]at e3;simp[eqGuard,binOp,e3,go_sem]
  ·rename_i kk aa kb bb oo;obtain⟨⟨h0,h1⟩,h⟩:=h;refine .inr ⟨_,h,fun w=>?_⟩;have e:min bb.toNat kk.bits=bb.toNat:=by omega
   have e2:aa.fdiv (2 ^ bb.toNat)=aa / 2 ^ bb.toNat:=Int.fdiv_eq_ediv_of_nonneg _ (Int.pow_nonneg (by omega));have e3:(Op.shift .shr kk aa kb bb).run P w=.ok (.int kk (aa.fdiv (2 ^ min bb.toNat kk.bits))) w:=by simp[Op.shift,go_sem,Int.not_lt.2 h0]
   rw[e,e2]at e3;simp[eqGuard,binOp,e3,go_sem]
  ·rename_i n1 n2;obtain⟨rfl,h⟩:=h;unfold yw at h
   split at h<;>first
    | exact .inl h
    | (refine .inr ⟨_,qw h,fun w=>?_⟩;simp[eqGuard,binOp,Op.intArith,go_sem];done)
    | (refine .inr ⟨_,qw h.2,fun w=>?_⟩;simp[eqGuard,binOp,Op.intDiv,go_sem,h.1.o];done)
    | (refine .inr ⟨_,h.2,fun w=>?_⟩;simp[eqGuard,binOp,Op.intDiv,go_sem,h.1.o];done)
    | (refine .inr ⟨_,h,fun w=>?_⟩;simp[eqGuard,binOp,Op.intArith,Op.intBits,Op.intCmp,bits,go_sem];done)
 ·split at h
  ·refine .inr ⟨_,h,fun w=>?_⟩;simp[eqGuard,binOp,Op.stringOp,go_sem]
  ·refine .inr ⟨_,h,fun w=>?_⟩;simp[eqGuard,binOp,Op.stringOp,go_sem]
  ·exact .inl h
 ·exact .inl h
structure TI where
 ok:Bool
 agg:Bool
 n:Nat
 z:Option (List Value)
 k:Nat
 el:TypeId
 len:Nat
 fs:List (Nat × TypeId)
 bytes:Nat
 ik:Option IntKind
 deriving Inhabited
def cQ(i:TypeInfo) (d:TypeDesc):TI:=
  { ok:=true,agg:=d.isRow,n:=i.size,z:=i.zero.map (·.cells.toList),bytes:=i.bytes,k:=(match d with|.struct _=>1|.array _ _=>2|.slice _=>3|.string=>4|.bool=>5|_=>0),ik:=(match d with|.int k=>some k|_=>none),el:=(match d with|.array _ e|.slice e=>e|_=>0),len:=(match d with|.array n _=>n|_=>0),fs:=(match d with|.struct fs=>fs.toList.map (fun f=>(f.offset,f.type))|_=>[]) }
def ai(P:Program) (t:TypeId):TI:=
 match P.info? t,P.underlying t with
 | some i,some d=>
  cQ i d
 | _,_=>{ ok:=false,agg:=false,n:=0,z:=none,k:=0,el:=0,len:=0,fs:=[],bytes:=0,ik:=none }
theorem kq{P:Program} {t:TypeId} (h:(ai P t).ok=true):∃ i d,P.info? t=some i/\P.underlying t=some d ∧
  ai P t=cQ i d:=by
 unfold ai at h ⊢;split at h
 ·rename_i i d h1 h2;exact⟨i,d,h1,h2,by simp only[h1,h2]⟩
 ·cases h
theorem dW{P:Program} {t:TypeId} (h:(ai P t).k≠0):∃ i d,P.info? t=some i/\P.underlying t=some d/\ai P t=cQ i d:=by
 apply kq;unfold ai at h ⊢;split at h
 ·rename_i e1 e2;simp[cQ]
 ·exact(h rfl).elim
theorem yx{P:Program} {t:TypeId} (h:(ai P t).n≠0):(ai P t).ok=true:=by
 unfold ai at h ⊢;split at h
 ·rfl
 ·exact(h rfl).elim
def IX(ti:TI) (st:Nat) (l:List D) (j:Nat) (k:AV->Prop):Prop:=
 ti.ok=true/\if ti.agg then V (j+ti.n<=st)/\k (.d (.agg ((l.drop j).take ti.n))) else V (j<st)/\k (.d (ix l j))
def zp(ti:TI) (l:List AV) (j:Nat) (k:AV->Prop):Prop:=
 ti.ok=true/\if ti.agg then V (j+ti.n<=l.length)/\k (mkAgg ((l.drop j).take ti.n)) else V (j<l.length)/\k (ix l j)
def iJ(P:Program) (s:AS) (t:TypeId) (x:AV) (k:AV->Prop):Prop:=
 match x with
 | .d (.fp st L i j)=>IX (ai P t) st (ix L i) j k
 | .ptr r i j=>
  match s.blk r with
  | some (.row _ st L)=>V (i<L.length)/\IX (ai P t) st (ix L i) j k
  | some (.box _ l)=>i=0/\zp (ai P t) l j k
  | _=>False
 | _=>False
theorem lF{P:Program} {w:World} {b o:Nat} {t:TypeId} {σ:Sg} {G:Gh} {l:List AV} {cs:Array Value} {ty:TypeId} {fr:Nat × Nat} (hw:w.heap[b]?=some (.cells cs ty fr))
  (hl:∀ (j:Nat) x,l[j]?=some x->o+j<cs.size/\RA σ G x (cs[o+j]?.getD undef)) {j:Nat} {k:AV->Prop} (h:zp (ai P t) l j k) :
  ∃ v y,(loadVar t ⟨b,o+j,none⟩).run P w=.ok v w/\RA σ G y v/\k y:=by
 obtain⟨h0,h⟩:=h;obtain⟨i,d,h1,h2,h3⟩:=kq h0;simp only[h3,cQ]at h;have hc:∀ m,w.cell? ⟨b,m,none⟩=cs[m]?:=fun m=>ae hw m
 split at h
 ·rename_i hd;obtain⟨h4,h5⟩:=h
  replace h4:=V.o h4
  have bA:((cs.toList.drop (o+j)).take i.size).length=i.size:=by
   rw[List.length_take,List.length_drop];by_cases e:i.size=0
   ·omega
   ·have:=(hl (j+i.size - 1) _ (List.getElem?_eq_getElem (by omega))).1;simp;omega
  refine⟨_,_,run_loadVar_mid (P:=P) w b (o+j) t ((cs.toList.drop (o+j)).take i.size) d ?_ h2 (by simpa using hd) (by rw[h1];simp only[Option.map_some,bA]),?_,h5⟩
  ·intro m v hm;rw[hc];rw[List.getElem?_take]at hm;split at hm
   ·rw[List.getElem?_drop]at hm;simpa[Nat.add_assoc] using hm
   ·cases hm
  ·refine RA.mkAgg (by simp only[List.size_toArray,bA,List.length_take,List.length_drop];omega) ?_;intro m x hx;rw[List.getElem?_take]at hx;split at hx
   ·rename_i hm;rw[List.getElem?_drop]at hx;have:=(hl _ _ hx).2;simpa[List.getElem?_take,hm,Nat.add_assoc] using this
   ·cases hx
 ·rename_i hd;obtain⟨h4,h5⟩:=h
  replace h4:=V.o h4
  have e:=mW h4;obtain⟨h6,h7⟩:=hl _ _ e;refine⟨cs[o+j]?.getD undef,_,?_,h7,h5⟩
  have If:(isAgg t).run P w=.ok false w:=by
   unfold isAgg;rw[Sem.run_bind,run_underlying h2 w];cases d<;>simp_all[TypeDesc.isRow]
  simp[loadVar,If,hc,h6,go_sem]
theorem BF(l:List D):allD (l.map AV.d)=some l:=by
 induction l with
 | nil=>rfl
 | cons x l ih=>simp[allD,ih]
theorem IZ(l:List D):mkAgg (l.map AV.d)=.d (.agg l):=by simp[mkAgg,BF]
theorem BG{ti:TI} {st:Nat} {l:List D} {j:Nat} {k:AV->Prop} (hl:l.length=st) (h:IX ti st l j k):zp ti (l.map AV.d) j k:=by
 refine⟨h.1,?_⟩;have h:=h.2;split
 ·rename_i e;rw[if_pos e]at h;rw[<-List.map_drop,<-List.map_take,IZ];exact⟨by have:=V.o h.1;refine V.i ?_;simp;omega,h.2⟩
 ·rename_i e;rw[if_neg e]at h;have h1:=V.o h.1;refine⟨by refine V.i ?_;simp;omega,?_⟩;rw[IV _ _ (by omega)];exact h.2
theorem cP.ix{s:Nat} {L:List (List D)} (h:cP s L) {i:Nat} (hi:i<L.length):(ix L i).length=s/\∀ x∈ix L i,x.cell=true:=h _ (List.mem_of_getElem? (mW hi))
theorem pK{s:Nat} {L:List (List D)} {cs:Array Value} {o i j:Nat} (hi:i<L.length) (hj:j<s) (hc:o+L.length * s<=cs.size):o+i * s+j<cs.size:=by
 have:i * s+s<=L.length * s:=by rw[<-Nat.succ_mul];exact Nat.mul_le_mul_right _ hi
 omega
theorem BH{K:Cx} {σ:Sg} {G:Gh} {s:AS} {a:Act} {w:World} {t:TypeId} {x:AV} {u:Value} {k:AV->Prop} (hs:Sat K σ G s a w) (hx:RA σ G x u) (h:iJ K.P s t x k) :
  ∃ v y,(Instr.loadAt t u).run K.P w=.ok v w/\RA σ G y v/\k y:=by
 unfold iJ at h;split at h
 ·rename_i st L i j;cases hx.un with
  | fp s L i j b o cs ty fr hi DK hp H=>
   obtain⟨r1,r2⟩:=DK.ix hi
   obtain⟨v,y,h1,h2⟩:=lF (P:=K.P) (σ:=σ) (G:=G) (o:=o+i * st) (l:=(ix L i).map AV.d) (hs.gsub _ _ hp.1) (fun j x hx=>by
    rw[List.getElem?_map]at hx;cases hq:(ix L i)[j]? with
    | none=>rw[hq]at hx;cases hx
    | some z=>
     rw[hq]at hx;cases hx;have hj:j<st:=by rw[<-r1];exact(List.getElem?_eq_some_iff.1 hq).1
     exact⟨pK hi hj hp.2,.d (H i j _ z (mW hi) hq)⟩) (BG r1 h)
   exact⟨v,y,by simpa[Instr.loadAt,Instr.sureAddr,go_sem] using h1,h2⟩
 ·rename_i r i j;cases hx with
  | ptr ho=>
   rename_i o;split at h
   ·rename_i ty st L hb;obtain⟨hi,h⟩:=h
    replace hi:=V.o hi
    obtain⟨o',h1,⟨h2,h3,h4,h5,h8,h6⟩,h7⟩:=hs.own _ _ hb;rw[ho]at h1;cases h1;obtain⟨cs,g1,g2,g3⟩:=h6 (by cases e:o.nil<;>simp_all);obtain⟨r1,r2⟩:=h4.ix hi
    obtain⟨v,y,q1,q2⟩:=lF (P:=K.P) (σ:=σ) (G:=G) (o:=i * st) (l:=(ix L i).map AV.d) g1 (fun j x hx=>by
     rw[List.getElem?_map]at hx;cases hq:(ix L i)[j]? with
     | none=>rw[hq]at hx;cases hx
     | some z=>
      rw[hq]at hx;cases hx;have hj:j<st:=by rw[<-r1];exact(List.getElem?_eq_some_iff.1 hq).1
      refine⟨?_,.d (g3 i j _ z (mW hi) hq)⟩;have:=pK (o:=0) (cs:=cs) hi hj (by have:=Nat.mul_le_mul_right st h5;omega)
      omega) (BG r1 h)
    exact⟨v,y,by rw[h2];simpa[Instr.loadAt,Instr.sureAddr,go_sem] using q1,q2⟩
   ·rename_i ty l hb;obtain⟨rfl,h⟩:=h;obtain⟨o',h1,⟨h2,h3,h4,cs,g1,g2,g3⟩,h7⟩:=hs.own _ _ hb;rw[ho]at h1;cases h1
    obtain⟨v,y,q1,q2⟩:=lF (P:=K.P) (σ:=σ) (G:=G) (o:=0) (l:=l) g1 (fun j x hx=>by
     have:=(List.getElem?_eq_some_iff.1 hx).1
     exact⟨by omega,by rw[Nat.zero_add];exact g3 j x hx⟩) h
    exact⟨v,y,by simpa[Instr.loadAt,Instr.sureAddr,go_sem] using q1,q2⟩
   ·exact h.elim
 ·exact h.elim
def wL(ti:TI) (l:List D) (j:Nat) (k:AV->Prop):Prop:=ti.ok=true/\if ti.agg then V (j+ti.n<=l.length)/\k (.d (.agg ((l.drop j).take ti.n))) else V (j<l.length)/\k (.d (ix l j))
def mg(P:Program) (t:TypeId) (x:AV) (f:Nat) (k:AV->Prop):Prop:=
 (ai P t).k=1/\match (ai P t).fs[f]? with
 | some (off,ft)=>match x with
  | .d (.agg l)=>wL (ai P ft) l off k
  | .agg l=>zp (ai P ft) l off k
  | _=>False
 | none=>False
theorem vC{P:Program} {w:World} {t:TypeId} {σ:Sg} {G:Gh} {l:List AV} {cs:Array Value} (bA:cs.size=l.length) (hl:∀ (j:Nat) x,l[j]?=some x->RA σ G x (cs[j]?.getD undef)) {j:Nat} {k:AV->Prop} (h:zp (ai P t) l j k) :
  ∃ v y,(part t cs j).run P w=.ok v w/\RA σ G y v/\k y:=by
 obtain⟨h0,h⟩:=h;obtain⟨i,d,h1,h2,h3⟩:=kq h0;simp only[h3,cQ]at h
 have If:(isAgg t).run P w=.ok d.isRow w:=by
  unfold isAgg;rw[Sem.run_bind,run_underlying h2 w];cases d<;>simp_all[TypeDesc.isRow]
 split at h
 ·rename_i hd;obtain⟨h4,h5⟩:=h
  replace h4:=V.o h4
  refine⟨.agg (cs.extract j (j+i.size)),_,by simp[part,If,hd,sizeOf,typeInfo,h1,go_sem],RA.mkAgg (by simp[bA];omega) ?_,h5⟩;intro m x hx;rw[List.getElem?_take]at hx;split at hx
  ·rename_i hm;rw[List.getElem?_drop]at hx;have:=hl _ _ hx;rw[Array.getElem?_extract,if_pos (by omega)];exact this
  ·cases hx
 ·rename_i hd;obtain⟨h4,h5⟩:=h
  replace h4:=V.o h4
  have h7:=hl _ _ (mW h4);refine⟨cs[j]?.getD undef,_,?_,h7,h5⟩;have:j<cs.size:=by omega
  simp[part,If,hd,this,go_sem]
theorem BI{ti:TI} {l:List D} {j:Nat} {k:AV->Prop} (h:wL ti l j k):zp ti (l.map AV.d) j k:=BG rfl h
theorem RA.ofD{σ:Sg} {G:Gh} {l:List D} {vs:Array Value} (H:∀ (i:Nat) x,l[i]?=some x->RD G x (vs[i]?.getD undef)):∀ (i:Nat) x,(l.map AV.d)[i]?=some x->RA σ G x (vs[i]?.getD undef):=by
 intro i x hx;rw[List.getElem?_map]at hx;cases hq:l[i]? with
 | none=>rw[hq]at hx;cases hx
 | some z=>rw[hq]at hx;cases hx;exact .d (H i z hq)
theorem I0{P:Program} {σ:Sg} {G:Gh} {w:World} {t:TypeId} {x:AV} {u:Value} {f:Nat} {k:AV->Prop} (hx:RA σ G x u) (h:mg P t x f k):∃ v y,(Instr.field t u f).run P w=.ok v w/\RA σ G y v/\k y:=by
 obtain⟨hk,h⟩:=h;obtain⟨i,d,h1,h2,h3⟩:=dW (by rw[hk];decide);rw[h3]at hk h;cases d<;>simp only[cQ]at hk<;>first|(cases hk;done)|skip
 rename_i fs;simp only[cQ,List.getElem?_map,Array.getElem?_toList]at h;cases hf:fs[f]? with
 | none=>simp[hf]at h
 | some fd=>
  simp only[hf,Option.map_some]at h;split at h
  ·rename_i l;cases hx.un with
   | agg l vs hl H=>
    obtain⟨v,y,q1,q2⟩:=vC (P:=P) (w:=w) (l:=l.map AV.d) (cs:=vs) (by simpa using hl) (RA.ofD (σ:=σ) H) (BI h);exact⟨v,y,by simp only[Instr.field,Sem.run_bind,run_underlying h2,Result.andThen_ok,hf,asAgg,Sem.run_pure];exact q1,q2⟩
  ·rename_i l;cases hx with
   | agg l vs hl H=>
    obtain⟨v,y,q1,q2⟩:=vC (P:=P) (w:=w) (l:=l) (cs:=vs) hl H h;exact⟨v,y,by simp only[Instr.field,Sem.run_bind,run_underlying h2,Result.andThen_ok,hf,asAgg,Sem.run_pure];exact q1,q2⟩
  ·exact h.elim
def kP(P:Program) (t:TypeId) (x i:AV) (k:AV->Prop):Prop:=
 match i.conc with
 | some (.int _ n)=>
  match x with
  | .d (.agg l)=>(ai P t).k=2/\V (0<=n/\n<(ai P t).len)/\wL (ai P (ai P t).el) l (n.toNat * (ai P (ai P t).el).n) k
  | .d (.v (.string b))=>(ai P t).k=4/\V (0<=n/\n<b.size)/\k (.d (.v (.int .u8 (ix b.data.toList n.toNat).toNat)))
  | _=>False
 | _=>False
theorem I1{P:Program} {t:TypeId} {ti:TypeInfo} (h:P.info? t=some ti) (w:World):(sizeOf t).run P w=.ok ti.size w:=by simp[sizeOf,typeInfo,h,go_sem]
theorem iZ{P:Program} {t:TypeId} (h:(ai P t).ok=true) (w:World):(sizeOf t).run P w=.ok (ai P t).n w:=by
 obtain⟨i,d,h1,h2,h3⟩:=kq h;rw[I1 h1,h3];rfl
theorem I2{P:Program} {σ:Sg} {G:Gh} {w:World} {t:TypeId} {x i:AV} {u ui:Value} {k:AV->Prop} (hx:RA σ G x u) (hi:RA σ G i ui) (h:kP P t x i k):∃ v y,(Instr.index t u ui).run P w=.ok v w/\RA σ G y v/\k y:=by
 unfold kP at h;split at h
 ·rename_i kk n hc;rw[jr hi hc];split at h
  ·rename_i l;obtain⟨hk,rc,h⟩:=h;obtain⟨oc,oY⟩:=V.o rc;obtain⟨ii,d,h1,h2,h3⟩:=dW (by rw[hk];decide);have eW:=iZ h.1 w;cases d<;>(rw[h3]at hk;simp only[cQ]at hk;first|(cases hk;done)|skip)
   rename_i ln e;have e1:(ai P t).el=e:=by rw[h3];rfl
   have e2:(ai P t).len=ln:=by rw[h3];rfl
   rw[e1]at h eW;rw[e2]at oY;cases hx.un with
   | agg l vs hl H=>
    obtain⟨v,y,q1,q2⟩:=vC (P:=P) (w:=w) (l:=l.map AV.d) (cs:=vs) (by simpa using hl) (RA.ofD (σ:=σ) H) (BI h);refine⟨v,y,?_,q2⟩;simp only[Instr.index,asIntOf,Sem.run_bind,Sem.run_pure,run_underlying h2,Result.andThen_ok,oc,oY,and_self,if_true,eW];exact q1
  ·rename_i b;obtain⟨hk,rc,h⟩:=h;obtain⟨oc,oY⟩:=V.o rc;obtain⟨ii,d,h1,h2,h3⟩:=dW (by rw[hk];decide);cases d<;>(rw[h3]at hk;simp only[cQ]at hk;first|(cases hk;done)|skip)
   cases hx.un
   refine⟨_,_,?_,.d (.v _),h⟩;have aG:n.toNat<b.size:=by omega
   have e3:b[n.toNat]?=some (ix b.data.toList n.toNat):=by
    have:n.toNat<b.data.size:=aG;rw[getElem?_pos b n.toNat aG];simp[ix,ByteArray.getElem_eq_getElem_data];rw[getElem?_pos b.data n.toNat this];rfl
   simp only[Instr.index,asIntOf,Sem.run_bind,Sem.run_pure,run_underlying h2,Result.andThen_ok,oc,if_true,e3]
  ·exact h.elim
 ·exact h.elim
def gM(x:AV) (i:Nat) (k:AV->Prop):Prop:=
 match x with
 | .d (.tup l)=>i<l.length/\k (.d (ix l i))
 | .tup l=>i<l.length/\k (ix l i)
 | .d (.v (.tuple vs))=>i<vs.size/\k (.d (.v (vs[i]?.getD undef)))
 | _=>False
theorem D9{P:Program} {σ:Sg} {G:Gh} {w:World} {x:AV} {u:Value} {i:Nat} {k:AV->Prop} (hx:RA σ G x u) (h:gM x i k):∃ v y,(Instr.extract u i).run P w=.ok v w/\RA σ G y v/\k y:=by
 unfold gM at h;split at h
 ·rename_i l;cases hx.un with
  | tup l vs hl H=>
   have hi:i<vs.size:=by omega
   exact⟨vs[i],_,by simp[Instr.extract,hi,go_sem],.d (by have:=H _ _ (mW h.1);simpa[hi] using this),h.2⟩
 ·rename_i l;cases hx with
  | tup l vs hl H=>
   have hi:i<vs.size:=by omega
   exact⟨vs[i],_,by simp[Instr.extract,hi,go_sem],by have:=H _ _ (mW h.1);simpa[hi] using this,h.2⟩
 ·rename_i vs;cases hx.un;have hi:=h.1;exact⟨vs[i],_,by simp[Instr.extract,hi,go_sem],.d (by simp[hi];exact .v _),h.2⟩
 ·exact h.elim
def AP(x:AV) (j:Nat):AV:=match x with|.ptr r i j'=>.ptr r i (j'+j)|.d (.fp s L i j')=>.d (.fp s L i (j'+j))|_=>.any
def lW(x:AV):Bool:=match x with|.ptr _ _ _=>true|.d (.fp _ _ _ _)=>true|_=>false
theorem qy{σ:Sg} {G:Gh} {x:AV} {u:Value} (h:lW x=true) (hx:RA σ G x u):∃ b o,u=.pointer (some ⟨b,o,none⟩)/\∀ j,RA σ G (AP x j) (.pointer (some ⟨b,o+j,none⟩)):=by
 unfold lW at h;split at h
 ·cases hx with
  | ptr ho=>exact⟨_,_,rfl,fun j=>by rw[Nat.add_assoc];exact .ptr ho⟩
 ·cases hx.un with
  | fp s L i j b o cs ty fr hi hs hp H=>exact⟨_,_,rfl,fun m=>by rw[Nat.add_assoc];exact .d (.fp _ _ _ (_+m) b o cs ty fr hi hs hp H)⟩
 ·cases h
def fM(P:Program) (t:TypeId) (x:AV) (f:Nat) (k:AV->Prop):Prop:=
 (ai P t).k=1/\match (ai P t).fs[f]? with
 | some (off,ft)=>(ai P ft).n≠0/\lW x=true/\k (AP x off)
 | none=>False
theorem j9(b o j:Nat):(⟨b,o,none⟩:Addr).add j=⟨b,o+j,none⟩:=Addr.add_mid b o j
theorem AB{P:Program} {σ:Sg} {G:Gh} {w:World} {t:TypeId} {x:AV} {u:Value} {f:Nat} {k:AV->Prop} (hx:RA σ G x u) (h:fM P t x f k):∃ v y,(Instr.fieldAt t u f).run P w=.ok v w/\RA σ G y v/\k y:=by
 obtain⟨hk,h⟩:=h;obtain⟨i,d,h1,h2,h3⟩:=dW (by rw[hk];decide);rw[h3]at hk h;cases d<;>simp only[cQ]at hk<;>first|(cases hk;done)|skip
 rename_i fs;simp only[cQ,List.getElem?_map,Array.getElem?_toList]at h;cases hf:fs[f]? with
 | none=>simp[hf]at h
 | some fd=>
  simp only[hf,Option.map_some]at h;obtain⟨h4,h5,h6⟩:=h;obtain⟨b,o,rfl,h7⟩:=qy h5 hx
  have bO:(ai P fd.type).ok=true:=by
   unfold ai at h4 ⊢;split at h4
   ·rfl
   ·exact(h4 rfl).elim
  refine⟨_,_,?_,h7 _,h6⟩;simp only[Instr.fieldAt,Sem.run_bind,run_underlying h2,Result.andThen_ok,hf,Instr.sureAddr,Sem.run_pure,fieldPlace,iZ bO,h4,if_false,j9]
def cN(P:Program) (s:AS) (t:TypeId) (x i:AV) (k:AV->Prop):Prop:=
 match i.conc with
 | some (.int _ n)=>(ai P (ai P t).el).ok=true ∧
  match x with
  | .d (.fz st L)=>(ai P t).k=3/\(ai P (ai P t).el).n=st/\V (0<=n/\n<L.length)/\k (.d (.fp st L n.toNat 0))
  | .sl r m=>(ai P t).k=3/\V (0<=n/\n<m)/\(match s.blk r with|some (.row _ st L)=>(ai P (ai P t).el).n=st/\k (.ptr r n.toNat 0)|_=>False)
  | _=>(ai P t).k=2/\V (0<=n/\n<(ai P t).len)/\lW x=true/\k (AP x (n.toNat * (ai P (ai P t).el).n))
 | _=>False
theorem AD{K:Cx} {σ:Sg} {G:Gh} {s:AS} {a:Act} {w:World} {t:TypeId} {x i:AV} {u ui:Value} {k:AV->Prop} (hs:Sat K σ G s a w) (hx:RA σ G x u) (hi:RA σ G i ui) (h:cN K.P s t x i k) :
  ∃ v y,(Instr.indexAt t u ui).run K.P w=.ok v w/\RA σ G y v/\k y:=by
 unfold cN at h;split at h
 ·rename_i kk n hc;rw[jr hi hc];obtain⟨bO,h⟩:=h;have eW:=iZ bO w;split at h
  ·rename_i st L;obtain⟨hk,cJ,rc,h⟩:=h;obtain⟨oc,oY⟩:=V.o rc;obtain⟨ii,d,h1,h2,h3⟩:=dW (by rw[hk];decide);cases d<;>(rw[h3]at hk;simp only[cQ]at hk;first|(cases hk;done)|skip)
   rename_i e;have e1:(ai K.P t).el=e:=by rw[h3];rfl
   rw[e1]at eW cJ;have jS:n.toNat<L.length:=by omega
   cases hx.un with
   | fz s L p c b o cs ty fr hc hs hp H=>
    obtain⟨rfl,g2,g3⟩:=hp (by intro e;rw[e]at jS;cases jS);refine⟨_,_,?_,.d (.fp st L n.toNat 0 b o cs ty fr jS hs ⟨g2,g3⟩ H),h⟩;simp only[Instr.indexAt,asIntOf,Sem.run_bind,Sem.run_pure,run_underlying h2,Result.andThen_ok,oc,oY,and_self,if_true,eW,cJ,j9,Nat.add_zero]
  ·rename_i r m;obtain⟨hk,rc,h⟩:=h;obtain⟨oc,oY⟩:=V.o rc;obtain⟨ii,d,h1,h2,h3⟩:=dW (by rw[hk];decide);cases d<;>(rw[h3]at hk;simp only[cQ]at hk;first|(cases hk;done)|skip)
   rename_i e;have e1:(ai K.P t).el=e:=by rw[h3];rfl
   rw[e1]at eW h;split at h
   ·rename_i ty st L hb;obtain⟨cJ,h⟩:=h;cases hx with
    | sl ho hm=>
     rename_i o;obtain⟨o',g1,⟨g2,_,_,_,g3,_⟩,_⟩:=hs.own _ _ hb;rw[ho]at g1;cases g1
     have bE:o.nil=false:=by
      cases e:o.nil
      ·rfl
      ·have:=g3 e;omega
     rw[bE];refine⟨_,_,?_,.ptr (i:=n.toNat) (j:=0) ho,h⟩;simp only[Instr.indexAt,asIntOf,Sem.run_bind,Sem.run_pure,run_underlying h2,Result.andThen_ok,oc,oY,and_self,if_true,Bool.false_eq_true,if_false,eW,cJ,g2,j9,Nat.add_zero,Nat.zero_add]
   ·exact h.elim
  ·obtain⟨hk,rc,hp,h⟩:=h;obtain⟨oc,oY⟩:=V.o rc;obtain⟨ii,d,h1,h2,h3⟩:=dW (by rw[hk];decide);cases d<;>(rw[h3]at hk;simp only[cQ]at hk;first|(cases hk;done)|skip)
   rename_i ln e;have e1:(ai K.P t).el=e:=by rw[h3];rfl
   have e2:(ai K.P t).len=ln:=by rw[h3];rfl
   rw[e1]at eW h;rw[e2]at oY;obtain⟨b,o,rfl,h7⟩:=qy hp hx;refine⟨_,_,?_,h7 _,h⟩;simp only[Instr.indexAt,asIntOf,Sem.run_bind,Sem.run_pure,run_underlying h2,Instr.sureAddr,Result.andThen_ok,oc,oY,and_self,if_true,eW,j9]
 ·exact h.elim
def qz(P:Program) (t:TypeId) (x:AV) (k:AV->Prop):Prop:=
 match x with
 | .d (.fz _ L)=>(ai P t).k=3/\k (.d (.v (.int .i64 L.length)))
 | .sl _ n=>(ai P t).k=3/\k (.d (.v (.int .i64 n)))
 | .d (.v (.slice _ n _))=>(ai P t).k=3/\k (.d (.v (.int .i64 n)))
 | .d (.v (.string b))=>(ai P t).k=4/\k (.d (.v (.int .i64 b.size)))
 | _=>(ai P t).k=2/\k (.d (.v (.int .i64 (ai P t).len)))
theorem O6{P:Program} {σ:Sg} {G:Gh} {w:World} {t ty:TypeId} {x:AV} {u:Value} {k:AV->Prop} (hx:RA σ G x u) (h:qz P t x k):∃ v y,(Builtin.len_ #[t] ty #[u]).run P w=.ok v w/\RA σ G y v/\k y:=by
 unfold qz at h;split at h
 all_goals
  obtain⟨hk,h⟩:=h;obtain⟨ii,d,h1,h2,h3⟩:=dW (by rw[hk];decide);have bV:=hk;cases d<;>(rw[h3]at hk;simp only[cQ]at hk;first|(cases hk;done)|skip)
 ·cases hx.un with
  | fz s L p c b o cs ty fr hc hs hp H=>exact⟨_,_,by simp[Builtin.len_,run_underlying h2,go_sem],.d (.v _),h⟩
 ·cases hx with
  | sl ho hm=>exact⟨_,_,by simp[Builtin.len_,run_underlying h2,go_sem],.d (.v _),h⟩
 ·cases hx.un;exact⟨_,_,by simp[Builtin.len_,run_underlying h2,go_sem],.d (.v _),h⟩
 ·cases hx.un;exact⟨_,_,by simp[Builtin.len_,run_underlying h2,go_sem],.d (.v _),h⟩
 ·rename_i ln e;have e2:(ai P t).len=ln:=by rw[h3];rfl
  rw[e2]at h;exact⟨_,_,by simp[Builtin.len_,run_underlying h2,go_sem],.d (.v _),h⟩
def ll(σ:Sg) (r:Nat) (o:Own):Sg:=fun k=>if k=r then some o else σ k
theorem wM{σ:Sg} {G:Gh} {r:Nat} {o:Own} (h:σ r=none):Mo σ G (ll σ r o) G:=⟨fun k x hk=>by unfold ll;rw[if_neg (by intro e;rw[e,h]at hk;cases hk)];exact hk,fun _ _ h=>h⟩
theorem iI.mono{σ σ':Sg} {G G':Gh} (hm:Mo σ G σ' G') {w w':World} {o:Own} {k:Blk} (hw:o.nil=false->w'.heap[o.b]?=w.heap[o.b]?) (h:iI σ G w o k):iI σ' G' w' o k:=by
 cases k with
 | row ty s L=>
  obtain⟨a1,a2,a3,a4,a6,a5⟩:=h;exact⟨a1,a2,a3,a4,a6,fun hc=>let ⟨cs,b1,b2,b3⟩:=a5 hc;⟨cs,by rw[hw hc];exact b1,b2,fun i j r x e1 e2=>(b3 i j r x e1 e2).mono hm.g⟩⟩
 | box ty l=>
  obtain⟨a1,a2,a3,cs,a4,a5,a6⟩:=h;exact⟨a1,a2,a3,cs,by rw[hw a2];exact a4,a5,fun j x e=>(a6 j x e).mono hm⟩
 | map f=>
  obtain⟨a1,es,cl,a2,a3⟩:=h;exact⟨a1,es,cl,by rw[hw a1];exact a2,a3.mono hm.g⟩
theorem iI.at{σ:Sg} {G:Gh} {w:World} {o:Own} {k:Blk} (h:iI σ G w o k) (hn:o.nil=false):∃ ob,w.heap[o.b]?=some ob/\Gv ob=true:=by
 cases k with
 | row ty s L=>obtain⟨a1,a2,a3,a4,a6,a5⟩:=h;obtain⟨cs,b1,_⟩:=a5 hn;exact⟨_,b1,rfl⟩
 | box ty l=>obtain⟨a1,a2,a3,cs,a4,_⟩:=h;exact⟨_,a4,rfl⟩
 | map f=>obtain⟨a1,es,cl,a2,_⟩:=h;exact⟨_,a2,rfl⟩
theorem BJ{n nx nx' yc yc' r r':Nat} {F:List (Nat × AV)} {H:List (Nat × Option Blk)} {b:Option Blk}:(AS.mk n F ((r,b) :: H) nx yc).blk r'=if r'=r then b else(AS.mk n F H nx' yc').blk r':=by
 simp only[AS.blk,lk];split<;>simp
def AS.add(s:AS) (k:Blk):AS:={ s with H:=(s.nx,some k) :: s.H,nx:=s.nx+1 }
def AS.set(s:AS) (r:Nat) (k:Option Blk):AS:={ s with H:=(r,k) :: s.H }
theorem AS.blk_add(s:AS) (k:Blk) (r:Nat):(s.add k).blk r=if r=s.nx then some k else s.blk r:=BJ
theorem AS.blk_set(s:AS) (k:Option Blk) (r r':Nat):(s.set r k).blk r'=if r'=r then k else s.blk r':=BJ
theorem Sat.addNew{K:Cx} {σ:Sg} {G:Gh} {s:AS} {a:Act} {w w':World} (hs:Sat K σ G s a w) {k:Blk} {o:Own} (hb:o.nil=false->w.heap.size<=o.b) (hg:Below w.heap.size w w') (hk:iI (ll σ s.nx o) G w' o k) :
  Sat K (ll σ s.nx o) G (s.add k) a w':=by
 have hm:Mo σ G (ll σ s.nx o) G:=wM (hs.next _ (Nat.le_refl _))
 have Lf:∀ n,w.heap.size<=n->G n=none:=fun n hn=>by
  cases e:G n with
  | none=>rfl
  | some x=>have:=aw (hs.gsub _ _ e);omega
 have kh:∀ r k',r≠s.nx->(s.add k).blk r=some k'->s.blk r=some k':=fun r k' hr h=>by rw[AS.blk_add,if_neg hr]at h;exact h
 have aG:∀ r k' o',s.blk r=some k'->σ r=some o'->o'.nil=false->o'.b<w.heap.size:=fun r k' o' h1 h2 h3=>by
  obtain⟨o2,e1,e2,_⟩:=hs.own _ _ h1;rw[h2]at e1;cases e1;obtain⟨ob,e3,_⟩:=e2.at h3;exact aw e3
 have mw:∀ r,r≠s.nx->ll σ s.nx o r=σ r:=fun r hr=>by unfold ll;rw[if_neg hr]
 have pY:ll σ s.nx o s.nx=some o:=by unfold ll;rw[if_pos rfl]
 refine⟨hs.size,fun t=>(hs.slot t).mono hm,fun r k' hr=>?_,fun r r' k1 k2 o1 o2 h1 h2 h3 h4 h5 h6 h7=>?_,fun r hr=>?_,fun n x hx=>aq hg (hs.gsub _ _ hx),hs.gold,hs.gnew,hs.gcell,hs.below.trans hg,?_,fun p hp=>⟨aq hg (hs.pr p hp).1,(hs.pr p hp).2⟩,?_,hs.js⟩
 ·by_cases e:r=s.nx
  ·subst e;rw[AS.blk_add,if_pos rfl]at hr;cases hr;exact⟨o,pY,hk,fun hn=>⟨Nat.le_trans hs.below.size (hb hn),Lf _ (hb hn)⟩⟩
  ·have jC:=kh r k' e hr;obtain⟨o',e1,e2,e3⟩:=hs.own _ _ jC;exact⟨o',by rw[mw r e];exact e1,e2.mono hm (fun hn=>hg.block _ (aG r k' o' jC e1 hn)),e3⟩
 ·by_cases e1:r=s.nx<;>by_cases e2:r'=s.nx
  ·rw[e1,e2]
  ·subst e1;rw[pY]at h3;cases h3;rw[mw r' e2]at h4;have:=aG _ _ _ (kh r' k2 e2 h2) h4 h6;have:=hb h5;omega
  ·subst e2;rw[pY]at h4;cases h4;rw[mw r e1]at h3;have:=aG _ _ _ (kh r k1 e1 h1) h3 h5;have:=hb h6;omega
  ·rw[mw r e1]at h3;rw[mw r' e2]at h4;exact hs.inj r r' k1 k2 o1 o2 (kh r k1 e1 h1) (kh r' k2 e2 h2) h3 h4 h5 h6 h7
 ·have:s.nx+1<=r:=hr;rw[mw r (by omega)];exact hs.next r (by omega)
 ·obtain⟨ds,h1,h2,h3⟩:=hs.marks;exact⟨ds,h1,h2.up hg,h3⟩
 ·obtain⟨C,c1,c2,c3,c4⟩:=hs.inv;refine⟨fun k=>C k\/(w.heap.size<=k/\k<w'.heap.size),?_,fun p hp=>.inl (c2 p hp),fun k hk=>.inl (c3 k hk),hs.js _ _ _ _ _ _ _ c4 hg.os hg.tape hg.output hg.size (fun k hk _=>hg.block k hk) (fun _ _ e=>e) (fun _ _ e _=>.inl e) (fun k o e=>⟨aq hg (hs.gsub k o e),hs.gcell k o e⟩) (fun _ e=>e)⟩;rintro n ⟨r,b,o',e1,e2,e3,rfl⟩;by_cases e:r=s.nx
  ·subst e;rw[pY]at e2;cases e2;rw[AS.blk_add,if_pos rfl]at e1;cases e1;obtain⟨ob,e4,_⟩:=hk.at e3;exact .inr ⟨hb e3,aw e4⟩
  ·exact .inl (c1 _ ⟨r,b,o',kh r b e e1,by rw[<-mw r e];exact e2,e3,rfl⟩)
theorem Sat.change{K:Cx} {σ:Sg} {G:Gh} {s:AS} {a:Act} {w w':World} (hs:Sat K σ G s a w) {r:Nat} {k0:Blk} {k:Option Blk} {o:Own} (hr:s.blk r=some k0) (ho:σ r=some o)
  (hg:w.grownBy w' (if o.nil then none else some o.b)) (hk:∀ k',k=some k'->iI σ G w' o k'):Sat K σ G (s.set r k) a w':=by
 obtain⟨o',e1,e2,e3⟩:=hs.own _ _ hr;rw[ho]at e1;cases e1
 have Fs:∀ n,n<w.heap.size->(o.nil=false->n≠o.b)->w'.heap[n]?=w.heap[n]?:=fun n hn aV=>hg.block n hn (by
  intro e;split at e
  ·cases e
  ·rename_i h;simp at h;cases e;exact aV h rfl)
 have hGw:∀ n x,G n=some x->w'.heap[n]?=some x:=fun n x hx=>by
  have h1:=hs.gsub _ _ hx;rw[Fs n (aw h1) (fun hn e=>by rw[e,(e3 hn).2]at hx;cases hx)];exact h1
 refine⟨hs.size,hs.slot,fun r' k' jC=>?_,fun r1 r2 k1 k2 o1 o2 h1 h2 h3 h4 h5 h6 h7=>?_,hs.next,hGw,hs.gold,hs.gnew,hs.gcell,?_,?_,fun p hp=>?_,?_,hs.js⟩
 ·rw[AS.blk_set]at jC;split at jC
  ·rename_i e;subst e;exact⟨o,ho,hk _ jC,e3⟩
  ·rename_i e;obtain⟨o',g1,g2,g3⟩:=hs.own _ _ jC;refine⟨o',g1,g2.mono (Mo.refl _ _) (fun hn=>?_),g3⟩;obtain⟨ob,g4,_⟩:=g2.at hn;exact Fs _ (aw g4) (fun n9 e4=>e (hs.inj _ _ _ _ _ _ jC hr g1 ho hn n9 e4))
 ·have q:∀ r' k',(s.set r k).blk r'=some k'->∃ k'',s.blk r'=some k'':=fun r' k' h=>by
   rw[AS.blk_set]at h;split at h
   ·rename_i e;subst e;exact⟨_,hr⟩
   ·exact⟨_,h⟩
  obtain⟨_,q1⟩:=q _ _ h1;obtain⟨_,q2⟩:=q _ _ h2;exact hs.inj _ _ _ _ _ _ q1 q2 h3 h4 h5 h6 h7
 ·refine⟨hg.os.trans hs.below.os,hg.tape.trans hs.below.tape,hg.output.trans hs.below.output,Nat.le_trans hs.below.size hg.size,fun n hn aV=>?_⟩;rw[Fs n (Nat.lt_of_lt_of_le hn hs.below.size) (fun h e=>by have:=(e3 h).1;omega)];exact hs.below.block n hn aV
 ·obtain⟨ds,h1,h2,hq⟩:=hs.marks;refine⟨ds,h1,⟨h2.1,fun n hn=>⟨(h2.2 n hn).1,?_⟩⟩,hq⟩;have h3:=(h2.2 n hn).2
  rw[Fs n (aw h3) (fun h e=>by
   obtain⟨ob,h4,h5⟩:=e2.at h
   rw[e,h4]at h3;cases h3;cases h5)]
  exact h3
 ·obtain⟨h3,h5⟩:=hs.pr p hp;refine⟨?_,h5⟩
  rw[Fs p.1 (aw h3) (fun h e=>by
   obtain⟨ob,h4,h6⟩:=e2.at h;rw[e,h4]at h3
   rw[<-kj h3,h6]at h5;cases h5)]
  exact h3
 ·obtain⟨C,c1,c2,c3,c4⟩:=hs.inv;refine⟨C,?_,c2,c3,hs.js _ _ _ _ _ _ _ c4 hg.os hg.tape hg.output hg.size (fun n hn aV=>Fs n hn (fun bE e=>aV (c1 n ⟨r,k0,o,hr,ho,bE,e.symm⟩))) (fun _ _ e=>e) (fun _ _ e _=>.inl e) (fun k o e=>⟨hGw k o e,hs.gcell k o e⟩) (fun _ e=>.inl e)⟩;rintro n ⟨r',b,o',f1,f2,f3,rfl⟩;rw[AS.blk_set]at f1;split at f1
  ·rename_i e;subst e;exact c1 _ ⟨r',k0,o',hr,f2,f3,rfl⟩
  ·exact c1 _ ⟨r',b,o',f1,f2,f3,rfl⟩
theorem Sat.freeze{K:Cx} {σ:Sg} {G:Gh} {s:AS} {a:Act} {w w':World} (hs:Sat K σ G s a w) (hg:Below w.heap.size w w') {b:Nat} {x:Obj} (hb:w.heap.size<=b) (hx:w'.heap[b]?=some x) (hxc:x.isCells=true:=by rfl) :
  Sat K σ (fun k=>if k=b then some x else G k) s a w'/\Mo σ G σ (fun k=>if k=b then some x else G k):=by
 have Lf:G b=none:=by
  cases e:G b with
  | none=>rfl
  | some x=>have:=aw (hs.gsub _ _ e);omega
 have hm:Mo σ G σ (fun k=>if k=b then some x else G k):=⟨fun _ _ h=>h,fun k o h=>by rw[if_neg (by intro e;rw[e,Lf]at h;cases h)];exact h⟩;have eL:=hs.world hg;refine⟨⟨hs.size,fun t=>(hs.slot t).mono hm,fun r k hr=>?_,hs.inj,hs.next,fun k o h=>?_,fun k o h hk hE=>?_,fun k o h=>hm.g _ _ (hs.gnew _ _ h),fun k o h=>?_,eL.below,eL.marks,eL.pr,?_,hs.js⟩,hm⟩
 ·obtain⟨o,e1,e2,e3⟩:=hs.own _ _ hr;obtain⟨o',f1,f2,f3⟩:=eL.own _ _ hr;rw[e1]at f1;cases f1;refine⟨o,e1,f2.mono hm (fun _=>rfl),fun hn=>⟨(e3 hn).1,?_⟩⟩;obtain⟨ob,g4,_⟩:=e2.at hn;have:=aw g4;rw[if_neg (by omega)];exact(e3 hn).2
 ·split at h
  ·rename_i e;subst e;cases h;exact hx
  ·exact eL.gsub _ _ h
 ·have:=hs.below.size;rw[if_neg (by omega)]at h;exact hs.gold _ _ h hk hE
 ·split at h
  ·cases h;exact hxc
  ·exact hs.gcell _ _ h
 ·obtain⟨C,c1,c2,c3,c4⟩:=hs.inv;refine⟨C,c1,c2,c3,hs.js _ _ _ _ _ _ _ c4 hg.os hg.tape hg.output hg.size (fun k hk _=>hg.block k hk) hm.g (fun k o e hk=>.inl ?_) (fun k o e=>?_) (fun _ e=>.inl e)⟩
  ·rw[if_neg (by omega)]at e;exact e
  ·split at e
   ·rename_i e2;subst e2;cases e;exact⟨hx,hxc⟩
   ·exact⟨eL.gsub _ _ e,hs.gcell _ _ e⟩
def AV.cells:AV->List AV
 | .d (.agg l)=>l.map AV.d
 | .agg l=>l
 | .d (.v (.agg us))=>us.toList.map (fun x=>AV.d (.v x))
 | x=>[x]
theorem qA{σ:Sg} {G:Gh} {x:AV} {u:Value} (hx:RA σ G x u) (hc:x.cells.all AV.cell=true):u.cells.size=x.cells.length/\(∀ (i:Nat) y,x.cells[i]?=some y->RA σ G y (u.cells[i]?.getD undef))/\∀ v∈u.cells.toList,v.oneCell'=true:=by
 have key:u.cells.size=x.cells.length/\(∀ (i:Nat) y,x.cells[i]?=some y->RA σ G y (u.cells[i]?.getD undef)):=by
  have one:∀ {x:AV} {u:Value},RA σ G x u->u.cells=#[u]->x.cells=[x]->u.cells.size=x.cells.length/\(∀ (i:Nat) y,x.cells[i]?=some y->RA σ G y (u.cells[i]?.getD undef)):=by
   intro x u hx h1 h2;rw[h1,h2];refine⟨rfl,fun i y hy=>?_⟩;cases i with
   | zero=>cases hy;exact hx
   | succ i=>simp at hy
  cases hx with
  | d h=>
   cases h with
   | v x=>
    cases u<;>first|exact one (.d (.v _)) rfl rfl|skip
    rename_i us;refine⟨by simp[AV.cells,Value.cells],fun i y hy=>?_⟩;simp only[AV.cells,List.getElem?_map,Array.getElem?_toList]at hy;cases hq:us[i]? with
    | none=>rw[hq]at hy;cases hy
    | some z=>rw[hq]at hy;cases hy;simp only[Value.cells,hq];exact .d (.v _)
   | agg l vs hl H=>exact⟨by simpa[AV.cells,Value.cells] using hl,RA.ofD H⟩
   | tup l vs hl H=>exact one (.d (.tup l vs hl H)) rfl rfl
   | fz s L p c b o cs ty fr hcc hs hp H=>exact one (.d (.fz s L p c b o cs ty fr hcc hs hp H)) rfl rfl
   | fp s L i j b o cs ty fr hi hs hp H=>exact one (.d (.fp s L i j b o cs ty fr hi hs hp H)) rfl rfl
   | fn f a c us cs ha hcc HA HC=>exact one (.d (.fn f a c us cs ha hcc HA HC)) rfl rfl
  | any u=>simp[AV.cells,AV.cell]at hc
  | ptr h=>exact one (.ptr h) rfl rfl
  | sl h hn=>exact one (.sl h hn) rfl rfl
  | mp h=>exact one (.mp h) rfl rfl
  | bs h=>exact one (.bs h) rfl rfl
  | agg l vs h H=>exact⟨h,H⟩
  | tup l vs h H=>exact one (.tup l vs h H) rfl rfl
  | fn f a c us cs ha hcc HA HC=>exact one (.fn f a c us cs ha hcc HA HC) rfl rfl
 refine⟨key.1,key.2,fun v hv=>?_⟩;obtain⟨i,hi,rfl⟩:=List.getElem_of_mem hv;have jS:i<x.cells.length:=by rw[<-key.1];simpa using hi
 have h1:=key.2 i _ (List.getElem?_eq_getElem jS);have h2:x.cells[i].cell=true:=List.all_eq_true.1 hc _ (List.getElem_mem jS);have h3:=h1.cell h2;have h4:i<u.cells.size:=by simpa using hi
 simpa[h4] using h3
theorem qB(w:World) (o:Obj):Below w.heap.size w (w.alloc o):=(Below.refl _ _).alloc (Nat.le_refl _) _
theorem f7(σ:Sg) (r:Nat) (o:Own):ll σ r o r=some o:=by unfold ll;rw[if_pos rfl]
def qC(s:AS) (own:Bool) (t:TypeId) (l:List AV) (k:AV->AS->Prop):Prop:=
 l.all AV.cell=true/\match (if own then none else allD l) with
 | some ds=>k (.d (.fp ds.length [ds] 0 0)) s
 | none=>k (.ptr s.nx 0 0) (s.add (.box t l))
theorem EW{K:Cx} {σ:Sg} {G:Gh} {s:AS} {a:Act} {w:World} {own:Bool} {t:TypeId} {l:List AV} {cs:Array Value} {k:AV->AS->Prop} (hs:Sat K σ G s a w) (h:qC s own t l k) (hl:cs.size=l.length) (H:∀ (i:Nat) y,l[i]?=some y->RA σ G y (cs[i]?.getD undef)) :
  ∃ σ' G' s' y,Sat K σ' G' s' a (w.alloc (.cells cs t))/\RA σ' G' y (.pointer (some ⟨w.heap.size,0,none⟩))/\k y s':=by
 obtain⟨hc,h⟩:=h;split at h
 ·rename_i ds e
  have e':allD l=some ds:=by
   split at e
   ·cases e
   ·exact e
  have Ap:=allD_eq e';obtain⟨h1,h2⟩:=hs.freeze (qB w (.cells cs t)) (Nat.le_refl _) (aA w (.cells cs t))
  have QL:RD (fun k=>if k=w.heap.size then some (Obj.cells cs t) else G k) (D.fp ds.length [ds] 0 0) (Value.pointer (some ⟨w.heap.size,0+0 * ds.length+0,none⟩)):=by
   refine .fp ds.length [ds] 0 0 w.heap.size 0 cs t (0,0) (by simp) ?_ ⟨if_pos rfl,by simp[hl,Ap]⟩ ?_
   ·intro r hr;simp only[List.mem_singleton]at hr;subst hr;refine⟨rfl,fun x hx=>?_⟩;have:=List.all_eq_true.1 hc (.d x) (by rw[Ap];exact List.mem_map.2 ⟨x,hx,rfl⟩);exact this
   ·intro i j r x h3 h4;cases i with
    | zero=>
     simp only[List.getElem?_cons_zero,Option.some.injEq]at h3;subst h3;have:=(H j (.d x) (by rw[Ap];simp[h4])).un.mono h2.g;simpa using this
    | succ i=>simp at h3
  exact⟨_,_,s,_,h1,.d (by simpa using QL),h⟩
 ·refine⟨_,_,_,_,hs.addNew (o:=⟨w.heap.size,1,l.length,false⟩) (k:=.box t l) (fun _=>Nat.le_refl _) (qB _ _) ⟨rfl,rfl,fun x hx=>List.all_eq_true.1 hc x hx,cs,aA _ _,hl,fun j x hx=>(H j x hx).mono (wM (hs.next _ (Nat.le_refl _)))⟩,?_,h⟩;have:RA (ll σ s.nx ⟨w.heap.size,1,l.length,false⟩) G (.ptr s.nx 0 0) (.pointer (some ⟨w.heap.size,0 * l.length+0,none⟩)):=.ptr (f7 _ _ _);simpa using this
theorem kQ(b:Nat) (ty:TypeId) (fr:Nat × Nat):∀ (vs:List Value) (o:Nat) (w:World) (cs:Array Value),w.heap[b]?=some (.cells cs ty fr)->o+vs.length<=cs.size →
  ∃ cs',(w.setCells b o vs).heap[b]?=some (.cells cs' ty fr)/\cs'.size=cs.size/\∀ k,cs'[k]?.getD undef=if o<=k/\k<o+vs.length then vs[k - o]?.getD undef else cs[k]?.getD undef
 | [],o,w,cs,h,_=>⟨cs,h,rfl,fun k=>by rw[if_neg (by simp only[List.length_nil];omega)]⟩
 | v :: r,o,w,cs,h,hl=>by
  simp only[List.length_cons]at hl;obtain⟨cs',h1,h2,h3⟩:=kQ b ty fr r (o+1) (w.setCell ⟨b,o,none⟩ v) (cs.setIfInBounds o v) (bn h o v) (by simp;omega);refine⟨cs',h1,by simpa using h2,fun k=>?_⟩;rw[h3 k];simp only[List.length_cons];by_cases e:k=o
  ·subst e;rw[if_neg (by omega),if_pos (by omega)];have:k<cs.size:=by omega
   simp[this]
  ·by_cases e2:o+1<=k/\k<o+1+r.length
   ·rw[if_pos e2,if_pos (by omega)];have:k - o=(k - (o+1))+1:=by omega
    rw[this];simp
   ·rw[if_neg e2,if_neg (by omega),Array.getElem?_setIfInBounds_ne (Ne.symm e)]
def nL{α:Type} (l:List α) (j:Nat) (m:List α):List α:=l.take j++m++l.drop (j+m.length)
theorem lX{α:Type} {l m:List α} {j:Nat} (h:j+m.length<=l.length):(nL l j m).length=l.length:=by simp[nL];omega
theorem vD{α:Type} {l m:List α} {j:Nat} (h:j+m.length<=l.length) (k:Nat):(nL l j m)[k]?=if j<=k/\k<j+m.length then m[k - j]? else l[k]?:=by
 unfold nL;by_cases h1:k<j
 ·rw[if_neg (by omega),List.append_assoc,List.getElem?_append_left (by simp;omega),List.getElem?_take,if_pos h1]
 ·by_cases h2:k<j+m.length
  ·rw[if_pos (by omega),List.getElem?_append_left (by simp;omega),List.getElem?_append_right (by simp;omega)];congr 1;simp;omega
  ·rw[if_neg (by omega),List.getElem?_append_right (by simp;omega),List.getElem?_drop];congr 1;simp;omega
theorem BK{α:Type} {l m:List α} {j:Nat} {x:α} (h:x∈nL l j m):x∈l\/x∈m:=by
 simp only[nL,List.mem_append]at h;rcases h with (h|h)|h
 ·exact .inl (List.mem_of_mem_take h)
 ·exact .inr h
 ·exact .inl (List.mem_of_mem_drop h)
def nM(P:Program) (s:AS) (t:TypeId) (x v:AV) (k:AS->Prop):Prop:=
 (ai P t).ok=true/\v.cells.length=(ai P t).n/\v.cells.all AV.cell=true ∧
 match x with
 | .ptr r i j=>
  match s.blk r with
  | some (.row ty st L)=>V (i<L.length)/\V (j+v.cells.length<=st)/\(match allD v.cells with|some ds=>k (s.set r (some (.row ty st (L.set i (nL (ix L i) j ds)))))|none=>False)
  | some (.box ty l)=>i=0/\V (j+v.cells.length<=l.length)/\k (s.set r (some (.box ty (nL l j v.cells))))
  | _=>False
 | _=>False
theorem oF{P:Program} {w:World} {b o:Nat} {t:TypeId} {v:Value} {cs:Array Value} {ty:TypeId} (bO:(ai P t).ok=true) (hn:v.cells.size=(ai P t).n) (hw:w.heap[b]?=some (.cells cs ty (0,0)))
  (hl:o+v.cells.size<=cs.size) (h1:∀ u∈v.cells.toList,u.oneCell'=true):(Instr.storeAt t (.pointer (some ⟨b,o,none⟩)) v).run P w=.ok () (w.setCells b o v.cells.toList):=by
 have h2:=run_storeCells_cells (P:=P) b o v.cells.toList 0 w (fun j hj=>by rw[ae hw];simp at hj;simp;omega) (fun j _=>bf hw _) h1;simp only[Nat.add_zero]at h2;simp only[Instr.storeAt,Instr.sureAddr,storeVar,Sem.run_bind,Sem.run_pure,Result.andThen_ok,iZ bO,hn,ne_eq,not_true_eq_false,if_false,h2]
theorem sg(w:World) (b o:Nat) (vs:List Value):w.grownBy (w.setCells b o vs) (some b):=by
 obtain⟨h1,h2,h3,h4,h5⟩:=fe b vs o w;exact⟨h2,h3,h4,by omega,fun k _ hk=>h1 k (fun e=>hk (by rw[e]))⟩
theorem I4{i i' s j j':Nat} (hj:j<s) (jA:j'<s) (h:i≠i'):i * s+j≠i' * s+j':=by
 intro e;rcases Nat.lt_or_gt_of_ne h with h|h
 ·have:=Nat.mul_le_mul_right s h;rw[Nat.succ_mul]at this;omega
 ·have:=Nat.mul_le_mul_right s h;rw[Nat.succ_mul]at this;omega
theorem I5{K:Cx} {σ:Sg} {G:Gh} {s:AS} {a:Act} {w:World} {t:TypeId} {x v:AV} {u uv:Value} {k:AS->Prop} (hs:Sat K σ G s a w) (hx:RA σ G x u) (hv:RA σ G v uv) (h:nM K.P s t x v k) :
  ∃ w' s',(Instr.storeAt t u uv).run K.P w=.ok () w'/\Sat K σ G s' a w'/\k s':=by
 obtain⟨bO,hn,hc,h⟩:=h;obtain⟨c1,c2,c3⟩:=qA hv hc;split at h
 ·rename_i r i j;cases hx with
  | ptr ho=>
   rename_i o;split at h
   ·rename_i ty st L hb;obtain⟨hi,hj,h⟩:=h
    replace hi:=V.o hi
    replace hj:=V.o hj
    split at h
    ·rename_i ds oN;obtain⟨o',h1,⟨h2,h3,h4,h5,h8,h6⟩,h7⟩:=hs.own _ _ hb;rw[ho]at h1;cases h1;have bE:o.nil=false:=by cases e:o.nil<;>simp_all
     obtain⟨cs,g1,g2,g3⟩:=h6 bE;have im:=Nat.mul_le_mul_right st h5;have ve:ds.length=v.cells.length:=by rw[allD_eq oN];simp
     have iB:i * o.s+j+uv.cells.size<=cs.size:=by
      have:i * st+st<=L.length * st:=by rw[<-Nat.succ_mul];exact Nat.mul_le_mul_right _ hi
      rw[h2,g2,c1];omega
     obtain⟨r1,r2⟩:=h4.ix hi;have hfitL:j+ds.length<=(ix L i).length:=by omega
     obtain⟨cs',q1,q2,q3⟩:=kQ o.b ty (0,0) uv.cells.toList (i * o.s+j) w cs g1 (by simpa using iB);refine⟨_,_,oF bO (by rw[c1,hn]) g1 iB c3,hs.change hb ho (by rw[bE];exact sg _ _ _ _) ?_,h⟩;rintro k' kA;cases kA;refine⟨h2,h3,?_,by simpa using h5,fun e=>(by rw[bE]at e;cases e),fun _=>⟨cs',q1,by rw[q2,g2],?_⟩⟩
     ·intro row hrow;rcases List.mem_or_eq_of_mem_set hrow with hrow|rfl
      ·exact h4 _ hrow
      ·refine⟨by rw[lX hfitL,r1],fun x hx=>?_⟩;rcases BK hx with hx|hx
       ·exact r2 x hx
       ·have:=List.all_eq_true.1 hc (.d x) (by rw[allD_eq oN];exact List.mem_map.2 ⟨x,hx,rfl⟩);exact this
     ·intro i' j' row x e1 e2;rw[q3];simp only[Array.length_toList];by_cases e:i'=i
      ·subst e;rw[List.getElem?_set_self hi]at e1;cases e1;rw[vD hfitL]at e2;split at e2
       ·rename_i hr;rw[if_pos (by rw[h2,c1];omega)];have:=c2 (j' - j) (.d x) (by rw[allD_eq oN];simp[e2]);rw[show i' * st+j' - (i' * o.s+j)=j' - j by rw[h2];omega];simpa using this.un
       ·rename_i hr;rw[if_neg (by rw[h2,c1];omega)];exact g3 _ _ _ _ (mW hi) e2
      ·rw[List.getElem?_set_ne (Ne.symm e)]at e1;have jA:j'<st:=by rw[<-(h4 _ (List.mem_of_getElem? e1)).1];exact(List.getElem?_eq_some_iff.1 e2).1
       have aV:=fun m (hm:m<st)=>I4 (i:=i') (i':=i) jA hm e
       rw[if_neg (fun hh=>aV (i' * st+j' - i * st) (by rw[h2,c1]at hh;omega) (by rw[h2,c1]at hh;omega))];exact g3 _ _ _ _ e1 e2
    ·exact h.elim
   ·rename_i ty l hb;obtain⟨rfl,hj,h⟩:=h
    replace hj:=V.o hj
    obtain⟨o',h1,⟨h2,h3,h4,cs,g1,g2,g3⟩,h7⟩:=hs.own _ _ hb;rw[ho]at h1;cases h1;have iB:0 * o.s+j+uv.cells.size<=cs.size:=by rw[c1];omega
    obtain⟨cs',q1,q2,q3⟩:=kQ o.b ty (0,0) uv.cells.toList (0 * o.s+j) w cs g1 (by simpa using iB);refine⟨_,_,oF bO (by rw[c1,hn]) g1 iB c3,hs.change hb ho (by rw[h3];exact sg _ _ _ _) ?_,h⟩;rintro k' kA;cases kA;refine⟨by rw[lX hj];exact h2,h3,fun x hx=>?_,cs',q1,by rw[q2,g2,lX hj],?_⟩
    ·rcases BK hx with hx|hx
     ·exact h4 x hx
     ·exact List.all_eq_true.1 hc x hx
    ·intro m x e1;rw[q3];simp only[Array.length_toList,Nat.zero_mul,Nat.zero_add];rw[vD hj]at e1;split at e1
     ·rename_i hr;rw[if_pos (by omega)];have:=c2 _ _ e1;simpa using this
     ·rename_i hr;rw[if_neg (by omega)];exact g3 _ _ e1
   ·exact h.elim
 ·exact h.elim
theorem L8(off:Nat) (vs:List Value):∀ (j0:Nat) (cells:Array Value),off+j0+vs.length<=cells.size →
  let r:=(vs.zipIdx j0).foldl (fun cs (p:Value × Nat)=>cs.setIfInBounds (off+p.2) p.1) cells
  r.size=cells.size/\∀ k,r[k]?.getD undef=if off+j0<=k/\k<off+j0+vs.length then vs[k - (off+j0)]?.getD undef else cells[k]?.getD undef:=by
 induction vs with
 | nil=>intro j0 cells h;exact⟨rfl,fun k=>by rw[if_neg (by simp only[List.length_nil];omega)];rfl⟩
 | cons v vs ih=>
  intro j0 cells h;simp only[List.length_cons]at h;have:=ih (j0+1) (cells.setIfInBounds (off+j0) v) (by simp;omega);simp only[List.zipIdx_cons,List.foldl_cons];refine⟨by rw[this.1];simp,fun k=>?_⟩;rw[this.2 k];simp only[List.length_cons];by_cases e:k=off+j0
  ·subst e;rw[if_neg (by omega),if_pos (by omega)];have:off+j0<cells.size:=by omega
   simp[this]
  ·by_cases e2:off+(j0+1)<=k/\k<off+(j0+1)+vs.length
   ·rw[if_pos e2,if_pos (by omega)];have:k - (off+j0)=(k - (off+(j0+1)))+1:=by omega
    rw[this];simp
   ·rw[if_neg e2,if_neg (by omega),Array.getElem?_setIfInBounds_ne (Ne.symm e)]
theorem BL(off:Nat) (us cells:Array Value) (h:off+us.size<=cells.size) :
  let r:=us.zipIdx.foldl (fun cs (p:Value × Nat)=>cs.setIfInBounds (off+p.2) p.1) cells
  r.size=cells.size/\∀ k,r[k]?.getD undef=if off<=k/\k<off+us.size then us[k - off]?.getD undef else cells[k]?.getD undef:=by
 have:=L8 off us.toList 0 cells (by simpa using h);simp only[Nat.add_zero,Array.length_toList]at this;rw[<-Array.foldl_toList];simpa using this
def qD(place:Nat->Option (Nat × Nat)):List (Nat × AV)->List AV->(List AV->Prop)->Prop
 | [],l,k=>k l
 | (i,x) :: r,l,k=>
  match place i with
  | some (off,n)=>x.cells.all AV.cell=true/\x.cells.length=n/\off+n<=l.length/\qD place r (nL l off x.cells) k
  | none=>False
theorem BM{σ:Sg} {G:Gh} {place:Nat->Option (Nat × Nat)}:∀ (ps:List (Nat × AV)) (us:List (Nat × Value)) (l:List AV) (cells:Array Value) (k:List AV->Prop),
  us.length=ps.length->(∀ (i:Nat) p u,ps[i]?=some p->us[i]?=some u->p.1=u.1/\RA σ G p.2 u.2)->cells.size=l.length->(∀ (j:Nat) y,l[j]?=some y->RA σ G y (cells[j]?.getD undef))->qD place ps l k →
  ∃ cells' l',Instr.fill place cells us=some cells'/\k l'/\cells'.size=l'.length/\(∀ (j:Nat) y,l'[j]?=some y->RA σ G y (cells'[j]?.getD undef))
 | [],us,l,cells,k,hl,hu,bA,hc,h=>by
  have:us=[]:=List.eq_nil_of_length_eq_zero hl;subst this;exact⟨cells,l,rfl,h,bA,hc⟩
 | (i,x) :: r,us,l,cells,k,hl,hu,bA,hc,h=>by
  cases us with
  | nil=>simp at hl
  | cons p us=>
   obtain⟨i',u⟩:=p;obtain⟨he,hx⟩:=hu 0 (i,x) (i',u) rfl rfl;dsimp only at he hx;subst he;unfold qD at h;split at h
   ·rename_i off n hp;obtain⟨h1,h2,h3,h4⟩:=h;obtain⟨c1,c2,c3⟩:=qA hx h1;obtain⟨q1,q2⟩:=BL off u.cells cells (by omega)
    obtain⟨cells',l',e1,e2⟩:=BM r us (nL l off x.cells) _ k (by simpa using hl) (fun m p u a b=>hu (m+1) p u a b) (by rw[q1,lX (by omega)];exact bA) (fun j y hy=>by
     rw[q2];rw[vD (by omega)]at hy;split at hy
     ·rw[if_pos (by omega)];exact c2 _ _ hy
     ·rw[if_neg (by omega)];exact hc _ _ hy) h4
    refine⟨cells',l',?_,e2⟩;unfold Instr.fill;simp only[hp];rw[if_neg (by simp;omega)];exact e1
   ·exact h.elim
def kR(P:Program) (t:TypeId) (ps:List (Nat × AV)) (k:AV->Prop):Prop:=
 match (ai P t).z with
 | some z=>((ai P t).fs.all fun f=>(ai P f.2).ok)=true/\((ai P t).k=1\/(ai P t).k=2/\(ai P (ai P t).el).ok=true) ∧
  qD (if (ai P t).k=1 then fun i=>(ai P t).fs[i]?.map fun f=>(f.1,(ai P f.2).n) else fun i=>some (i * (ai P (ai P t).el).n,(ai P (ai P t).el).n)) ps (z.map fun x=>.d (.v x)) fun l=>k (mkAgg l)
 | none=>False
theorem O7{α β:Type} {P:Program} {w:World} (f:α->Sem β) (g:α->β) (l:List α) (h:∀ x∈l,(f x).run P w=.ok (g x) w):(l.mapM f).run P w=.ok (l.map g) w:=by
 induction l with
 | nil=>simp[go_sem]
 | cons x l ih=>
  have h1:=h x (by simp);have h2:=ih (fun y hy=>h y (by simp[hy]));simp[List.mapM_cons,h1,h2,go_sem]
theorem I6{P:Program} {σ:Sg} {G:Gh} {w:World} {t:TypeId} {ps:List (Nat × AV)} {us:Array (Nat × Value)} {k:AV->Prop} (hl:us.size=ps.length) (hu:∀ (i:Nat) p u,ps[i]?=some p->us[i]?=some u->p.1=u.1/\RA σ G p.2 u.2)
  (h:kR P t ps k):∃ v y,(Instr.build t us).run P w=.ok v w/\RA σ G y v/\k y:=by
 unfold kR at h;split at h
 ·rename_i z hz;obtain⟨hf,hk,h⟩:=h;obtain⟨ii,d,h1,h2,h3⟩:=dW (P:=P) (t:=t) (by rcases hk with hk|hk<;>(intro e;rw[e]at hk;simp at hk))
  obtain⟨zv,z1,z2⟩:∃ zv,ii.zero=some zv/\zv.cells.toList=z:=by
   rw[h3]at hz;simp only[cQ]at hz;cases e:ii.zero with
   | none=>rw[e]at hz;cases hz
   | some zv=>rw[e]at hz;cases hz;exact⟨zv,rfl,rfl⟩
  have xB:(zeroValue t).run P w=.ok zv w:=by simp[zeroValue,typeInfo,h1,z1,go_sem]
  obtain⟨cells',l',e1,e2,e3,e4⟩:=BM (σ:=σ) (G:=G) ps us.toList _ zv.cells _ (by simpa using hl) (fun i p u a b=>hu i p u a (by simpa using b)) (by rw[<-z2];simp) (fun j y hy=>by
   rw[<-z2]at hy;simp only[List.getElem?_map,Array.getElem?_toList]at hy;cases hq:zv.cells[j]? with
   | none=>rw[hq]at hy;cases hy
   | some x=>rw[hq]at hy;cases hy;exact .d (.v _)) h
  refine⟨.agg cells',mkAgg l',?_,RA.mkAgg e3 e4,e2⟩;rcases hk with hk|⟨hk,eW⟩
  ·rw[if_pos hk]at e1;rw[h3]at hk hf e1;cases d<;>simp only[cQ]at hk<;>first|(cases hk;done)|skip
   rename_i fs;simp only[cQ]at hf e1
   have hm:(fs.mapM fun (f:Field)=>do pure (f.offset,<-sizeOf f.type):Sem (Array (Nat × Nat))).run P w=.ok (fs.map fun f=>(f.offset,(ai P f.type).n)) w:=by
    have:=O7 (P:=P) (w:=w) (fun f:Field=>(do pure (f.offset,<-sizeOf f.type):Sem (Nat × Nat))) (fun f=>(f.offset,(ai P f.type).n)) fs.toList (fun f hf'=>by
     have:=List.all_eq_true.1 hf (f.offset,f.type) (List.mem_map.2 ⟨f,hf',rfl⟩)
     simp only[Sem.run_bind,iZ this,Result.andThen_ok,Sem.run_pure])
    rw[Array.mapM_eq_mapM_toList]
    show Sem.run P (List.mapM (fun f:Field=>(do pure (f.offset,<-sizeOf f.type):Sem (Nat × Nat))) fs.toList >>= fun l=>pure l.toArray) w=_
    rw[Sem.run_bind,this];simp[go_sem];apply Array.ext';simp
   have hfill:Instr.fill (fun x=>(fs.map fun f=>(f.offset,(ai P f.type).n))[x]?) zv.cells us.toList=some cells':=by
    rw[<-e1];congr 1
    funext i
    simp[List.getElem?_map];cases fs[i]?<;>rfl
   simp only[Instr.build,Sem.run_bind,xB,Result.andThen_ok,run_underlying h2,hm];rw[hfill];rfl
  ·rw[if_neg (by rw[hk];decide)]at e1;have hel':=iZ eW w;rw[h3]at hk;cases d<;>simp only[cQ]at hk<;>first|(cases hk;done)|skip
   rename_i n e;have e5:(ai P t).el=e:=by rw[h3];rfl
   rw[e5]at e1 hel';simp only[Instr.build,Sem.run_bind,xB,Result.andThen_ok,run_underlying h2,hel'];rw[e1];rfl
 ·exact h.elim
def BN(G:Gh) (n:Nat) (L:List (List D)) (cs:Array Value):Prop:=cs.size=L.length * n/\cP n L/\∀ (i j:Nat) r x,L[i]?=some r->r[j]?=some x->RD G x (cs[i * n+j]?.getD undef)
def pg(n:Nat):List (Nat × AV)->List (List D)->(List (List D)->Prop)->Prop
 | [],L,k=>k L
 | (i,x) :: r,L,k=>x.cells.all AV.cell=true/\x.cells.length=n/\i<L.length/\match allD x.cells with|some ds=>pg n r (L.set i ds) k|none=>False
theorem EY{σ:Sg} {G:Gh} {n:Nat}:∀ (ps:List (Nat × AV)) (us:List (Nat × Value)) (L:List (List D)) (cells:Array Value) (k:List (List D)->Prop),
  us.length=ps.length->(∀ (i:Nat) p u,ps[i]?=some p->us[i]?=some u->p.1=u.1/\RA σ G p.2 u.2)->BN G n L cells->pg n ps L k →
  ∃ cells' L',Instr.fill (fun i=>some (i * n,n)) cells us=some cells'/\k L'/\BN G n L' cells'/\L'.length=L.length
 | [],us,L,cells,k,hl,hu,hf,h=>by
  have:us=[]:=List.eq_nil_of_length_eq_zero hl;subst this;exact⟨cells,L,rfl,h,hf,rfl⟩
 | (i,x) :: r,us,L,cells,k,hl,hu,hf,h=>by
  cases us with
  | nil=>simp at hl
  | cons p us=>
   obtain⟨i',u⟩:=p;obtain⟨he,hx⟩:=hu 0 (i,x) (i',u) rfl rfl;dsimp only at he hx;subst he;obtain⟨h1,h2,h3,h⟩:=h;obtain⟨f1,f2,f3⟩:=hf;split at h
   ·rename_i ds oN;obtain⟨c1,c2,c3⟩:=qA hx h1;have im:i * n+n<=L.length * n:=by rw[<-Nat.succ_mul];exact Nat.mul_le_mul_right _ h3
    obtain⟨q1,q2⟩:=BL (i * n) u.cells cells (by omega);have ve:ds.length=x.cells.length:=by rw[allD_eq oN];simp
    obtain⟨cells',L',e1,e2,e3,e4⟩:=EY r us (L.set i ds) _ k (by simpa using hl) (fun m p u a b=>hu (m+1) p u a b) (by
     refine⟨by rw[q1,f1];simp,fun row hrow=>?_,fun i' j' row y a b=>?_⟩
     ·rcases List.mem_or_eq_of_mem_set hrow with hrow|rfl
      ·exact f2 _ hrow
      ·exact⟨by omega,fun y hy=>by
        have:=List.all_eq_true.1 h1 (.d y) (by rw[allD_eq oN];exact List.mem_map.2 ⟨y,hy,rfl⟩)
        exact this⟩
     ·rw[q2];by_cases e:i'=i
      ·subst e;rw[List.getElem?_set_self h3]at a;cases a;have hj:=(List.getElem?_eq_some_iff.1 b).1;rw[if_pos (by omega)];have:=c2 j' (.d y) (by rw[allD_eq oN];simp[b]);rw[show i' * n+j' - i' * n=j' by omega];exact this.un
      ·rw[List.getElem?_set_ne (Ne.symm e)]at a;have jA:j'<n:=by rw[<-(f2 _ (List.mem_of_getElem? a)).1];exact(List.getElem?_eq_some_iff.1 b).1
       have aV:=fun m (hm:m<n)=>I4 (i:=i') (i':=i) jA hm e
       rw[if_neg (fun hh=>aV (i' * n+j' - i * n) (by omega) (by omega))]
       exact f3 _ _ _ _ a b) h
    refine⟨cells',L',?_,e2,e3,by rw[e4];simp⟩;unfold Instr.fill;dsimp only;rw[if_neg (by simp;omega)];exact e1
   ·exact h.elim
theorem zq(G:Gh) {z:List Value} {n m:Nat} (hz:z.length=n) (hc:z.all Value.oneCell'=true):BN G n (List.replicate m (z.map D.v)) ((Array.range (m * n)).map (z.toArray[· % z.toArray.size]!)):=by
 refine⟨by simp,fun r hr=>?_,fun i j r x h1 h2=>?_⟩
 ·rw[List.eq_of_mem_replicate hr]
  exact⟨by simpa using hz,fun x hx=>by
   obtain⟨v,hv,rfl⟩:=List.mem_map.1 hx
   exact List.all_eq_true.1 hc v hv⟩
 ·have him:i<m:=by have:=(List.getElem?_eq_some_iff.1 h1).1;simpa using this
  rw[List.getElem?_replicate,if_pos him]at h1;cases h1;rw[List.getElem?_map]at h2;cases hq:z[j]? with
  | none=>rw[hq]at h2;cases h2
  | some v=>
   rw[hq]at h2;cases h2;have hj:=(List.getElem?_eq_some_iff.1 hq).1
   have aG:i * n+j<m * n:=by
    have:=Nat.mul_le_mul_right n him;rw[Nat.succ_mul]at this;omega
   have hmod:(i * n+j) % n=j:=by rw[Nat.mul_comm,Nat.mul_add_mod];exact Nat.mod_eq_of_lt (by omega)
   have e:z.toArray[(i * n+j) % z.toArray.size]! = v:=by
    simp only[List.size_toArray,hz,hmod];have:j<z.length:=hj;simp[hj]at hq;simp[hq,hj]
   simp only[Array.getElem?_map,Array.getElem?_range,aG,if_true,Option.map_some,Option.getD_some,e];exact .v _
def nk(P:Program) (s:AS) (own:Bool) (t:TypeId) (len:Nat) (ps:List (Nat × AV)) (k:AV->AS->Prop):Prop:=
 match (ai P (ai P t).el).z with
 | some z=>(ai P t).k=3/\(ai P (ai P t).el).n≠0/\z.length=(ai P (ai P t).el).n/\z.all Value.oneCell'=true/\len * (ai P (ai P t).el).n<=2 ^ 24 ∧
  pg (ai P (ai P t).el).n ps (List.replicate len (z.map D.v)) fun L=>if own then k (.sl s.nx len) (s.add (.row (ai P t).el (ai P (ai P t).el).n L)) else k (.d (.fz (ai P (ai P t).el).n L)) s
 | none=>False
theorem BO{K:Cx} {σ:Sg} {G:Gh} {s:AS} {a:Act} {w:World} {n:Nat} {L:List (List D)} {cs:Array Value} {ty:TypeId} (hs:Sat K σ G s a w) (hf:BN G n L cs) (hL:L.length<=140737488355328) :
  ∃ σ',Sat K σ' G (s.add (.row ty n L)) a (w.alloc (.cells cs ty))/\RA σ' G (.sl s.nx L.length) (.slice (some ⟨w.heap.size,0,none⟩) L.length L.length):=by
 obtain⟨f1,f2,f3⟩:=hf;refine⟨_,hs.addNew (o:=⟨w.heap.size,L.length,n,false⟩) (k:=.row ty n L) (fun _=>Nat.le_refl _) (qB _ _) ⟨rfl,by show L.length<=_;omega,f2,Nat.le_refl _,fun h=>(by cases h),fun _=>⟨cs,aA _ _,f1,f3⟩⟩,?_⟩;have:RA (ll σ s.nx ⟨w.heap.size,L.length,n,false⟩) G (.sl s.nx L.length) (.slice (if (⟨w.heap.size,L.length,n,false⟩:Own).nil then none else some ⟨w.heap.size,0,none⟩) L.length L.length):=.sl (f7 _ _ _) (Nat.le_refl _);simpa using this
theorem I7{K:Cx} {σ:Sg} {G:Gh} {s:AS} {a:Act} {w:World} {n:Nat} {L:List (List D)} {cs:Array Value} {ty:TypeId} (hs:Sat K σ G s a w) (hf:BN G n L cs) (hL:L.length<=140737488355328) :
  ∃ G',Sat K σ G' s a (w.alloc (.cells cs ty))/\RA σ G' (.d (.fz n L)) (.slice (some ⟨w.heap.size,0,none⟩) L.length L.length):=by
 obtain⟨f1,f2,f3⟩:=hf;obtain⟨h1,h2⟩:=hs.freeze (qB w (.cells cs ty)) (Nat.le_refl _) (aA w (.cells cs ty));exact⟨_,h1,.d (.fz n L _ _ w.heap.size 0 cs ty (0,0) ⟨Nat.le_refl _,by omega,fun h=>(by cases h),hL⟩ f2 (fun _=>⟨rfl,if_pos rfl,by omega⟩) (fun i j r x e1 e2=>by rw[Nat.zero_add];exact(f3 i j r x e1 e2).mono h2.g))⟩
theorem Gy{K:Cx} {σ:Sg} {G:Gh} {s:AS} {a:Act} {w:World} {own:Bool} {t:TypeId} {len:Nat} {ps:List (Nat × AV)} {us:Array (Nat × Value)} {k:AV->AS->Prop} (hs:Sat K σ G s a w) (hl:us.size=ps.length)
  (hu:∀ (i:Nat) p u,ps[i]?=some p->us[i]?=some u->p.1=u.1/\RA σ G p.2 u.2) (h:nk K.P s own t len ps k) :
  ∃ v w' σ' G' s' y,(Instr.buildSlice t len us).run K.P w=.ok v w'/\Sat K σ' G' s' a w'/\RA σ' G' y v/\k y s':=by
 unfold nk at h;split at h
 ·rename_i z hz;obtain⟨hk,hn,Af,QB,hb,h⟩:=h;obtain⟨ii,d,h1,h2,h3⟩:=dW (by rw[hk];decide);have bO:(ai K.P (ai K.P t).el).ok=true:=yx hn;obtain⟨ie,de,g1,g2,g3⟩:=kq bO;have bA:=iZ bO w
  obtain⟨zv,z1,z2⟩:∃ zv,ie.zero=some zv/\zv.cells.toList=z:=by
   rw[g3]at hz;simp only[cQ]at hz;cases e:ie.zero with
   | none=>rw[e]at hz;cases hz
   | some zv=>rw[e]at hz;cases hz;exact⟨zv,rfl,rfl⟩
  have xB:(zeroValue (ai K.P t).el).run K.P w=.ok zv w:=by simp[zeroValue,typeInfo,g1,z1,go_sem]
  obtain⟨cells',L',e1,e2,e3,e4⟩:=EY (σ:=σ) (G:=G) ps us.toList _ _ _ (by simpa using hl) (fun i p u a b=>hu i p u a (by simpa using b)) (zq G (m:=len) Af QB) h;have uZ:zv.cells=z.toArray:=by rw[<-z2]
  have bi:L'.length=len:=by rw[e4];simp
  have hbound:L'.length<=140737488355328:=by
   have:len * 1<=len * (ai K.P (ai K.P t).el).n:=Nat.mul_le_mul_left _ (by omega);omega
  have gc:(Instr.buildSlice t len us).run K.P w=.ok (.slice (some ⟨w.heap.size,0,none⟩) len len) (w.alloc (.cells cells' (ai K.P t).el)):=by
   have bV:=hk;rw[h3]at bV;cases d<;>simp only[cQ]at bV<;>first|(cases bV;done)|skip
   rename_i e;have e5:(ai K.P t).el=e:=by rw[h3];rfl
   rw[e5]at bA xB hb hn e1 ⊢;have u5:¬ (len * (ai K.P e).n > 2 ^ 24):=by omega
   simp only[Instr.buildSlice,Sem.run_bind,run_underlying h2,Result.andThen_ok,bA,if_neg u5];by_cases e0:len * (ai K.P e).n=0
   ·have Oz:len=0:=by
     rcases Nat.mul_eq_zero.1 e0 with h|h
     ·exact h
     ·exact(hn h).elim
    subst Oz;simp only[Nat.zero_mul,if_true,Sem.run_pure,Result.andThen_ok,Sem.run_bind]at e1 ⊢;have e6:(Array.map (fun x=>z.toArray[x % z.toArray.size]!) (Array.range 0))=#[]:=by simp
    rw[e6]at e1;have e7:(Array.map (fun x=>(#[]:Array Value)[x % (#[]:Array Value).size]!) (Array.range 0))=#[]:=by simp
    rw[e7,e1];simp[newRow,go_sem]
   ·rw[if_neg e0];simp only[Sem.run_bind,xB,Result.andThen_ok,Sem.run_pure,uZ];rw[e1];simp[newRow,go_sem]
  split at e2
  ·obtain⟨σ',q1,q2⟩:=BO (ty:=(ai K.P t).el) hs e3 hbound;rw[bi]at q2;exact⟨_,_,σ',G,_,_,gc,q1,q2,e2⟩
  ·obtain⟨G',q1,q2⟩:=I7 (ty:=(ai K.P t).el) hs e3 hbound;rw[bi]at q2;exact⟨_,_,σ,G',_,_,gc,q1,q2,e2⟩
 ·exact h.elim
theorem Sat.adopt{K:Cx} {σ:Sg} {G:Gh} {s:AS} {a:Act} {w:World} (hs:Sat K σ G s a w) {k:Blk} {o:Own} (h1:o.nil=false->K.w0.heap.size<=o.b/\G o.b=none)
  (h2:∀ r' k' o',s.blk r'=some k'->σ r'=some o'->o.nil=false->o'.nil=false->o'.b≠o.b) (hk:iI σ G w o k)
  (bB:∃ C:Nat->Prop,(∀ n,lV σ s n->C n)/\(o.nil=false->C o.b)/\(∀ p∈K.pr,C p.1)/\(∀ n,cH n∈a.defers->C n)/\K.J s.yc w G C):Sat K (ll σ s.nx o) G (s.add k) a w:=by
 have hm:Mo σ G (ll σ s.nx o) G:=wM (hs.next _ (Nat.le_refl _));have kh:∀ r k',r≠s.nx->(s.add k).blk r=some k'->s.blk r=some k':=fun r k' hr h=>by rw[AS.blk_add,if_neg hr]at h;exact h
 have mw:∀ r,r≠s.nx->ll σ s.nx o r=σ r:=fun r hr=>by unfold ll;rw[if_neg hr]
 refine⟨hs.size,fun t=>(hs.slot t).mono hm,fun r k' hr=>?_,fun r r' k1 k2 o1 o2 g1 g2 g3 g4 g5 g6 g7=>?_,fun r hr=>?_,hs.gsub,hs.gold,hs.gnew,hs.gcell,hs.below,hs.marks,hs.pr,?_,hs.js⟩
 ·by_cases e:r=s.nx
  ·subst e;rw[AS.blk_add,if_pos rfl]at hr;cases hr;exact⟨o,f7 _ _ _,hk.mono hm (fun _=>rfl),h1⟩
  ·obtain⟨o',e1,e2,e3⟩:=hs.own _ _ (kh r k' e hr);exact⟨o',by rw[mw r e];exact e1,e2.mono hm (fun _=>rfl),e3⟩
 ·by_cases e1:r=s.nx<;>by_cases e2:r'=s.nx
  ·rw[e1,e2]
  ·subst e1;rw[f7]at g3;cases g3;rw[mw r' e2]at g4;exact(h2 _ _ _ (kh r' k2 e2 g2) g4 g5 g6 g7.symm).elim
  ·subst e2;rw[f7]at g4;cases g4;rw[mw r e1]at g3;exact(h2 _ _ _ (kh r k1 e1 g1) g3 g6 g5 g7).elim
  ·rw[mw r e1]at g3;rw[mw r' e2]at g4;exact hs.inj r r' k1 k2 o1 o2 (kh r k1 e1 g1) (kh r' k2 e2 g2) g3 g4 g5 g6 g7
 ·have:s.nx+1<=r:=hr;rw[mw r (by omega)];exact hs.next r (by omega)
 ·obtain⟨C,c1,c0,c2,c3,c4⟩:=bB;refine⟨C,?_,c2,c3,c4⟩;rintro n ⟨r,b,o',e1,e2,e3,rfl⟩;by_cases e:r=s.nx
  ·subst e;rw[f7]at e2;cases e2;exact c0 e3
  ·exact c1 _ ⟨r,b,o',kh r b e e1,by rw[<-mw r e];exact e2,e3,rfl⟩
def AS.re(s:AS) (t:Nat) (x:AV):AS:={ s with F:=(t,x) :: s.F }
theorem Sat.re{K:Cx} {σ:Sg} {G:Gh} {s:AS} {a:Act} {w:World} (hs:Sat K σ G s a w) {t:Nat} {x:AV} (hx:RA σ G x ((a.tmps++K.fr)[t]?.getD undef)):Sat K σ G (s.re t x) a w:=by
 refine⟨hs.size,fun t'=>?_,hs.own,hs.inj,hs.next,hs.gsub,hs.gold,hs.gnew,hs.gcell,hs.below,hs.marks,hs.pr,hs.inv,hs.js⟩;simp only[AS.re,AS.get,lk];split
 ·rename_i e;subst e;exact hx
 ·exact hs.slot t'
theorem Sat.nilRow{K:Cx} {σ:Sg} {G:Gh} {s:AS} {a:Act} {w:World} (hs:Sat K σ G s a w) (ty st:Nat) :
  ∃ σ',Sat K σ' G (s.add (.row ty st [])) a w/\Mo σ G σ' G/\RA σ' G (.sl s.nx 0) (.slice none 0 0):=by
 refine⟨_,hs.adopt (o:=⟨0,0,st,true⟩) (k:=.row ty st []) (fun h=>by cases h) (fun _ _ _ _ _ h=>by cases h) ⟨rfl,Nat.zero_le _,(fun _ h=>by cases h),Nat.le_refl _,fun _=>rfl,fun h=>(by cases h)⟩ (let ⟨C,c1,c2,c3,c4⟩:=hs.inv;⟨C,c1,fun h=>(by cases h),c2,c3,c4⟩),wM (hs.next _ (Nat.le_refl _)),?_⟩;have:RA (ll σ s.nx ⟨0,0,st,true⟩) G (.sl s.nx 0) (.slice (if (⟨0,0,st,true⟩:Own).nil then none else some ⟨0,0,none⟩) 0 0):=.sl (f7 _ _ _) (Nat.le_refl _);simpa using this
def wN(P:Program) (s:AS) (t:TypeId) (l c:AV) (k:AV->AS->Prop):Prop:=
 match l.conc,c.conc,(ai P (ai P t).el).z with
 | some (.int _ n),some (.int _ m),some z=>(ai P t).k=3/\(ai P (ai P t).el).n≠0/\z.length=(ai P (ai P t).el).n/\z.all Value.oneCell'=true/\V (0<=n/\n=m/\n<=1099511627776)/\(ai P (ai P t).el).bytes<=256 ∧
  k (.sl s.nx n.toNat) (s.add (.row (ai P t).el (ai P (ai P t).el).n (List.replicate n.toNat (z.map D.v))))
 | _,_,_=>False
theorem L9{K:Cx} {σ:Sg} {G:Gh} {s:AS} {a:Act} {w:World} {t:TypeId} {l c:AV} {ul uc:Value} {k:AV->AS->Prop} (hs:Sat K σ G s a w) (hl:RA σ G l ul) (hc:RA σ G c uc) (h:wN K.P s t l c k) :
  ∃ v w' σ' G' s' y,(Instr.makeSlice t ul uc).run K.P w=.ok v w'/\Sat K σ' G' s' a w'/\RA σ' G' y v/\k y s':=by
 unfold wN at h;split at h
 ·rename_i k1 n k2 m z e1 e2 hz;rw[jr hl e1,jr hc e2];obtain⟨hk,hn,Af,QB,hb,b4,h⟩:=h;obtain⟨b1,b2,b3⟩:=V.o hb;subst b2;obtain⟨ii,d,h1,h2,h3⟩:=dW (by rw[hk];decide);have bO:=yx hn;obtain⟨ie,de,g1,g2,g3⟩:=kq bO
  obtain⟨zv,z1,z2⟩:∃ zv,ie.zero=some zv/\zv.cells.toList=z:=by
   rw[g3]at hz;simp only[cQ]at hz;cases e:ie.zero with
   | none=>rw[e]at hz;cases hz
   | some zv=>rw[e]at hz;cases hz;exact⟨zv,rfl,rfl⟩
  have uZ:zv.cells=z.toArray:=by rw[<-z2]
  have aV:(ai K.P (ai K.P t).el).n=ie.size:=by rw[g3];rfl
  have oU:(ai K.P (ai K.P t).el).bytes=ie.bytes:=by rw[g3];rfl
  have eW:K.P.underlying t=some (.slice (ai K.P t).el):=by
   have bV:=hk;rw[h3]at bV;cases d<;>simp only[cQ]at bV<;>first|(cases bV;done)|skip
   rw[h2,h3];rfl
  rw[oU]at b4
  have hb:(ie.bytes:Int) * n<=281474976710656:=by
   have h1:(ie.bytes:Int) * n<=256 * n:=Int.mul_le_mul_of_nonneg_right (by omega) b1;omega
  have gc:=run_make (P:=K.P) w t (ai K.P t).el ie zv eW g1 z1 k1 k2 n n b1 (Int.le_refl _) hb (by omega);have hf:=zq G (m:=n.toNat) Af QB;obtain⟨σ',q1,q2⟩:=BO (ty:=(ai K.P t).el) hs hf (by simp;omega);rw[List.length_replicate]at q2;refine⟨_,_,σ',G,_,_,gc,?_,q2,h⟩;rw[madeCells,uZ,<-aV];exact q1
 ·exact h.elim
def si(s:AS) (n:Nat) (x:AV):Option (List (List D)):=
 match x with
 | .d (.fz st L)=>if st=n then some L else none
 | .d (.v (.slice none 0 0))=>some []
 | .sl r m=>match s.blk r with
  | some (.row _ st L)=>if st=n/\m=L.length then some L else none
  | _=>none
 | _=>none
theorem O8{K:Cx} {σ:Sg} {G:Gh} {s:AS} {a:Act} {w:World} {n:Nat} {x:AV} {u:Value} {L:List (List D)} (hs:Sat K σ G s a w) (hx:RA σ G x u) (h:si s n x=some L) :
  ∃ p c,u=.slice p L.length c/\cP n L/\(L≠[]->∃ b o cs ty fr,p=some ⟨b,o,none⟩/\w.heap[b]?=some (.cells cs ty fr)/\o+L.length * n<=cs.size/\∀ (i j:Nat) r y,L[i]?=some r->r[j]?=some y->RD G y (cs[o+i * n+j]?.getD undef)):=by
 unfold si at h;split at h
 ·rename_i st L';split at h
  ·rename_i e;cases h;subst e;cases hx.un with
   | fz s L p c b o cs ty fr hc eL hp H=>
    exact⟨p,c,rfl,eL,fun aV=>let ⟨a1,a2,a3⟩:=hp aV;⟨b,o,cs,ty,fr,a1,hs.gsub _ _ a2,a3,H⟩⟩
  ·cases h
 ·cases h
  cases hx.un
  exact⟨_,_,rfl,(fun _ h=>by cases h),fun h=>(h rfl).elim⟩
 ·rename_i r m;split at h
  ·rename_i ty st L' hb;split at h
   ·rename_i e;obtain⟨rfl,rfl⟩:=e;cases h;cases hx with
    | sl ho hm=>
     rename_i o;obtain⟨o',g1,⟨g2,g3,g4,g5,g6,g7⟩,g8⟩:=hs.own _ _ hb;rw[ho]at g1;cases g1;refine⟨_,_,rfl,g4,fun aV=>?_⟩;have DG:L.length≠0:=fun e=>aV (List.eq_nil_of_length_eq_zero e)
     have bE:o.nil=false:=by
      cases e:o.nil
      ·rfl
      ·have:=g6 e;omega
     obtain⟨cs,q1,q2,q3⟩:=g7 bE;refine⟨o.b,0,cs,ty,(0,0),by rw[bE];rfl,q1,by rw[q2];have:=Nat.mul_le_mul_right st g5;omega,fun i j r y e1 e2=>by rw[Nat.zero_add];exact q3 i j r y e1 e2⟩
   ·cases h
  ·cases h
 ·cases h
def iw(P:Program) (s:AS) (t t':TypeId) (x y:AV) (k:AV->AS->Prop):Prop:=
 t'=t/\(ai P t).k=3/\(ai P (ai P t).el).n≠0/\(∃ z,(ai P (ai P t).el).z=some z/\z.length=(ai P (ai P t).el).n)/\(ai P (ai P t).el).bytes<=256 ∧
 match si s (ai P (ai P t).el).n y with
 | some M=>
  match x with
  | .sl r n=>
   match s.blk r with
   | some (.row ty st L)=>ty=(ai P t).el/\st=(ai P (ai P t).el).n/\n=L.length/\V (L.length+M.length<=549755813888)/\k (.sl s.nx (L.length+M.length)) ((s.set r none).add (.row ty st (L++M)))
   | _=>False
  | .d (.v (.slice none 0 0))=>V (M.length<=549755813888)/\k (.sl s.nx M.length) (s.add (.row (ai P t).el (ai P (ai P t).el).n M))
  | _=>False
 | none=>False
theorem Gz{n:Nat} {L:List (List D)} {cs:Array Value} {o:Nat} (hr:cP n L) (bA:o+L.length * n<=cs.size) {G:Gh} (H:∀ (i j:Nat) r y,L[i]?=some r->r[j]?=some y->RD G y (cs[o+i * n+j]?.getD undef)) :
  ∃ xs:List Value,xs.length=L.length * n/\(∀ (q:Nat) u,xs[q]?=some u->cs[o+q]?=some u)/\(∀ u∈xs,u.oneCell'=true)/\(∀ (i j:Nat) r y,L[i]?=some r->r[j]?=some y->RD G y (xs[i * n+j]?.getD undef)):=by
 have bi:((cs.toList.drop o).take (L.length * n)).length=L.length * n:=by simp;omega
 have yW:∀ q,q<L.length * n->((cs.toList.drop o).take (L.length * n))[q]?=cs[o+q]?:=fun q hq=>by
  rw[List.getElem?_take,if_pos hq,List.getElem?_drop];simp
 refine⟨(cs.toList.drop o).take (L.length * n),bi,fun q u hq=>?_,fun u hu=>?_,fun i j r y e1 e2=>?_⟩
 ·have:=(List.getElem?_eq_some_iff.1 hq).1;rw[bi]at this;rw[<-yW q this];exact hq
 ·obtain⟨q,hq,rfl⟩:=List.getElem_of_mem hu;have oZ:q<L.length * n:=by rw[bi]at hq;exact hq
  have hn:0<n:=by
   rcases Nat.eq_zero_or_pos n with e|e
   ·subst e;simp at oZ
   ·exact e
  have hi:q / n<L.length:=by rw[Nat.div_lt_iff_lt_mul hn];exact oZ
  have hj:q % n<n:=Nat.mod_lt _ hn;obtain⟨r1,r2⟩:=hr _ (List.getElem_mem hi);have jA:q % n<(L[q / n]).length:=by omega
  have h1:=H (q / n) (q % n) _ _ (List.getElem?_eq_getElem hi) (List.getElem?_eq_getElem jA);have h2:=r2 _ (List.getElem_mem jA);have h3:=h1.cell h2;have e:o+q / n * n+q % n=o+q:=by have:=Nat.div_add_mod' q n;omega
  rw[e,<-yW q oZ,List.getElem?_eq_getElem hq]at h3;exact h3
 ·have hi:=(List.getElem?_eq_some_iff.1 e1).1;have hj:=(List.getElem?_eq_some_iff.1 e2).1;rw[(hr _ (List.mem_of_getElem? e1)).1]at hj;have:=pK (o:=0) (cs:=Array.replicate (L.length * n) undef) hi hj (by simp);rw[yW _ (by simp at this;omega)];have:=H i j r y e1 e2
  rwa [Nat.add_assoc]at this
theorem Ea{G:Gh} {n:Nat} {L M:List (List D)} {xs ys:List Value} {cs:Array Value} (hl:xs.length=L.length * n) (hr:cP n (L++M)) (h1:∀ (i j:Nat) r y,L[i]?=some r->r[j]?=some y->RD G y (xs[i * n+j]?.getD undef))
  (h2:∀ (i j:Nat) r y,M[i]?=some r->r[j]?=some y->RD G y (ys[i * n+j]?.getD undef)) (hc:∀ q,q<(xs++ys).length->cs[q]?=(xs++ys)[q]?) (hy:ys.length=M.length * n) :
  ∀ (i j:Nat) r y,(L++M)[i]?=some r->r[j]?=some y->RD G y (cs[i * n+j]?.getD undef):=by
 intro i j r y e1 e2;have hj:=(List.getElem?_eq_some_iff.1 e2).1;rw[(hr _ (List.mem_of_getElem? e1)).1]at hj;have hi:=(List.getElem?_eq_some_iff.1 e1).1
 have aG:i * n+j<(xs++ys).length:=by
  rw[List.length_append,hl,hy,<-Nat.add_mul];have:=pK (o:=0) (cs:=Array.replicate ((L++M).length * n) undef) hi hj (by simp);simp only[List.length_append,Array.size_replicate]at this;omega
 rw[hc _ aG];by_cases e:i<L.length
 ·rw[List.getElem?_append_left e]at e1
  have hq:i * n+j<xs.length:=by
   rw[hl];have:=pK (o:=0) (cs:=Array.replicate (L.length * n) undef) e hj (by simp);simp at this;omega
  rw[List.getElem?_append_left hq];exact h1 i j r y e1 e2
 ·rw[List.getElem?_append_right (by omega)]at e1
  have:L.length * n+((i - L.length) * n+j)=i * n+j:=by
   have:i=L.length+(i - L.length):=by omega
   rw[<-Nat.add_assoc,<-Nat.add_mul,<-this]
  rw[List.getElem?_append_right (by omega),show i * n+j - xs.length=(i - L.length) * n+j by omega];exact h2 _ _ _ _ e1 e2
theorem Ma{G:Gh} {σ:Sg} {w':World} {base ty n m:Nat} {L:List (List D)} {v:Value} {xs:List Value} (hn:n≠0) (h:w'.ownsRow base ty n v m xs) (hm:m=L.length) (hr:cP n L)
  (H:∀ cs:Array Value,(∀ q,q<xs.length->cs[q]?=xs[q]?)->∀ (i j:Nat) r y,L[i]?=some r->r[j]?=some y->RD G y (cs[i * n+j]?.getD undef)) :
  ∃ o:Own,v=.slice (if o.nil then none else some ⟨o.b,0,none⟩) m o.cap/\m<=o.cap/\iI σ G w' o (.row ty n L)/\(o.nil=false->v.ownBlock=some o.b/\base<=o.b)/\(o.nil=true->v.ownBlock=none):=by
 subst hm;obtain⟨hl,h⟩:=h;rcases h with ⟨rfl,h0⟩|⟨g,cap,cur,rfl,hb,hg,h1,h2,h3,h4⟩
 ·refine⟨⟨0,0,n,true⟩,by rw[h0];rfl,by rw[h0];exact Nat.le_refl _,⟨rfl,Nat.zero_le _,hr,by rw[h0];exact Nat.le_refl _,fun _=>rfl,fun h=>(by cases h)⟩,fun h=>(by cases h),fun _=>rfl⟩
 ·refine⟨⟨g,cap,n,false⟩,rfl,h1,⟨rfl,by simpa[maxLen] using h2,hr,h1,fun h=>(by cases h),fun _=>⟨cur,hg,h3,H cur fun q hq=>?_⟩⟩,fun _=>⟨rfl,hb⟩,fun h=>(by cases h)⟩;rw[<-h4,List.getElem?_take,if_pos (by rw[<-hl];exact hq)];simp
theorem vE{P:Program} {w:World} {t ty e:TypeId} {i:TypeInfo} (ht:P.underlying t=some (.slice e)) (hi:P.info? e=some i) (p q:Option Addr) (n c c':Nat) (hn:n<=c) :
  (Builtin.append_ #[t,t] ty #[.slice p n c,.slice q 0 c']).run P w=.ok (.slice p n c) w:=by
 cases p<;>cases q<;>simp[Builtin.append_,run_underlying ht,sizeOf,typeInfo,hi,Builtin.lenOf,Builtin.firstCells,hn,loadCells,loadCellsFrom,storeCells,go_sem]
theorem GA{K:Cx} {σ:Sg} {G:Gh} {s:AS} {a:Act} {w:World} {t t' ty0:TypeId} {x y:AV} {ux uy:Value} {k:AV->AS->Prop} (hs:Sat K σ G s a w) (hx:RA σ G x ux) (hy:RA σ G y uy) (h:iw K.P s t t' x y k) :
  ∃ v w' σ' G' s' z,(Builtin.append_ #[t,t'] ty0 #[ux,uy]).run K.P w=.ok v w'/\Sat K σ' G' s' a w'/\RA σ' G' z v/\k z s':=by
 obtain⟨rfl,hk,hn,⟨z,hz,Af⟩,fm,h⟩:=h;obtain⟨ii,d,h1,h2,h3⟩:=dW (by rw[hk];decide);have bO:=yx hn;obtain⟨ie,de,g1,g2,g3⟩:=kq bO
 obtain⟨zv,z1,z2⟩:∃ zv,ie.zero=some zv/\zv.cells.toList=z:=by
  rw[g3]at hz;simp only[cQ]at hz;cases e:ie.zero with
  | none=>rw[e]at hz;cases hz
  | some zv=>rw[e]at hz;cases hz;exact⟨zv,rfl,rfl⟩
 have eW:K.P.underlying t'=some (.slice (ai K.P t').el):=by
  have bV:=hk;rw[h3]at bV;cases d<;>simp only[cQ]at bV<;>first|(cases bV;done)|skip
  rw[h2,h3];rfl
 have aV:ie.size=(ai K.P (ai K.P t').el).n:=by rw[g3];rfl
 have oU:ie.bytes=(ai K.P (ai K.P t').el).bytes:=by rw[g3];rfl
 have xE:zv.cells.size=(ai K.P (ai K.P t').el).n:=by rw[<-Af,<-z2];simp
 generalize cJ:(ai K.P (ai K.P t').el).n=st at hn Af aV xE h;generalize hB:(ai K.P (ai K.P t').el).bytes=B at fm oU;split at h
 ·rename_i M hM;obtain⟨p,c,rfl,hrM,hp⟩:=O8 hs hy hM
  have main:∀ (L:List (List D)) (sr:AS),Sat K σ G sr a w->(∀ w',w.grownBy w' ux.ownBlock->Sat K σ G sr a w')->(∀ r' k' o',sr.blk r'=some k'->σ r'=some o'->o'.nil=false->some o'.b≠ux.ownBlock)->(∀ b,ux.ownBlock=some b->G b=none/\K.w0.heap.size<=b)->(∃ C:Nat->Prop,(∀ n,lV σ sr n->C n)/\(∀ b,ux.ownBlock=some b->C b)/\(∀ p∈K.pr,C p.1)/\(∀ n,cH n∈a.defers->C n)/\K.J sr.yc w G C) →
    cP st L->(∃ xs,w.ownsRow K.w0.heap.size (ai K.P t').el st ux L.length xs/\∀ (i j:Nat) r y,L[i]?=some r->r[j]?=some y->RD G y (xs[i * st+j]?.getD undef))->L.length+M.length<=549755813888->k (.sl sr.nx (L.length+M.length)) (sr.add (.row (ai K.P t').el st (L++M))) →
    ∃ v w' σ' G' s' z,(Builtin.append_ #[t',t'] ty0 #[ux,.slice p M.length c]).run K.P w=.ok v w'/\Sat K σ' G' s' a w'/\RA σ' G' z v/\k z s':=by
   rintro L sr xT Dg hfree Qu ⟨C,c1,c0,c2,c3,c4⟩ hrL ⟨xs,aS,On⟩ bi Aq
   have hrLM:cP st (L++M):=fun r hr=>by
    rcases List.mem_append.1 hr with hr|hr
    ·exact hrL r hr
    ·exact hrM r hr
   have fin:∀ v w' ys,(Builtin.append_ #[t',t'] ty0 #[ux,.slice p M.length c]).run K.P w=.ok v w'->w'.ownsRow K.w0.heap.size (ai K.P t').el st v (L.length+M.length) (xs++ys)->w.grownBy w' ux.ownBlock->(v.ownBlock=ux.ownBlock\/v.ownBlock=some w.heap.size)->ys.length=M.length * st →
     (∀ (i j:Nat) r y,M[i]?=some r->r[j]?=some y->RD G y (ys[i * st+j]?.getD undef))->∃ v w' σ' G' s' z,(Builtin.append_ #[t',t'] ty0 #[ux,.slice p M.length c]).run K.P w=.ok v w'/\Sat K σ' G' s' a w'/\RA σ' G' z v/\k z s':=by
    intro v w' ys gc jT hg hb Dt Dr;obtain⟨o,e1,e2,e3,e4,e5⟩:=Ma (G:=G) (σ:=σ) (L:=L++M) hn jT (by simp) hrLM (fun cs xK=>Ea aS.1 hrLM On Dr xK Dt);have eL:=Dg w' hg
    have hnew:o.nil=false->K.w0.heap.size<=o.b/\G o.b=none:=fun hn=>by
     refine⟨(e4 hn).2,?_⟩;rcases hb with hb|hb
     ·exact(Qu o.b (by rw[<-hb];exact(e4 hn).1)).1
     ·rw[(e4 hn).1]at hb;have bo:o.b=w.heap.size:=by injection hb
      rw[bo];cases eG:G w.heap.size with
      | none=>rfl
      | some x=>have:=aw (hs.gsub _ _ eG);omega
    have hfree':∀ r' k' o',sr.blk r'=some k'->σ r'=some o'->o.nil=false->o'.nil=false->o'.b≠o.b:=fun r' k' o' q1 q2 q3 q4 e=>by
     rcases hb with hb|hb
     ·exact hfree r' k' o' q1 q2 q4 (by rw[<-hb,(e4 q3).1,e])
     ·rw[(e4 q3).1]at hb;have bo:o.b=w.heap.size:=by injection hb
      obtain⟨o2,f1,f2,_⟩:=xT.own _ _ q1;rw[q2]at f1;cases f1;obtain⟨ob,f3,_⟩:=f2.at q4;have:=aw f3;omega
    refine⟨v,w',_,G,_,_,gc,eL.adopt hnew hfree' e3 ⟨fun n=>C n\/(w.heap.size<=n/\n<w'.heap.size),fun n hn=>.inl (c1 n hn),fun bE=>?_,fun p hp=>.inl (c2 p hp),fun n hn=>.inl (c3 n hn),
     hs.js _ _ _ _ _ _ _ c4 hg.os hg.tape hg.output hg.size (fun n hn aV=>hg.block n hn (fun e=>aV (c0 n e.symm))) (fun _ _ e=>e) (fun _ _ e _=>.inl e) (fun k o e=>⟨eL.gsub k o e,eL.gcell k o e⟩) (fun _ e=>e)⟩,?_,Aq⟩
    ·rcases hb with hb|hb
     ·exact .inl (c0 _ (by rw[<-hb];exact(e4 bE).1))
     ·rw[(e4 bE).1]at hb;have bo:o.b=w.heap.size:=by injection hb
      exact .inr ⟨by omega,by obtain⟨ob5,e5,_⟩:=e3.at bE;exact aw e5⟩
    rw[e1];exact .sl (f7 _ _ _) e2
   by_cases FK:M=[]
   ·subst FK
    obtain⟨ao,co,hxe⟩:∃ ao co,ux=.slice ao L.length co/\L.length<=co:=by
     rcases aS.2 with ⟨rfl,h0⟩|⟨g,cap,cur,rfl,_,_,hc,_⟩
     ·exact⟨none,0,by rw[h0],by omega⟩
     ·exact⟨_,_,rfl,hc⟩
    refine fin ux w [] (by rw[hxe.1];exact vE eW g1 _ _ _ _ _ hxe.2) (by simpa using aS) ⟨rfl,rfl,rfl,Nat.le_refl _,fun _ _ _=>rfl⟩ (.inl rfl) (by simp) (fun i j r y e=>by simp at e)
   ·obtain⟨b,o,cs,tyy,fr,rfl,q1,q2,q3⟩:=hp FK;obtain⟨ys,y1,y2,y3,y4⟩:=Gz hrM q2 q3
    have jU:(L.length+M.length) * B<=140737488355328:=by
     have:(L.length+M.length) * B<=549755813888 * 256:=Nat.mul_le_mul bi fm;omega
    obtain⟨v,w',r1,r2,r3,r4⟩:=run_append_own (P:=K.P) w K.w0.heap.size t' ty0 (ai K.P t').el ie zv st B eW g1 z1 aV oU xE (by omega) ux L.length xs aS ⟨b,o,none⟩ M.length c ys y1
     (fun j u hu=>by rw[j9,ae q1];exact y2 j u hu) y3 (by simp only[maxLen];omega) jU hs.below.size
    refine fin v w' ys r1 r2 r3 ?_ y1 y4
    obtain⟨v2,w2,s1,s2,s3,s4⟩:=r8 (P:=K.P) w K.w0.heap.size t' ty0 (ai K.P t').el ie zv st B eW g1 z1 aV oU xE (by omega) ux L.length xs (aJ.of_owns aS) ⟨b,o,none⟩ M.length c ys y1
     (fun j u hu=>by rw[j9,ae q1];exact y2 j u hu) y3 (by simp only[maxLen];omega) jU hs.below.size
    have e:=s1.symm.trans r1;injection e with e1 e2
    rw[<-e1];exact s4
  split at h
  ·rename_i r n;split at h
   ·rename_i ty st' L hb;obtain⟨rfl,rfl,rfl,bi,Aq⟩:=h
    replace bi:=V.o bi
    cases hx with
    | sl ho hm=>
     rename_i o;obtain⟨o',e1,⟨a1,a2,a3,a4,a5,a6⟩,e3⟩:=hs.own _ _ hb;rw[ho]at e1;cases e1;have uS:(Value.slice (if o.nil then none else some ⟨o.b,0,none⟩) L.length o.cap).ownBlock=if o.nil then none else some o.b:=by cases o.nil<;>rfl
     refine main L (s.set r none) ?_ (fun w' hg=>hs.change hb ho (by rw[uS]at hg;exact hg) (fun k' h=>by cases h)) (fun r' k' o' q1 q2 q3 e=>?_) (fun b jz=>?_) ?_ a3 ?_ bi Aq
     ·exact hs.change hb ho ⟨rfl,rfl,rfl,Nat.le_refl _,fun _ _ _=>rfl⟩ (fun k' h=>by cases h)
     ·rw[uS]at e;rw[AS.blk_set]at q1;split at q1
      ·cases q1
      ·rename_i aV;cases bE:o.nil
       ·rw[bE]at e;simp only[Bool.false_eq_true,if_false,Option.some.injEq]at e;exact aV (hs.inj _ _ _ _ _ _ q1 hb q2 ho q3 bE e)
       ·rw[bE]at e;simp at e
     ·rw[uS]at jz;cases bE:o.nil
      ·rw[bE]at jz;simp only[Bool.false_eq_true,if_false,Option.some.injEq]at jz;subst jz;exact⟨(e3 bE).2,(e3 bE).1⟩
      ·rw[bE]at jz;simp at jz
     ·obtain⟨C,c1,c2,c3,c4⟩:=hs.inv;refine⟨C,?_,fun b jz=>?_,c2,c3,c4⟩
      ·rintro n ⟨r',b,o',f1,f2,f3,rfl⟩;rw[AS.blk_set]at f1;split at f1
       ·cases f1
       ·exact c1 _ ⟨r',b,o',f1,f2,f3,rfl⟩
      ·rw[uS]at jz;cases bE:o.nil
       ·rw[bE]at jz;simp only[Bool.false_eq_true,if_false,Option.some.injEq]at jz;exact c1 _ ⟨r,_,o,hb,ho,bE,jz⟩
       ·rw[bE]at jz;simp at jz
     ·cases bE:o.nil
      ·obtain⟨cs,b1,b2,b3⟩:=a6 bE;have im:=Nat.mul_le_mul_right st' a4;obtain⟨_,_,_,_,_⟩:True/\True/\True/\True/\True:=⟨trivial,trivial,trivial,trivial,trivial⟩;refine⟨cs.toList.take (L.length * st'),⟨by simp;omega,.inr ⟨o.b,o.cap,cs,rfl,(e3 bE).1,b1,a4,by simp only[maxLen];omega,b2,rfl⟩⟩,fun i j r y f1 f2=>?_⟩;have hi:=(List.getElem?_eq_some_iff.1 f1).1;have hj:=(List.getElem?_eq_some_iff.1 f2).1;rw[(a3 _ (List.mem_of_getElem? f1)).1]at hj;have aG:=pK (o:=0) (cs:=Array.replicate (L.length * st') undef) hi hj (by simp);simp only[Array.size_replicate]at aG;rw[List.getElem?_take,if_pos (by omega)];simpa using b3 i j r y f1 f2
      ·have h0:=a5 bE;have hL:L=[]:=List.eq_nil_of_length_eq_zero (by omega);subst hL;refine⟨[],⟨by simp,.inl ⟨by rw[h0];rfl,rfl⟩⟩,fun i j r y f1=>by simp at f1⟩
   ·exact h.elim
  ·obtain⟨bi,Aq⟩:=h
   replace bi:=V.o bi
   cases hx.un
   exact main [] s hs (fun w' hg=>hs.world ⟨hg.os,hg.tape,hg.output,hg.size,fun k hk=>hg.block k hk (by simp[Value.ownBlock])⟩) (fun _ _ _ _ _ _ e=>by simp[Value.ownBlock]at e) (fun b e=>by simp[Value.ownBlock]at e) (let ⟨C,c1,c2,c3,c4⟩:=hs.inv;⟨C,c1,fun b e=>by simp[Value.ownBlock]at e,c2,c3,c4⟩) (fun _ h=>by cases h)
    ⟨[],⟨by simp,.inl ⟨rfl,rfl⟩⟩,fun i j r y f1=>by simp at f1⟩ (by simpa using bi) (by simpa using Aq)
  ·exact h.elim
 ·exact h.elim
def ka(x:Option AV) (dflt:Nat) (k:Nat->Prop):Prop:=match x with|none=>k dflt|some y=>match y.conc with|some (.int _ n)=>V (0<=n)/\k n.toNat|_=>False
def lY(en n:Nat) (l:List D):List (List D):=(List.range n).map fun q=>(l.drop (q * en)).take en
def kS(P:Program) (s:AS) (t:TypeId) (x:AV) (lo hi:Option AV) (k:AV->AS->Prop):Prop:=
 match x with
 | .d (.fz st L)=>(ai P t).k=3/\(ai P (ai P t).el).ok=true/\(ai P (ai P t).el).n=st/\ka hi L.length fun h=>ka lo 0 fun l=>V (l<=h/\h<=L.length)/\k (.d (.fz st ((L.take h).drop l))) s
 | .d (.fp st L i j)=>(ai P t).k=2/\(ai P (ai P t).el).ok=true/\(ai P (ai P t).el).n≠0/\j+(ai P t).len * (ai P (ai P t).el).n<=st/\(ai P t).len<=1099511627776 ∧
   ka hi (ai P t).len fun h=>ka lo 0 fun l=>V (l<=h/\h<=(ai P t).len)/\k (.d (.fz (ai P (ai P t).el).n (((lY (ai P (ai P t).el).n (ai P t).len ((ix L i).drop j)).take h).drop l))) s
 | .d (.v (.string b))=>(ai P t).k=4/\ka hi b.size fun h=>ka lo 0 fun l=>V (l<=h/\h<=b.size)/\k (.d (.v (.string (b.extract l h)))) s
 | .ptr r i j=>i=0/\lo=none/\hi=none/\(ai P t).k=2/\(ai P (ai P t).el).ok=true/\k (.bs r j (ai P t).len) s
 | .sl r n=>(ai P t).k=3/\(ai P (ai P t).el).ok=true/\lo=none/\ka hi n fun h=>V (h<=n)/\match s.blk r with
  | some (.row ty st L)=>k (.sl r h) (s.set r (some (.row ty st (L.take h))))
  | _=>False
 | _=>False
theorem mh{P:Program} {w:World} {isS:Bool} {len cap h l:Nat} {lo hi:Option Value} (e1:hi=none->h=len) (e2:∀ code v,hi=some v->(Instr.sliceBound v cap code).run P w=.ok h w) (e3:lo=none->l=0) (e4:∀ code v,lo=some v->(Instr.sliceBound v h code).run P w=.ok l w) :
  (Instr.sliceBounds isS len cap lo hi none).run P w=.ok (l,h,cap) w:=by
 cases hi<;>cases lo
 ·rw[e1 rfl,e3 rfl];simp[Instr.sliceBounds,go_sem]
 ·have:=fun c=>e4 c _ rfl
  rw[e1 rfl]at this ⊢;simp[Instr.sliceBounds,this,go_sem]
 ·have:=fun c=>e2 c _ rfl
  rw[e3 rfl];simp[Instr.sliceBounds,this,go_sem]
 ·have h1:=fun c=>e2 c _ rfl
  have h2:=fun c=>e4 c _ rfl
  simp[Instr.sliceBounds,h1,h2,go_sem]
theorem kc{σ:Sg} {G:Gh} {x:Option AV} {u:Option Value} {dflt:Nat} {k:Nat->Prop} (hx:∀ a,x=some a->∃ v,u=some v/\RA σ G a v) (hn:x=none->u=none) (h:ka x dflt k) :
  ∃ n,k n/\(u=none->n=dflt)/\∀ P w y code v,u=some v->n<=y->(Instr.sliceBound v y code).run P w=.ok n w:=by
 unfold ka at h;split at h
 ·exact⟨dflt,h,fun _=>rfl,fun _ _ _ _ v hv=>by rw[hn rfl]at hv;cases hv⟩
 ·rename_i a;split at h
  ·rename_i kk n hc;obtain⟨v,hv,hr⟩:=hx a rfl;have:=jr hr hc;subst this;refine⟨n.toNat,h.2,fun e=>(by rw[hv]at e;cases e),fun P w y code v' Fy im=>?_⟩;rw[hv]at Fy;cases Fy;have h0:=V.o h.1;have h1:n<=(y:Int):=by omega
   simp[Instr.sliceBound,asIntOf,h0,h1,go_sem]
  ·exact h.elim
theorem RD.take{G:Gh} {st:Nat} {L:List (List D)} {p:Option Addr} {n c h l:Nat} (hx:RD G (.fz st L) (.slice p n c)) (h1:l<=h) (h2:h<=L.length) :
  RD G (.fz st ((L.take h).drop l)) (.slice (if c=l then p else p.map (·.add (l * st))) (h - l) (c - l)):=by
 cases hx with
 | fz s L p c b o cs ty fr hc hs hp H=>
  have bi:((L.take h).drop l).length=h - l:=by simp;omega
  have key:RD G (.fz st ((L.take h).drop l)) (.slice (if c=l then p else p.map (·.add (l * st))) ((L.take h).drop l).length (c - l)):=by
   refine .fz st _ _ _ b (o+l * st) cs ty fr ⟨by omega,by omega,fun e=>?_,by omega⟩ (fun r hr=>hs r (List.mem_of_mem_take (List.mem_of_mem_drop hr))) (fun aV=>?_) (fun i j r x e1 e2=>?_)
   ·split at e
    ·omega
    ·cases p with
     | none=>have:=hc.2.2.1 rfl;omega
     | some a=>cases e
   ·have:((L.take h).drop l).length≠0:=fun e=>aV (List.eq_nil_of_length_eq_zero e)
    obtain⟨rfl,a2,a3⟩:=hp (by intro e;rw[e]at h2;simp at h2;omega);rw[if_neg (by omega)];refine⟨by simp only[Option.map_some,j9],a2,?_⟩;have:=Nat.mul_le_mul_right st h2;rw[bi,Nat.add_assoc,<-Nat.add_mul,show l+(h - l)=h by omega];omega
   ·rw[List.getElem?_drop,List.getElem?_take]at e1;split at e1
    ·have:=H _ _ _ _ e1 e2
     rwa [Nat.add_mul,<-Nat.add_assoc]at this
    ·cases e1
  rw[bi]at key;exact key
theorem mj(en n:Nat) (l:List D):(lY en n l).length=n:=by simp[lY]
theorem RD.arr{G:Gh} {st:Nat} {L:List (List D)} {i j en n b o:Nat} {cs:Array Value} {ty:TypeId} {fr:Nat × Nat} (hi:i<L.length) (hs:cP st L) (hp:G b=some (.cells cs ty fr)/\o+L.length * st<=cs.size)
  (H:∀ (i j:Nat) r x,L[i]?=some r->r[j]?=some x->RD G x (cs[o+i * st+j]?.getD undef)) (iB:j+n * en<=st) (hn:n<=1099511627776) :
  RD G (.fz en (lY en n ((ix L i).drop j))) (.slice (some ⟨b,o+i * st+j,none⟩) n n):=by
 obtain⟨r1,r2⟩:=hs.ix hi
 have key:RD G (.fz en (lY en n ((ix L i).drop j))) (.slice (some ⟨b,o+i * st+j,none⟩) (lY en n ((ix L i).drop j)).length n):=by
  refine .fz en _ _ _ b (o+i * st+j) cs ty fr ⟨by simp[lY],by omega,fun e=>(by cases e),by rw[mj];omega⟩ (fun r hr=>?_) (fun _=>⟨rfl,hp.1,?_⟩) (fun q m r x e1 e2=>?_)
  ·obtain⟨q,hq,rfl⟩:=List.mem_map.1 hr;have hq:=List.mem_range.1 hq;have:q * en+en<=n * en:=by rw[<-Nat.succ_mul];exact Nat.mul_le_mul_right _ hq
   exact⟨by simp[r1];omega,fun x hx=>r2 x (List.mem_of_mem_drop (List.mem_of_mem_drop (List.mem_of_mem_take hx)))⟩
  ·rw[mj];have:i * st+st<=L.length * st:=by rw[<-Nat.succ_mul];exact Nat.mul_le_mul_right _ hi
   omega
  ·have hq:q<n:=by have:=(List.getElem?_eq_some_iff.1 e1).1;rwa [mj]at this
   simp only[lY,List.getElem?_map,List.getElem?_range hq,Option.map_some,Option.some.injEq]at e1;subst e1;rw[List.getElem?_take]at e2;split at e2
   ·rw[List.getElem?_drop,List.getElem?_drop]at e2;have:=H i _ _ _ (mW hi) e2;rw[show o+i * st+j+q * en+m=o+i * st+(j+(q * en+m)) by omega];exact this
   ·cases e2
 rwa [mj]at key
theorem I8{K:Cx} {σ:Sg} {G:Gh} {s:AS} {a:Act} {w:World} {t:TypeId} {x:AV} {u:Value} {lo hi:Option AV} {ul uh:Option Value} {k:AV->AS->Prop} (hs:Sat K σ G s a w) (hx:RA σ G x u)
  (ge:∀ a,lo=some a->∃ v,ul=some v/\RA σ G a v) (dJ:lo=none->ul=none) (N9:∀ a,hi=some a->∃ v,uh=some v/\RA σ G a v) (K9:hi=none->uh=none) (h:kS K.P s t x lo hi k) :
  ∃ v s' y,(Instr.sliceAt t u ul uh none).run K.P w=.ok v w/\Sat K σ G s' a w/\RA σ G y v/\k y s':=by
 unfold kS at h;split at h
 ·rename_i st L;obtain⟨hk,bO,cJ,h⟩:=h;obtain⟨ii,d,h1,h2,h3⟩:=dW (by rw[hk];decide);obtain⟨hn,h,b1,b2⟩:=kc N9 K9 h;obtain⟨ln,⟨c12,h⟩,b3,b4⟩:=kc ge dJ h;obtain⟨c1,c2⟩:=V.o c12;have eW:=iZ bO w;cases hx with
  | d hx=>
   have p7:=hx;cases hx with
   | fz _ _ p c b o cs ty fr hc eL hp H=>
    refine⟨_,s,_,?_,hs,.d (p7.take c1 c2),h⟩;have hb:=mh (P:=K.P) (w:=w) (isS:=true) (len:=L.length) (cap:=c) (h:=hn) (l:=ln) b1 (fun code v hv=>b2 _ _ _ _ _ hv (by omega)) b3 (fun code v hv=>b4 _ _ _ _ _ hv c1);have bV:=hk;rw[h3]at bV;cases d<;>simp only[cQ]at bV<;>first|(cases bV;done)|skip
    rename_i e;have e5:(ai K.P t).el=e:=by rw[h3];rfl
    rw[e5]at eW cJ;simp only[Instr.sliceAt,Instr.slice,Sem.run_bind,run_underlying h2,Result.andThen_ok,hb,eW,cJ,Sem.run_pure]
 ·rename_i st L i j;obtain⟨hk,bO,oc,iB,bi,h⟩:=h;obtain⟨ii,d,h1,h2,h3⟩:=dW (by rw[hk];decide);obtain⟨hn,h,b1,b2⟩:=kc N9 K9 h;obtain⟨ln,⟨c12,h⟩,b3,b4⟩:=kc ge dJ h;obtain⟨c1,c2⟩:=V.o c12;have eW:=iZ bO w;cases hx.un with
  | fp _ _ _ _ b o cs ty fr jS eL hp H=>
   have bV:=hk;rw[h3]at bV;cases d<;>simp only[cQ]at bV<;>first|(cases bV;done)|skip
   rename_i n e;have e5:(ai K.P t).el=e:=by rw[h3];rfl
   have e6:(ai K.P t).len=n:=by rw[h3];rfl
   rw[e5]at eW iB h;rw[e6]at iB bi h c2 b1;have p7:=RD.arr jS eL hp H iB bi;have hb:=mh (P:=K.P) (w:=w) (isS:=false) (len:=n) (cap:=n) (h:=hn) (l:=ln) b1 (fun code v hv=>b2 _ _ _ _ _ hv (by omega)) b3 (fun code v hv=>b4 _ _ _ _ _ hv c1);refine⟨_,s,_,?_,hs,.d (p7.take c1 (by rw[mj];exact c2)),h⟩;simp only[Instr.sliceAt,Instr.sureAddr,Sem.run_bind,run_underlying h2,Result.andThen_ok,hb,eW,Sem.run_pure,Option.map_some];split<;>rfl
 ·rename_i b;obtain⟨hk,h⟩:=h;obtain⟨ii,d,h1,h2,h3⟩:=dW (by rw[hk];decide);obtain⟨hn,h,b1,b2⟩:=kc N9 K9 h;obtain⟨ln,⟨c12,h⟩,b3,b4⟩:=kc ge dJ h;obtain⟨c1,c2⟩:=V.o c12;have hu:=hx.un.val;subst hu;have hb:=mh (P:=K.P) (w:=w) (isS:=false) (len:=b.size) (cap:=b.size) (h:=hn) (l:=ln) b1 (fun code v hv=>b2 _ _ _ _ _ hv (by omega)) b3 (fun code v hv=>b4 _ _ _ _ _ hv c1);have bV:=hk;rw[h3]at bV;cases d<;>simp only[cQ]at bV<;>first|(cases bV;done)|skip
  refine⟨_,s,_,?_,hs,.d (.v _),h⟩;simp[Instr.sliceAt,Instr.slice,Sem.run_bind,run_underlying h2,hb,Sem.run_pure]
 ·rename_i r i j;obtain⟨rfl,rfl,rfl,hk,bO,h⟩:=h;obtain⟨ii,d,h1,h2,h3⟩:=dW (by rw[hk];decide);have eW:=iZ bO w;have Rg:=dJ rfl;have huh:=K9 rfl;subst Rg huh;cases hx with
  | ptr ho=>
   rename_i o;have bV:=hk;rw[h3]at bV;cases d<;>simp only[cQ]at bV<;>first|(cases bV;done)|skip
   rename_i n e;have e5:(ai K.P t).el=e:=by rw[h3];rfl
   have e6:(ai K.P t).len=n:=by rw[h3];rfl
   rw[e5]at eW;rw[e6]at h;have hb:=mh (P:=K.P) (w:=w) (isS:=false) (len:=n) (cap:=n) (h:=n) (l:=0) (lo:=none) (hi:=none) (fun _=>rfl) (fun code v hv=>by cases hv) (fun _=>rfl) (fun code v hv=>by cases hv);refine⟨_,s,_,?_,hs,.bs ho,h⟩;simp only[Instr.sliceAt,Instr.sureAddr,Sem.run_bind,run_underlying h2,Result.andThen_ok,hb,eW,Sem.run_pure,Option.map_some];simp[Addr.add]
 ·rename_i r n;obtain⟨hk,bO,rfl,h⟩:=h;obtain⟨ii,d,h1,h2,h3⟩:=dW (by rw[hk];decide);obtain⟨hn,⟨c1,h⟩,b1,b2⟩:=kc N9 K9 h
  replace c1:=V.o c1
  have Rg:=dJ rfl;subst Rg;have eW:=iZ bO w;split at h
  ·rename_i ty st L hb;cases hx with
   | sl ho hm=>
    rename_i o;obtain⟨o',e1,⟨a1,a2,a3,a4,a5,a6⟩,e3⟩:=hs.own _ _ hb;rw[ho]at e1;cases e1;refine⟨_,_,_,?_,hs.change (k:=some (.row ty st (L.take hn))) hb ho ⟨rfl,rfl,rfl,Nat.le_refl _,fun _ _ _=>rfl⟩ ?_,.sl ho (Nat.le_trans c1 hm),h⟩
    ·have be:=mh (P:=K.P) (w:=w) (isS:=true) (len:=n) (cap:=o.cap) (h:=hn) (l:=0) (lo:=none) b1 (fun code v hv=>b2 _ _ _ _ _ hv (by omega)) (fun _=>rfl) (fun code v hv=>by cases hv);have bV:=hk;rw[h3]at bV;cases d<;>simp only[cQ]at bV<;>first|(cases bV;done)|skip
     rename_i e;have e5:(ai K.P t).el=e:=by rw[h3];rfl
     rw[e5]at eW;simp only[Instr.sliceAt,Instr.slice,Sem.run_bind,run_underlying h2,Result.andThen_ok,be,eW,Sem.run_pure]
     have:(if o.cap=0 then(if o.nil=true then none else some (⟨o.b,0,none⟩:Addr)) else Option.map (fun (x:Addr)=>x.add (0 * (ai K.P e).n)) (if o.nil=true then none else some (⟨o.b,0,none⟩:Addr)))=(if o.nil=true then none else some ⟨o.b,0,none⟩):=by
      split
      ·rfl
      ·cases o.nil<;>simp[Addr.add]
     rw[this];rfl
    ·rintro k' kA;cases kA
     exact⟨a1,a2,fun r hr=>a3 r (List.mem_of_mem_take hr),by simp;omega,a5,fun bE=>let ⟨cs,q1,q2,q3⟩:=a6 bE;⟨cs,q1,q2,fun i j r x f1 f2=>by
      rw[List.getElem?_take]at f1;split at f1
      ·exact q3 i j r x f1 f2
      ·cases f1⟩⟩
  ·exact h.elim
 ·exact h.elim
structure Grow (G:Gh) (w:World) (G':Gh) (w':World):Prop where
 up:∀ k o,G k=some o->G' k=some o
 old:∀ k o,G' k=some o->k<w.heap.size->G k=some o
 sub:∀ k o,G' k=some o->w'.heap[k]?=some o/\o.isCells=true
def FC(P:Program) (f:FuncId) (args:List D) (r:D):Prop:=
 (∀ us w,(callFunc f us).run P w=.ok (.enter f us) w)/\∀ (G:Gh) (us:Array Value) (w:World),(∀ k o,G k=some o->w.heap[k]?=some o/\o.isCells=true)->us.size=args.length->(∀ (i:Nat) x,args[i]?=some x->RD G x (us[i]?.getD undef)) →
  Calls P f us w fun e w'=>∃ v G',e=.returned v/\Below w.heap.size w w'/\Grow G w G' w'/\RD G' r v
def iK(K:Cx) (g:FuncId) (l:List AV) (s:AS) (k:AV->AS->Prop):Prop:=
 (∀ us w,(callFunc g us).run K.P w=.ok (.enter g us) w)/\∀ σ G a w (us:Array Value),Sat K σ G s a w->us.size=l.length->(∀ (i:Nat) x,l[i]?=some x->RA σ G x (us[i]?.getD undef)) →
  Calls K.P g us w fun e w'=>∃ v σ' G' s' y,e=.returned v/\Sat K σ' G' s' a w'/\RA σ' G' y v/\k y s'
theorem Sat.call{K:Cx} {σ:Sg} {G G':Gh} {s:AS} {a:Act} {w w':World} (hs:Sat K σ G s a w) (hb:Below w.heap.size w w') (hg:Grow G w G' w'):Sat K σ G' s a w':=by
 have hm:Mo σ G σ G':=⟨fun _ _ h=>h,hg.up⟩;have eL:=hs.world hb;refine⟨hs.size,fun t=>(hs.slot t).mono hm,fun r k hr=>?_,hs.inj,hs.next,fun k o h=>(hg.sub k o h).1,fun k o h hk hE=>hs.gold k o (hg.old k o h (Nat.lt_of_lt_of_le hk hs.below.size)) hk hE,fun k o h=>hg.up _ _ (hs.gnew k o h),fun k o h=>(hg.sub k o h).2,eL.below,eL.marks,eL.pr,?_,hs.js⟩
 ·obtain⟨o,e1,e2,e3⟩:=hs.own _ _ hr;obtain⟨o',f1,f2,f3⟩:=eL.own _ _ hr;rw[e1]at f1;cases f1;refine⟨o,e1,f2.mono hm (fun _=>rfl),fun hn=>⟨(e3 hn).1,?_⟩⟩;obtain⟨ob,g4,_⟩:=e2.at hn;cases e:G' o.b with
  | none=>rfl
  | some x=>have:=hg.old _ _ e (aw g4);rw[(e3 hn).2]at this;cases this
 ·obtain⟨C,c1,c2,c3,c4⟩:=hs.inv;exact⟨C,c1,c2,c3,hs.js _ _ _ _ _ _ _ c4 hb.os hb.tape hb.output hb.size (fun k hk _=>hb.block k hk) hg.up (fun k o e hk=>.inl (hg.old k o e hk)) hg.sub (fun _ e=>.inl e)⟩
theorem BP{K:Cx} {g:FuncId} {ds:List D} {r:D} {s:AS} {k:AV->AS->Prop} (h:FC K.P g ds r) (hk:k (.d r) s):iK K g (ds.map AV.d) s k:=by
 refine⟨h.1,fun σ G a w us hs bA gG=>?_⟩;refine(h.2 G us w (fun k o e=>⟨hs.gsub k o e,hs.gcell k o e⟩) (by simpa using bA) (fun i x hx=>(gG i (.d x) (by simp[hx])).un)).mono ?_;rintro e w' ⟨v,G',rfl,hb,hg,hr⟩;exact⟨v,σ,G',s,_,rfl,hs.call hb hg,.d hr,hk⟩
end Go.Proofs.YtiocdkdkndpgkaaGreat
