/-
  A part of the proof: lemmas and contracts that the parts behind it use. Each one's conditions are its own premises.
-/
import Derived.Laws.CopyOwn
import Derived.Laws.IdiomCopy
import Derived.Laws.CopyRow
import Derived.Test.YtkfgpnbpcpdclaaGreatShelf
import Derived.Test.YtkfgpnbpcpdclaaGreatJ7
set_option maxRecDepth 100000
set_option maxHeartbeats 8000000
set_option linter.unusedVariables false
namespace Go.Proofs.YtkfgpnbpcpdclaaGreat
structure Py where
 inp:List Int
 word:List Rd
instance:Inhabited Py:=⟨⟨[],[]⟩⟩
instance:DecidableEq Py:=fun a b=>decidable_of_iff (a.inp=b.inp/\a.word=b.word) (by cases a;cases b;simp)
def fx(p:Pb) (m:Mac):Int:=
 if probE p≠0 then probE p else if checkE m≠0 then checkE m else if m.n≠p.t.n\/m.rounds≠p.rounds\/m.ins≠p.t.ins\/m.outs≠p.t.outs then 22 else 0
def aN(p:Pb):List Py:=(lq p.t.cases.length (aZ p).length).map fun x=>⟨(p.t.cases.getD x.1 default).inp,(aZ p).getD x.2 []⟩
def BL(r:Int) (t:Tr) (q:Nat):Int:=if cS (faultyS t.word) q then 0 else if t.times.getD q 0<0 then r+1 else t.times.getD q 0
def timeTo(r:Int) (t:Tr):Nat->Int
 | 0=>0
 | q+1=>max (timeTo r t q) (BL r t q)
def timeS(n:Nat) (r:Int) (t:Tr):Int:=timeTo r t n
def noTr:Tr:=⟨[],[],[],[],[],[]⟩
def bestTo(p:Pb) (m:Mac) (l:List Py):Nat->Tr × Int
 | 0=>(noTr,-1)
 | k+1=>let b:=bestTo p m l k
  let t:=eQ m (l.getD k default).inp (l.getD k default).word
  if b.2<timeS p.t.n.toNat p.rounds t then(t,timeS p.t.n.toNat p.rounds t) else b
def gG(m:Mac) (l:List Py) (i:Nat):Int:=playE m (l.getD i default).inp (l.getD i default).word
def fV(p:Pb) (m:Mac):Tr × Int × Int:=
 if fx p m≠0 then(noTr,0,fx p m) else if buildE p≠0 then(noTr,0,buildE p)
 else if aP (aN p).length (gG m (aN p))≠0 then(noTr,0,aP (aN p).length (gG m (aN p)))
 else((bestTo p m (aN p) (aN p).length).1,max (bestTo p m (aN p) (aN p).length).2 0,0)
def eV(p:Pb) (m:Mac) (x:Py):Int:=
 if playE m x.inp x.word≠0 then 0 else if (verdR p m (eQ m x.inp x.word)).2≠0 then 0 else(verdR p m (eQ m x.inp x.word)).1
def badB(p:Pb) (m:Mac) (x:Py):Bool:=decide (eV p m x≠0)
def eh(p:Pb) (m:Mac):Int:=firstIx (aN p).length fun i=>badB p m ((aN p).getD i default)
def gp(p:Pb) (m:Mac):Tr × Int × Bool × Int:=
 if fx p m≠0 then(noTr,0,false,fx p m) else if buildE p≠0 then(noTr,0,false,buildE p)
 else if eh p m<0 then(noTr,0,false,0)
 else let x:=(aN p).getD (eh p m).toNat default
  (eQ m x.inp x.word,eV p m x,true,0)
def permB(p:Pb) (word:List Rd):Bool:=decide ((word.length:Int)=p.rounds)&&decide (0<=afterS p.a 0 word)
def cG(p:Pb) (x:Py):Int:=if findE p.t x.inp<0 then 6 else if permB p x.word then 0 else 25
def mR(a b:Rd):Bool:=!anyLt b.g.n.toNat (fun q=>!cL (b.g.hear q) (a.g.hear q))&&decide (a.g≠b.g)&&cL a.f b.f
def uU(r:Rd):List Rd->List Rd
 | []=>[r]
 | x :: l=>if roundC r x<0 then r :: x :: l else if roundC r x=0 then x :: l else x :: uU r l
def cW(a:Adv):List Rd:=(a.states.flatMap fun l=>l.map (·.r)).foldr uU []
def uV(p:Pb) (x:Py) (k:Nat):List Py:=
 ((cW p.a).filter fun r=>mR r (x.word.getD k default)&&permB p (x.word.set k r)).map fun r=>⟨x.inp,x.word.set k r⟩
def BM(p:Pb) (x:Py) (q:Nat):List Py:=
 ((List.range (x.inp.getD q 0).toNat).filter fun v=>decide (0<=findE p.t (x.inp.set q (v:Nat)))).map fun v=>⟨x.inp.set q (v:Nat),x.word⟩
def nearS(p:Pb) (x:Py):List Py:=(List.range x.word.length).flatMap (uV p x)++(List.range x.inp.length).flatMap (BM p x)
def pE(p:Pb) (x:Py):List Py × Int:=if probE p≠0 then([],probE p) else if cG p x≠0 then([],cG p x) else(nearS p x,0)
def beginE(p:Pb) (m:Mac) (x:Py):Int:=if fx p m≠0 then fx p m else if cG p x≠0 then cG p x else if eV p m x=0 then 21 else 0
def gH(p:Pb) (m:Mac) (x:Py):Option Py:=(nearS p x).find? (badB p m)
end Go.Proofs.YtkfgpnbpcpdclaaGreat
namespace Go.Proofs.YtkfgpnbpcpdclaaGreat
open Go.ChangeShapes Go.WideShapes Go.ChangeAt Go.RowKit Go
section
variable {H : Type} {enc : TypeId × Value → H} {w : World}
theorem Ub{l:List Value} (h:l.length=2):∃ c0 c1,l=[c0,c1]:=by
 match l,h with
 | [c0,c1],_=>exact⟨c0,c1,rfl⟩
theorem Tryz.cPlay58:Tryz.prog.cellsOf 39=2:=by kernel_rfl
theorem JT{fuel:Nat} {cs:List Value} {x:DataW H × List MemPlace} (h:gU enc w fuel 39 cs x) (hz:mr 39 x.1) :
  ∃ (y:Py) (vi u:Value),cs=[vi,u]/\aU w vi y.inp/\bN w u y.word:=by
 obtain⟨hl,n,hf⟩:=kB Tryz.underlying39 h hz;rw[Tryz.cPlay58]at hl;obtain⟨c0,c1,rfl⟩:=Ub hl;obtain⟨u0,s0,q0⟩:=hf 0 _ rfl;obtain⟨u1,s1,q1⟩:=hf 1 _ rfl;change gU enc w n 36 (([c0,c1].drop 0).take (Tryz.prog.cellsOf 36)) u0 at s0;change gU enc w n 37 (([c0,c1].drop 1).take (Tryz.prog.cellsOf 37)) u1 at s1;change mr 36 u0.1 at q0;change mr 37 u1.1 at q1;rw[Tryz.cInts]at s0;rw[Tryz.cWord]at s1;obtain⟨v0,l0,e0,g0⟩:=lR Tryz.underlying36 Tryz.cInt (by omega) (of_decide_eq_true (by kernel_rfl)) opn_int s0 q0;obtain⟨v1,l1,e1,g1⟩:=lR Tryz.underlying37 Tryz.cRound (by omega) (of_decide_eq_true (by kernel_rfl)) opn_round s1 q1;simp at e0 e1;subst e0 e1;exact⟨⟨_,_⟩,_,_,rfl,g0,g1⟩
end
end Go.Proofs.YtkfgpnbpcpdclaaGreat
namespace Go.Proofs.YtkfgpnbpcpdclaaGreat
open Go.RowKit Go Go.Shelf
theorem aL.keepT{w w':World} {base sz:Nat} {e:TypeId} {v:Value} {n:Nat} {xs:List Value} (h:aL w base e sz v n xs) (hk:∀ g o,v.ownBlock=some g->w.heap[g]?=some o->w'.heap[g]?=some o):aL w' base e sz v n xs:=by
 obtain⟨hl,h⟩:=h;refine⟨hl,?_⟩;rcases h with h|⟨g,cap,cur,fz,rfl,h2,h3,h4⟩
 ·exact .inl h
 ·exact .inr ⟨g,cap,cur,fz,rfl,h2,hk g _ rfl h3,h4⟩
theorem yA(k:Nat) (h:k<=30):(1:Int)<=2 ^ k/\(2:Int) ^ k<=1073741824:=by
 have h1:2 ^ k<=2 ^ 30:=Nat.pow_le_pow_right (by decide) h;have h2:1<=2 ^ k:=Nat.one_le_two_pow;have e:((2 ^ k:Nat):Int)=2 ^ k:=by simp
 rw[<-e];omega
theorem uW(n:Nat) (h:n<=30) (w:World) :
  Calls Tryz.prog 208 #[.int .i64 n] w fun e w'=>e=.returned (.int .i64 (2 ^ n))/\w=w':=by
 go_enter Tryz.func208,Tryz.ntmps208
 go_wp2
 go_loop [3,4] (fun o i=>∃ k:Nat,k<=n/\i=.int .i64 k/\o=.int .i64 (2 ^ k)) (fun _ i=>n - (intOf i).toNat)
 case atStart=>exact⟨0,by omega,rfl,rfl⟩
 case round=>
  obtain⟨k,hk,rfl,rfl⟩:=hrel;have hp:=yA k (by omega);have HS:Hid ((2:Int) ^ (k+1)=2 ^ k * 2):=by(have h:(2:Int) ^ (k+1)=2 ^ k * 2:=Int.pow_succ _ _);exact h
  have HK:Hid ((2:Int) ^ k=2 ^ k):=by exact rfl
  generalize hx:(2:Int) ^ k=x at hp HS;have HX:=aa hx;clear hx;by_cases aF:k<n
  ·go_wp2
   go_round
   case rel=>exact⟨k+1,by omega,by go_num,by rw[HS.out]⟩
   case measure=>simp[intOf];omega
  ·go_wp2
   go_ret
   obtain rfl:k=n:=by omega
   exact⟨aC HX.out.symm,rfl⟩
theorem QA(set:Int) (p:Nat) (h:0<=set):(Int.tmod (Int.tdiv set (2 ^ p)) 2 == 1)=cS set p:=by
 unfold cS;rw[Int.tdiv_eq_ediv_of_nonneg h,Int.tmod_eq_emod_of_nonneg (Int.ediv_nonneg h (by have:=Int.pow_pos (n:=2) (m:=p) (by decide);omega))]
theorem AF(set:Int) (p:Nat) (h:p<=30) (h0:0<=set) (h1:set<=9223372036854775807) (w:World) :
  Calls Tryz.prog 196 #[.int .i64 set,.int .i64 p] w fun e w'=>e=.returned (.bool (cS set p))/\w=w':=by
 have hp:=yA p h;have HD:=aa (QA set p h0);have hc:=fun w=>uW p h w
 have HC:=aa hc;clear hc;generalize (2:Int) ^ p=x at hp HD HC
 go_enter Tryz.func196,Tryz.ntmps196
 go_wp2_with (go_at_call 208;refine(HC.out _).mono ?_;rintro e w' ⟨rfl,rfl⟩)
 go_ret
 refine⟨aV ?_,rfl⟩;rw[<-HD.out,Int.tdiv_eq_ediv_of_nonneg h0,Int.tmod_eq_emod_of_nonneg (Int.ediv_nonneg h0 (by omega))]
theorem NJ(n:Nat) (h:n<=30) (w:World) :
  Calls Tryz.prog 206 #[.int .i64 n] w fun e w'=>e=.returned (.int .i64 (2 ^ n - 1))/\w=w':=by
 have hp:=yA n h;have HC:=aa (fun w=>uW n h w);generalize (2:Int) ^ n=x at hp HC
 go_enter Tryz.func206,Tryz.ntmps206
 go_wp2_with (go_at_call 208;refine(HC.out _).mono ?_;rintro e w' ⟨rfl,rfl⟩)
 go_ret
 exact⟨rfl,rfl⟩
theorem BN(n:Int) (w:World) :
  Calls Tryz.prog 207 #[.int .i64 n] w fun e w'=>e=.returned (.int .i64 (iO n))/\w=w':=by
 go_enter Tryz.func207,Tryz.ntmps207
 go_wp2
 all_goals
  go_ret
  refine⟨aC ?_,rfl⟩
  go_light
  unfold iO
  grind
theorem TF(f:Int) (n:Nat) (h:0<=f):f / 2 ^ n≠0↔2 ^ n<=f:=by
 have hp:(0:Int)<2 ^ n:=Int.pow_pos (by decide);constructor
 ·intro h1
  rcases Int.lt_or_le f (2 ^ n) with h2|h2
  ·exact absurd (Int.ediv_eq_zero_of_lt h h2) h1
  ·exact h2
 ·intro h1 h2
  have:(1:Int)<=f / 2 ^ n:=(Int.le_ediv_iff_mul_le hp).2 (by omega);omega
theorem F'(n set:Int) (w:World) :
  Calls Tryz.prog 194 #[.int .i64 n,.int .i64 set] w fun e w'=>e=.returned (.int .i64 (ld n set))/\w=w':=by
 by_cases hn:n<1\/5<n
 ·have hp:iO n=1:=by unfold iO;rw[if_pos hn]
  have HP:Hid (ld n set=1):=by(have h:ld n set=1:=by(unfold ld;rw[hp];rfl));exact h
  have HC:=aa (BN n);rw[hp]at HC;clear hp
  go_enter Tryz.func194,Tryz.ntmps194
  go_wp2_with (go_at_call 207;refine(HC.out _).mono ?_;rintro e w' ⟨rfl,rfl⟩)
  go_ret
  exact⟨aC HP.out.symm,rfl⟩
 ·have hp:iO n=0:=by unfold iO;rw[if_neg hn]
  obtain⟨m,rfl⟩:∃ m:Nat,n=m:=⟨n.toNat,by omega⟩
  have HP:Hid (ld m set=if set<0\/2 ^ m<=set then 2 else 0):=by
   have h:ld m set=if set<0\/2 ^ m<=set then 2 else 0:=by
    unfold ld;rw[hp,Int.toNat_natCast,if_neg (by simp)];by_cases h0:set<0
    ·simp[h0]
    ·have:=TF set m (by omega)
     simp only[this]
   exact h
  have HC:=aa (BN m);rw[hp]at HC;have fA:=aa (fun w=>uW m (by omega) w);generalize (2:Int) ^ m=x at HP fA;clear hp hn
  go_enter Tryz.func194,Tryz.ntmps194
  go_wp2_with (first|(go_at_call 207;refine(HC.out _).mono ?_;rintro e w' ⟨rfl,rfl⟩)|(go_at_call 208;refine(fA.out _).mono ?_;rintro e w' ⟨rfl,rfl⟩))
  all_goals
   go_ret
   refine⟨aC ?_,rfl⟩;rw[HP.out]
   go_light
   grind
theorem JU(a b:Int) (h1:0<=a/\a<=9223372036854775807) (h2:0<=b/\b<=9223372036854775807) (w:World) :
  Calls Tryz.prog 170 #[.int .i64 a,.int .i64 b] w fun e w'=>e=.returned (.bool (cL a b))/\w=w':=by
 have HV:Hid (cL a b=!anyLt 5 fun p=>cS a p&&!cS b p):=by exact rfl
 go_enter Tryz.func170,Tryz.ntmps170
 go_wp2
 go_loop [5] (fun i=>∃ k:Nat,k<=5/\i=.int .i64 k/\∀ j,j<k->(cS a j&&!cS b j)=false) (fun i=>5 - (intOf i).toNat)
 case atStart=>exact⟨0,by omega,rfl,by simp⟩
 case round=>
  obtain⟨k,hk,rfl,aO⟩:=hrel;have H:=aa aO;clear aO;by_cases aF:k<5
  ·have C1:=aa (fun w=>AF a k (by omega) h1.1 h1.2 w)
   have C2:=aa (fun w=>AF b k (by omega) h2.1 h2.2 w);cases hx:cS a k with
   | false=>
    rw[hx]at C1;have HX:=aa hx;clear hx
    go_wp2_with (go_at_call 196;refine(C1.out _).mono ?_;rintro e w' ⟨rfl,rfl⟩)
    go_round
    case rel=>exact⟨k+1,by omega,by go_num,aQ H.out (by rw[HX.out];rfl)⟩
    case measure=>simp[intOf];omega
   | true=>
    rw[hx]at C1;have HX:=aa hx;clear hx;cases hy:cS b k with
    | false=>
     rw[hy]at C2;have HY:=aa hy;clear hy
     go_wp2_with fail
     refine(C1.out _).mono ?_;rintro e w' ⟨rfl,rfl⟩
     go_wp2_with fail
     refine(C2.out _).mono ?_;rintro e w' ⟨rfl,rfl⟩
     go_wp2_with fail
     go_ret
     exact⟨aV (by rw[HV.out,dP 5 k _ aF (by rw[HX.out,HY.out];rfl)];rfl),rfl⟩
    | true=>
     rw[hy]at C2;have HY:=aa hy;clear hy
     go_wp2_with fail
     refine(C1.out _).mono ?_;rintro e w' ⟨rfl,rfl⟩
     go_wp2_with fail
     refine(C2.out _).mono ?_;rintro e w' ⟨rfl,rfl⟩
     go_wp2_with fail
     go_round
     case rel=>exact⟨k+1,by omega,by go_num,aQ H.out (by rw[HX.out,HY.out];rfl)⟩
     case measure=>simp[intOf];omega
  ·go_wp2
   go_ret
   exact⟨aV (by rw[HV.out,eG];rfl;intro j hj;exact H.out j (by omega)),rfl⟩
end Go.Proofs.YtkfgpnbpcpdclaaGreat
namespace Go.Proofs.YtkfgpnbpcpdclaaGreat
open Go.RowKit Go Go.Shelf
attribute [local go_sem] Oper.semAt_some
theorem Hk{α:Type} {k:Nat} {R:World->Nat->Nat->α->Prop} {W:World} {B n:Nat} {cs:Array Value} {t:TypeId} {xs:List (List α)} (h:W.heap[B]?=some (.cells cs t)) (hn:n=xs.length) (hs:xs.length<=256) (he:∀ i (hi:i<xs.length),∃ v,cs[i]?=some v/\eO k R W v xs[i]):eO 1 (lj k R) W (.slice (some ⟨B,0,none⟩) n n) xs:=by
 subst hn;refine⟨some ⟨B,0,none⟩,xs.length,rfl,⟨Nat.le_refl _,by omega,fun e=>by cases e⟩,by omega,fun i x hx=>⟨B,0,rfl,?_⟩⟩;obtain⟨hi,rfl⟩:=List.getElem?_eq_some_iff.1 hx;obtain⟨v,h1,h2⟩:=he i hi;exact⟨v,by rw[Nat.zero_add,Nat.mul_one,ae h];exact h1,h2⟩
theorem LH(l:List Obj) (w:World) {k:Nat} {o:Obj} (h:w.heap[k]?=some o):(l.foldl World.alloc w).heap[k]?=some o:=by
 induction l generalizing w with
 | nil=>exact h
 | cons a r ih=>exact ih _ (aq _ h)
theorem fW(l:List Obj) (w:World) (i:Nat) {o:Obj} (h:l[i]?=some o):(l.foldl World.alloc w).heap[w.heap.size+i]?=some o:=by
 induction l generalizing w i with
 | nil=>simp at h
 | cons a r ih=>
  cases i with
  | zero=>
   simp at h;subst h;exact LH r _ (ar w a)
  | succ i=>
   have:=ih (w.alloc a) i (by simpa using h);rw[World.size_alloc]at this;rw[show w.heap.size+(i+1)=w.heap.size+1+i by omega];exact this
theorem xh(l:List Obj) (w:World):Below w.heap.size w (l.foldl World.alloc w):=by
 have:∀ (l:List Obj) (W:World),Below w.heap.size w W->Below w.heap.size w (l.foldl World.alloc W):=by
  intro l;induction l with
  | nil=>intro W h;exact h
  | cons a r ih=>intro W h;exact ih _ (h.alloc h.size a)
 exact this l w (Below.refl _ _)
theorem NK{l:List Int} (h:∀ x∈l,-2<x/\x<100):∀ i,i<l.length->bK (l.getD i 0):=fun i hi=>by
 have:=h _ (List.getElem_mem hi);rw[aA 0 hi];unfold bK;omega
theorem ib{W:World} {B:Nat} (l:List Int) (h:W.heap[B]?=some (.cells (dA l) 3)) (hn:l.length<=256) (hs:∀ x∈l,-2<x/\x<100):aU W (.slice (some ⟨B,0,none⟩) l.length l.length) l:=uM rfl hn h (NK hs)
theorem QB(w:World):aU w (.slice none 0 0) []:=⟨none,0,rfl,⟨by simp,by omega,fun _=>rfl⟩,by simp,fun i x hx=>by simp at hx⟩
theorem kq{α:Type} {k:Nat} {R:World->Nat->Nat->α->Prop} {W:World} {B:Nat} {a b:Value} {t:TypeId} {x y:List α} (h:W.heap[B]?=some (.cells #[a,b] t)) (ha:eO k R W a x) (hb:eO k R W b y):eO 1 (lj k R) W (.slice (some ⟨B,0,none⟩) 2 2) [x,y]:=
 Hk h rfl (by simp) fun i hi=>by
  rcases (show i=0\/i=1 by simp at hi;omega) with rfl|rfl
  ·exact⟨a,rfl,ha⟩
  ·exact⟨b,rfl,hb⟩
theorem Et{α:Type} {k:Nat} {R:World->Nat->Nat->α->Prop} {W:World} {B:Nat} {a:Value} {t:TypeId} {x:List α} (h:W.heap[B]?=some (.cells #[a] t)) (ha:eO k R W a x):eO 1 (lj k R) W (.slice (some ⟨B,0,none⟩) 1 1) [x]:=
 Hk h rfl (by simp) fun i hi=>by
  obtain rfl:i=0:=by simp at hi;omega
  exact⟨a,rfl,ha⟩
abbrev iC(l:List Int):Obj:=.cells (dA l) 3
abbrev sV(B n:Nat):Value:=.slice (some ⟨B,0,none⟩) n n
theorem BO{P:Program} {ops:Array Oper} {Q:Exit->Act->World->Prop} {l:List Oper} {a:Act} {W:World} (I:World->Prop) (h:I W) (k:∀ W0,I W0->wpList P ops Q l a W0):wpList P ops Q l a W:=k W h
end Go.Proofs.YtkfgpnbpcpdclaaGreat
namespace Go.Proofs.YtkfgpnbpcpdclaaGreat
open Go.RowKit Go Go.Shelf
def sX(tb:List Vw):List (Vw × Value):=tb.zipIdx.map fun x=>(x.1,Value.int .i64 (x.2:Nat))
theorem NL(tb:List Vw) (v:Vw):sX (tb++[v])=sX tb++[(v,.int .i64 (tb.length:Nat))]:=by
 unfold sX;rw[List.zipIdx_append];simp
theorem QC(v:Vw) (tb:List Vw):∀ k:Nat,(((tb.zipIdx k).map fun x=>(x.1,Value.int .i64 ((x.2:Nat):Int))).find? fun p=>decide (v=p.1))=if v∈tb then some (v,.int .i64 ((k+tb.idxOf v:Nat):Int)) else none:=by
 induction tb with
 | nil=>intro k;simp
 | cons a r ih=>
  intro k;rw[List.zipIdx_cons,List.map_cons,List.find?_cons];by_cases h:v=a
  ·subst h
   simp
  ·have h2:decide (v=(a,Value.int .i64 ((k:Nat):Int)).1)=false:=by simpa using h
   rw[h2];have h3:=ih (k+1);simp only at h3 ⊢;rw[h3];have h4:(a == v)=false:=by simpa using fun e=>h e.symm
   by_cases hm:v∈r
   ·rw[if_pos hm,if_pos (by simp[hm]),List.idxOf_cons,h4]
    simp only[cond_false];rw[show k+1+List.idxOf v r=k+(List.idxOf v r+1) by omega]
   ·rw[if_neg hm,if_neg (by simp[hm,h])]
theorem QD(tb:List Vw) (v:Vw):eE (sX tb) v=if v∈tb then some (.int .i64 (tb.idxOf v:Nat)) else none:=by
 unfold eE sX;have h:=QC v tb 0;simp only[Nat.zero_add]at h;rw[h];split<;>rfl
theorem aL.apart{w w':World} {base base' k k':Nat} {e e':TypeId} {u v:Value} {n m:Nat} {xs ys:List Value} (h:aL w base e k u n xs) (hv:aL w base' e' k' v m ys) (bH:e≠e') (hg:w.grownBy w' v.ownBlock):aL w' base e k u n xs:=by
 obtain⟨hl,h⟩:=h;refine⟨hl,?_⟩;rcases h with h|⟨g,cap,cur,fz,h1,h2,h3,h4⟩
 ·exact .inl h
 ·refine .inr ⟨g,cap,cur,fz,h1,h2,(hg.block g (aB h3) (fun e1=>?_)).trans h3,h4⟩
  exact hv.ne h3 (Ne.symm bH) g e1.symm rfl
def dg{α:Type} (to ti:TypeId) (k:Nat) (flat:List α->List Value) (w:World) (base:Nat) (v:Value) (l:List (List α)):Prop:=
 ∃ xs:List Value,aL w base to 1 v l.length xs/\∀ i (hi:i<l.length),∃ x,xs[i]?=some x/\aL w base ti k x l[i].length (flat l[i])
section
variable {α : Type} {to ti : TypeId} {k : Nat} {flat : List α → List Value} {w w' : World} {base : Nat} {v : Value} {l : List (List α)}
theorem dg.nil(w:World) (base:Nat):dg to ti k flat w base (.slice none 0 0) []:=⟨[],aL.nil _ _ _ _,fun i hi=>by simp at hi⟩
theorem dg.ck(h:dg to ti k flat w base v l) (hb:CK w w'):dg to ti k flat w' base v l:=by
 obtain⟨xs,h1,h2⟩:=h;exact⟨xs,h1.ck hb,fun i hi=>by obtain⟨x,q1,q2⟩:=h2 i hi;exact⟨x,q1,q2.ck hb⟩⟩
theorem dg.up(h:dg to ti k flat w base v l) (hb:Below w.heap.size w w'):dg to ti k flat w' base v l:=h.ck (.of_below hb)
theorem dg.snoc{xs:List Value} (h1:aL w base to 1 v l.length xs) (h2:∀ i (hi:i<l.length),∃ x,xs[i]?=some x/\aL w base ti k x l[i].length (flat l[i])) (bH:ti≠to) {x:Value} {a:List α} (hx:aL w base ti k x a.length (flat a))
  (hg:w.grownBy w' v.ownBlock) {v':Value} (ho:aL w' base to 1 v' (l.length+1) (xs++[x])):dg to ti k flat w' base v' (l++[a]):=by
 have hl:xs.length=l.length:=by have:=h1.1;omega
 refine⟨xs++[x],by simpa using ho,fun i hi=>?_⟩;simp at hi;by_cases aF:i<l.length
 ·obtain⟨y,q1,q2⟩:=h2 i aF
  refine⟨y,by rw[List.getElem?_append_left (by omega)];exact q1,?_⟩;rw[List.getElem_append_left aF];exact q2.apart h1 bH hg
 ·obtain rfl:i=l.length:=by omega
  refine⟨x,by rw[<-hl,List.getElem?_append_right (Nat.le_refl _)];simp,?_⟩;have e:(l++[a])[l.length]'(by simp)=a:=by simp
  rw[e];exact hx.apart h1 bH hg
theorem dg.sl{R:World->Nat->Nat->α->Prop} (h:dg to ti k flat w base v l) (hr:∀ (x:Value) (a:List α),a∈l->aL w base ti k x a.length (flat a)->eO k R w x a) (hn:l.length<=17592186044416):eO 1 (lj k R) w v l:=by
 obtain⟨xs,h1,h2⟩:=h;rcases h1.2 with ⟨rfl,h0⟩|⟨g,cap,cur,fz,rfl,_,hg,_,O4,zH,_,ht⟩
 ·have:l=[]:=List.eq_nil_of_length_eq_zero h0
  subst this;exact⟨none,0,rfl,⟨by simp,by omega,fun _=>rfl⟩,by simp,fun i x hx=>by simp at hx⟩
 ·refine⟨some ⟨g,0,none⟩,cap,rfl,⟨O4,by unfold maxLen at zH;omega,fun e=>by cases e⟩,hn,fun i a ha=>⟨g,0,rfl,?_⟩⟩
  obtain⟨hi,rfl⟩:=List.getElem?_eq_some_iff.1 ha;obtain⟨x,q1,q2⟩:=h2 i hi;refine⟨x,?_,hr x _ (List.getElem_mem hi) q2⟩;rw[Nat.zero_add,Nat.mul_one,ae hg];rw[<-ht,List.getElem?_take]at q1;split at q1
  ·simpa using q1
  ·cases q1
end
theorem up_words:Up (lj 7 jV):=tp up_round
def Uc(w:World) (b o:Nat) (x:Vw):Prop:=
 eH w b o x.p/\eH w b (o+1) x.k/\eH w b (o+2) x.i/\eH w b (o+3) x.h0/\eH w b (o+4) x.h1/\eH w b (o+5) x.h2/\eH w b (o+6) x.h3/\eH w b (o+7) x.h4
abbrev Kl:=eO 8 Uc
abbrev Vw.c(v:Vw):Array Value:=#[.int .i64 v.p,.int .i64 v.k,.int .i64 v.i,.int .i64 v.h0,.int .i64 v.h1,.int .i64 v.h2,.int .i64 v.h3,.int .i64 v.h4]
abbrev Vw.v(v:Vw):Value:=.agg v.c
def kJ(xs:List Vw):List Value:=xs.flatMap fun x=>x.c.toList
theorem NM(a b:List Vw):kJ (a++b)=kJ a++kJ b:=by simp[kJ]
theorem NN(xs:List Vw):∀ u∈kJ xs,u.oneCell'=true:=by
 intro u hu;obtain⟨x,_,hx⟩:=List.mem_flatMap.1 hu;simp at hx;rcases hx with h|h|h|h|h|h|h|h<;>subst h<;>rfl
def WS(w:World) (b o:Nat) (x:Ex):Prop:=eH w b o x.c/\lj 7 jV w b (o+1) x.word/\pP w b (o+2) x.views
abbrev Sn:=eO 3 WS
abbrev ru(p:Pb) (vc vs:Value) (n:Int) (vt ve:Value):Array Value:=rs p vc vs++#[.int .i64 n,vt,ve]
abbrev zeroPb:Pb:=⟨⟨0,0,0,[]⟩,⟨0,[]⟩,0⟩
abbrev zeroSys:Array Value:=ru zeroPb (.slice none 0 0) (.slice none 0 0) 0 (.slice none 0 0) (.slice none 0 0)
structure IsSys (w:World) (s:Sys) (vc vs vt ve:Value):Prop where
 cases:bJ w vc s.prob.t.cases
 states:bn w vs s.prob.a.states
 tab:Kl w vt s.tab
 ex:Sn w ve s.ex
abbrev dZ(w:World) (base:Nat) (v:Value) (l:List (List Int)):Prop:=dg 36 3 1 (fun l=>l.map (Value.int .i64)) w base v l
structure KeepT (ts:List TypeId) (ms:List Nat) (base:Nat) (w w':World):Prop where
 old:Below base w w'
 keep:∀ (k:Nat) (c:Array Value) (t:TypeId) (f:Nat × Nat),w.heap[k]?=some (.cells c t f)->t∉ts->w'.heap[k]?=some (.cells c t f)
 oth:∀ (k:Nat) (o:Obj),w.heap[k]?=some o->o.isCells=false->k∉ms->w'.heap[k]?=some o
section
variable {ts : List TypeId} {ms : List Nat} {base : Nat} {w w' w'' : World}
theorem KeepT.refl(ts:List TypeId) (base:Nat) (w:World):KeepT ts ms base w w:=⟨Below.refl _ _,fun _ _ _ _ h _=>h,fun _ _ h _ _=>h⟩
theorem KeepT.trans(h:KeepT ts ms base w w') (k:KeepT ts ms base w' w''):KeepT ts ms base w w'':=
 ⟨⟨k.old.os.trans h.old.os,k.old.tape.trans h.old.tape,k.old.output.trans h.old.output,Nat.le_trans h.old.size k.old.size,fun j hj=>(k.old.block j hj).trans (h.old.block j hj)⟩,fun j c t f h1 h2=>k.keep j c t f (h.keep j c t f h1 h2) h2,fun j o h1 h2 h3=>k.oth j o (h.oth j o h1 h2 h3) h2 h3⟩
theorem KeepT.of_below(ts:List TypeId) (h:Below w.heap.size w w') (hb:base<=w.heap.size):KeepT ts ms base w w':=
 ⟨⟨h.os,h.tape,h.output,h.size,fun j hj=>h.block j (by omega)⟩,fun _ _ _ _ h1 _=>ak h h1,fun _ _ h1 _ _=>ak h h1⟩
theorem KeepT.drew(h:KeepT ts ms base w w'):KeepT ts ms base w w'.drew:=⟨h.old.drew,h.keep,h.oth⟩
theorem KeepT.mono{us:List TypeId} {ns:List Nat} (h:KeepT ts ms base w w') (hs:∀ t,t∈ts->t∈us) (hm:∀ t,t∈ms->t∈ns):KeepT us ns base w w':=⟨h.old,fun k c t f h1 h2=>h.keep k c t f h1 (fun e=>h2 (hs t e)),fun k o h1 h2 h3=>h.oth k o h1 h2 (fun e=>h3 (hm k e))⟩
theorem KeepT.own{b k n:Nat} {e:TypeId} {v:Value} {xs:List Value} (h:KeepT ts ms base w w') (ho:aL w b e k v n xs) (he:e∉ts):aL w' b e k v n xs:=by
 obtain⟨hl,ho⟩:=ho;refine⟨hl,?_⟩;rcases ho with ho|⟨g,cap,cur,fz,h1,h2,h3,h4⟩
 ·exact .inl ho
 ·exact .inr ⟨g,cap,cur,fz,h1,h2,h.keep _ _ _ _ h3 he,h4⟩
theorem KeepT.fresh{α:Type} {to ti:TypeId} {k:Nat} {flat:List α->List Value} {b:Nat} {v:Value} {l:List (List α)} (h:KeepT ts ms base w w') (hf:dg to ti k flat w b v l) (h1:to∉ts) (h2:ti∉ts):dg to ti k flat w' b v l:=by
 obtain⟨xs,q1,q2⟩:=hf;exact⟨xs,h.own q1 h1,fun i hi=>by obtain⟨x,p1,p2⟩:=q2 i hi;exact⟨x,p1,h.own p2 h2⟩⟩
theorem KeepT.grown{b k n:Nat} {e:TypeId} {v:Value} {xs:List Value} (h:KeepT ts ms base w w') (ho:aL w' b e k v n xs) (he:e∈ts) (hb:base<=b) (hs:base<=w.heap.size) (hg:w'.grownBy w'' v.ownBlock):KeepT ts ms base w w'':=by
 refine⟨Below.grown h.old hg (Nat.le_trans hs h.old.size) (fun g e=>Nat.le_trans hb (ho.lt g e).1),fun j c t f h1 h2=>?_,fun j o h1 h2 h3=>?_⟩
 ·have h3:=h.keep j c t f h1 h2
  exact(hg.block j (aB h3) (fun e'=>ho.ne h3 (fun e=>h2 (e ▸ he)) j e'.symm rfl)).trans h3
 ·have h4:=h.oth j o h1 h2 h3
  exact(hg.block j (aB h4) (fun e'=>ho.isCells h4 h2 e')).trans h4
theorem KeepT.set{B o:Nat} {c:Array Value} {t:TypeId} {f:Nat × Nat} (h:KeepT ts ms base w w') (hB:w'.heap[B]?=some (.cells c t f)) (ht:t∈ts) (hb:base<=B) (v:Value):KeepT ts ms base w (w'.setCell ⟨B,o,none⟩ v):=by
 refine⟨h.old.setCell hb v,fun j c' t' f' h1 h2=>?_,fun j o' h1 h2 h3=>aI (h.oth j o' h1 h2 h3) ?_ o v⟩
 ·have h3:=h.keep j c' t' f' h1 h2
  refine aI h3 ?_ o v;rintro rfl;rw[hB]at h3;cases h3;exact h2 ht
 ·rintro rfl
  have h4:=h.oth _ o' h1 h2 h3;rw[hB]at h4;cases h4;cases h2
theorem KeepT.put{B:Nat} {o o':Obj} (h:KeepT ts ms base w w') (hB:w'.heap[B]?=some o) (ho:o.isCells=false) (hb:base<=B) (hm:B∈ms):KeepT ts ms base w (w'.putObj B o'):=by
 refine⟨cT hb h.old,fun j c' t' f' h1 h2=>?_,fun j o2 h1 h2 h3=>(World.putObj_heap_other (fun e=>h3 (by rw[e];exact hm))).trans (h.oth j o2 h1 h2 h3)⟩;have h3:=h.keep j c' t' f' h1 h2;refine(World.putObj_heap_other ?_).trans h3;rintro rfl;rw[hB]at h3;cases h3;cases ho
end
structure CAppS (w Wr:World) (base:Nat) (ty:TypeId) (sz:Nat) (vd:Value) (p m:Nat) (ds news:List Value) (ib ia:Nat) (D:Nat->Bool) (x:Nat->Value) (W:World):Prop where
 lo:base<=w.heap.size
 old:KeepT [ty] [] base w W
 size:Wr.heap.size<=W.heap.size
 kept:∀ (k:Nat) (o:Obj),Wr.heap[k]?=some o->vd.ownBlock≠some k->W.heap[k]?=some o
 rd:aL W base ty sz (bif D ia then x ia else vd) (bif D ia then p+m else p) (bif D ia then ds++news else ds)
 sb:D ib=true->D ia=false->∃ g,x ib=.slice (some ⟨g,0,none⟩) m m/\W.heap[g]?=some (.cells news.toArray ty)/\vd.ownBlock≠some g
section
variable {w Wr : World} {base : Nat} {ty : TypeId} {sz : Nat} {vd : Value} {p m : Nat} {ds news : List Value} {ib ia : Nat} {D : Nat → Bool} {x : Nat → Value} {W : World}
theorem CAppS.start{x:Nat->Value} (h0:base<=w.heap.size) (hb:KeepT [ty] [] base w W) (hs:Wr.heap.size<=W.heap.size) (hk:∀ (k:Nat) (o:Obj),Wr.heap[k]?=some o->vd.ownBlock≠some k->W.heap[k]?=some o) (hr:aL W base ty sz vd p ds):CAppS w Wr base ty sz vd p m ds news ib ia (fun _=>false) x W:=⟨h0,hb,hs,hk,hr,nofun⟩
theorem CAppS.grow{W':World} (h:CAppS w Wr base ty sz vd p m ds news ib ia D x W) (hb:Below W.heap.size W W'):CAppS w Wr base ty sz vd p m ds news ib ia D x W':=
 ⟨h.lo,h.old.trans (.of_below _ hb (Nat.le_trans h.lo h.old.old.size)),Nat.le_trans h.size hb.size,fun k o h1 h3=>ak hb (h.kept k o h1 h3),h.rd.up hb,
  fun h1 h2=>by obtain⟨g,e,q1,q2⟩:=h.sb h1 h2;exact⟨g,e,ak hb q1,q2⟩⟩
theorem CAppS.other(h:CAppS w Wr base ty sz vd p m ds news ib ia D x W) {i:Nat} (v:Value) (h1:ib≠i) (h2:ia≠i):CAppS w Wr base ty sz vd p m ds news ib ia (bB D i) (cF x i v) W:=by
 refine⟨h.lo,h.old,h.size,h.kept,?_,?_⟩
 ·simpa only[bB,cF,if_neg h2] using h.rd
 ·simpa only[bB,cF,if_neg h2,if_neg h1] using h.sb
theorem CAppS.app(h:CAppS w Wr base ty sz vd p m ds news ib ia D x W) (ha:D ia=false) {v':Value} {w3:World} (ho:aL w3 base ty sz v' (p+m) (ds++news)) (hg:W.grownBy w3 vd.ownBlock) :
  CAppS w Wr base ty sz vd p m ds news ib ia (bB D ia) (cF x ia v') w3:=by
 have rd:=h.rd;rw[ha]at rd;have eN:∀ (k:Nat) (o:Obj),W.heap[k]?=some o->vd.ownBlock≠some k->w3.heap[k]?=some o:=fun k o hk hn=>(hg.block k (aB hk) (fun e=>hn e.symm)).trans hk
 refine⟨h.lo,h.old.grown rd (by simp) (Nat.le_refl _) h.lo hg,Nat.le_trans h.size hg.size,fun k o h1 h3=>eN k o (h.kept k o h1 h3) h3,?_,fun _ e=>by simp[bB]at e⟩;simpa[bB,cF] using ho
theorem CAppS.build(h:CAppS w Wr base ty sz vd p m ds news ib ia D x W) (h1:ia≠ib):CAppS w Wr base ty sz vd p m ds news ib ia (bB D ib) (cF x ib (.slice (some ⟨W.heap.size,0,none⟩) m m)) (W.alloc (.cells news.toArray ty)):=by
 have g:=h.grow (W':=W.alloc (.cells news.toArray ty)) (by go_grown);refine⟨g.lo,g.old,g.size,g.kept,?_,fun _ h4=>⟨W.heap.size,by simp[cF],ar _ _,fun e=>?_⟩⟩
 ·simpa only[bB,cF,if_neg h1] using g.rd
 ·have Fo:D ia=false:=by simpa only[bB,if_neg h1] using h4
  have r:=h.rd;rw[Fo]at r;have:=(r.lt _ e).2;omega
end
end Go.Proofs.YtkfgpnbpcpdclaaGreat
namespace Go.Proofs.YtkfgpnbpcpdclaaGreat
open Go.RowKit Go Go.Shelf
attribute [local go_sem] Oper.semAt_some
theorem TG(d:Nat) (a b:Vw) (w:World):(Op.equalIn (d+3) 200 a.v b.v).run Tryz.prog w=.ok (decide (a=b)) w:=by
 have hS:Tryz.prog.underlying 200=some (.struct (Tryz.prog.fieldsOf 200)):=by kernel_rfl
 have hp:Tryz.prog.stoodInHeld 200=false:=by kernel_rfl
 rw[run_equalIn_struct w (d+2) 200 _ _ hS hp];have ag:=Tryz.isAgg3;have ah:=Tryz.isAgg48;have zh:=Tryz.sizeOf48;have u3:=Tryz.underlying3;simp only[Program.fieldsOf,Tryz.underlying200];simp[Op.eqFields,part,ag,ah,zh,run_equalIn_int w (d+1) 3 _ .i64 _ _ u3,uE d];obtain⟨n,k,j,h0,h1,h2,h3,h4⟩:=a;obtain⟨m,l,i,g0,g1,g2,g3,g4⟩:=b;by_cases hn:n=m
 case neg=>simp[hn]
 by_cases hk:k=l
 case neg=>simp[hn,hk]
 by_cases hj:j=i
 case neg=>simp[hn,hk,hj]
 by_cases hh:h0=g0/\h1=g1/\h2=g2/\h3=g3/\h4=g4<;>simp[hn,hk,hj,hh]
theorem kit_vw:KeyKit Tryz.prog 200 Vw.v:=
 ⟨fun a b w=>TG 9997 a b w,fun em a w=>by kernel_rfl,⟨_,Tryz.underlying200⟩⟩
theorem Tryz.infoView:(Tryz.prog.info? 200).map (fun i=>(i.zero,i.size,i.bytes))=some (some (.agg #[.int .i64 0,.int .i64 0,.int .i64 0,.int .i64 0,.int .i64 0,.int .i64 0,.int .i64 0,.int .i64 0]),8,64):=by kernel_rfl
abbrev silV:Value:=.agg #[.int .i64 (-1),.int .i64 (-1),.int .i64 (-1),.int .i64 (-1),.int .i64 (-1)]
theorem zm(w:World):Calls Tryz.prog 104 #[] w fun e w'=>e=.returned silV/\Below w.heap.size w w':=by
 go_enter Tryz.func104,Tryz.ntmps104
 go_wp2_with fail
 refine bw (fun W=>Below w.heap.size w W/\W.heap[w.heap.size]?=some (.cells (hC (fun _=>-1) 0) 48)/\W.heap[w.heap.size+1]?=some (.cells (hC (fun _=>-1) 0) 48)) ⟨by go_grown,by rw[yu];exact aq _ (ar _ _),by rw[yu];exact aX _ _ _⟩ (fun W0 bd=>?_);obtain⟨aH,iq,wE⟩:=bd
 go_loopw [3] (fun i wr=>∃ q:Nat,q<=5/\i=.int .i64 q/\Below w.heap.size w wr/\wr.heap[w.heap.size]?=some (.cells (hC (fun _=>-1) 0) 48)/\wr.heap[w.heap.size+1]?=some (.cells (hC (fun _=>-1) q) 48)) (fun i _=>5 - (intOf i).toNat)
 case atStart=>exact⟨0,by omega,rfl,aH,iq,wE⟩
 case round=>
  clear aH iq wE;obtain⟨q,hq,rfl,aJ,hR,hO⟩:=hrel;by_cases aF:q<5
  ·have zq:=aD hO q
   have tq:=ae hO q;rw[Bv _ _ _ aF]at tq;have HR:=aa hR;have HO:=aa hO;clear hR hO;have Mu:(q:Int)<5:=by omega
   go_wp2_with fail
   go_roundw
   case rel=>exact⟨q+1,by omega,by go_num,aJ.setCell (by dsimp only;omega) _,aI HR.out (by omega) _ _,by rw[aE HO.out,<-wU (fun _=>-1) q aF]⟩
   case measure=>simp[intOf];omega
  ·obtain rfl:q=5:=by omega
   have tq:=ae hO;have HR:=aa hR;have HO:=aa hO;have zq:=fun o=>aD hR o
   have tq0:=ae hR;rw[Kf]at tq;simp[yu]at tq0;clear hR hO
   go_wp2_with fail
   have h5:=aE (aE (aE (aE (aE HR.out 0 (.int .i64 (-1))) 1 (.int .i64 (-1))) 2 (.int .i64 (-1))) 3 (.int .i64 (-1))) 4 (.int .i64 (-1));refine bodyPost_ret (yQ _ _ 0 rfl w.heap.size _ (-1) (-1) (-1) (-1) (-1) 48 rfl (h5.trans rfl)) rfl ⟨rfl,?_⟩;exact((((aJ.setCell (by dsimp only;omega) _).setCell (by dsimp only;omega) _).setCell (by dsimp only;omega) _).setCell (by dsimp only;omega) _).setCell (by dsimp only;omega) _
abbrev bldT:List TypeId:=[200,151]
structure BldIs (base b mb n:Nat) (tab:List Vw) (W:World):Prop where
 lo:base<=b
 ex:∃ vs,W.heap[b]?=some (.cells #[.int .i64 n,vs,.map (some mb)] 151)/\base<=mb/\aL W base 200 8 vs tab.length (kJ tab)/\df Vw.v W mb (sX tab)
theorem BldIs.up{base b mb n:Nat} {tab:List Vw} {W W':World} (h:BldIs base b mb n tab W) (hb:Below W.heap.size W W'):BldIs base b mb n tab W':=by
 obtain⟨vs,h1,h2,h3,h4⟩:=h.ex;exact⟨h.lo,vs,ak hb h1,h2,h3.up hb,h4.up hb⟩
theorem LI(v:Vw):∀ u∈v.c.toList,u.oneCell'=true:=fun u hu=>NN [v] u (by simpa[kJ] using hu)
theorem TH(tb:List Vw) (v:Vw):(lc tb v).2<=tb.length:=by
 unfold lc;split
 ·exact List.idxOf_le_length
 ·exact Nat.le_refl _
theorem Km(base b mb n:Nat) (tab:List Vw) (v:Vw) (w:World) (hB:BldIs base b mb n tab w) (hl:tab.length<=100000) :
  Calls Tryz.prog 103 #[.pointer (some ⟨b,0,none⟩),v.v] w fun e w'=>e=.returned (.int .i64 (lc tab v).2)/\BldIs base b mb n (lc tab v).1 w'/\KeepT bldT [mb] base w w':=by
 have kW:=hB.lo;obtain⟨vs,h1,h2,h3,h4⟩:=hB.ex;have b7:=aB h1;obtain⟨av,cv,rfl⟩:=h3.slice;have H1:=aa h1;have H3:=aa h3;have H4:=aa h4;clear h1 h3 h4 hB
 go_enter Tryz.func103,Tryz.ntmps103
 go_wp2_with fail
 refine bw (fun W=>Below w.heap.size w W/\W.heap[w.heap.size]?=some (.cells v.c 200)) ⟨by go_grown,ar _ _⟩ (fun W0 bd=>?_);obtain⟨aH,qQ⟩:=bd;have HV0:=aa qQ;have k1:∀ x:ExtW W0,∀ o,x.val.cell? ⟨w.heap.size,o,none⟩=_:=fun x=>ae (ak x.ext qQ)
 have k2:∀ x:ExtW W0,∀ o,x.val.cell? ⟨b,o,none⟩=_:=fun x=>ae (ak (aj aH x.ext) H1.out)
 have PD:∀ x:ExtW W0,df Vw.v x.val mb (sX tab):=fun x=>H4.out.up (aj aH x.ext)
 have O8:=aa PD;have vh:=QD tab v;clear qQ PD;by_cases hm:v∈tab
 ·have HP:Hid (lc tab v=(tab,tab.idxOf v)):=aa (by unfold lc;rw[if_pos hm])
  rw[if_pos hm]at vh
  have k3:∀ x:ExtW W0,(Instr.lookup 149 (.map (some mb)) v.v true).run Tryz.prog x.val=.ok (.tuple #[.int .i64 (tab.idxOf v:Nat),.bool true]) x.val:=fun x=>by
   have:=uN kit_vw (mt:=149) (vt:=3) (z:=.int .i64 0) Tryz.underlying149 (fun w=>by kernel_rfl) (O8.out x) v;rw[vh]at this;exact this
  clear vh;refine aK (by kernel_rfl) (by kernel_rfl) ?_
  repeat (go_big_quiet_step (fail))
  refine wpQuiet_nil ?_;intro _ bV;obtain⟨xq,bC⟩:=bV;subst bC;clear k1 k2 k3
  go_wp2_with fail
  go_ret
  rw[HP.out];have hx:=aj aH xq.ext;exact⟨rfl,⟨kW,_,ak hx H1.out,h2,H3.out.up hx,H4.out.up hx⟩,KeepT.of_below _ hx (by omega)⟩
 ·have HP:Hid (lc tab v=(tab++[v],tab.length)):=aa (by unfold lc;rw[if_neg hm])
  rw[if_neg hm]at vh
  have k3:∀ x:ExtW W0,(Instr.lookup 149 (.map (some mb)) v.v true).run Tryz.prog x.val=.ok (.tuple #[.int .i64 0,.bool false]) x.val:=fun x=>by
   have:=uN kit_vw (mt:=149) (vt:=3) (z:=.int .i64 0) Tryz.underlying149 (fun w=>by kernel_rfl) (O8.out x) v;rw[vh]at this;exact this
  have D6:=aa vh;clear vh;refine aK (by kernel_rfl) (by kernel_rfl) ?_
  repeat (go_big_quiet_step (fail))
  refine wpQuiet_nil ?_;intro _ bV;obtain⟨xq,bC⟩:=bV;subst bC;clear k1 k2 k3;have hx:=aj aH xq.ext;have SU:=ak xq.ext HV0.out;generalize xq.val=W1 at hx SU;have HX:=aa hx;have Vd:=aa SU;have t1:=ae (ak hx H1.out);have tv:=ae SU;obtain⟨o,fY,CC⟩:=yo kit_vw (mt:=149) (vt:=3) Tryz.underlying149 (w:=W1.drew) (b:=mb) (f:=sX tab) (H4.out.up hx.drew) v (.int .i64 (tab.length:Nat)) D6.out;have Jy:=aa CC;clear hx SU CC
  go_wp2_with fail
  go_still_tail 6,(by kernel_rfl)
  change wpList _ _ _ _ _ W1.drew
  go_wp2_with fail
  have Fx:∃ o2,W1.drew.heap[mb]?=some o2/\o2.isCells=false:=by
   obtain⟨es,ck,p1,_⟩:=H4.out.up HX.out.drew;exact⟨_,p1,rfl⟩
  obtain⟨o2,Fx,Fu⟩:=Fx;have P7:b≠mb:=fun e=>by rw[<-e,(ak HX.out.drew H1.out)]at Fx;cases Fx;cases Fu
  have hvn:w.heap.size≠mb:=fun e=>by
   have h9:W1.drew.heap[w.heap.size]?=some (.cells v.c 200):=Vd.out;rw[e,Fx]at h9;cases h9;cases Fu
  refine bw (fun W=>W.heap[b]?=some (.cells #[.int .i64 n,.slice av tab.length cv,.map (some mb)] 151)/\aL W base 200 8 (.slice av tab.length cv) tab.length (kJ tab)/\df Vw.v W mb (sX (tab++[v]))/\W.heap[w.heap.size]?=some (.cells v.c 200)/\KeepT bldT [mb] base w W/\w.heap.size<W.heap.size)
   ⟨(World.putObj_heap_other P7).trans (ak HX.out.drew H1.out),(H3.out.up HX.out.drew).keepT fun g o' e1 e2=>(World.putObj_heap_other (fun e=>(H3.out.up HX.out.drew).isCells (B:=mb) Fx Fu (by rw[e1,e]))).trans e2,by rw[NL];exact Jy.out,(World.putObj_heap_other hvn).trans Vd.out,(KeepT.of_below _ HX.out.drew (by omega)).put Fx Fu h2 (by simp),by have:=aB Vd.out;simpa using this⟩ (fun W2 jD=>?_)
  obtain⟨g1,g3,g4,g5,g6,g7⟩:=jD;have G1:=aa g1;have G3:=aa g3;have G4:=aa g4;have G5:=aa g5;have G6:=aa g6;clear g1 g3 g4 g5 g6 Fx Fu fY t1 tv;obtain⟨i0,fZ,dp,du,eB⟩:=info_parts Tryz.infoView
  refine m' 8 [29,30,31,32,33,34,35,36] [some (.pointer (some ⟨b,0,none⟩)),
   some (.pointer (some ⟨b,0,none⟩)),
   some (.pointer (some ⟨b,0,none⟩)),
   some (.pointer (some ⟨b,1,none⟩)),
   some (.slice av tab.length cv),
   some (v.v),
   none,
   none] (CAppS W2 W2 base 200 8 (.slice av tab.length cv) tab.length 1 (kJ tab) v.c.toList 6 7) (by kernel_rfl) rfl (by decide) rfl (by kernel_rfl) (by kernel_rfl) (by kernel_rfl) (fun _=>CAppS.start (by omega) (KeepT.refl _ _ _).drew (Nat.le_refl _) (fun _ _ h _=>h) G3.out) ?step ?tail
  case step=>
   intro x W D i o s F hi ho hs hD cN bW al hv az hF;have bY:i=0\/i=1\/i=2\/i=3\/i=4\/i=5\/i=6\/i=7:=by omega
   rcases bY with rfl|rfl|rfl|rfl|rfl|rfl|rfl|rfl
   all_goals (have bv:=cN _ _ hs hD;obtain rfl:=cO ho.symm;obtain rfl:=cO hs.symm)
   ·clear al hi hv
    have e0:F.getD 0 undef=.pointer (some ⟨b,0,none⟩):=eJ hF (by decide) rfl;clear cN bW;clear hF bv;have e0':=br e0;have HD:=aa hD;have ap:=aa az;clear hD az
    go_wp2_with fail
    refine aR.mk _ cD ?_ rfl;exact ap.out.other _ (by decide) (by decide)
   ·clear al hi hv
    have e0:F.getD 0 undef=.pointer (some ⟨b,0,none⟩):=eJ hF (by decide) rfl;clear cN bW;clear hF bv;have e0':=br e0;have HD:=aa hD;have ap:=aa az;clear hD az
    go_wp2_with fail
    refine aR.mk _ cD ?_ rfl;exact ap.out.other _ (by decide) (by decide)
   ·have g1:=al ⟨1,.data⟩ (by simp) rfl
    have d1:=hv 1 _ (by omega) g1 rfl;clear al hi hv;have e30:=bT hF 1 30 (by decide) rfl (by kernel_rfl) d1;clear cN bW;clear hF bv d1;have e30':=br e30;have HD:=aa hD;have ap:=aa az;clear hD az;clear g1
    go_wp2_with fail
    refine aR.mk _ cD ?_ rfl;exact ap.out.other _ (by decide) (by decide)
   ·have g2:=al ⟨2,.data⟩ (by simp) rfl
    have d2:=hv 2 _ (by omega) g2 rfl;clear al hi hv;have e31:=bT hF 2 31 (by decide) rfl (by kernel_rfl) d2;clear cN bW;clear hF bv d2;have e31':=br e31;have HD:=aa hD;have ap:=aa az;clear hD az;clear g2
    go_wp2_with fail
    refine aR.mk _ cD ?_ rfl;exact ap.out.other _ (by decide) (by decide)
   ·have g3:=al ⟨3,.data⟩ (by simp) rfl
    have d3:=hv 3 _ (by omega) g3 rfl;clear al hi hv;have e32:=bT hF 3 32 (by decide) rfl (by kernel_rfl) d3;clear cN bW;clear hF bv d3;have t1:=ae (az.kept _ _ G1.out (fun e=>G3.out.ne G1.out (by decide) _ e rfl)) 1;simp at t1;have e32':=br e32;have HD:=aa hD;have ap:=aa az;clear hD az;clear g3
    go_wp2_with fail
    refine aR.mk _ cD ?_ rfl;exact ap.out.other _ (by decide) (by decide)
   ·clear al hi hv
    have e3:F.getD 3 undef=.pointer (some ⟨w.heap.size,0,none⟩):=eJ hF (by decide) rfl;clear cN bW;clear hF bv;have t1:=ae (az.kept _ _ G5.out (fun e=>by have:=(H3.out.lt _ e).2;omega));have e3':=br e3;have HD:=aa hD;have ap:=aa az;clear hD az
    go_wp2_with fail
    refine aR.mk _ cD ?_ rfl;exact ap.out.other _ (by decide) (by decide)
   ·have g5:=al ⟨5,.data⟩ (by simp) rfl
    have d5:=hv 5 _ (by omega) g5 rfl;clear al hi hv;have e34:=bT hF 5 34 (by decide) rfl (by kernel_rfl) d5;clear cN bW;clear hF bv d5;have e34':=br e34;have HD:=aa hD;have ap:=aa az;clear hD az;clear g5
    go_wp2_with fail
    refine aR.mk _ (fun c hc=>by cases hc) ?_ rfl;exact ap.out.build (by decide)
   ·have g4:=al ⟨4,.data⟩ (by simp) rfl
    have d4:=hv 4 _ (by omega) g4 rfl;have g6:=al ⟨6,.data⟩ (by simp) rfl;clear al hi hv;have e33:=bT hF 4 33 (by decide) rfl (by kernel_rfl) d4;have e35:=bT hF 6 35 (by decide) rfl (by kernel_rfl) rfl;clear cN bW;clear hF bv d4;obtain⟨gb,qx,iK,_⟩:=az.sb g6 hD;rw[qx]at e35;have bL:=az.rd;rw[hD]at bL;have lZ:=aa (show aL W base 200 8 (.slice av tab.length cv) tab.length (kJ tab) from bL)
    have bj:∀ j u',v.c.toList[j]?=some u'->W.cell? (Addr.add ⟨gb,0,none⟩ j)=some u':=fun j u' hj=>by
     have e1:(Addr.add ⟨gb,0,none⟩ j)=⟨gb,j,none⟩:=by unfold Addr.add;split<;>simp_all
     rw[e1,ae iK];simpa using hj
    have bZ:=aa bj;have dJ:=az.old.old.size;clear bj bL iK qx;have e33':=br e33;have e35':=br e35;have HD:=aa hD;have ap:=aa az;clear hD az;clear g4;clear g6;refine bO W rfl (.tmp 33) (.tmp 35) 102 rfl base 200 i0 _ 8 64 Tryz.underlying102 fZ dp du eB rfl (by decide) _ tab.length (kJ tab) e33 lZ.out ⟨gb,0,none⟩ 1 1 v.c.toList e35 rfl bZ.out (LI v) (by unfold maxLen;omega) (by omega) (by omega) ?_;intro v9 w3 dE cP _;refine aR.mk v9 (fun c hc=>by cases hc) ?_ rfl;exact ap.out.app HD.out dE cP
  case tail=>
   intro x W' D F aM hv az hF;have x0:=hv 0 _ (by omega) rfl;have x1:=hv 1 _ (by omega) rfl;have x2:=hv 2 _ (by omega) rfl;have x3:=hv 3 _ (by omega) rfl;have x4:=hv 4 _ (by omega) rfl;have x5:=hv 5 _ (by omega) rfl;have l9:=az.rd;rw[aM 7 (by omega)]at l9;have Mq:aL W' base 200 8 (x 7) (tab.length+1) (kJ tab++v.c.toList):=l9;obtain⟨g9,c9,q9⟩:=Mq.slice;rw[q9]at Mq;have O2:=aa Mq;have eA:=az.kept _ _ G1.out (fun e=>G3.out.ne G1.out (by decide) _ e rfl)
   have hm9:df Vw.v W' mb (sX (tab++[v])):=by
    obtain⟨es,ck,p1,p2⟩:=G4.out;exact⟨es,ck,az.kept _ _ p1 (fun e=>G3.out.isCells p1 rfl e.symm),p2⟩
   have Sz:=aa hm9;have gP:=aa eA;have mI:=aa az.old;have t1:=ae eA 1;have z1:=aD eA 1;simp only[bg,bQ,List.setIfInBounds_toArray,List.set_cons_succ,List.set_cons_zero,Nat.reduceAdd,x0,x1,x2,x3,x4,x5,q9]at hF;generalize x 6=y6 at hF;subst hF;clear hv aM az l9 Mq q9 eA hm9 x0 x1 x2 x3 x4 x5;simp only[List.drop_succ_cons,List.drop_zero]
   go_wp2_with fail
   go_ret
   rw[HP.out];have bH:∀ g,Value.ownBlock (.slice g9 (tab.length+1) c9)=some g->g≠b:=fun g e=>O2.out.ne gP.out (by decide) g e
   refine⟨rfl,⟨kW,_,aE gP.out 1 _,h2,?_,?_⟩,?_⟩
   ·rw[List.length_append,List.length_singleton,NM]
    exact O2.out.put bH _ _
   ·obtain⟨es,ck,p1,p2⟩:=Sz.out
    exact⟨es,ck,aI p1 (fun e=>by rw[e,gP.out]at p1;cases p1) _ _,p2⟩
   ·exact(G6.out.trans (mI.out.mono (by simp) (by simp))).set gP.out (by simp) kW _
def xC(n:Nat) (x:Int) (q:Nat):Array Value:=fC n (fun _=>x) q
theorem Kn(n:Nat) (x:Int) (q j:Nat) (hj:j<n):(xC n x q)[j]?=some (.int .i64 (if j<q then x else 0)):=wS n _ q j hj
theorem NO(n:Nat) (x:Int) (q m:Nat) (h:q+m<=n):((xC n x q).toList.take q++List.replicate m (Value.int .i64 x)++(xC n x q).toList.drop (q+m)).toArray=xC n x (q+m):=by
 apply Array.ext_getElem?;intro j;have hl:(xC n x q).toList.length=n:=by rw[Array.length_toList];exact oY n _ q
 have hg:∀ q j,(xC n x q).toList[j]?=if j<n then some (.int .i64 (if j<q then x else 0)) else none:=by
  intro q j;rw[Array.getElem?_toList];by_cases hj:j<n
  ·rw[if_pos hj];exact Kn n x q j hj
  ·rw[if_neg hj,Array.getElem?_eq_none];unfold xC;rw[oY];omega
 rw[<-Array.getElem?_toList (xs:=xC n x (q+m)),hg,List.getElem?_toArray,List.append_assoc];by_cases h1:j<q
 ·rw[List.getElem?_append_left (by rw[List.length_take,hl];omega),List.getElem?_take_of_lt h1,hg,if_pos (show j<n by omega),if_pos h1,if_pos (show j<n by omega),if_pos (show j<q+m by omega)]
 ·rw[List.getElem?_append_right (by rw[List.length_take,hl];omega),List.length_take,hl,Nat.min_eq_left (by omega)]
  by_cases h2:j<q+m
  ·rw[List.getElem?_append_left (by rw[List.length_replicate];omega),List.getElem?_replicate,if_pos (show j - q<m by omega),if_pos (show j<n by omega),if_pos h2]
  ·rw[List.getElem?_append_right (by rw[List.length_replicate];omega),List.length_replicate,List.getElem?_drop,show q+m+(j - q - m)=j by omega,hg]
   by_cases h3:j<n
   ·rw[if_pos h3,if_pos h3,if_neg h1,if_neg h2]
   ·rw[if_neg h3,if_neg h3]
theorem BP(w:World) (g:Nat) (cur cur':Array Value) (t:TypeId) (hg:w.heap[g]?=some (.cells cur t (0,0))):(w.setRow g cur').heap[g]?=some (.cells cur' t (0,0)):=setRow_heap w g cur cur' t _ hg
theorem xj{P:Program} {w:World} {ops:Array Oper} {rest:List Oper} {o:Oper} {a:Act} {Q:Exit->Act->World->Prop} {d s:Operand} {t t':TypeId} {v u v':Value} {w':World} (hg:o.guard=none)
  (ho:o.op=.call { callee:=.builtin .copy,args:=#[d,s],argTypes:=#[t,t'] }) (hd:a.eval d=v) (hs:a.eval s=u)
  (hr:(Builtin.copy_ #[t,t'] o.type #[v,u]).run P w=.ok v' w') (h:wpList P ops Q rest (a.put o.dst v') w'):wpList P ops Q (o :: rest) a w:=by
 refine wpList_plain hg fun _ hK=>?_
 unfold Oper.wp;simp[execOp,ho,resolve,invoke,builtin,hd,hs,hr,Result.andThen];exact hK _ _ h
theorem LJ(n:Nat) (h1:1<=n) (p B:Nat) (W:World) (hp:W.heap[p]?=some (.cells #[.int .i64 1] 3)) (hB:W.heap[B]?=some (.cells (xC n 1 0) 3)) :
  (Builtin.copy_ #[36,36] 3 #[.slice (some ⟨B,0,none⟩) n n,.slice (some ⟨p,0,none⟩) 1 1]).run Tryz.prog W=.ok (.int .i64 1) (W.setRow B (xC n 1 1)):=by
 have h:=run_copy_row Tryz.prog W 36 36 3 3 B 0 n n ⟨p,0,none⟩ 1 1 (xC n 1 0) 3 [.int .i64 1] Tryz.underlying36 (by kernel_rfl) hB (by simp only[List.length_cons,List.length_nil];exact(Nat.min_eq_left h1).symm)
  (fun j v hj=>by
   cases j with
   | zero=>simp at hj;subst hj;rw[Addr.add_lit,ae hp];rfl
   | succ j=>simp at hj) (by unfold xC;rw[oY];simpa using h1) (by simp[Value.oneCell'])
 rw[h];exact congrArg (fun r=>Result.ok (Value.int .i64 1) (W.setRow B r)) (NO n 1 0 1 (by omega))
theorem NP(n q m:Nat) (h1:q+m<=n) (hm:m=min q (n - q)) (B:Nat) (W:World) (hB:W.heap[B]?=some (.cells (xC n 1 q) 3)) :
  (Builtin.copy_ #[36,36] 3 #[.slice (some ⟨B,q,none⟩) (n - q) (n - q),.slice (some ⟨B,0,none⟩) q n]).run Tryz.prog W=.ok (.int .i64 (m:Int)) (W.setRow B (xC n 1 (q+m))):=by
 have h:=run_copy_row Tryz.prog W 36 36 3 3 B q (n - q) (n - q) ⟨B,0,none⟩ q n (xC n 1 q) 3 (List.replicate m (.int .i64 1)) Tryz.underlying36 (by kernel_rfl) hB (by rw[List.length_replicate];exact hm)
  (fun j v hj=>by
   rw[List.getElem?_replicate]at hj;by_cases hjm:j<m
   ·rw[if_pos hjm]at hj
    cases hj
    rw[Addr.add_lit,ae hB,Nat.zero_add,Kn _ _ _ _ (by omega),if_pos (by omega)]
   ·rw[if_neg hjm]at hj;cases hj) (by unfold xC;rw[oY,List.length_replicate];exact h1) (fun v hv=>by rw[(List.mem_replicate.1 hv).2];rfl)
 rw[h];have e:=NO n 1 q m h1;rw[List.length_replicate];exact congrArg (fun r=>Result.ok (Value.int .i64 (m:Int)) (W.setRow B r)) e
theorem Eu{n:Nat} {w W:World} {g:Nat} {c:Array Value} (hn:n<=g) (h:Below n w W):Below n w (W.setRow g c):=
 ⟨h.os,h.tape,h.output,by simpa using h.size,fun k hk=>(setRow_other W g k c (by omega)).trans (h.block k hk)⟩
def qo(wq W2:World) (i:Nat) (D:Nat->Bool) (_x:Nat->Value) (W:World):Prop:=W=bif D i then W2 else wq
theorem qo.other{wq W2 W:World} {i j:Nat} {D:Nat->Bool} {x:Nat->Value} (h:qo wq W2 i D x W) (v:Value) (hj:i≠j):qo wq W2 i (bB D j) (cF x j v) W:=by
 unfold qo at h ⊢;simp only[bB,if_neg hj];exact h
theorem qo.hit{wq W2:World} {i:Nat} {D:Nat->Bool} {x:Nat->Value} (v:Value):qo wq W2 i (bB D i) (cF x i v) W2:=by simp[qo,bB]
theorem qo.yes{wq W2 W:World} {i:Nat} {D:Nat->Bool} {x:Nat->Value} (h:qo wq W2 i D x W) (hD:D i=true):W=W2:=by unfold qo at h;rw[hD]at h;exact h
theorem LK(n:Nat) (h1:1<=n) (hn:n<=256) (p:Nat) (w:World) (hp:w.heap[p]?=some (.cells #[.int .i64 1] 3)) :
  Calls Tryz.prog 171 #[.slice (some ⟨p,0,none⟩) 1 1,.int .i64 n] w fun e w'=>e=.returned (.slice (some ⟨w.heap.size,0,none⟩) n n)/\w'.heap[w.heap.size]?=some (.cells (xC n 1 n) 3)/\Below w.heap.size w w':=by
 have RN:=fun W=>Tryz.bits_Mul 1 n (by omega) (by omega) W
 have e1:1 * n / 18446744073709551616=0:=by omega
 have e2:1 * n % 18446744073709551616=n:=by omega
 rw[e1,e2]at RN;have hu:Tryz.prog.underlying 36=some (.slice 3):=Tryz.underlying36;have hs:(Tryz.prog.info? 3).map (·.size)=some 1:=by kernel_rfl
 have me:=nz (fun _=>1) n hn;have HM:=aa RN;have HK:=aa me;clear RN me e1 e2;have Su:¬ (9223372036854775807:Int)<n:=by omega
 have nG:¬ (n:Int)<0:=by omega
 have mf:IntKind.u64.wrap (n:Int)=n:=by rw[IntKind.wrap_u64];omega
 have oN:IntKind.i64.wrap (n:Int)=n:=by rw[IntKind.wrap_i64];omega
 go_enter Tryz.func171,Tryz.ntmps171
 go_wp2_with fail
 refine(HM.out _).mono ?_;rintro e w' ⟨rfl,rfl⟩;have me:=HK.out;have kg:(w'.alloc (.cells (fC n (fun _=>1) 0) 3)).heap[w'.heap.size]?=some (.cells (xC n 1 0) 3):=ar _ _;have kj:=LJ n h1 p w'.heap.size _ (aq _ hp) kg
 go_wp2_with (at_builtin;refine xj rfl rfl rfl rfl kj ?_)
 refine bw (fun W=>Below w'.heap.size w' W/\W.heap[w'.heap.size]?=some (.cells (xC n 1 1) 3)) ⟨Eu (Nat.le_refl _) ((Below.refl _ w').alloc (Nat.le_refl _) _),BP _ _ _ _ _ kg⟩ (fun W0 bd=>?_);clear kj kg me HM HK
 go_loopw [8] (fun i wr=>Below w'.heap.size w' wr/\∃ q:Nat,1<=q/\q<=n/\i=.int .i64 q/\wr.heap[w'.heap.size]?=some (.cells (xC n 1 q) 3)) (fun i _=>n - (intOf i).toNat)
 case atStart=>exact⟨bd.1,1,by omega,h1,rfl,bd.2⟩
 case round=>
  obtain⟨aJ,q,hq1',hq2',rfl,bL⟩:=hrel;clear bd W0;by_cases aF:q<n
  ·obtain⟨m,hm⟩:∃ m,m=min q (n - q):=⟨_,rfl⟩
   have SV:q+m<=n:=by omega
   have oC:1<=m:=by omega
   have Mu:(q:Int)<n:=by omega
   have hle':(q:Int)<=n:=by omega
   have hne1:¬ n=q:=by omega
   have xI:¬ q=n:=by omega
   have Dc:IntKind.i64.wrap ((q:Int)+(m:Int))=(q:Int)+(m:Int):=by rw[IntKind.wrap_i64];omega
   have fg:=NP n q m SV hm w'.heap.size wr.drew bL;have yC:wr.drew.heap[w'.heap.size]?=some (.cells (xC n 1 q) 3):=bL;have D5:Below w'.heap.size w' wr.drew:=aJ.drew;clear hm bL aJ
   go_wp2_with fail
   obtain⟨wq,C'⟩:∃ wq,wr.drew=wq:=⟨_,rfl⟩;rw[C']at fg yC D5;refine Bc 10 [38,39,40,41,42,43,44,45,46,8] [some (Value.int .i64 (q:Int)),some (Value.slice (some ⟨w'.heap.size,0,none⟩) n n),some (Value.int .i64 (q:Int)),some (Value.slice (some ⟨w'.heap.size,q,none⟩) (n - q) (n - q)),some (Value.slice (some ⟨w'.heap.size,0,none⟩) n n),some (Value.int .i64 (q:Int)),some (Value.slice (some ⟨w'.heap.size,0,none⟩) q n),some (Value.int .i64 (m:Int)),some (Value.int .i64 ((q:Int)+(m:Int))),some (Value.int .i64 ((q:Int)+(m:Int)))] (qo wq (wq.setRow w'.heap.size (xC n 1 (q+m))) 7) (by kernel_rfl) rfl (by decide) rfl (by kernel_rfl) (fun _=>C') ?step ?tail
   case step=>
    intro x W D i o s F hi ho hs hD cN bW al hv az hF;have bY:i=0\/i=1\/i=2\/i=3\/i=4\/i=5\/i=6\/i=7\/i=8\/i=9:=by omega
    rcases bY with rfl|rfl|rfl|rfl|rfl|rfl|rfl|rfl|rfl|rfl
    all_goals (have bv:=cN _ _ hs hD;obtain rfl:=cO ho.symm;obtain rfl:=cO hs.symm)
    ·have FK:D 9=false:=by
      cases h:D 9 with
      | false=>rfl
      | true=>exact absurd (bW 9 _ rfl h ⟨0,.phase⟩ (by simp) rfl) (by rw[hD];decide)
     have e8:F.getD 8 undef=Value.int .i64 (q:Int):=by(rw[hF];exact(jF (by decide) (i:=9) rfl (Nat.le_of_ble_eq_true (by kernel_rfl))).trans (cN 9 8 rfl FK))
     clear FK;refine gI (.tmp 8) rfl rfl ?_;refine aR.mk (F.getD 8 undef) (fun c hc=>e8.trans (cO hc)) ?_ rfl;exact az.other _ (by decide)
    ·have e7:F.getD 7 undef=Value.slice (some ⟨w'.heap.size,0,none⟩) n n:=eJ hF (by decide) rfl
     refine gI (.tmp 7) rfl rfl ?_;refine aR.mk (F.getD 7 undef) (fun c hc=>e7.trans (cO hc)) ?_ rfl;exact az.other _ (by decide)
    ·have FK:D 9=false:=by
      cases h:D 9 with
      | false=>rfl
      | true=>exact absurd (bW 9 _ rfl h ⟨2,.phase⟩ (by simp) rfl) (by rw[hD];decide)
     have e8:F.getD 8 undef=Value.int .i64 (q:Int):=by(rw[hF];exact(jF (by decide) (i:=9) rfl (Nat.le_of_ble_eq_true (by kernel_rfl))).trans (cN 9 8 rfl FK))
     clear FK;refine gI (.tmp 8) rfl rfl ?_;refine aR.mk (F.getD 8 undef) (fun c hc=>e8.trans (cO hc)) ?_ rfl;exact az.other _ (by decide)
    ·have g1:=al ⟨1,.data⟩ (by simp) rfl
     have d1:=hv 1 _ (by omega) g1 rfl;have e39:=bT hF 1 39 (by decide) rfl (by kernel_rfl) d1;have e39':=br e39;have g2:=al ⟨2,.data⟩ (by simp) rfl;have d2:=hv 2 _ (by omega) g2 rfl;have e40:=bT hF 2 40 (by decide) rfl (by kernel_rfl) d2;have e40':=br e40;have HC:=aa az;clear al hi hv az cN bW hF bv fg yC D5 C' g1 d1 g2 d2
     go_wp2_with fail
     exact aR.mk _ cD (HC.out.other _ (by decide)) rfl
    ·have e7:F.getD 7 undef=Value.slice (some ⟨w'.heap.size,0,none⟩) n n:=eJ hF (by decide) rfl
     refine gI (.tmp 7) rfl rfl ?_;refine aR.mk (F.getD 7 undef) (fun c hc=>e7.trans (cO hc)) ?_ rfl;exact az.other _ (by decide)
    ·have FK:D 9=false:=by
      cases h:D 9 with
      | false=>rfl
      | true=>exact absurd (bW 9 _ rfl h ⟨5,.phase⟩ (by simp) rfl) (by rw[hD];decide)
     have e8:F.getD 8 undef=Value.int .i64 (q:Int):=by(rw[hF];exact(jF (by decide) (i:=9) rfl (Nat.le_of_ble_eq_true (by kernel_rfl))).trans (cN 9 8 rfl FK))
     clear FK;refine gI (.tmp 8) rfl rfl ?_;refine aR.mk (F.getD 8 undef) (fun c hc=>e8.trans (cO hc)) ?_ rfl;exact az.other _ (by decide)
    ·have g4:=al ⟨4,.data⟩ (by simp) rfl
     have d4:=hv 4 _ (by omega) g4 rfl;have e42:=bT hF 4 42 (by decide) rfl (by kernel_rfl) d4;have e42':=br e42;have g5:=al ⟨5,.data⟩ (by simp) rfl;have d5:=hv 5 _ (by omega) g5 rfl;have e43:=bT hF 5 43 (by decide) rfl (by kernel_rfl) d5;have e43':=br e43;have HC:=aa az;clear al hi hv az cN bW hF bv fg yC D5 C' g4 d4 g5 d5
     go_wp2_with fail
     exact aR.mk _ cD (HC.out.other _ (by decide)) rfl
    ·have g3:=al ⟨3,.data⟩ (by simp) rfl
     have d3:=hv 3 _ (by omega) g3 rfl;have e41:=bT hF 3 41 (by decide) rfl (by kernel_rfl) d3;have e41':=br e41;have g6:=al ⟨6,.data⟩ (by simp) rfl;have d6:=hv 6 _ (by omega) g6 rfl;have e44:=bT hF 6 44 (by decide) rfl (by kernel_rfl) d6;have e44':=br e44;have hW:W=wq:=by(rw[az,hD];rfl)
     subst hW;clear al hi hv az cN bW hF bv g3 d3 g6 d6;refine xj rfl rfl e41 e44 fg ?_;exact aR.mk _ cD (qo.hit _) rfl
    ·have g0:=al ⟨0,.data⟩ (by simp) rfl
     have d0:=hv 0 _ (by omega) g0 rfl;have e38:=bT hF 0 38 (by decide) rfl (by kernel_rfl) d0;have e38':=br e38;have g7:=al ⟨7,.data⟩ (by simp) rfl;have d7:=hv 7 _ (by omega) g7 rfl;have e45:=bT hF 7 45 (by decide) rfl (by kernel_rfl) d7;have e45':=br e45;have HC:=aa az;clear al hi hv az cN bW hF bv fg yC D5 C' g0 d0 g7 d7
     go_wp2_with fail
     exact aR.mk _ cD (HC.out.other _ (by decide)) rfl
    ·have g8:=al ⟨8,.data⟩ (by simp) rfl
     have d8:=hv 8 _ (by omega) g8 rfl;have e46:=bT hF 8 46 (by decide) rfl (by kernel_rfl) d8;have e46':=br e46;have g7:=al ⟨7,.chain⟩ (by simp) rfl;have d7:=hv 7 _ (by omega) g7 rfl;have e45:=bT hF 7 45 (by decide) rfl (by kernel_rfl) d7;have e45':=br e45;have HC:=aa az;clear al hi hv az cN bW hF bv fg yC D5 C' g8 d8 g7 d7
     go_wp2_with fail
     exact aR.mk _ cD (HC.out.other _ (by decide)) rfl
   case tail=>
    intro x W' D F aM hv az hF;have x0:=hv 0 _ (by omega) rfl;have x1:=hv 1 _ (by omega) rfl;have x2:=hv 2 _ (by omega) rfl;have x3:=hv 3 _ (by omega) rfl;have x4:=hv 4 _ (by omega) rfl;have x5:=hv 5 _ (by omega) rfl;have x6:=hv 6 _ (by omega) rfl;have x7:=hv 7 _ (by omega) rfl;have x8:=hv 8 _ (by omega) rfl;have x9:=hv 9 _ (by omega) rfl;have hWq:W'=wq.setRow w'.heap.size (xC n 1 (q+m)):=az.yes (aM 7 (by omega));clear az;simp only[bg,bQ,List.setIfInBounds_toArray,List.set_cons_succ,List.set_cons_zero,Nat.reduceAdd,x0,x1,x2,x3,x4,x5,x6,x7,x8,x9]at hF;subst hF hWq;clear hv aM fg C' x0 x1 x2 x3 x4 x5 x6 x7 x8 x9
    go_wp2_with fail
    go_roundw
    case rel=>exact⟨Eu (Nat.le_refl _) D5,q+m,by omega,SV,by go_num,BP _ _ _ _ _ yC⟩
    case measure=>simp[intOf];omega
  ·obtain rfl:q=n:=by omega
   go_wp2_with fail
   go_ret
   exact⟨rfl,bL,aJ⟩
end Go.Proofs.YtkfgpnbpcpdclaaGreat
namespace Go.Proofs.YtkfgpnbpcpdclaaGreat
open Go.RowKit Go Go.Shelf
abbrev DF(Ds:List Nat):List Deferred:=Ds.map jY
def eY(B:Nat) (Ds:List Nat) (W:World):Prop:=Ds.Nodup/\∀ D∈Ds,B<=D/\W.heap[D]?=some (.deferred (some []))
theorem eY.nil(B:Nat) (W:World):eY B [] W:=⟨List.nodup_nil,fun D h=>by simp at h⟩
theorem eY.up{B:Nat} {Ds:List Nat} {W W':World} (h:eY B Ds W) (hb:Below W.heap.size W W'):eY B Ds W':=⟨h.1,fun D hD=>⟨(h.2 D hD).1,ak hb (h.2 D hD).2⟩⟩
theorem eY.keep{B:Nat} {Ds:List Nat} {W W':World} (h:eY B Ds W) (hk:∀ (k:Nat) (o:Obj),W.heap[k]?=some o->o.isCells=false->W'.heap[k]?=some o):eY B Ds W':=⟨h.1,fun D hD=>⟨(h.2 D hD).1,hk _ _ (h.2 D hD).2 rfl⟩⟩
theorem eY.cons{B:Nat} {Ds:List Nat} {W:World} {D:Nat} (h:eY B Ds W) (hD:B<=D) (hk:W.heap[D]?=some (.deferred (some []))) (hn:∀ E∈Ds,E<D):eY B (D :: Ds) W:=
 ⟨List.nodup_cons.2 ⟨fun e=>Nat.lt_irrefl _ (hn _ e),h.1⟩,fun E hE=>by
  rcases List.mem_cons.1 hE with rfl|hE
  ·exact⟨hD,hk⟩
  ·exact h.2 E hE⟩
def nB(Ds:List Nat) (W:World):World:=Ds.foldl (fun W D=>W.putObj D (.deferred none)) W
theorem Ga{B n:Nat} {w W:World} {Ds:List Nat} (h:∀ D∈Ds,B<=D) (hn:n<=B) (hb:Below n w W):Below n w (nB Ds W):=by
 unfold nB;induction Ds generalizing W with
 | nil=>exact hb
 | cons D r ih=>exact ih (fun E hE=>h E (by simp[hE])) (cT (Nat.le_trans hn (h D (by simp))) hb)
theorem Hl{P:Program} {fn:Func} {R:Ending->World->Prop} {tmps:Array Value} (Ds:List Nat):∀ (W:World),Ds.Nodup->(∀ D∈Ds,W.heap[D]?=some (.deferred (some [])))->∀ {v:Value},
  (results fn tmps).run P (nB Ds W)=.ok v (nB Ds W)->R (.returned v) (nB Ds W)->LeavesInM Fence.wide 0 P fn tmps R (DF Ds) .returning W:=by
 induction Ds with
 | nil=>intro W _ _ v hv h;exact⟨v,hv,h⟩
 | cons D r ih=>
  intro W SM hk v hv h;rw[List.nodup_cons]at SM;refine⟨by simp,.inl ⟨_,_,rfl,run_takeDeferred (hk D (by simp)),?_⟩⟩;exact ih _ SM.2 (fun E hE=>(World.putObj_heap_other (by rintro rfl;exact SM.1 hE)).trans (hk E (by simp[hE]))) hv h
theorem LM{P:Program} {fn:Func} {R:Ending->World->Prop} {tmps:Array Value} {B:Nat} {Ds:List Nat} {W:World} {v:Value} (hm:eY B Ds W)
  (hv:(results fn tmps).run P (nB Ds W)=.ok v (nB Ds W)) (h:R (.returned v) (nB Ds W)):bodyPostM Fence.wide 0 P fn R .ret { tmps:=tmps,defers:=DF Ds } W:=
 Hl Ds W hm.1 (fun D hD=>(hm.2 D hD).2) hv h
end Go.Proofs.YtkfgpnbpcpdclaaGreat
namespace Go.Proofs.YtkfgpnbpcpdclaaGreat
def kK(L:Int) (c acc:List Int) (sm:Nat × Mv):List Int:=acc.set sm.1 (pA L c (acc.getD sm.1 0) sm.2)
def jp(L:Int) (c:List Int) (l:List (List Mv)) (i:Nat):List Int:=((tG l).take i).foldl (kK L c) (List.replicate l.length 0)
theorem LN(L:Int) (c:List Int) (l:List (List Mv)):jp L c l 0=List.replicate l.length 0:=rfl
theorem LO(L:Int) (c:List Int) (l:List (List Mv)) (i:Nat) (h:i<movesN l):jp L c l (i+1)=kK L c (jp L c l i) (mvAt l i):=by
 unfold jp mvAt;have hi:i<(tG l).length:=by rw[vH];exact h
 rw[List.take_succ_eq_append_getElem hi,List.foldl_append,List.getD_eq_getElem?_getD,List.getElem?_eq_getElem hi];rfl
theorem NQ(L:Int) (c:List Int) (l:List (List Mv)) (i:Nat):(jp L c l i).length=l.length:=by
 unfold jp
 have key:∀ (x:List (Nat × Mv)) (acc:List Int),(x.foldl (kK L c) acc).length=acc.length:=by
  intro x;induction x with
  | nil=>intro acc;rfl
  | cons a r ih=>intro acc;rw[List.foldl_cons,ih];simp[kK]
 rw[key];simp
theorem QE(L:Int) (c:List Int) (x:List Mv):∀ (pre rest:List Int) (z:Int),(x.map fun m=>(pre.length,m)).foldl (kK L c) (pre++z :: rest)=pre++x.foldl (pA L c) z :: rest:=by
 induction x with
 | nil=>intro pre rest z;rfl
 | cons m r ih=>
  intro pre rest z;rw[List.map_cons,List.foldl_cons,List.foldl_cons,<-ih];congr 1;simp[kK]
theorem NR(L:Int) (c:List Int) (l:List (List Mv)):∀ (pre:List Int),(iF pre.length l).foldl (kK L c) (pre++List.replicate l.length 0)=pre++l.map (Aq L c):=by
 induction l with
 | nil=>intro pre;simp[iF]
 | cons x r ih=>
  intro pre;simp only[iF,List.foldl_append,List.length_cons,List.replicate_succ,List.map_cons];rw[QE];have h:=ih (pre++[Aq L c x]);simp only[List.length_append,List.length_cons,List.length_nil,Nat.zero_add,List.append_assoc,List.cons_append,List.nil_append]at h;exact h
theorem NS(L:Int) (a:Adv) (c:List Int):jp L c a.states (movesN a.states)=Bk L a c:=by
 unfold jp Bk;rw[<-vH,List.take_length];have:=NR L c a.states [];simpa[tG] using this
theorem QF{L:Int} (hL:0<=L) {c:List Int} (hc:Bu L c) (l:List (List Mv)) (i:Nat):Bu L (jp L c l i):=by
 unfold jp
 have key:∀ (x:List (Nat × Mv)) (acc:List Int),Bu L acc->Bu L (x.foldl (kK L c) acc):=by
  intro x;induction x with
  | nil=>intro acc h;exact h
  | cons m r ih=>
   intro acc h;refine ih _ fun y hy=>?_
   unfold kK at hy;rcases List.mem_or_eq_of_mem_set hy with hy|rfl
   ·exact h y hy
   ·exact GO hL hc (tU hL h _) _
 exact key _ _ (fun y hy=>by rw[(List.mem_replicate.1 hy).2];omega)
end Go.Proofs.YtkfgpnbpcpdclaaGreat
namespace Go.Proofs.YtkfgpnbpcpdclaaGreat
open Go.RowKit Go Go.Shelf
attribute [local go_sem] Oper.semAt_some
theorem Ev(l:List Int) (i:Nat) (h:i<l.length):(dA l)[i]?=some (.int .i64 (l.getD i 0)):=by
 unfold dA;rw[List.getElem?_toArray,List.getElem?_map,List.getElem?_eq_getElem h,List.getD_eq_getElem?_getD,List.getElem?_eq_getElem h];rfl
theorem NT(l:List Int) (s:Nat) (z:Int):(dA l).setIfInBounds s (.int .i64 z)=dA (l.set s z):=by
 unfold dA;rw[List.setIfInBounds_toArray,List.map_set]
theorem bR.marks{B B0:Nat} {Ds:List Nat} (h:∀ D∈Ds,D<B):bR B (fun W=>eY B0 Ds W):=fun _ _ c x=>⟨x.1,fun D hD=>⟨(x.2 D hD).1,c.same _ _ (x.2 D hD).2 (.inl (h D hD))⟩⟩
theorem eY.lt{B:Nat} {Ds:List Nat} {W:World} (h:eY B Ds W):∀ D∈Ds,D<W.heap.size:=fun D hD=>aB (h.2 D hD).2
theorem Gb(a:Adv) (v:Value) (k:Nat) (L:Int) (w:World) (hv:bn w v a.states) (h1:1<=a.states.length) (h2:a.states.length<=256) (aM:∀ j,j<a.states.length->stateE a (a.states.getD j [])=0) (hk:k<=6) (hL:0<=L) (hL2:L<=1048576) :
  Calls Tryz.prog 132 #[.agg #[.int .i64 a.n,v],.int .i64 k,.int .i64 L] w fun e w'=>e=.returned (.int .i64 (numberL L a k))/\Below w.heap.size w w':=by
 have G:=aa hv;obtain⟨pa,ca,rfl,la1,la2,ea⟩:=hv.at;clear hv ea;have lO:=aa aM;clear aM;refine eI Tryz.func132 rfl ?_;simp only[Tryz.ntmps132,List.size_toArray,List.length_cons,List.length_nil,Nat.reduceAdd,Nat.reduceSub,Array.replicate_succ,Array.replicate_zero,List.push_toArray,List.append_toArray,List.nil_append,List.cons_append]
 go_wp2_with fail
 refine aT (fun W=>Below w.heap.size w W/\W.heap[w.heap.size]?=some (.cells #[.int .i64 a.n,.slice pa a.states.length ca] 27)/\W.heap[w.heap.size+1]?=some (.cells #[.int .i64 L] 3)/\W.heap[w.heap.size+1+1]?=some (.cells #[.int .i64 1] 3)) ⟨by go_grown,aq _ (aq _ (ar _ _)),aq _ (aX _ _ _),cV _ _ _ _⟩ (fun W0 bd=>?_);obtain⟨aH,bD,iq,wE⟩:=bd;refine(LK a.states.length h1 h2 _ W0 wE).mono ?_;rintro e w1 ⟨rfl,bL,aG⟩
 go_wp2_with fail
 have dD:=aj aH aG;have fk:=ak aG bD;have lL:=ak aG iq;have dp:=aH.size;have du:=aG.size;have VJ:=aB wE
 refine wp_loop (fun act W=>∃ (q:Nat) (Ds:List Nat) (cb:Nat) (u8 u9 u10 u18 u19 u20 u21 u22 u23 u24 u25 u26 u27 u28 u29 u30 u31 u32 u33 u34 u35 u36 u37 u38 u39 u40 u41 u42 u43 u44 u45 u46:Value),
   act={ tmps:=#[Value.agg #[Value.int IntKind.i64 a.n,Value.slice pa a.states.length ca],Value.int IntKind.i64 k,Value.int IntKind.i64 L,Value.pointer (some ⟨w.heap.size,0,none⟩),undef,Value.pointer (some ⟨w.heap.size+1,0,none⟩),Value.int IntKind.i64 0,Value.pointer (some ⟨w1.heap.size,0,none⟩),u8,u9,u10,
     Value.slice (some ⟨w.heap.size+1+1,0,none⟩) 1 1,Value.pointer (some ⟨w.heap.size,1,none⟩),Value.slice pa a.states.length ca,Value.int IntKind.i64 a.states.length,Value.slice (some ⟨W0.heap.size,0,none⟩) a.states.length a.states.length,Value.int IntKind.i64 k,Value.int IntKind.i64 q,
     u18,u19,u20,u21,u22,u23,u24,u25,u26,u27,u28,u29,u30,u31,u32,u33,u34,u35,u36,u37,u38,u39,u40,u41,u42,u43,u44,u45,u46],defers:=DF Ds }/\q<=k/\eY w.heap.size Ds W/\Below w.heap.size w W/\w1.heap.size<W.heap.size ∧
    W.heap[w.heap.size]?=some (.cells #[.int .i64 a.n,.slice pa a.states.length ca] 27)/\W.heap[w.heap.size+1]?=some (.cells #[.int .i64 L] 3) ∧
    W.heap[w1.heap.size]?=some (.cells #[.slice (some ⟨cb,0,none⟩) a.states.length a.states.length] 36)/\w.heap.size<=cb/\W.heap[cb]?=some (.cells (dA (eK L a q)) 3))
  (fun act _=>k - (intOf (act.tmps.getD 17 undef)).toNat) ?start ?round
 case start=>
  refine⟨0,[],W0.heap.size,_,_,_,_,_,_,_,_,_,_,_,_,_,_,_,_,_,_,_,_,_,_,_,_,_,_,_,_,_,_,_,_,rfl,by omega,eY.nil _ _,dD.alloc dD.size _,by simp,aq _ fk,aq _ lL,ar _ _,by omega,aq _ ?_⟩;rw[bL]
  have:xC a.states.length 1 a.states.length=dA (eK L a 0):=by
   unfold xC;rw[GP];congr 1;apply List.ext_getElem (by simp[eK]);intro i _ _;simp[eK]
  rw[this]
 case round=>
  rintro act W ⟨q,Ds,cb,u8,u9,u10,u18,u19,u20,u21,u22,u23,u24,u25,u26,u27,u28,u29,u30,u31,u32,u33,u34,u35,u36,u37,u38,u39,u40,u41,u42,u43,u44,u45,u46,rfl,hq,me,bS,SO,hA,hR,hC,K0,KM⟩;have S1:=aa me;have C0:=aa KM;clear me KM bL bD iq wE fk lL;by_cases aF:q<k
  ·have hmake:=nz (fun _=>0) a.states.length h2
   have Mu:(q:Int)<k:=by omega
   have t7:=ae hC 0;have tA:=ae hA;simp at t7;have hlA:=aB hA;have HC:=aa hC;have HA:=aa hA;have HR:=aa hR;clear hC hA hR
   go_wp2_with fail
   refine(sa _ _ _ _ _).mono ?_;rintro e w2 ⟨rfl,rfl⟩;clear t7 tA hmake
   go_wp2_with fail
   have DZ:=S1.out.lt
   refine bw (fun W1=>Below w.heap.size w W1/\W.heap.size<W1.heap.size/\W1.heap[w.heap.size+1]?=some (.cells #[.int .i64 L] 3)/\W1.heap[w.heap.size]?=some (.cells #[.int .i64 a.n,.slice pa a.states.length ca] 27)/\W1.heap[w1.heap.size]?=some (.cells #[.slice (some ⟨cb,0,none⟩) a.states.length a.states.length] 36)/\W1.heap[cb]?=some (.cells (dA (eK L a q)) 3) ∧
     W1.heap[W.heap.size]?=some (.cells (dA (jp L (eK L a q) a.states 0)) 3)/\W1.heap[W.heap.size+1]?=some (.cells #[.slice (some ⟨W.heap.size,0,none⟩) a.states.length a.states.length] 36)/\W1.heap[W.heap.size+1+1]?=some (.cells #[.int .i64 a.n,.slice pa a.states.length ca] 27)/\eY w.heap.size Ds W1)
    ⟨((bS.alloc bS.size _).alloc (by simp only[World.size_alloc];omega) _).alloc (by simp only[World.size_alloc];omega) _,by simp only[World.size_alloc];omega,aq _ (aq _ (aq _ HR.out)),aq _ (aq _ (aq _ HA.out)),aq _ (aq _ (aq _ HC.out)),aq _ (aq _ (aq _ C0.out)),aq _ (aq _ ?_),aq _ (aX _ _ _),cV _ _ _ _,S1.out.up (by go_grown)⟩ (fun W1 fR=>?_)
   ·rw[ar,LN]
    have:fC a.states.length (fun _=>0) 0=dA (List.replicate a.states.length 0):=by
     apply Array.ext (by simp[fC,dA]);intro i _ _;simp[fC,dA]
    rw[this]
   obtain⟨g1,g2,g3,g4,g5,g6,g7,g8,g9,g10⟩:=fR;have bP:=qU w _ a.states G.out W1 g1 (W.heap.size+1+1) (by simp[ae g9]);have HZ1:=aa g2;have hcbB:=aB g6
   refine kG (gf:=125) (lb:=#[.pointer (some ⟨W.heap.size+1+1,0,none⟩)]) rfl (enters_of Tryz.func125 (by kernel_rfl) rfl) bP (Below.refl _ _) (fun k hk=>Nat.lt_of_lt_of_le hk g1.size) (fun i=>rfl)
    (fun i V=>Below w.heap.size w V/\V.heap[w.heap.size+1]?=some (.cells #[.int .i64 L] 3)/\V.heap[w.heap.size]?=some (.cells #[.int .i64 a.n,.slice pa a.states.length ca] 27)/\V.heap[w1.heap.size]?=some (.cells #[.slice (some ⟨cb,0,none⟩) a.states.length a.states.length] 36)/\V.heap[cb]?=some (.cells (dA (eK L a q)) 3) ∧
     V.heap[W.heap.size]?=some (.cells (dA (jp L (eK L a q) a.states i)) 3)/\V.heap[W.heap.size+1]?=some (.cells #[.slice (some ⟨W.heap.size,0,none⟩) a.states.length a.states.length] 36)/\eY w.heap.size Ds V)
    (fun _ _ _=>False)
    (fun i=>(bR.below g1.size).and (bR.cells.and (bR.cells.and (bR.cells.and (bR.cells.and (bR.cells.and (bR.cells.and (bR.marks g10.lt)))))))) (fun c i=>bR.pure) ⟨g1,g3,g4,g5,g6,g7,g8,g10⟩ ?round2 ?done ?stop
   case stop=>rintro D c i V hD hi h;exact h.elim
   case done=>
    intro D V hD hI hK;obtain⟨f1,f2,f3,f4,f5,f6,f7,f8⟩:=hI;rw[NS]at f6;have t8:=ae f7 0;have t7:=ae f4 0;have z7:=aD f4 0;simp at t8 t7;have HF:=aa (And.intro f1 (And.intro f2 (And.intro f3 (And.intro f4 (And.intro f5 (And.intro f6 (And.intro f7 (And.intro f8 hK))))))));have hDl:∀ E∈Ds,E<D:=fun E hE=>Nat.lt_of_lt_of_le (g10.lt E hE) hD
    clear f1 f2 f3 f4 f5 f6 f7 f8 hK bP g3 g4 g5 g6 g7 g8 g9
    go_wp2_with fail
    refine⟨⟨q+1,D :: Ds,W.heap.size,_,_,_,_,_,_,_,_,_,_,_,_,_,_,_,_,_,_,_,_,_,_,_,_,_,_,_,_,_,_,_,_,rfl,by omega,?_,HF.out.1.setCell (by dsimp only;omega) _,?_,?_,?_,?_,by omega,?_⟩,?_⟩
    ·refine eY.cons (HF.out.2.2.2.2.2.2.2.1.keep fun k o hk ho=>?_) (by omega) ?_ hDl
     ·exact(KeepsOthers.setCell _ _ _).same k o hk ho
     ·rw[Below.heap_setCell _ _ _ _ (by dsimp only;omega)];exact HF.out.2.2.2.2.2.2.2.2
    ·simp only[World.size_setCell];exact aB HF.out.2.2.2.1
    ·rw[Below.heap_setCell _ _ _ _ (by dsimp only;omega)];exact HF.out.2.2.1
    ·rw[Below.heap_setCell _ _ _ _ (by dsimp only;omega)];exact HF.out.2.1
    ·rw[aE HF.out.2.2.2.1];rfl
    ·rw[Below.heap_setCell _ _ _ _ (by dsimp only;omega)];exact HF.out.2.2.2.2.2.1
    ·simp[intOf];omega
   case round2=>
    intro yl i V hi hl hI;unfold Dv;obtain⟨s,j,hs,hj,rfl⟩:=Do a.states i hi;have wy:=aa (LO L (eK L a q) a.states (cnt a.states s+j) hi);rw[tH a.states s j hs hj]at wy ⊢;have sF:=jj lO.out hs hj;generalize a.states[s][j]=m at sF wy;dsimp only;have HI:=aa hI;clear hI;have hszV:=HI.out.1.size;clear bP g3 g4 g5 g6 g7 g8 g9
    gi_wp2
    refine⟨Bod.of_below (fun k hk=>Nat.lt_of_lt_of_le hk hszV) (by go_grown),(fun X=>(Below w.heap.size w X/\X.heap[w.heap.size+1]?=some (.cells #[.int .i64 L] 3)/\X.heap[w.heap.size]?=some (.cells #[.int .i64 a.n,.slice pa a.states.length ca] 27)/\X.heap[w1.heap.size]?=some (.cells #[.slice (some ⟨cb,0,none⟩) a.states.length a.states.length] 36)/\X.heap[cb]?=some (.cells (dA (eK L a q)) 3) ∧
     X.heap[W.heap.size]?=some (.cells (dA (jp L (eK L a q) a.states (cnt a.states s+j))) 3)/\X.heap[W.heap.size+1]?=some (.cells #[.slice (some ⟨W.heap.size,0,none⟩) a.states.length a.states.length] 36)/\eY w.heap.size Ds X)/\X.heap[V.heap.size]?=some (.cells #[.int .i64 m.r.g.n,.int .i64 m.r.g.h0,.int .i64 m.r.g.h1,.int .i64 m.r.g.h2,.int .i64 m.r.g.h3,.int .i64 m.r.g.h4,.int .i64 m.r.f,.int .i64 m.to] 98)),
     ((bR.below g1.size).and (bR.cells.and (bR.cells.and (bR.cells.and (bR.cells.and (bR.cells.and (bR.cells.and (bR.marks g10.lt)))))))).and bR.cells,⟨⟨HI.out.1.alloc hszV _,aq _ HI.out.2.1,aq _ HI.out.2.2.1,aq _ HI.out.2.2.2.1,aq _ HI.out.2.2.2.2.1,aq _ HI.out.2.2.2.2.2.1,aq _ HI.out.2.2.2.2.2.2.1,HI.out.2.2.2.2.2.2.2.up (by go_grown)⟩,ar _ _⟩,fun V2 O3 _=>?_⟩
    obtain⟨⟨x1,x2,x3,x4,x5,x6,x7,x8⟩,x9⟩:=O3;have Wx:=Ef L a q;have hfn:=NQ L (eK L a q) a.states (cnt a.states s+j);have hok1:=tU hL (Ar hL a q) m.to.toNat;have hok2:=tU hL (QF hL (Ar hL a q) a.states (cnt a.states s+j)) s;have t5:=ae x2 0;have t7:=ae x4 0;have t8:=ae x7 0;have tM:=ae x9;have tc:=ae x5 m.to.toNat;have tr:=ae x6 s;have zr:=aD x6 s;simp at t5 t7 t8;rw[Ev _ _ (by omega)]at tc tr;have HX:=aa (And.intro x1 (And.intro x2 (And.intro x3 (And.intro x4 (And.intro x5 (And.intro x6 (And.intro x7 (And.intro x8 x9))))))));clear x1 x2 x3 x4 x5 x6 x7 x8 x9;have I9:jp L (eK L a q) a.states (cnt a.states s+j+1)=(jp L (eK L a q) a.states (cnt a.states s+j)).set s (min ((jp L (eK L a q) a.states (cnt a.states s+j)).getD s 0+(eK L a q).getD m.to.toNat 0) (L+1)):=wy.out;have Sj:=aa I9;clear I9 wy;generalize (eK L a q).getD m.to.toNat 0=nx at hok1 tc Sj;generalize (jp L (eK L a q) a.states (cnt a.states s+j)).getD s 0=ns at hok2 tr Sj;have Cn:0<=m.to:=sF.2.1;have oC:m.to<a.states.length:=sF.2.2;have mf:IntKind.i64.wrap (ns+nx)=ns+nx:=IntWalk.i64_in _ (by omega);have oN:IntKind.i64.wrap (L+1)=L+1:=IntWalk.i64_in _ (by omega)
    gi_wp2
    refine pS 15 (fun ⟨_,_,h⟩=>h) (by kernel_rfl) (by kernel_rfl) (by kernel_rfl) (fun ops Lq hops hLq=>?_);simp only[List.take_succ_cons,List.take_zero,List.drop_succ_cons,List.drop_zero]at hLq ⊢;have SR:=aa hLq;clear hLq;have HOPS:=aa hops;clear hops
    repeat still_step
    refine wpStill_nil ?_;refine SR.out _ ?_
    go_wp2_with fail
    all_goals
     obtain⟨x1,x2,x3,x4,x5,x6,x7,x8,x9⟩:=HX.out;have z1:=HZ1.out;have z2:=aB C0.out;refine⟨⟨by simp,fun k hk=>(Below.heap_setCell V2 _ _ _ (by dsimp only;omega)),fun k o _ hk ho=>(KeepsOthers.setCell V2 _ _).same k o hk ho⟩,(x1.setCell (by dsimp only;omega) _).drew,?_,?_,?_,?_,?_,?_,?_⟩
     ·exact(Below.heap_setCell V2 _ _ _ (by dsimp only;omega)).trans x2
     ·exact(Below.heap_setCell V2 _ _ _ (by dsimp only;omega)).trans x3
     ·exact(Below.heap_setCell V2 _ _ _ (by dsimp only;omega)).trans x4
     ·exact(Below.heap_setCell V2 _ _ _ (by dsimp only;omega)).trans x5
     ·refine(aE x6 s _).trans ?_
      rw[Sj.out,<-NT]
      all_goals first
       | rw[Int.min_eq_right (by omega)]
       | rw[Int.min_eq_left (by omega)]
     ·exact(Below.heap_setCell V2 _ _ _ (by dsimp only;omega)).trans x7
     ·exact x8.keep fun k o hk ho=>(KeepsOthers.setCell V2 _ _).same k o hk ho
  ·obtain rfl:q=k:=by omega
   have t7:=ae hC 0;simp at t7;have c0:=ae C0.out 0
   have vh:(dA (eK L a q))[0]?=some (.int .i64 (numberL L a q)):=by
    have hl:=Ef L a q;unfold numberL dA;rw[List.getElem?_toArray,List.getElem?_map,List.getElem?_eq_getElem (by omega)];simp[List.getD_eq_getElem?_getD,List.getElem?_eq_getElem (show 0<(eK L a q).length by omega)]
   rw[vh]at c0;have Vk:0<a.states.length:=by omega
   go_wp2_with fail
   refine LM S1.out (v:=.int .i64 (numberL L a q)) ?_ ⟨rfl,Ga (fun D hD=>(S1.out.2 D hD).1) (Nat.le_refl _) bS⟩;simp[results,Tryz.results132,go_sem]
end Go.Proofs.YtkfgpnbpcpdclaaGreat
namespace Go.Proofs.YtkfgpnbpcpdclaaGreat
open Go.RowKit Go Go.Shelf
def countedR(L:Int) (a:Adv) (r:Int):Int × Int:=
 if advE a≠0 then(0,advE a) else if r<0\/6<r then(0,2) else if L<numberL L a r.toNat then(0,17) else(numberL L a r.toNat,0)
theorem zn(a:Adv) (v:Value) (r L:Int) (w:World) (hv:bn w v a.states) (hN:movesN a.states<1099511627776) (hL:0<=L) (hL2:L<=1048576) :
  Calls Tryz.prog 96 #[.agg #[.int .i64 a.n,v],.int .i64 r,.int .i64 L] w fun e w'=>e=.returned (.tuple #[.int .i64 (countedR L a r).1,.int .i64 (countedR L a r).2])/\Below w.heap.size w w':=by
 have G:=aa hv;obtain⟨pa,ca,rfl,_⟩:=hv.at;clear hv
 go_enter Tryz.func96,Tryz.ntmps96
 go_wp2_with fail
 refine aT (fun W=>Below w.heap.size w W/\W.heap[w.heap.size]?=some (.cells #[.int .i64 a.n,.slice pa a.states.length ca] 27)) ⟨by go_grown,ar _ _⟩ (fun W0 bd=>?_);obtain⟨aH,bD⟩:=bd;refine(rp a _ W0 (G.out.up up_moves aH) hN).mono ?_;rintro e w1 ⟨rfl,aG⟩;have dD:=aj aH aG;have fk:=ak aG bD;have t1:=ae fk;have HE:=aa (show advE a=0->_ from fun h=>iP h);have HV:Hid (countedR L a r=if advE a≠0 then(0,advE a) else if r<0\/6<r then(0,2) else if L<numberL L a r.toNat then(0,17) else(numberL L a r.toNat,0)):=by exact rfl
 generalize advE a=ea at HE HV;have fd:=aa fk;clear fk bD;by_cases wh:ea=0
 case neg=>
  have hea':(ea != 0)=true:=by simpa using wh
  have cU:Hid (countedR L a r=(0,ea)):=by(have h:countedR L a r=(0,ea):=by rw[HV.out,if_pos wh]);exact h
  clear HV wh
  go_wp2_with fail
  go_ret2
  refine⟨cI ?_ ?_,dD⟩<;>rw[cU.out]
 subst wh;by_cases hr:r<0\/6<r
 ·have cU:Hid (countedR L a r=(0,2)):=by(have h:countedR L a r=(0,2):=by rw[HV.out,if_neg (by simp),if_pos hr]);exact h
  clear HV;rcases hr with hr|hr
  ·go_wp2_with fail
   go_ret2
   refine⟨cI ?_ ?_,dD⟩<;>rw[cU.out]
  ·go_wp2_with fail
   go_ret2
   refine⟨cI ?_ ?_,dD⟩<;>rw[cU.out]
 obtain⟨k,rfl⟩:∃ k:Nat,r=(k:Int):=⟨r.toNat,by omega⟩;have hk:k<=6:=by omega
 rw[Int.toNat_natCast,if_neg (by simp),if_neg hr]at HV;have rO:¬ ((k:Int)<0):=by omega
 have zP:¬ (6<(k:Int)):=by omega
 clear hr
 go_wp2_with fail
 refine(Gb a _ k L w1 (G.out.up up_moves dD) (HE.out trivial).1.1 (HE.out trivial).1.2 (HE.out trivial).2.1 hk hL hL2).mono ?_;rintro e w2 ⟨rfl,aS⟩;have dU:=aj dD aS;generalize numberL L a k=x at HV;by_cases hx:L<x
 ·have cU:Hid (countedR L a k=(0,17)):=by(have h:countedR L a k=(0,17):=by rw[HV.out,if_pos hx]);exact h
  clear HV t1
  go_wp2_with fail
  go_ret2
  refine⟨cI ?_ ?_,dU⟩<;>rw[cU.out]
 ·have cU:Hid (countedR L a k=(x,0)):=by(have h:countedR L a k=(x,0):=by rw[HV.out,if_neg hx]);exact h
  clear HV t1
  go_wp2_with fail
  go_ret2
  refine⟨cI ?_ ?_,dU⟩<;>rw[cU.out]
theorem Hm(a:Adv) (v:Value) (r:Int) (w:World) (hv:bn w v a.states) (hN:movesN a.states<1099511627776) :
  Calls Tryz.prog 95 #[.agg #[.int .i64 a.n,v],.int .i64 r] w fun e w'=>e=.returned (.tuple #[.int .i64 (countedR 1048576 a r).1,.int .i64 (countedR 1048576 a r).2])/\Below w.heap.size w w':=by
 have G:=aa hv;obtain⟨pa,ca,rfl,_⟩:=hv.at;clear hv
 go_enter Tryz.func95,Tryz.ntmps95
 go_wp2_with fail
 refine aT (fun W=>Below w.heap.size w W) (by go_grown) (fun W0 aH=>?_);refine(zn a _ r 1048576 W0 (G.out.up up_moves aH) hN (by omega) (by omega)).mono ?_;rintro e w1 ⟨rfl,aG⟩
 go_wp2_with fail
 go_ret2
 exact⟨rfl,aj aH aG⟩
end Go.Proofs.YtkfgpnbpcpdclaaGreat
namespace Go.Proofs.YtkfgpnbpcpdclaaGreat
open Go.RowKit Go Go.Shelf
attribute [local go_sem] Oper.semAt_some
theorem nh{W:World} {b c:Nat} {x y:Array Value} {t u:TypeId} {f g:Nat × Nat} (h1:W.heap[b]?=some (.cells x t f)) (h2:W.heap[c]?=some (.cells y u g)) (bH:t≠u):b≠c:=by
 rintro rfl;rw[h1]at h2;cases h2;exact bH rfl
theorem gB{W W':World} {row:Option Nat} (hg:W.grownBy W' row) {k:Nat} {o:Obj} (hk:W.heap[k]?=some o) (hn:row≠some k):W'.heap[k]?=some o:=(hg.block k (aB hk) (fun e=>hn e.symm)).trans hk
theorem JV{w:World} {base:Nat} {e:TypeId} {k:Nat} {v:Value} {n:Nat} {xs:List Value} (h:aL w base e k v n xs):v.oneCell'=true:=by
 obtain⟨a,c,rfl⟩:=h.slice;rfl
abbrev nl(r:Rd):Prop:=bK r.g.n/\bK r.g.h0/\bK r.g.h1/\bK r.g.h2/\bK r.g.h3/\bK r.g.h4/\bK r.f
abbrev BQ(Br Bo Ba Bf:Nat):Value:=.func (.func 97) #[] #[.pointer (some ⟨Br,0,none⟩),.pointer (some ⟨Bo,0,none⟩),.pointer (some ⟨Ba,0,none⟩),.pointer (some ⟨Bf,0,none⟩)]
structure WEnv (a:Adv) (v:Value) (k:Nat) (w:World) (Br Bo Ba Bf wb:Nat) (L:List (List Rd)) (word:List Rd) (W:World):Prop where
 old:Below w.heap.size w W
 lo:w.heap.size<=Bo
 r:W.heap[Br]?=some (.cells #[.int .i64 k] 3)
 a:W.heap[Ba]?=some (.cells #[.int .i64 a.n,v] 27)
 f:W.heap[Bf]?=some (.cells #[BQ Br Bo Ba Bf] 191)
 o:∃ vo xs,W.heap[Bo]?=some (.cells #[vo] 144)/\aL W w.heap.size 37 1 vo L.length xs/\∀ i (hi:i<L.length),∃ x,xs[i]?=some x/\aL W (wb+1) 52 7 x L[i].length (bi L[i])
 b:aL W w.heap.size 52 7 (.slice (some ⟨wb,0,none⟩) word.length k) word.length (bi word)
section
variable {a : Adv} {v : Value} {k : Nat} {w : World} {Br Bo Ba Bf wb : Nat} {L : List (List Rd)} {word : List Rd} {W W' : World}
theorem WEnv.up(h:WEnv a v k w Br Bo Ba Bf wb L word W) (hb:Below W.heap.size W W'):WEnv a v k w Br Bo Ba Bf wb L word W':=by
 refine⟨aj h.old hb,h.lo,ak hb h.r,ak hb h.a,ak hb h.f,?_,h.b.up hb⟩;obtain⟨vo,xs,h1,h2,h3⟩:=h.o;exact⟨vo,xs,ak hb h1,h2.up hb,fun i hi=>by obtain⟨x,q1,q2⟩:=h3 i hi;exact⟨x,q1,q2.up hb⟩⟩
theorem WEnv.wb_at(h:WEnv a v k w Br Bo Ba Bf wb L word W):∃ cur fz,W.heap[wb]?=some (.cells cur 52 fz)/\w.heap.size<=wb:=by
 obtain⟨_,h⟩:=h.b;rcases h with ⟨h,_⟩|⟨g,cap,cur,fz,h,Iw,hg,_⟩
 ·cases h
 ·cases h;exact⟨cur,fz,hg,Iw⟩
theorem WEnv.grow_word(h:WEnv a v k w Br Bo Ba Bf wb L word W) (hg:W.grownBy W' (some wb)) {word':List Rd} (hb:aL W' w.heap.size 52 7 (.slice (some ⟨wb,0,none⟩) word'.length k) word'.length (bi word')):WEnv a v k w Br Bo Ba Bf wb L word' W':=by
 obtain⟨cur,fz,xG,kW⟩:=h.wb_at;have kp:∀ {k:Nat} {x:Array Value} {t:TypeId} {f:Nat × Nat},W.heap[k]?=some (.cells x t f)->t≠52->W'.heap[k]?=some (.cells x t f):=fun hk bH=>gB hg hk (fun e=>nh hk xG bH (cO e).symm)
 refine⟨Below.grown h.old hg h.old.size (fun g e=>by cases e;exact kW),h.lo,kp h.r (by decide),kp h.a (by decide),kp h.f (by decide),?_,hb⟩;obtain⟨vo,xs,h1,h2,h3⟩:=h.o;refine⟨vo,xs,kp h1 (by decide),h2.keepT fun g o e1 e2=>gB hg e2 (fun e=>h2.ne xG (by decide) g e1 (cO e).symm),fun i hi=>?_⟩;obtain⟨x,q1,q2⟩:=h3 i hi;exact⟨x,q1,q2.keepT fun g o e1 e2=>gB hg e2 (fun e=>by have h4:=(q2.lt g e1).1;have h5:=cO e;omega)⟩
theorem WEnv.shrink{r:Rd} (h:WEnv a v k w Br Bo Ba Bf wb L (word++[r]) W):WEnv a v k w Br Bo Ba Bf wb L word W:=by
 refine⟨h.old,h.lo,h.r,h.a,h.f,h.o,?_⟩;have hb:=h.b;rw[List.length_append,List.length_singleton,xa]at hb;exact hb.shrink (ge word)
theorem WEnv.put{vo x v':Value} {xs:List Value} {w2:World} (h:WEnv a v k w Br Bo Ba Bf wb L word W) (h1:W.heap[Bo]?=some (.cells #[vo] 144)) (h2:aL W w.heap.size 37 1 vo L.length xs) (h3:∀ i (hi:i<L.length),∃ x,xs[i]?=some x/\aL W (wb+1) 52 7 x L[i].length (bi L[i]))
  {l:List Rd} (hx:aL W (wb+1) 52 7 x l.length (bi l)) (hg:W.grownBy w2 vo.ownBlock) (ho:aL w2 w.heap.size 37 1 v' (L.length+1) (xs++[x])):WEnv a v k w Br Bo Ba Bf wb (L++[l]) word (w2.setCell ⟨Bo,0,none⟩ v'):=by
 have kp:∀ {k:Nat} {x:Array Value} {t:TypeId} {f:Nat × Nat},W.heap[k]?=some (.cells x t f)->t≠37->w2.heap[k]?=some (.cells x t f):=fun hk bH=>gB hg hk (fun e=>h2.ne hk (fun e=>bH e.symm) _ e rfl)
 have Fy:=kp h1 (by decide);have kp2:∀ {k:Nat} {x:Array Value} {t:TypeId} {f:Nat × Nat},W.heap[k]?=some (.cells x t f)->t≠37->t≠144->(w2.setCell ⟨Bo,0,none⟩ v').heap[k]?=some (.cells x t f):=fun hk bH xI=>aI (kp hk bH) (nh hk h1 xI) _ _
 have ko:∀ {x:Value} {l:List Rd} {b:Nat},aL W b 52 7 x l.length (bi l)->aL (w2.setCell ⟨Bo,0,none⟩ v') b 52 7 x l.length (bi l):=fun hq=>(hq.apart h2 (by decide) hg).put (fun g e=>(hq.apart h2 (by decide) hg).ne Fy (by decide) g e) _ _
 have aS:Below w.heap.size w w2:=Below.grown h.old hg h.old.size (fun g e=>(h2.lt g e).1);refine⟨aS.setCell h.lo _,h.lo,kp2 h.r (by decide) (by decide),kp2 h.a (by decide) (by decide),kp2 h.f (by decide) (by decide),⟨v',xs++[x],by rw[aE Fy];rfl,?_,fun i hi=>?_⟩,?_⟩
 ·rw[List.length_append,List.length_singleton]
  exact ho.put (fun g e=>ho.ne Fy (by decide) g e) _ _
 ·have hl:xs.length=L.length:=by have:=h2.1;omega
  rw[List.length_append,List.length_singleton]at hi;by_cases aF:i<L.length
  ·obtain⟨y,q1,q2⟩:=h3 i aF
   refine⟨y,by rw[List.getElem?_append_left (by omega)];exact q1,?_⟩;rw[List.getElem_append_left aF];exact ko q2
  ·obtain rfl:i=L.length:=by omega
   refine⟨x,by rw[<-hl,List.getElem?_append_right (Nat.le_refl _)];simp,?_⟩;have e:(L++[l])[L.length]'(by simp)=l:=by simp
   rw[e];exact ko hx
 ·have hq:=h.b
  exact ko (l:=word) hq
end
def jU(a:Adv) (d:Nat) (word:List Rd) (l:List Mv):List (List Rd):=l.flatMap fun m=>(dr a d m.to.toNat).map fun y=>word++(m.r :: y)
theorem Ew(a:Adv) (d s:Nat) (word:List Rd):(dr a (d+1) s).map (word++·)=jU a d word (a.states.getD s []):=by
 simp only[dr,jU,List.map_flatMap,List.map_map];rfl
theorem LP(a:Adv) (d:Nat) (word:List Rd) (l:List Mv) (j:Nat) (h:j<l.length):jU a d word (l.take (j+1))=jU a d word (l.take j)++(dr a d l[j].to.toNat).map ((word++[l[j].r])++·):=by
 unfold jU;rw[List.take_succ_eq_append_getElem h,List.flatMap_append];simp
theorem QG(a:Adv) (d:Nat) (word:List Rd) (l:List Mv) (j:Nat):(jU a d word (l.take j)).length<=(jU a d word l).length:=by
 conv=>rhs;rw[<-List.take_append_drop j l]
 unfold jU;rw[List.flatMap_append,List.length_append];omega
structure WCore (a:Adv) (v:Value) (k:Nat) (w:World) (Br Bo Ba Bf wb B9:Nat) (L:List (List Rd)) (word:List Rd) (m:Mv) (D:Nat->Bool) (x:Nat->Value) (W:World):Prop where
 env:WEnv a v k w Br Bo Ba Bf wb L (bif D 7 then word++[m.r] else word) W
 box:W.heap[B9]?=some (.cells #[.int .i64 m.r.g.n,.int .i64 m.r.g.h0,.int .i64 m.r.g.h1,.int .i64 m.r.g.h2,.int .i64 m.r.g.h3,.int .i64 m.r.g.h4,.int .i64 m.r.f,.int .i64 m.to] 98)
 sb:D 6=true->D 7=false->∃ g,x 6=.slice (some ⟨g,0,none⟩) 1 1/\W.heap[g]?=some (.cells #[.int .i64 m.r.g.n,.int .i64 m.r.g.h0,.int .i64 m.r.g.h1,.int .i64 m.r.g.h2,.int .i64 m.r.g.h3,.int .i64 m.r.g.h4,.int .i64 m.r.f] 52)
section
variable {a : Adv} {v : Value} {k : Nat} {w : World} {Br Bo Ba Bf wb B9 : Nat} {L : List (List Rd)} {word : List Rd} {m : Mv} {D : Nat → Bool} {x : Nat → Value} {W : World}
theorem WCore.other(h:WCore a v k w Br Bo Ba Bf wb B9 L word m D x W) {i:Nat} (u:Value) (h6:6≠i) (h7:7≠i):WCore a v k w Br Bo Ba Bf wb B9 L word m (bB D i) (cF x i u) W:=by
 refine⟨?_,h.box,?_⟩
 ·simpa only[bB,if_neg h7] using h.env
 ·simpa only[bB,cF,if_neg h6,if_neg h7] using h.sb
theorem WCore.build(h:WCore a v k w Br Bo Ba Bf wb B9 L word m D x W):WCore a v k w Br Bo Ba Bf wb B9 L word m (bB D 6) (cF x 6 (.slice (some ⟨W.heap.size,0,none⟩) 1 1)) (W.alloc (.cells #[.int .i64 m.r.g.n,.int .i64 m.r.g.h0,.int .i64 m.r.g.h1,.int .i64 m.r.g.h2,.int .i64 m.r.g.h3,.int .i64 m.r.g.h4,.int .i64 m.r.f] 52)):=by
 refine⟨?_,aq _ h.box,fun _ _=>⟨W.heap.size,by simp[cF],ar _ _⟩⟩;have:=h.env.up (W':=W.alloc (.cells #[.int .i64 m.r.g.n,.int .i64 m.r.g.h0,.int .i64 m.r.g.h1,.int .i64 m.r.g.h2,.int .i64 m.r.g.h3,.int .i64 m.r.g.h4,.int .i64 m.r.f] 52)) (by go_grown);simpa only[bB,if_neg (show (7:Nat)≠6 by decide)] using this
theorem WCore.app(h:WCore a v k w Br Bo Ba Bf wb B9 L word m D x W) (h7:D 7=false) {w3:World} (u:Value) (ho:aL w3 w.heap.size 52 7 (.slice (some ⟨wb,0,none⟩) (word.length+1) k) (word.length+1) (bi word++bi [m.r])) (hg:W.grownBy w3 (some wb)):WCore a v k w Br Bo Ba Bf wb B9 L word m (bB D 7) (cF x 7 u) w3:=by
 have he:=h.env;rw[h7]at he;obtain⟨cur,fz,xG,_⟩:=he.wb_at;refine⟨?_,gB hg h.box (fun e=>nh h.box xG (by decide) (cO e).symm),fun _ e=>by simp[bB]at e⟩;simp only[bB,if_true,cond_true];refine he.grow_word hg ?_;rw[List.length_append,List.length_singleton,xa];exact ho
end
def WJ(wb:Nat) (word:List Rd):MP:=⟨fun x W=>aL W (wb+1) 52 7 x word.length (bi word),fun _ _ _ h hb=>h.up hb⟩
def NU(wb:Nat) (word:List Rd):MP:=⟨fun y W=>∃ x g,aL W (wb+1) 52 7 x word.length (bi word)/\y=.slice (some ⟨g,0,none⟩) 1 1/\W.heap[g]?=some (.cells #[x] 37),fun _ _ _ h hb=>by obtain⟨x,g,h1,h2,h3⟩:=h;exact⟨x,g,h1.up hb,h2,ak hb h3⟩⟩
theorem NV{wb:Nat} {word:List Rd} {W:World} {x:Value} {g:Nat} (h1:aL W (wb+1) 52 7 x word.length (bi word)) (h3:W.heap[g]?=some (.cells #[x] 37)):(NU wb word).p (.slice (some ⟨g,0,none⟩) 1 1) W:=⟨x,g,h1,rfl,h3⟩
theorem Tryz.infoWordRow:(Tryz.prog.info? 37).map (fun i=>(i.zero,i.size,i.bytes))=some (some (.slice none 0 0),1,24):=by kernel_rfl
theorem LQ(a:Adv) (v:Value) (k:Nat) (hk:k<=6) (w:World) (hv:bn w v a.states) (sF:∀ s,s<a.states.length->∀ m∈a.states.getD s [],0<=m.to/\m.to.toNat<a.states.length) (Br Bo Ba Bf wb:Nat) :
  ∀ (d:Nat) (s:Nat) (L:List (List Rd)) (word:List Rd) (W:World),word.length+d=k->s<a.states.length->(∀ r∈word,nl r)->L.length+(dr a d s).length<=1048576->WEnv a v k w Br Bo Ba Bf wb L word W →
   Calls Tryz.prog 97 #[.int .i64 s,.slice (some ⟨wb,0,none⟩) word.length k,.pointer (some ⟨Br,0,none⟩),.pointer (some ⟨Bo,0,none⟩),.pointer (some ⟨Ba,0,none⟩),.pointer (some ⟨Bf,0,none⟩)] W fun e W'=>(∃ u,e=.returned u)/\WEnv a v k w Br Bo Ba Bf wb (L++(dr a d s).map (word++·)) word W':=by
 have HV:=aa hv;clear hv;have UP:=aa sF;clear sF;intro d;induction d with
 | zero=>
  intro s L word W hd hs cK cZ pg;have kS:=aa cK;have D3:=aa pg;have qC:=aa cZ;have tr:=ae pg.r 0;obtain⟨vo,xs,h1,h2,h3⟩:=pg.o;have to:=ae h1 0;simp at tr to;have UK:(word.length:Int)=k:=by omega
  have HKW:=aa UK;have ux:=aa hd;clear cK cZ pg hd
  go_enter Tryz.func97,Tryz.ntmps97
  obtain⟨i0,fZ,dp,du,eB⟩:=info_parts Tryz.infoWordRow;have H2:=aa h2;have H3:=aa h3;clear h2 h3;have aF:=(D3.out.wb_at).elim fun _ h=>h.elim fun _ h=>aB h.1
  go_wp2_with fail
  refine ip 4 [14,15,16,17] [MP.eq vo,
   MP.eq (.slice (some ⟨wb,0,none⟩) word.length k),
   WJ wb word,
   NU wb word] (by kernel_rfl) (by simp) (by decide) rfl (by kernel_rfl) (by kernel_rfl) (by kernel_rfl) ?step ?tail
  case step=>
   intro x W i o s F hi ho hs hB al hF;have bY:i=0\/i=1\/i=2\/i=3:=by omega
   rcases bY with rfl|rfl|rfl|rfl
   all_goals (obtain rfl:=cO ho.symm;obtain rfl:=cO hs.symm;simp only[bg,bQ,List.setIfInBounds_toArray,List.set_cons_succ,List.set_cons_zero,Nat.reduceAdd]at hF)
   ·clear al hi ho hs
    have t1:=ay hB to;subst hF
    go_wp2_with fail
    exact bG _ (Below.refl _ _) rfl
   ·clear al hi ho hs
    subst hF
    go_wp2_with fail
    exact bG _ (Below.refl _ _) rfl
   ·have d1:=bz (al ⟨1,.data⟩ (by simp) rfl)
    clear al hi ho hs;simp only[d1]at hF;subst hF
    go_wp2_with fail
    refine(iN _ word W ((lw D3.out.b (fun i hi=>kS.out _ (List.getElem_mem hi)) (by omega)).up up_round hB) (by omega)).mono ?_;rintro e w9 ⟨u9,rfl,ku,eA⟩;have iU:=aa (ku.base (base':=wb+1) (by have:=hB.size;omega));clear ku
    go_wp2_with fail
    exact bG _ eA iU.out
   ·have d2:=al ⟨2,.data⟩ (by simp) rfl
    clear al hi ho hs;obtain⟨a9,c9,e9⟩:=aL.slice d2;rw[e9]at d2;have Vh:=aa (show aL W (wb+1) 52 7 (.slice a9 word.length c9) word.length (bi word) from d2);clear d2;simp only[e9]at hF;subst hF
    go_wp2_with fail
    refine aY.mk (.slice (some ⟨W.heap.size,0,none⟩) 1 1) ?_ ?_ ?_
    ·exact(by go_grown)
    ·exact NV (Vh.out.up (by go_grown)) (ar _ _)
    ·first
     | rfl
     | simp only[List.setIfInBounds_toArray,List.set_cons_succ,List.set_cons_zero]
  case tail=>
   intro x W2 F hB aM hF;have d0:x 0=vo:=aM 0 (by omega);have d3:=aM 3 (by omega);obtain⟨x9,g9,ku,e9,hg9⟩:∃ x9 g9,aL W2 (wb+1) 52 7 x9 word.length (bi word)/\x 3=.slice (some ⟨g9,0,none⟩) 1 1/\W2.heap[g9]?=some (.cells #[x9] 37):=d3;clear aM;simp only[bg,bQ,List.setIfInBounds_toArray,List.set_cons_succ,List.set_cons_zero,Nat.reduceAdd]at hF;rw[d0,e9]at hF;subst hF;have iU:=aa ku;have HG9:=aa hg9;have gP:=aa hB;have hz9:=gP.out.size;have hL:=qC.out;simp only[dr,List.length_singleton]at hL;clear ku hg9 hB d0 e9;simp only[List.drop_succ_cons,List.drop_zero];refine bO W2 rfl (.tmp 14) (.tmp 17) 144 rfl w.heap.size 37 i0 _ 1 24 Tryz.underlying144 fZ dp du eB rfl (by decide) _ L.length xs rfl (H2.out.up gP.out) ⟨g9,0,none⟩ 1 1 [x9] rfl rfl (fun j u hj=>?_) (by simpa using JV iU.out) (by unfold maxLen;omega) (by omega) (by have:=D3.out.old.size;omega) ?_
   ·cases j with
    | zero=>simp at hj;subst hj;simp[Addr.add,ae HG9.out]
    | succ j=>simp at hj
   intro v9 w9 mX kZ _;have MY:=aa mX;have Jg:=aa kZ;clear mX kZ;have Fy:=gB Jg.out (ak gP.out h1) (fun e=>H2.out.ne h1 (by decide) _ e rfl);have tBo:=ae Fy 0;have zBo:=aD Fy 0;simp at tBo;have hBoL:=aB Fy;obtain⟨a9,c9,ug⟩:=MY.out.slice;subst ug;clear Fy
   go_wp2_with fail
   go_returns
   refine⟨⟨_,rfl⟩,?_⟩;have e9:L++(dr a 0 s).map (word++·)=L++[word]:=by simp[dr]
   rw[e9];exact(D3.out.up gP.out).put (ak gP.out h1) (H2.out.up gP.out) (fun i hi=>by obtain⟨y,q1,q2⟩:=H3.out i hi;exact⟨y,q1,q2.up gP.out⟩) iU.out Jg.out MY.out
 | succ d ih=>
  intro s L word W hd hs cK cZ pg;have kS:=aa cK;have D3:=aa pg;have qC:=aa (show L.length+(jU a d word (a.states.getD s [])).length<=1048576 by rw[<-Ew];simpa using cZ);have tr:=ae pg.r 0;have ta:=ae pg.a 1;simp at tr ta;obtain⟨pa,ca,rfl,la1,la2,ea⟩:=HV.out.at;obtain⟨b1,o1,rfl,xc,cx0,hx⟩:=ea s hs;rw[Nat.mul_one]at cx0;have cx:=ay pg.old cx0;clear cx0;obtain⟨px,qx,rfl,x1,x2,ex⟩:=hx.at;have EX:=aa ex;have Fp:=aa (aA [] hs);have Rm:=aa (UP.out s hs);rw[Fp.out]at qC Rm;rw[Ew,Fp.out];clear hx ex ea cZ pg cK;generalize a.states[s]=l at EX x1 x2 cx qC Rm;have UK:((word.length:Int) == (k:Int))=false:=by simp;omega
  have HKW:=aa UK;have ux:=aa hd;clear hd
  go_enter Tryz.func97,Tryz.ntmps97
  go_wp2_with fail
  clear cx ta tr;obtain⟨i1,uA,_,xX,_⟩:=info_parts Tryz.infoRound
  go_loopw [25] (fun i wr=>∃ j:Nat,j<=l.length/\i=.int .i64 j/\WEnv a (.slice (some ⟨b1,o1,none⟩) a.states.length ca) k w Br Bo Ba Bf wb (L++jU a d word (l.take j)) word wr) (fun i _=>l.length - (intOf i).toNat)
  case atStart=>exact⟨0,by omega,rfl,by simpa[jU] using D3.out⟩
  case round=>
   obtain⟨j,hj,rfl,n8⟩:=hrel;have Ww:=aa n8;by_cases aF:j<l.length
   ·obtain⟨b3,o3,rfl,⟨⟨d0,j0⟩,⟨d1,j1⟩,⟨d2,j2⟩,⟨d3,j3⟩,⟨d4,j4⟩,⟨d5,j5⟩,⟨d6,j6⟩⟩,⟨d7,_⟩⟩:=EX.out j aF
    have HINM:Hid (∀ r∈word++[l[j].r],nl r):=aa (fun r hr=>by
     rcases List.mem_append.1 hr with h|h
     ·exact kS.out r h
     ·rw[List.mem_singleton]at h;subst h;exact⟨j0,j1,j2,j3,j4,j5,j6⟩)
    have UE:=LP a d word l j aF;have kl:=QG a d word l (j+1);have HM:=aa (Rm.out _ (List.getElem_mem aF))
    have Vi:(L++jU a d word (l.take j)).length+(dr a d l[j].to.toNat).length<=1048576:=by
     have h9:=qC.out;rw[UE,List.length_append,List.length_map]at kl;rw[List.length_append];omega
    have HLJ:=aa Vi;have gO:=aa UE;clear UE kl Vi j0 j1 j2 j3 j4 j5 j6;generalize l[j]=m at d0 d1 d2 d3 d4 d5 d6 d7 HINM HM HLJ gO;have HTON:Hid (((m.to.toNat:Nat):Int)=m.to):=aa (by have:=HM.out.1;omega)
    replace d0:=ay n8.old d0
    replace d1:=ay n8.old d1
    replace d2:=ay n8.old d2
    replace d3:=ay n8.old d3
    replace d4:=ay n8.old d4
    replace d5:=ay n8.old d5
    replace d6:=ay n8.old d6
    replace d7:=ay n8.old d7
    clear n8
    go_wp2_with fail
    refine bw (fun W1=>WEnv a (.slice (some ⟨b1,o1,none⟩) a.states.length ca) k w Br Bo Ba Bf wb (L++jU a d word (l.take j)) word W1/\W1.heap[wr.heap.size]?=some (.cells #[.int .i64 m.r.g.n,.int .i64 m.r.g.h0,.int .i64 m.r.g.h1,.int .i64 m.r.g.h2,.int .i64 m.r.g.h3,.int .i64 m.r.g.h4,.int .i64 m.r.f,.int .i64 m.to] 98)) ⟨Ww.out.up (by go_grown),ar _ _⟩ (fun W1 fR=>?_);have HW1:=aa fR;clear fR d0 d1 d2 d3 d4 d5 d6 d7
    refine m' 8 [29,30,31,32,33,34,35,36] [some (BQ Br Bo Ba Bf),
     some (.pointer (some ⟨wr.heap.size,7,none⟩)),
     some (.int .i64 m.to),
     some (.slice (some ⟨wb,0,none⟩) word.length k),
     some (.pointer (some ⟨wr.heap.size,0,none⟩)),
     some (m.r.v),
     none,
     some ((.slice (some ⟨wb,0,none⟩) (word.length+1) k))] (WCore a (.slice (some ⟨b1,o1,none⟩) a.states.length ca) k w Br Bo Ba Bf wb wr.heap.size (L++jU a d word (l.take j)) word m) (by kernel_rfl) rfl (by decide) rfl (by kernel_rfl) (by kernel_rfl) (by kernel_rfl) (fun _=>⟨HW1.out.1.up (by go_grown),ak (by go_grown) HW1.out.2,nofun⟩) ?step ?tail
    case step=>
     intro x W D i o s F hi ho hs hD cN bW al hv az hF;have bY:i=0\/i=1\/i=2\/i=3\/i=4\/i=5\/i=6\/i=7:=by omega
     rcases bY with rfl|rfl|rfl|rfl|rfl|rfl|rfl|rfl
     all_goals (have bv:=cN _ _ hs hD;obtain rfl:=cO ho.symm;obtain rfl:=cO hs.symm)
     ·clear al hi hv
      have e5:F.getD 5 undef=.pointer (some ⟨Bf,0,none⟩):=eJ hF (by decide) rfl;clear cN bW;clear hF bv;have t1:=ae az.env.f 0;simp at t1;have e5':=br e5;have HD:=aa hD;have ap:=aa az;clear hD az
      go_wp2_with fail
      refine aR.mk _ cD ?_ rfl;exact ap.out.other _ (by decide) (by decide)
     ·clear al hi hv
      have e9:F.getD 9 undef=.pointer (some ⟨wr.heap.size,0,none⟩):=eJ hF (by decide) rfl;clear cN bW;clear hF bv;have e9':=br e9;have HD:=aa hD;have ap:=aa az;clear hD az
      go_wp2_with fail
      refine aR.mk _ cD ?_ rfl;exact ap.out.other _ (by decide) (by decide)
     ·have g1:=al ⟨1,.data⟩ (by simp) rfl
      have d1:=hv 1 _ (by omega) g1 rfl;clear al hi hv;have e30:=bT hF 1 30 (by decide) rfl (by kernel_rfl) d1;clear cN bW;clear hF bv d1;have t1:=ae az.box 7;simp at t1;have e30':=br e30;have HD:=aa hD;have ap:=aa az;clear hD az;clear g1
      go_wp2_with fail
      refine aR.mk _ cD ?_ rfl;exact ap.out.other _ (by decide) (by decide)
     ·clear al hi hv
      have e1:F.getD 1 undef=.slice (some ⟨wb,0,none⟩) word.length k:=eJ hF (by decide) rfl;clear cN bW;clear hF bv;have e1':=br e1;have HD:=aa hD;have ap:=aa az;clear hD az
      go_wp2_with fail
      refine aR.mk _ cD ?_ rfl;exact ap.out.other _ (by decide) (by decide)
     ·clear al hi hv
      have e9:F.getD 9 undef=.pointer (some ⟨wr.heap.size,0,none⟩):=eJ hF (by decide) rfl;clear cN bW;clear hF bv;have e9':=br e9;have HD:=aa hD;have ap:=aa az;clear hD az
      go_wp2_with fail
      refine aR.mk _ cD ?_ rfl;exact ap.out.other _ (by decide) (by decide)
     ·have g4:=al ⟨4,.data⟩ (by simp) rfl
      have d4:=hv 4 _ (by omega) g4 rfl;clear al hi hv;have e33:=bT hF 4 33 (by decide) rfl (by kernel_rfl) d4;clear cN bW;clear hF bv d4;have t1:=ae az.box;have e33':=br e33;have HD:=aa hD;have ap:=aa az;clear hD az;clear g4
      go_wp2_with fail
      refine aR.mk _ cD ?_ rfl;exact ap.out.other _ (by decide) (by decide)
     ·have g5:=al ⟨5,.data⟩ (by simp) rfl
      have d5:=hv 5 _ (by omega) g5 rfl;clear al hi hv;have e34:=bT hF 5 34 (by decide) rfl (by kernel_rfl) d5;clear cN bW;clear hF bv d5;have e34':=br e34;have HD:=aa hD;have ap:=aa az;clear hD az;clear g5
      go_wp2_with fail
      refine aR.mk _ (fun c hc=>by cases hc) ?_ rfl;exact ap.out.build
     ·have g3:=al ⟨3,.data⟩ (by simp) rfl
      have d3:=hv 3 _ (by omega) g3 rfl;have g6:=al ⟨6,.data⟩ (by simp) rfl;clear al hi hv;have e32:=bT hF 3 32 (by decide) rfl (by kernel_rfl) d3;have e35:=bT hF 6 35 (by decide) rfl (by kernel_rfl) rfl;clear cN bW;clear hF bv d3;obtain⟨gb,qx,iK⟩:=az.sb g6 hD;rw[qx]at e35;have bL:=az.env.b;rw[hD]at bL;have lZ:=aa (show aL W w.heap.size 52 7 (.slice (some ⟨wb,0,none⟩) word.length k) word.length (bi word) from bL)
      have bj:∀ j u',(bi [m.r])[j]?=some u'->W.cell? (Addr.add ⟨gb,0,none⟩ j)=some u':=fun j u' hj=>by
       have e1:(Addr.add ⟨gb,0,none⟩ j)=⟨gb,j,none⟩:=by unfold Addr.add;split<;>simp_all
       rw[e1,ae iK];simpa[bi] using hj
      have bZ:=aa bj;clear bj bL iK qx;have e32':=br e32;have e35':=br e35;have HD:=aa hD;have ap:=aa az;clear hD az;clear g3;clear g6;refine AB rfl (.tmp 32) (.tmp 35) 37 rfl w.heap.size 52 i1 7 Tryz.underlying37 uA xX wb k word.length (bi word) e32 lZ.out ⟨gb,0,none⟩ 1 1 (bi [m.r]) e35 rfl bZ.out (sd _) (by have:=ux.out;omega) ?_;intro w3 dE cP _;refine aR.mk _ cD ?_ rfl;exact ap.out.app HD.out _ dE cP
    case tail=>
     intro x W' D F aM hv az hF;have x0:=hv 0 _ (by omega) rfl;have x1:=hv 1 _ (by omega) rfl;have x2:=hv 2 _ (by omega) rfl;have x3:=hv 3 _ (by omega) rfl;have x4:=hv 4 _ (by omega) rfl;have x5:=hv 5 _ (by omega) rfl;have x7:=hv 7 _ (by omega) rfl;have oi:=az.env;rw[aM 7 (by omega)]at oi;have HE9:=aa (show WEnv a (.slice (some ⟨b1,o1,none⟩) a.states.length ca) k w Br Bo Ba Bf wb (L++jU a d word (l.take j)) (word++[m.r]) W' from oi);simp only[bg,bQ,List.setIfInBounds_toArray,List.set_cons_succ,List.set_cons_zero,Nat.reduceAdd,x0,x1,x2,x3,x4,x5,x7]at hF;generalize x 6=y6 at hF;subst hF;clear hv aM az oi x0 x1 x2 x3 x4 x5 x7;simp only[List.drop_succ_cons,List.drop_zero];have b8:=ih m.to.toNat (L++jU a d word (l.take j)) (word++[m.r]) W' (by have:=ux.out;simp;omega) HM.out.2 HINM.out (HLJ.out) HE9.out;rw[List.length_append,List.length_singleton,HTON.out]at b8;have bE:=aa b8;clear b8 ih
     go_wp2_with fail
     refine bE.out.mono ?_;rintro e w9 ⟨⟨u9,rfl⟩,oi⟩;have HE10:=aa oi;clear oi
     go_wp2_with fail
     go_roundw
     case rel=>
      refine⟨j+1,by omega,by go_num,?_⟩;rw[gO.out,<-List.append_assoc];exact HE10.out.shrink
     case measure=>simp[intOf];omega
   ·obtain rfl:j=l.length:=by omega
    rw[List.take_length]at Ww;clear n8
    go_wp2_with fail
    go_returns
    exact⟨⟨_,rfl⟩,Ww.out⟩
theorem Hn(P:Program) (w:World) (a:Addr) (m:Mode) (g:Fn) (b c:Array Value):(store a (.func g b c) m).run P w=stored P w a (.func g b c) m:=run_store P w a _ m rfl
attribute [local go_sem] Hn
theorem NW(cs:Array Value) (m:Nat):(madeCells cs m).size=m:=by simp[madeCells]
theorem LR(n:Nat) (hn:n<=4096) (w:World):(Instr.makeSlice 144 (.int .i64 0) (.int .i64 (n:Int))).run Tryz.prog w=.ok (.slice (some ⟨w.heap.size,0,none⟩) 0 n) (w.alloc (.cells (madeCells (Value.slice none 0 0).cells n) 37)):=by
 obtain⟨i,hi,dp,du,eB⟩:=info_parts Tryz.infoWordRow;have:=run_make (P:=Tryz.prog) w 144 37 i (.slice none 0 0) Tryz.underlying144 hi dp .i64 .i64 0 (n:Int) (by omega) (by omega) (by rw[eB];omega) (by omega);rw[this,du,Nat.mul_one];rfl
theorem JW(k:Nat) (hk:k<=6) (w:World):(Instr.makeSlice 37 (.int .i64 0) (.int .i64 (k:Int))).run Tryz.prog w=.ok (.slice (some ⟨w.heap.size,0,none⟩) 0 k) (w.alloc (.cells (madeCells (Value.agg #[.int .i64 0,.int .i64 0,.int .i64 0,.int .i64 0,.int .i64 0,.int .i64 0,.int .i64 0]).cells (k * 7)) 52)):=by
 obtain⟨i,hi,dp,du,eB⟩:=info_parts Tryz.infoRound;have:=run_make (P:=Tryz.prog) w 37 52 i _ Tryz.underlying37 hi dp .i64 .i64 0 (k:Int) (by omega) (by omega) (by rw[eB];omega) (by omega);rw[this,du];rfl
theorem Ho{W:World} {base g n k:Nat} {e:TypeId} {cs:Array Value} (h:W.heap[g]?=some (.cells (madeCells cs (n * k)) e)) (hb:base<=g) (hn:n<=1048576):aL W base e k (.slice (some ⟨g,0,none⟩) 0 n) 0 []:=
 ⟨by simp,.inr ⟨g,n,_,(0,0),rfl,hb,h,fun i _ h=>by have:=h.2;simp at this,by omega,by unfold maxLen;omega,NW _ _,by simp⟩⟩
def Ud(base k:Nat):MP:=⟨fun v W=>∃ g,base<=g/\v=.slice (some ⟨g,0,none⟩) 0 k/\aL W base 52 7 (.slice (some ⟨g,0,none⟩) 0 k) 0 [],fun _ _ _ h hb=>by obtain⟨g,h1,h2,h3⟩:=h;exact⟨g,h1,h2,h3.up hb⟩⟩
theorem TI{base k g:Nat} {W:World} (h1:base<=g) (h3:aL W base 52 7 (.slice (some ⟨g,0,none⟩) 0 k) 0 []):(Ud base k).p (.slice (some ⟨g,0,none⟩) 0 k) W:=⟨g,h1,rfl,h3⟩
theorem Ey{w:World} {v:Value} {l:List (List Mv)} (h:bn w v l):∀ s,∀ m∈l.getD s [],nl m.r:=fun s m hm=>by
 by_cases hs:s<l.length
 ·rw[aA [] hs]at hm
  obtain⟨pa,ca,rfl,_,_,ea⟩:=h.at;obtain⟨_,_,_,x,_,hx⟩:=ea s hs;obtain⟨px,qx,rfl,_,_,ex⟩:=hx.at;obtain⟨j,hj,rfl⟩:=List.getElem_of_mem hm;obtain⟨_,_,_,⟨⟨_,j0⟩,⟨_,j1⟩,⟨_,j2⟩,⟨_,j3⟩,⟨_,j4⟩,⟨_,j5⟩,⟨_,j6⟩⟩,_⟩:=ex j hj;exact⟨j0,j1,j2,j3,j4,j5,j6⟩
 ·rw[List.getD_eq_getElem?_getD,List.getElem?_eq_none (by omega)]at hm
  simp at hm
theorem Hp(a:Adv) (h:∀ s,∀ m∈a.states.getD s [],nl m.r) (k:Nat):∀ s,∀ x∈dr a k s,∀ r∈x,nl r:=by
 induction k with
 | zero=>intro s x hx r hr;simp[dr]at hx;subst hx;simp at hr
 | succ k ih=>
  intro s x hx r hr;simp only[dr,List.mem_flatMap,List.mem_map]at hx;obtain⟨m,hm,y,hy,rfl⟩:=hx;rcases List.mem_cons.1 hr with rfl|hr
  ·exact h s m hm
  ·exact ih _ y hy r hr
theorem BR{a:Adv} (h:advE a=0):∀ s,s<a.states.length->∀ m∈a.states.getD s [],0<=m.to/\m.to.toNat<a.states.length:=fun s hs m hm=>by
 rw[aA [] hs]at hm;obtain⟨j,hj,rfl⟩:=List.getElem_of_mem hm;have:=(jj (iP h).2.1 hs hj).2;omega
def pU(a:Adv) (r:Int):List (List Rd) × Int:=if (countedR 4096 a r).2≠0 then([],(countedR 4096 a r).2) else(dr a r.toNat 0,0)
theorem LS{a:Adv} {r:Int} (h:(countedR 4096 a r).2=0):advE a=0/\0<=r/\r<=6/\(dr a r.toNat 0).length<=4096/\(countedR 4096 a r).1=(dr a r.toNat 0).length:=by
 unfold countedR at h ⊢;by_cases h1:advE a=0
 ·rw[if_neg (by simpa using h1)]at h ⊢
  by_cases h2:r<0\/6<r
  ·rw[if_pos h2]at h;cases h
  ·rw[if_neg h2]at h ⊢
   have hn:=uL (L:=4096) (by omega) a (fun s hs m hm=>(BR h1 s hs m hm).2) (by have:=(iP h1).1;omega) r.toNat;by_cases h3:4096<numberL 4096 a r.toNat
   ·rw[if_pos h3]at h;cases h
   ·rw[if_neg h3]
    refine⟨h1,by omega,by omega,?_,?_⟩
    ·omega
    ·show numberL 4096 a r.toNat=_
     omega
 ·rw[if_pos h1]at h
  exact absurd h h1
theorem NX(a:Adv) (v:Value) (r:Int) (w:World) (hv:bn w v a.states) (hN:movesN a.states<1099511627776) :
  Calls Tryz.prog 61 #[.agg #[.int .i64 a.n,v],.int .i64 r] w fun e w'=>∃ u,e=.returned (.tuple #[u,.int .i64 (pU a r).2])/\eO 1 (lj 7 jV) w' u (pU a r).1/\(∀ ad n c,u=.slice (some ad) n c->w.heap.size<=ad.block)/\Below w.heap.size w w':=by
 have HV:=aa hv;obtain⟨pa,ca,rfl,_⟩:=hv.at;clear hv
 go_enter Tryz.func61,Tryz.ntmps61
 go_wp2_with fail
 refine aT (fun W=>Below w.heap.size w W/\W.heap[w.heap.size]?=some (.cells #[.int .i64 a.n,.slice pa a.states.length ca] 27)/\W.heap[w.heap.size+1]?=some (.cells #[.int .i64 r] 3)) ⟨by go_grown,aq _ (ar _ _),aX _ _ _⟩ (fun W0 bd=>?_);obtain⟨aH,bD,iq⟩:=bd;refine(zn a _ r 4096 W0 (HV.out.up up_moves aH) hN (by omega) (by omega)).mono ?_;rintro e w1 ⟨rfl,aG⟩;have dD:=aj aH aG;have fk:=ak aG bD;have lL:=ak aG iq;by_cases he:(countedR 4096 a r).2=0
 case neg=>
  have Cy:Hid (pU a r=([],(countedR 4096 a r).2)):=aa (by unfold pU;rw[if_pos he]);generalize (countedR 4096 a r).2=x at he Cy;have he':(x != 0)=true:=by simpa using he
  clear bD iq fk lL he
  go_wp2_with fail
  go_ret2
  rw[Cy.out];exact⟨_,rfl,⟨none,0,rfl,⟨by simp,by omega,fun _=>rfl⟩,by simp,fun i x hx=>by simp at hx⟩,(fun ad n c e=>by cases e),dD⟩
 obtain⟨ha,vY,FU,cZ,oE⟩:=LS he;obtain⟨k,rfl⟩:∃ k:Nat,r=(k:Int):=⟨r.toNat,by omega⟩;rw[Int.toNat_natCast]at cZ oE;have Cy:Hid (pU a k=(dr a k 0,0)):=aa (by unfold pU;rw[if_neg (by simpa using he),Int.toNat_natCast]);have UP:=aa (BR ha);have HAOK:=aa (iP ha);rw[he,oE];have hk:k<=6:=by omega
 have qC:=aa cZ;generalize hn:(dr a k 0).length=n at cZ;have HN:=aa hn;have me:=LR n cZ;clear hn he oE ha vY FU;have du:=dD.size;have fd:=aa fk;have jx:=aa lL;clear bD iq fk lL
 go_wp2_with fail
 refine bw (fun W=>Below w.heap.size w W/\W.heap[w.heap.size]?=some (.cells #[.int .i64 a.n,.slice pa a.states.length ca] 27)/\W.heap[w.heap.size+1]?=some (.cells #[.int .i64 k] 3)/\W.heap[w1.heap.size]?=some (.cells (madeCells (Value.slice none 0 0).cells n) 37)/\W.heap[w1.heap.size+1]?=some (.cells #[.slice (some ⟨w1.heap.size,0,none⟩) 0 n] 144)/\W.heap[w1.heap.size+1+1]?=some (.cells #[BQ (w.heap.size+1) (w1.heap.size+1) w.heap.size (w1.heap.size+1+1)] 191)) ?_ (fun W2 jD=>?_)
 ·exact⟨((dD.alloc du _).alloc (by simp only[World.size_alloc];omega) _).alloc (by simp only[World.size_alloc];omega) _,aq _ (aq _ (aq _ fd.out)),aq _ (aq _ (aq _ jx.out)),aq _ (aq _ (ar _ _)),aq _ (aX _ _ _),cV _ _ _ _⟩
 obtain⟨g1,g2,g3,g4,g5,g6⟩:=jD;have G1:=aa g1;have G2:=aa g2;have G3:=aa g3;have G4:=aa g4;have G5:=aa g5;have G6:=aa g6;have eB:=g1.size;clear g1 g2 g3 g4 g5 g6 me
 refine ip 3 [22,23,24] [MP.eq (BQ (w.heap.size+1) (w1.heap.size+1) w.heap.size (w1.heap.size+1+1)),
  MP.eq (.int .i64 k),
  Ud w.heap.size k] (by kernel_rfl) (by simp) (by decide) rfl (by kernel_rfl) (by kernel_rfl) (by kernel_rfl) ?step ?tail
 case step=>
  intro x W i o s F hi ho hs hB al hF;have bY:i=0\/i=1\/i=2:=by omega
  rcases bY with rfl|rfl|rfl
  all_goals (obtain rfl:=cO ho.symm;obtain rfl:=cO hs.symm;simp only[bg,bQ,List.setIfInBounds_toArray,List.set_cons_succ,List.set_cons_zero,Nat.reduceAdd]at hF)
  ·clear al hi ho hs
   have t1:=ae (ak hB G6.out) 0;simp at t1;subst hF
   go_wp2_with fail
   exact bG _ (Below.refl _ _) rfl
  ·clear al hi ho hs
   have t1:=ae (ak hB G3.out) 0;simp at t1;subst hF
   go_wp2_with fail
   exact bG _ (Below.refl _ _) rfl
  ·have d1:=bz (al ⟨1,.data⟩ (by simp) rfl)
   clear al hi ho hs;have me:=JW k hk;simp only[d1]at hF;subst hF
   go_wp2_with fail
   refine aY.mk (.slice (some ⟨W.heap.size,0,none⟩) 0 k) ?_ ?_ ?_
   ·exact(by go_grown)
   ·exact TI (by have:=hB.size;omega) (Ho (ar _ _) (by have:=hB.size;omega) (by omega))
   ·first
    | rfl
    | simp only[List.setIfInBounds_toArray,List.set_cons_succ,List.set_cons_zero]
 case tail=>
  intro x W3 F hB aM hF;have d0:x 0=(BQ (w.heap.size+1) (w1.heap.size+1) w.heap.size (w1.heap.size+1+1)):=aM 0 (by omega);have d1:x 1=.int .i64 k:=aM 1 (by omega);have d2:=aM 2 (by omega);obtain⟨wb,xG,e2,how⟩:∃ g,w.heap.size<=g/\x 2=.slice (some ⟨g,0,none⟩) 0 k/\aL W3 w.heap.size 52 7 (.slice (some ⟨g,0,none⟩) 0 k) 0 []:=d2;clear aM;simp only[bg,bQ,List.setIfInBounds_toArray,List.set_cons_succ,List.set_cons_zero,Nat.reduceAdd]at hF;rw[d0,d1,e2]at hF;subst hF;have gP:=aa hB;have Vt:=aa how;clear hB how d0 d1 e2;simp only[List.drop_succ_cons,List.drop_zero]
  have pg:WEnv a (.slice pa a.states.length ca) k w (w.heap.size+1) (w1.heap.size+1) w.heap.size (w1.heap.size+1+1) wb [] [] W3:=
   ⟨aj G1.out gP.out,by omega,ak gP.out G3.out,ak gP.out G2.out,ak gP.out G6.out,⟨_,[],ak gP.out G5.out,Ho (n:=n) (cs:=(Value.slice none 0 0).cells) (by rw[Nat.mul_one];exact ak gP.out G4.out) (by omega) (by omega),fun i hi=>by simp at hi⟩,Vt.out⟩
  have b8:=LQ a _ k hk w HV.out UP.out _ _ _ _ wb k 0 [] [] W3 (by simp) (by have:=HAOK.out.1;omega) (fun r hr=>by simp at hr) (by have:=HN.out;simp;omega) pg;simp only[List.length_nil,List.nil_append,List.map_id']at b8;have bE:=aa b8;clear b8 pg
  go_wp2_with fail
  refine bE.out.mono ?_;rintro e w9 ⟨⟨u9,rfl⟩,oi⟩;have hbw9:=oi.old;obtain⟨vo,xs,q1,q2,q3⟩:=oi.o;obtain⟨wcur,wfz,VD,hwlo⟩:=oi.wb_at;have t1:=ae q1 0;simp at t1;have o9:Hid (eO 1 (lj 7 jV) w9 vo (dr a k 0)):=aa (dg.sl (base:=w.heap.size) ⟨xs,q2,fun i hi=>by obtain⟨y,p1,p2⟩:=q3 i hi;exact⟨y,p1,p2.base (by omega)⟩⟩ (fun y l hl hy=>lw hy (fun i hi=>Hp a (Ey HV.out) k 0 l hl _ (List.getElem_mem hi)) (by have:=uK a k 0 l hl;omega)) (by have:=HN.out;omega))
  have HLO9:Hid (∀ ad n c,vo=.slice (some ad) n c->w.heap.size<=ad.block):=aa (fun ad n c e=>by
   rcases q2.2 with ⟨e2,_⟩|⟨g,cap,cur,fz,e2,h1,_⟩
   ·rw[e2]at e;cases e
   ·rw[e2]at e;cases e;exact h1)
  obtain⟨av,cv,rfl⟩:=q2.slice;clear q1 q2 q3 oi VD
  go_wp2_with fail
  go_ret2
  rw[Cy.out];exact⟨_,rfl,o9.out,HLO9.out,hbw9⟩
end Go.Proofs.YtkfgpnbpcpdclaaGreat
