/-
  A part of the proof: lemmas and contracts that the parts behind it use. Each one's conditions are its own premises.
-/
import Derived.WalkKit
import Derived.Test.YtmeaoneaephjeaaGreatDoorProg
import Derived.ChangeKeysEq
import Derived.WalkSpells
import Derived.Laws.AppendOwnNone
import Derived.Test.YtmeaoneaephjeaaGreatDoorT1
set_option maxRecDepth 100000
set_option maxHeartbeats 8000000
set_option linter.unusedVariables false
set_option linter.unusedSimpArgs false
namespace Go.Proofs.YtmeaoneaephjeaaGreatDoor
def cg(a:Adv):Nat->Nat->List (List Rd)
 | 0,_=>[[]]
 | k+1,s=>(a.states.getD s []).flatMap fun m=>(cg a k m.to.toNat).map (m.r :: ·)
theorem kh(a:Adv) (k:Nat):∀ s,∀ x∈cg a k s,x.length=k:=by
 induction k with
 | zero=>intro s x hx;simp[cg]at hx;rw[hx];rfl
 | succ k ih=>
  intro s x hx;simp only[cg,List.mem_flatMap,List.mem_map]at hx;obtain⟨m,_,y,hy,rfl⟩:=hx;simp[ih _ y hy]
def pT(L:Int) (c:List Int) (n:Int) (m:Mv):Int:=min (n+c.getD m.to.toNat 0) (L+1)
def AY(L:Int) (c:List Int) (l:List Mv):Int:=l.foldl (pT L c) 0
def zn(L:Int) (a:Adv) (c:List Int):List Int:=a.states.map (AY L c)
def dZ(L:Int) (a:Adv):Nat->List Int
 | 0=>List.replicate a.states.length 1
 | k+1=>zn L a (dZ L a k)
def numberL(L:Int) (a:Adv) (k:Nat):Int:=(dZ L a k).getD 0 0
theorem EF(L:Int) (a:Adv) (k:Nat):(dZ L a k).length=a.states.length:=by
 cases k with
 | zero=>simp[dZ]
 | succ k=>simp[dZ,zn]
def BL(L:Int) (c:List Int):Prop:=∀ x∈c,0<=x/\x<=L+1
theorem uL{L:Int} (hL:0<=L) {c:List Int} (h:BL L c) (i:Nat):0<=c.getD i 0/\c.getD i 0<=L+1:=by
 by_cases hi:i<c.length
 ·rw[List.getD_eq_getElem?_getD,List.getElem?_eq_getElem hi];exact h _ (List.getElem_mem hi)
 ·rw[List.getD_eq_getElem?_getD,List.getElem?_eq_none (by omega)];simp;omega
theorem G0{L:Int} (hL:0<=L) {c:List Int} (h:BL L c) {n:Int} (hn:0<=n/\n<=L+1) (m:Mv):0<=pT L c n m/\pT L c n m<=L+1:=by
 have:=uL hL h m.to.toNat;unfold pT;omega
theorem QZ{L:Int} (hL:0<=L) {c:List Int} (h:BL L c) (l:List Mv):∀ n:Int,(0<=n/\n<=L+1)->0<=l.foldl (pT L c) n/\l.foldl (pT L c) n<=L+1:=by
 induction l with
 | nil=>intro n hn;exact hn
 | cons m r ih=>intro n hn;exact ih _ (G0 hL h hn m)
theorem UQ{L:Int} (hL:0<=L) {c:List Int} (h:BL L c) (l:List Mv):0<=AY L c l/\AY L c l<=L+1:=QZ hL h l 0 (by omega)
theorem AZ{L:Int} (hL:0<=L) (a:Adv) (k:Nat):BL L (dZ L a k):=by
 induction k with
 | zero=>intro x hx;rw[(List.mem_replicate.1 hx).2];omega
 | succ k ih=>intro x hx;obtain⟨l,_,rfl⟩:=List.mem_map.1 hx;exact UQ hL ih l
theorem Oa{L:Int} (hL:0<=L) (c:List Int) (f:Mv->Int) (l:List Mv) (hc:∀ m∈l,c.getD m.to.toNat 0=min (f m) (L+1)) (hf:∀ m∈l,0<=f m):∀ n s:Int,0<=s->n=min s (L+1) →
  l.foldl (pT L c) n=min (s+(l.map f).sum) (L+1):=by
 induction l with
 | nil=>intro n s _ hn;simp[hn]
 | cons m r ih=>
  intro n s hs hn;have h1:=hc m (by simp);have h2:=hf m (by simp);rw[List.foldl_cons,ih (fun x hx=>hc x (by simp[hx])) (fun x hx=>hf x (by simp[hx])) _ (s+f m) (by omega) ?_,List.map_cons,List.sum_cons]
  ·rw[Int.add_assoc]
  ·unfold pT;rw[h1,hn];omega
theorem J7{α β:Type} (l:List α) (f:α->List β):((l.flatMap f).length:Int)=(l.map fun x=>((f x).length:Int)).sum:=by
 induction l with
 | nil=>rfl
 | cons a r ih=>rw[List.flatMap_cons,List.length_append,List.map_cons,List.sum_cons,<-ih];omega
theorem Ob{L:Int} (hL:0<=L) (a:Adv) (pg:∀ s,s<a.states.length->∀ m∈a.states.getD s [],m.to.toNat<a.states.length) (k:Nat):∀ s,s<a.states.length->(dZ L a k).getD s 0=min ((cg a k s).length:Int) (L+1):=by
 induction k with
 | zero=>
  intro s hs;simp[dZ,cg,hs];omega
 | succ k ih=>
  intro s hs
  have h1:(dZ L a (k+1)).getD s 0=AY L (dZ L a k) (a.states.getD s []):=by
   simp[dZ,zn,hs]
  rw[h1];unfold AY;rw[Oa hL (dZ L a k) (fun m=>((cg a k m.to.toNat).length:Int)) _ (fun m hm=>ih _ (pg s hs m hm)) (fun m _=>by omega) 0 0 (by omega) (by omega)];simp only[cg];rw[J7];simp
theorem rg{L:Int} (hL:0<=L) (a:Adv) (pg:∀ s,s<a.states.length->∀ m∈a.states.getD s [],m.to.toNat<a.states.length) (h0:0<a.states.length) (k:Nat):numberL L a k=min ((cg a k 0).length:Int) (L+1):=Ob hL a pg k 0 h0
theorem Yh{a:Adv} (h:∀ s,s<a.states.length->stateE a (a.states.getD s [])=0):∀ s,s<a.states.length->∀ m∈a.states.getD s [],m.to.toNat<a.states.length:=fun s hs m hm=>by
 obtain⟨j,hj,rfl⟩:=List.mem_iff_getElem.1 hm;have h1:=h s hs;unfold stateE at h1;split at h1
 ·cases h1
 have h2:=fF h1 j hj;have h3:=(Dz h2).2;have e:(a.states.getD s []).getD j default=(a.states.getD s [])[j]:=by rw[List.getD_eq_getElem?_getD,List.getElem?_eq_getElem hj];rfl
 rw[e]at h3;omega
structure Vw where
 p:Int
 k:Int
 i:Int
 h0:Int
 h1:Int
 h2:Int
 h3:Int
 h4:Int
instance:Inhabited Vw:=⟨⟨0,0,0,0,0,0,0,0⟩⟩
instance:DecidableEq Vw:=fun a b=>decidable_of_iff (a.p=b.p/\a.k=b.k/\a.i=b.i/\a.h0=b.h0/\a.h1=b.h1/\a.h2=b.h2/\a.h3=b.h3/\a.h4=b.h4) (by cases a;cases b;simp)
structure Ex where
 c:Int
 word:List Rd
 views:List (List Int)
structure Sys where
 prob:Pb
 n:Int
 tab:List Vw
 ex:List Ex
def putV(tb:List Vw) (v:Vw):List Vw × Nat:=if v∈tb then(tb,tb.idxOf v) else(tb++[v],tb.length)
def gS(st:List Vw × List Int) (v:Vw):List Vw × List Int:=((putV st.1 v).1,st.2++[((putV st.1 v).2:Int)])
def addAll(tb:List Vw) (vs:List Vw):List Vw × List Int:=vs.foldl gS (tb,[])
theorem ul(tb:List Vw) (vs:List Vw) (k:Nat) (hk:k<vs.length):addAll tb (vs.take (k+1))=gS (addAll tb (vs.take k)) vs[k]:=by
 unfold addAll;rw[List.take_succ_eq_append_getElem hk,List.foldl_append];rfl
theorem EG(st:List Vw × List Int) (v:Vw):(gS st v).2.length=st.2.length+1/\(gS st v).1.length<=st.1.length+1:=by
 unfold gS putV;refine⟨by simp,?_⟩;split<;>simp
theorem fM(vs:List Vw):∀ st:List Vw × List Int,(vs.foldl gS st).2.length=st.2.length+vs.length/\(vs.foldl gS st).1.length<=st.1.length+vs.length:=by
 induction vs with
 | nil=>intro st;simp
 | cons v r ih=>
  intro st;have h1:=ih (gS st v);have h2:=EG st v;simp only[List.foldl_cons,List.length_cons];omega
def eh(inp:List Int) (p:Nat):Vw:=⟨p,0,inp.getD p 0,-1,-1,-1,-1,-1⟩
def l6(n:Nat) (r:Rd) (now:List Int) (p q:Nat):Int:=if q<n/\hasB (r.g.hear p) q=true then now.getD q 0 else -1
def nextV(n k:Nat) (r:Rd) (now:List Int) (p:Nat):Vw:=⟨p,k+1,0,l6 n r now p 0,l6 n r now p 1,l6 n r now p 2,l6 n r now p 3,l6 n r now p 4⟩
def uM(n:Nat) (inp:List Int) (tb:List Vw):List Vw × List Int:=addAll tb ((List.range n).map (eh inp))
def L7(n k:Nat) (r:Rd) (st:List Vw × List (List Int)):List Vw × List (List Int):=
 let a:=addAll st.1 ((List.range n).map (nextV n k r (st.2.getLastD [])))
 (a.1,st.2++[a.2])
def playTo(n:Nat) (inp:List Int) (word:List Rd) (tb:List Vw):Nat->List Vw × List (List Int)
 | 0=>let a:=uM n inp tb;(a.1,[a.2])
 | k+1=>L7 n k (word.getD k default) (playTo n inp word tb k)
def gt(n:Nat) (inp:List Int) (word:List Rd) (tb:List Vw):List Vw × List (List Int):=playTo n inp word tb word.length
def jl(cases words:Nat):List (Nat × Nat):=(List.range cases).flatMap fun c=>(List.range words).map fun w=>(c,w)
def ki(p:Pb) (words:List (List Rd)) (st:List Vw × List Ex) (x:Nat × Nat):List Vw × List Ex:=
 let a:=gt p.t.n.toNat (p.t.cases.getD x.1 default).inp (words.getD x.2 []) st.1
 (a.1,st.2++[⟨x.1,words.getD x.2 [],a.2⟩])
def execsS(p:Pb) (words:List (List Rd)) (l:List (Nat × Nat)):List Vw × List Ex:=l.foldl (ki p words) ([],[])
def aO(p:Pb):List (List Rd):=cg p.a p.rounds.toNat 0
def aK(p:Pb):Sys:=
 let a:=execsS p (aO p) (jl p.t.cases.length (aO p).length)
 ⟨p,p.t.n,a.1,a.2⟩
def buildE(p:Pb):Int:=if probE p≠0 then probE p else if 4096<p.t.cases.length * (aO p).length then 17 else if 8192<(aK p).tab.length then 17 else 0
theorem Oc(x y:Int) (r s:List Int):ordV (x :: r) (y :: s)=if cmpI x y≠0 then cmpI x y else ordV r s:=by
 rw[ordV];unfold cmpI;grind
theorem jQ(n:Nat) (f:Nat->Int):bm (n+1) f=if f 0≠0 then f 0 else bm n (fun j=>f (j+1)):=by
 induction n with
 | zero=>simp[bm]
 | succ n ih=>
  rw[bm,ih]
  conv=>rhs;rw[bm]
  grind
def Rd.list(r:Rd):List Int:=[r.g.n,r.g.h0,r.g.h1,r.g.h2,r.g.h3,r.g.h4,r.f]
theorem J8(a b:Rd):roundC a b=ordV a.list b.list:=by
 unfold Rd.list roundC fw;rw[jQ,jQ,jQ,jQ,jQ];simp only[Oc,bm,Gr.hear];have h0:ordV [] []=0:=rfl;rw[h0];generalize cmpI a.g.n b.g.n=c0;generalize cmpI a.g.h0 b.g.h0=c1;generalize cmpI a.g.h1 b.g.h1=c2;generalize cmpI a.g.h2 b.g.h2=c3;generalize cmpI a.g.h3 b.g.h3=c4;generalize cmpI a.g.h4 b.g.h4=c5;generalize cmpI a.f b.f=c6
 grind
theorem L8{a b c:List Int} (h1:ordV a b<0) (h2:ordV b c<0):ordV a c<0:=by
 induction a generalizing b c with
 | nil=>
  cases b with
  | nil=>simp[ordV]at h1
  | cons y s=>
   cases c with
   | nil=>simp[ordV]at h2
   | cons z t=>simp[ordV]
 | cons x r ih=>
  cases b with
  | nil=>simp[ordV]at h1
  | cons y s=>
   cases c with
   | nil=>simp[ordV]at h2
   | cons z t=>
    unfold ordV at h1 h2 ⊢;by_cases cG:x<y
    ·by_cases XZ:y<z
     ·rw[if_pos (by omega)];omega
     ·rw[if_neg XZ]at h2;by_cases Un:z<y
      ·rw[if_pos Un]at h2;omega
      ·rw[if_pos (by omega)];omega
    ·rw[if_neg cG]at h1;by_cases pf:y<x
     ·rw[if_pos pf]at h1;omega
     ·rw[if_neg pf]at h1;by_cases XZ:y<z
      ·rw[if_pos (by omega)];omega
      ·rw[if_neg XZ]at h2;by_cases Un:z<y
       ·rw[if_pos Un]at h2;omega
       ·rw[if_neg Un]at h2;rw[if_neg (by omega),if_neg (by omega)];exact ih h1 h2
theorem hZ{a:Adv} (h:advE a=0):(1<=a.states.length/\a.states.length<=256)/\(∀ s,s<a.states.length->stateE a (a.states.getD s [])=0)/\growsB a=true/\1<=a.n/\a.n<=5:=by
 unfold advE at h;by_cases h1:a.n<1\/5<a.n
 ·rw[if_pos h1]at h;omega
 ·rw[if_neg h1]at h;by_cases h2:a.states.length<1\/256<a.states.length\/4096<movesN a.states
  ·rw[if_pos h2]at h;omega
  ·rw[if_neg h2]at h;by_cases h3:bm a.states.length (fun s=>stateE a (a.states.getD s []))=0
   ·rw[if_neg (by simpa using h3)]at h;refine⟨by omega,fF h3,?_,by omega,by omega⟩;cases hg:growsB a with
    | true=>rfl
    | false=>rw[hg]at h;simp at h
   ·rw[if_pos h3]at h;exact absurd h h3
structure Pl where
 rd:Int
 pr:Int
 h0:Int
 h1:Int
 h2:Int
 h3:Int
 h4:Int
instance:DecidableEq Pl:=fun a b=>decidable_of_iff (a.rd=b.rd/\a.pr=b.pr/\a.h0=b.h0/\a.h1=b.h1/\a.h2=b.h2/\a.h3=b.h3/\a.h4=b.h4) (by cases a;cases b;simp)
def zp(word:List Rd):Int:=if word.length=0 then 0 else(word.getD (word.length - 1) default).f
def gg(c:Cs) (f:Int):List (List Int):=if f=0/\0<c.calm.length then c.calm else c.out
def iO(t:Tk) (i f:Int):Int:=
 if taskE t≠0 then taskE t else if i<0\/(t.cases.length:Int)<=i then 6 else if f<0\/2 ^ t.n.toNat<=f then 2 else 0
def iP(t:Tk) (i f:Int):List (List Int):=if iO t i f≠0 then [] else gg (t.cases.getD i.toNat default) f
theorem Q0{α:Type} [DecidableEq α] (l m:List α) (hl:l.Pairwise (·≠·)) (h:∀ x∈l,x∈m):l.length<=m.length:=by
 induction l generalizing m with
 | nil=>simp
 | cons x r ih=>
  have hx:=h x (by simp);have h1:=ih (m.erase x) (List.pairwise_cons.1 hl).2 (fun y hy=>(List.mem_erase_of_ne (fun e=>(List.pairwise_cons.1 hl).1 y hy e.symm)).2 (h y (by simp[hy])));rw[List.length_erase_of_mem hx]at h1;have:=List.length_pos_of_mem hx;simp only[List.length_cons];omega
theorem G7(l:List (List Int)) (h:∀ i,i<l.length->unordB l i=false):∀ j i,i<j->j<l.length->ordV (l.getD i []) (l.getD j [])<0:=by
 intro j;induction j with
 | zero=>intro i hi;omega
 | succ j ih=>
  intro i hi hj;have h1:=h (j+1) hj
  have h2:ordV (l.getD j []) (l.getD (j+1) [])<0:=by
   unfold unordB at h1;rw[Nat.add_sub_cancel,decide_eq_true (by omega:0<j+1),Bool.true_and]at h1;have:=of_decide_eq_false h1;omega
  rcases Nat.lt_or_ge i j with h3|h3
  ·exact L8 (ih i h3 (by omega)) h2
  ·obtain rfl:i=j:=by omega
   exact h2
theorem Od(l:List (List Int)) (h:∀ i,i<l.length->unordB l i=false):l.Pairwise (·≠·):=by
 rw[List.pairwise_iff_getElem];intro i j hi hj hij e;have h1:=G7 l h j i hij hj;rw[show l.getD i []=l[i] by simp[hi],show l.getD j []=l[j] by simp[hj],e,sk]at h1;omega
theorem nH{n:Nat} {f:Nat->Int} (h:bm n f=0):∀ i,i<n->f i=0:=by
 intro i hi;induction n generalizing f i with
 | zero=>omega
 | succ n ih=>
  rw[jQ]at h;by_cases h0:f 0=0
  ·rw[if_neg (by simpa using h0)]at h;cases i with
   | zero=>exact h0
   | succ i=>exact ih h i (by omega)
  ·rw[if_pos h0]at h;exact absurd h h0
theorem zQ{v:List Int} {n m:Int} (h:vectorE v n m=0):(v.length:Int)=n:=by
 unfold vectorE at h;by_cases e:(v.length:Int)=n
 ·exact e
 ·rw[if_pos e]at h;omega
theorem Q4{l:List (List Int)} {v:List Int} (h:hasV l v=true):v∈l:=by
 unfold hasV at h;obtain⟨i,hi,e⟩:=(ld _ _).1 h;unfold eqV at e;have:=of_decide_eq_true e;rw[<-this,show l.getD i []=l[i] by simp[hi]];exact List.getElem_mem hi
structure CaseOk (t:Tk) (c:Cs):Prop where
 inp:(c.inp.length:Int)=t.n
 out1:1<=c.out.length
 out2:c.out.length<=1024
 calm:c.calm.length<=1024
 outs:∀ v∈c.out,(v.length:Int)=t.n
 calms:∀ v∈c.calm,v∈c.out
theorem fp{t:Tk} (h:taskE t=0):(1<=t.n/\t.n<=5)/\(1<=t.ins/\t.ins<=8)/\(1<=t.outs/\t.outs<=8)/\(1<=t.cases.length/\t.cases.length<=1024)/\∀ c∈t.cases,CaseOk t c:=by
 unfold taskE at h;split at h
 ·omega
 rename_i h1;split at h
 ·omega
 rename_i h2;refine⟨by omega,by omega,by omega,by omega,fun c hc=>?_⟩;obtain⟨k,hk,rfl⟩:=List.getElem_of_mem hc;have h3:=nH h k hk;unfold eW at h3;rw[show t.cases.getD k default=t.cases[k] by simp[hk]]at h3;split at h3
 ·omega
 rename_i h4;split at h3
 ·omega
 unfold vectorsE at h3;split at h3
 ·omega
 rename_i h5;split at h3
 ·omega
 rename_i h6;have h7:=nH (show bm _ _=0 by simpa using h6);have h8:=nH h3
 have hcal:∀ i,i<(t.cases[k]).calm.length->hasV (t.cases[k]).out ((t.cases[k]).calm.getD i [])=true/\unordB (t.cases[k]).calm i=false:=by
  intro i hi;have:=h8 i hi;unfold iX at this;split at this
  ·rename_i h9;refine⟨h9,?_⟩;cases hu:unordB (t.cases[k]).calm i
   ·rfl
   ·rw[hu]at this;simp at this
  ·omega
 have kO:∀ v∈(t.cases[k]).calm,v∈(t.cases[k]).out:=by
  intro v hv;obtain⟨i,hi,rfl⟩:=List.getElem_of_mem hv;have:=Q4 (hcal i hi).1
  rwa [show (t.cases[k]).calm.getD i []=(t.cases[k]).calm[i] by simp[hi]]at this
 refine⟨zQ (by simpa using h4),by omega,by omega,?_,?_,kO⟩
 ·exact Nat.le_trans (Q0 _ _ (Od _ fun i hi=>(hcal i hi).2) kO) (by omega)
 ·intro v hv;obtain⟨i,hi,rfl⟩:=List.getElem_of_mem hv;have:=h7 i hi;unfold jf at this;rw[show (t.cases[k]).out.getD i []=(t.cases[k]).out[i] by simp[hi]]at this;split at this
  ·omega
  ·rename_i h9;exact zQ (by simpa using h9)
theorem KH{t:Tk} {c:Cs} (h:CaseOk t c) (f:Int):(gg c f).length<=1024/\∀ v∈gg c f,(v.length:Int)=t.n:=by
 unfold gg;split
 ·exact⟨h.calm,fun v hv=>h.outs v (h.calms v hv)⟩
 ·exact⟨h.out2,h.outs⟩
def bu(q:Nat->Nat->Bool):Nat->List Int × Int
 | 0=>([],0)
 | i+1=>let s:=bu q i;if firstIx i (fun k=>q k i)<0 then(s.1++[s.2],s.2+1) else(s.1++[s.1.getD (firstIx i fun k=>q k i).toNat 0],s.2)
def im(q:Nat->Nat->Bool) (n:Nat):List Int:=(bu q n).1
theorem j8(q:Nat->Nat->Bool):∀ n,(bu q n).1.length=n
 | 0=>rfl
 | n+1=>by
  unfold bu;dsimp only;split<;>simp[j8 q n]
theorem pF(q:Nat->Nat->Bool) (n:Nat):(im q n).length=n:=j8 q n
theorem zS{q r:Nat->Nat->Bool}:∀ n,(∀ i,i<n->firstIx i (fun k=>q k i)=firstIx i (fun k=>r k i))->bu q n=bu r n
 | 0,_=>rfl
 | n+1,h=>by
  unfold bu;rw[zS n (fun i hi=>h i (by omega)),h n (by omega)]
theorem nJ{q r:Nat->Nat->Bool} {n:Nat} (h:∀ i,i<n->∀ k,k<i->q k i=r k i):im q n=im r n:=by
 unfold im;rw[zS n (fun i hi=>my _ _ _ (h i hi))]
theorem sp(q:Nat->Nat->Bool):∀ n i,i<n->(bu q (n+1)).1.getD i 0=(bu q n).1.getD i 0:=fun n i hi=>by
 rw[bu];have hl:=j8 q n;split<;>(simp only[List.getD_eq_getElem?_getD];rw[List.getElem?_append_left (by omega)])
theorem jR(q:Nat->Nat->Bool):∀ n,0<=(bu q n).2/\(bu q n).2<=n/\∀ x∈(bu q n).1,0<=x/\x<(bu q n).2
 | 0=>⟨by simp[bu],by simp[bu],fun x hx=>by simp[bu]at hx⟩
 | n+1=>by
  obtain⟨h1,h2,h3⟩:=jR q n;have hl:=j8 q n;rw[bu];split
  ·refine⟨by simp;omega,by simp;omega,fun x hx=>?_⟩;rcases List.mem_append.1 hx with hx|hx
   ·have:=h3 x hx;simp;omega
   ·rw[List.mem_singleton]at hx;subst hx;simp;omega
  ·rename_i hf;refine⟨by simpa using h1,by simp;omega,fun x hx=>?_⟩;rcases List.mem_append.1 hx with hx|hx
   ·exact h3 x hx
   ·rw[List.mem_singleton]at hx;subst hx;rcases bI n (fun k=>q k n) with ⟨e,_⟩|⟨k,hk,e,_⟩
    ·omega
    ·rw[e,Int.toNat_natCast,List.getD_eq_getElem?_getD,List.getElem?_eq_getElem (by omega)];exact h3 _ (List.getElem_mem _)
def ic(q:Nat->Nat->Bool):Nat->Nat->Nat->Bool
 | 0,i,k=>q i k
 | m+1,i,k=>ic q m i k || (ic q m i m&&ic q m m k)
theorem rz(q:Nat->Nat->Bool):∀ m i k,q i k=true->ic q m i k=true
 | 0,_,_,h=>h
 | m+1,i,k,h=>by rw[ic,rz q m i k h];rfl
theorem gO(q:Nat->Nat->Bool):∀ m i j k,j<m->ic q m i j=true->ic q m j k=true->ic q m i k=true
 | 0,_,_,_,hj,_,_=>by omega
 | m+1,i,j,k,hj,h1,h2=>by
  rw[ic]at h1 h2 ⊢;simp only[Bool.or_eq_true,Bool.and_eq_true]at h1 h2 ⊢;by_cases e:j=m
  ·subst e;have h3:ic q j i j=true:=by rcases h1 with h|⟨h,_⟩<;>exact h
   have h4:ic q j j k=true:=by rcases h2 with h|⟨_,h⟩<;>exact h
   exact .inr ⟨h3,h4⟩
  ·have nA:j<m:=by omega
   rcases h1 with h1|⟨h1,h3⟩<;>rcases h2 with h2|⟨h2,h4⟩
   ·exact .inl (gO q m i j k nA h1 h2)
   ·exact .inr ⟨gO q m i j m nA h1 h2,h4⟩
   ·exact .inr ⟨h1,gO q m m j k nA h3 h2⟩
   ·exact .inr ⟨h1,h4⟩
theorem mL{q:Nat->Nat->Bool} (h:∀ i k,q i k=q k i):∀ m i k,ic q m i k=ic q m k i
 | 0,i,k=>h i k
 | m+1,i,k=>by rw[ic,ic,mL h m i k,mL h m i m,mL h m m k,Bool.and_comm]
theorem sr{q:Nat->Nat->Bool} {R:Nat->Nat->Prop} (h0:∀ i k,q i k=true->R i k) (h1:∀ i j k,R i j->R j k->R i k):∀ m i k,ic q m i k=true->R i k
 | 0,i,k,h=>h0 i k h
 | m+1,i,k,h=>by
  rw[ic]at h;simp only[Bool.or_eq_true,Bool.and_eq_true]at h;rcases h with h|⟨h2,h3⟩
  ·exact sr h0 h1 m i k h
  ·exact h1 _ _ _ (sr h0 h1 m i m h2) (sr h0 h1 m m k h3)
def dJ(a b:List Int) (i k:Nat):Bool:=decide (a.getD i 0=a.getD k 0) || decide (b.getD i 0=b.getD k 0)
theorem nK(a b:List Int) (i k:Nat):dJ a b i k=dJ a b k i:=by
 unfold dJ;rw[decide_eq_decide.2 (eq_comm (a:=a.getD i 0)),decide_eq_decide.2 (eq_comm (a:=b.getD i 0))]
theorem BM(a b:List Int) (i:Nat):dJ a b i i=true:=by simp[dJ]
def kQ(a b:List Int):List Int:=im (fun k i=>ic (dJ a b) a.length k i) a.length
theorem G8(a b R:List Int) (n:Nat) (hn:a.length=n) (h1:∀ i k,i<n->k<n->dJ a b i k=true->R.getD i 0=R.getD k 0) (h2:∀ i,i<n->∃ j,j<n/\R.getD i 0=(j:Int)/\ic (dJ a b) n j i=true):im (fun k i=>decide (R.getD k 0=R.getD i 0)) n=kQ a b:=by
 unfold kQ;rw[hn];refine nJ fun i hi k hk=>?_
 have hs:=mL (nK a b);cases hw:ic (dJ a b) n k i with
 | true=>
  rw[decide_eq_true_eq]
  exact sr (q:=fun i k=>dJ a b i k&&decide (i<n)&&decide (k<n)) (R:=fun i k=>R.getD i 0=R.getD k 0) (fun i k h=>by simp only[Bool.and_eq_true,decide_eq_true_eq]at h;exact h1 i k h.1.2 h.2 h.1.1) (fun i j k h h'=>h.trans h') n k i (by
   have key:∀ m x y,m<=n->x<n->y<n->ic (dJ a b) m x y=true->ic (fun i k=>dJ a b i k&&decide (i<n)&&decide (k<n)) m x y=true:=by
    intro m;induction m with
    | zero=>intro x y _ hx hy h;simp only[ic,Bool.and_eq_true,decide_eq_true_eq]at h ⊢;exact⟨⟨h,hx⟩,hy⟩
    | succ m ih=>
     intro x y hm hx hy h;rw[ic]at h ⊢;simp only[Bool.or_eq_true,Bool.and_eq_true]at h ⊢;rcases h with h|⟨h,h'⟩
     ·exact .inl (ih x y (by omega) hx hy h)
     ·exact .inr ⟨ih x m (by omega) hx (by omega) h,ih m y (by omega) (by omega) hy h'⟩
   exact key n k i (Nat.le_refl _) (by omega) hi hw)
 | false=>
  rw[decide_eq_false_iff_not];intro e;obtain⟨j,hj,e1,w1⟩:=h2 k (by omega);obtain⟨j',nA,e2,w2⟩:=h2 i hi;have:j=j':=by omega
  subst this;rw[hs n j k]at w1;have:=gO _ n k j i hj w1 w2;rw[hw]at this;cases this
structure Par (n:Nat) (P:List Int):Prop where
 len:P.length=n
 le:∀ i,i<n->0<=P.getD i 0/\P.getD i 0<=i
def rootN(P:List Int) (i:Nat):Nat:=if (P.getD i 0).toNat<i then rootN P (P.getD i 0).toNat else i
termination_by i
theorem G9(P:List Int) (i:Nat):rootN P i<=i:=by
 induction i using Nat.strongRecOn with
 | _ i ih=>
  rw[rootN];split
  ·rename_i h;have:=ih _ h;omega
  ·omega
theorem EH{n:Nat} {P:List Int} (h:Par n P) (i:Nat) (hi:i<n):P.getD (rootN P i) 0=rootN P i:=by
 induction i using Nat.strongRecOn with
 | _ i ih=>
  rw[rootN];split
  ·rename_i h1;exact ih _ h1 (by omega)
  ·have:=h.le i hi;omega
theorem nL{P:List Int} {i:Nat} (h:P.getD i 0=i):rootN P i=i:=by
 rw[rootN,if_neg (by omega)]
theorem mX{n:Nat} {P:List Int} (h:Par n P) (i:Nat) (hi:i<n):rootN P (P.getD i 0).toNat=rootN P i:=by
 by_cases e:(P.getD i 0).toNat<i
 ·rw[rootN.eq_1 P i,if_pos e]
 ·have h2:=h.le i hi;have:(P.getD i 0).toNat=i:=by omega
  rw[this]
theorem fG{α:Type} (l:List α) (i j:Nat) (x d:α) (hi:i<l.length):(l.set i x).getD j d=if j=i then x else l.getD j d:=by
 rw[List.getD_eq_getElem?_getD,List.getElem?_set,List.getD_eq_getElem?_getD];split
 ·rename_i e;subst e;simp
 ·rename_i e;rw[if_neg (Ne.symm e)]
theorem Oe{n:Nat} {P:List Int} (h:Par n P) (i:Nat) (hi:i<n):Par n (P.set i (P.getD (P.getD i 0).toNat 0))/\∀ j,j<n->rootN (P.set i (P.getD (P.getD i 0).toNat 0)) j=rootN P j:=by
 have hl:=h.len;have h1:=h.le i hi;have h2:=h.le (P.getD i 0).toNat (by omega);refine⟨⟨by simpa using hl,fun j hj=>?_⟩,fun j=>?_⟩
 ·rw[fG _ _ _ _ _ (by omega)];split
  ·rename_i e;subst e;omega
  ·exact h.le j hj
 ·induction j using Nat.strongRecOn with
  | _ j ih=>
   intro hj;rw[rootN.eq_1 _ j,fG _ _ _ _ _ (by omega)];by_cases e:j=i
   ·subst e;rw[if_pos rfl];split
    ·rename_i h3;rw[ih _ h3 (by omega)];have h4:=mX h (P.getD j 0).toNat (by omega);rw[h4,mX h j hj]
    ·have h5:(P.getD j 0).toNat=j:=by
      apply Classical.byContradiction;intro h5;have:=h.le (P.getD j 0).toNat (by omega);omega
     rw[nL (by omega)]
   ·rw[if_neg e];split
    ·rename_i h3;rw[ih _ h3 (by omega),mX h j hj]
    ·rw[rootN,if_neg (by assumption)]
theorem Of{n:Nat} {P:List Int} (h:Par n P) (p q:Nat) (hp:p<n) (hq:q<n) (ep:P.getD p 0=p) (eq:P.getD q 0=q):Par n (P.set (max p q) (min p q:Nat))/\∀ j,j<n->rootN (P.set (max p q) (min p q:Nat)) j=if rootN P j=max p q then min p q else rootN P j:=by
 have hl:=h.len;refine⟨⟨by simpa using hl,fun j hj=>?_⟩,fun j=>?_⟩
 ·rw[fG _ _ _ _ _ (by omega)];split
  ·omega
  ·exact h.le j hj
 ·have em:P.getD (max p q) 0=(max p q:Nat):=by rcases Nat.le_total p q with h'|h'<;>simp only[Nat.max_eq_right h',Nat.max_eq_left h']<;>assumption
  have en:P.getD (min p q) 0=(min p q:Nat):=by rcases Nat.le_total p q with h'|h'<;>simp only[Nat.min_eq_right h',Nat.min_eq_left h']<;>assumption
  have kW:min p q<=max p q:=by omega
  have PW:max p q<n:=by omega
  generalize max p q=hi at *;generalize min p q=lo at *;induction j using Nat.strongRecOn with
  | _ j ih=>
   intro hj;rw[rootN.eq_1 _ j,fG _ _ _ _ _ (by omega)];by_cases e:j=hi
   ·subst e;rw[if_pos rfl,nL em,if_pos rfl,Int.toNat_natCast];split
    ·rename_i h3;rw[ih lo h3 (by omega),nL en,if_neg (by omega)]
    ·omega
   ·rw[if_neg e];split
    ·rename_i h3;rw[ih _ h3 (by omega),mX h j hj]
    ·rename_i h3;have:rootN P j=j:=by rw[rootN,if_neg h3]
     rw[this,if_neg e]
def dQ(n:Nat) (L:Nat->Nat->Bool) (f:Nat):Nat->Nat->Int
 | 0,e=>if e=f then 0 else -1
 | d+1,e=>if 0<=dQ n L f d e then dQ n L f d e else if anyLt n (fun g=>decide (dQ n L f d g=d)&&L e g) then(d:Int)+1 else -1
section
variable {n : Nat} {L : Nat → Nat → Bool} {f : Nat}
theorem gI(d e:Nat):-1<=dQ n L f d e/\dQ n L f d e<=d:=by
 induction d with
 | zero=>unfold dQ;split<;>omega
 | succ d ih=>
  rw[dQ];split
  ·omega
  ·split<;>omega
theorem ss(d e:Nat) (h:0<=dQ n L f d e) (d':Nat) (hd:d<=d'):dQ n L f d' e=dQ n L f d e:=by
 induction d' with
 | zero=>have:d=0:=by omega
         subst this;rfl
 | succ d' ih=>
  by_cases e1:d=d'+1
  ·subst e1;rfl
  ·have h2:=ih (by omega);rw[dQ,h2,if_pos h]
theorem su(d e d':Nat) (h:dQ n L f d e=(d':Int)) (hd:d'<=d):dQ n L f d' e=d':=by
 induction d with
 | zero=>have:d'=0:=by omega
         subst this;exact h
 | succ d ih=>
  by_cases e1:d'=d+1
  ·subst e1;exact h
  ·refine ih ?_ (by omega);rw[dQ]at h;split at h
   ·exact h
   ·split at h<;>omega
def DA(n:Nat) (D:Nat->Int):Nat:=((List.range n).filter fun e=>decide (0<=D e)).length
theorem EJ{α:Type} (l:List α) (p q:α->Bool) (h:∀ x∈l,p x=true->q x=true) (y:α) (hy:y∈l) (h1:p y=false) (h2:q y=true):(l.filter p).length<(l.filter q).length:=by
 induction l with
 | nil=>cases hy
 | cons a r ih=>
  have kW:(r.filter p).length<=(r.filter q).length:=by
   clear ih hy;have h':∀ x∈r,p x=true->q x=true:=fun x hx=>h x (by simp[hx])
   clear h;induction r with
   | nil=>simp
   | cons b s ih=>
    have:=ih (fun x hx=>h' x (by simp[hx]));have hb:=h' b (by simp);simp only[List.filter_cons];cases hp:p b with
    | true=>rw[hb hp];simp;omega
    | false=>cases q b<;>simp<;>omega
  rcases List.mem_cons.1 hy with rfl|hy
  ·simp only[List.filter_cons,h1,h2];simp;omega
  ·have:=ih (fun x hx=>h x (by simp[hx])) hy;have ha:=h a (by simp);simp only[List.filter_cons];cases hp:p a with
   | true=>rw[ha hp];simp;omega
   | false=>cases q a<;>simp<;>omega
theorem J9(hf:f<n) (d e:Nat) (he:e<n) (h:dQ n L f d e=d):d+1<=DA n (dQ n L f d):=by
 induction d generalizing e with
 | zero=>
  unfold DA;have:f∈(List.range n).filter fun e=>decide (0<=dQ n L f 0 e):=by simp[hf,dQ]
  have:=List.length_pos_of_mem this;omega
 | succ d ih=>
  have h0:=h;rw[dQ]at h;split at h
  ·have:=gI (n:=n) (L:=L) (f:=f) d e;omega
  ·rename_i h1;split at h
   ·rename_i h2;obtain⟨g,hg,h3⟩:=(ld _ _).1 h2;simp only[Bool.and_eq_true,decide_eq_true_eq]at h3;have h4:=ih g hg h3.1
    have h5:DA n (dQ n L f d)<DA n (dQ n L f (d+1)):=by
     refine EJ _ _ _ (fun x _ hx=>?_) e (by simpa using he) (by simpa using h1) (by rw[h0];simp;omega);simp only[decide_eq_true_eq]at hx ⊢;rw[ss d x hx (d+1) (by omega)];exact hx
    omega
   ·omega
theorem G'(hf:f<n) (d e:Nat) (he:e<n) (h:dQ n L f d e=d):d<n:=by
 have h1:=J9 hf d e he h;have h2:DA n (dQ n L f d)<=n:=by unfold DA;exact Nat.le_trans (List.length_filter_le _ _) (by simp)
 omega
end
structure Dist (n:Nat) (L:Nat->Nat->Bool) (f:Nat) (D:Nat->Int):Prop where
 zero:D f=0
 only:∀ e,e<n->D e=0->e=f
 low:∀ e,e<n->-1<=D e
 pred:∀ e,e<n->∀ d:Nat,D e=d+1->∃ g,g<n/\D g=d/\L e g=true
 next:∀ e g,e<n->g<n->0<=D g->L e g=true->0<=D e/\D e<=D g+1
theorem J'{n:Nat} {L:Nat->Nat->Bool} {f:Nat} {D E:Nat->Int} (h1:Dist n L f D) (h2:Dist n L f E):∀ e,e<n->D e=E e:=by
 have key:∀ d:Nat,∀ e,e<n->(D e=d↔E e=d):=by
  intro d;induction d using Nat.strongRecOn with
  | _ d ih=>
   have one:∀ {A B:Nat->Int},Dist n L f A->Dist n L f B->(∀ d',d'<d->∀ e,e<n->(A e=(d':Int)↔B e=d'))->∀ e,e<n->A e=d->B e=d:=by
    intro A B hA hB ih e he h
    match d,ih,h with
    | 0,_,h=>rw[hA.only e he h];exact hB.zero
    | k+1,ih,h=>
     obtain⟨g,hg,e1,e2⟩:=hA.pred e he k (by omega);have e3:=(ih k (by omega) g hg).1 e1;obtain⟨e4,e5⟩:=hB.next e g he hg (by omega) e2;by_cases e6:B e=((k+1:Nat):Int)
     ·exact e6
     ·have e7:=(ih (B e).toNat (by omega) e he).2 (by omega);omega
   exact fun e he=>⟨one h1 h2 ih e he,one h2 h1 (fun d' hd e he=>(ih d' hd e he).symm) e he⟩
 intro e he;have a:=h1.low e he;have b:=h2.low e he;by_cases h:0<=D e
 ·have:=(key (D e).toNat e he).1 (by omega);omega
 ·by_cases h':0<=E e
  ·have:=(key (E e).toNat e he).2 (by omega);omega
  ·omega
theorem Og{n:Nat} {L:Nat->Nat->Bool} {f:Nat} (hf:f<n):Dist n L f (dQ n L f n) where
 zero:=by rw[ss 0 f (by simp[dQ]) n (by omega)];simp[dQ]
 only:=fun e he h=>by
  have:=su n e 0 h (by omega);unfold dQ at this;split at this
  ·assumption
  ·omega
 low:=fun e _=>(gI n e).1
 pred:=fun e he d h=>by
  have hr:=gI (n:=n) (L:=L) (f:=f) n e;have h1:=su n e (d+1) (by rw[h];rfl) (by omega);rw[dQ]at h1;split at h1
  ·have:=gI (n:=n) (L:=L) (f:=f) d e;omega
  ·split at h1
   ·rename_i h2;obtain⟨g,hg,h3⟩:=(ld _ _).1 h2;simp only[Bool.and_eq_true,decide_eq_true_eq]at h3;exact⟨g,hg,by rw[ss d g (by omega) n (by omega)];exact h3.1,h3.2⟩
   ·omega
 next:=fun e g he hg h0 hl=>by
  have hr:=gI (n:=n) (L:=L) (f:=f) n g;obtain⟨d,hd⟩:∃ d:Nat,dQ n L f n g=d:=⟨(dQ n L f n g).toNat,by omega⟩;have h1:=su n g d hd (by omega);have h2:=G' hf d g hg h1
  have h3:0<=dQ n L f (d+1) e/\dQ n L f (d+1) e<=d+1:=by
   refine⟨?_,(gI (d+1) e).2⟩;rw[dQ];split
   ·assumption
   ·rw[if_pos ((ld _ _).2 ⟨g,hg,by simp[h1,hl]⟩)];omega
  rw[ss (d+1) e h3.1 n (by omega),hd];exact h3
def Q5(n:Nat) (L:Nat->Nat->Bool) (f:Nat):List Int:=(List.range n).map (dQ n L f n)
theorem Ha{α:Type} {R:α->α->Prop} {l:List α} (h:∀ a∈l,∀ b∈l,R a b):l.Pairwise R:=by
 rw[List.pairwise_iff_getElem];intro i j hi hj _;exact h _ (List.getElem_mem hi) _ (List.getElem_mem hj)
structure Bfs (n:Nat) (L:Nat->Nat->Bool) (f:Nat) (D:Nat->Int) (Q:List Nat):Prop where
 zero:D f=0
 only:∀ e,e<n->D e=0->e=f
 low:∀ e,e<n->-1<=D e
 pred:∀ e,e<n->∀ d:Nat,D e=d+1->∃ g,g<n/\D g=d/\L e g=true
 ok:∀ q∈Q,q<n/\0<=D q
 done:∀ e g,e<n->g<n->0<=D g->g∉Q->L e g=true->0<=D e/\D e<=D g+1
 asc:Q.Pairwise fun a b=>D a<=D b
 near:∀ h r,Q=h :: r->∀ e,e<n->D e<=D h+1
theorem Bfs.start{n:Nat} {L:Nat->Nat->Bool} {f:Nat} (hf:f<n):Bfs n L f (dQ n L f 0) [f] where
 zero:=by simp[dQ]
 only:=fun e he h=>by unfold dQ at h;split at h<;>first|assumption|omega
 low:=fun e _=>(gI 0 e).1
 pred:=fun e he d h=>by have:=(gI (n:=n) (L:=L) (f:=f) 0 e).2;omega
 ok:=fun q hq=>by rw[List.mem_singleton]at hq;subst hq;exact⟨hf,by simp[dQ]⟩
 done:=fun e g he hg h0 hn=>by
  unfold dQ at h0;split at h0
  ·rename_i e1;subst e1;simp at hn
  ·omega
 asc:=List.pairwise_singleton _ _
 near:=fun h r e1 e he=>by
  have:=(gI (n:=n) (L:=L) (f:=f) 0 e).2;injection e1 with e1 _
  subst e1;simp[dQ];unfold dQ at this;split<;>omega
theorem Bfs.dist{n:Nat} {L:Nat->Nat->Bool} {f:Nat} {D:Nat->Int} (h:Bfs n L f D []):Dist n L f D:=
 ⟨h.zero,h.only,h.low,h.pred,fun e g he hg h0 hl=>h.done e g he hg h0 (by simp) hl⟩
def jg(L:Nat->Nat->Bool) (D:Nat->Int) (h k e:Nat):Int:=if e<k/\D e<0/\L h e=true then D h+1 else D e
def um(L:Nat->Nat->Bool) (D:Nat->Int) (h k:Nat):List Nat:=(List.range k).filter fun e=>decide (D e<0)&&L h e
theorem Bfs.step{n:Nat} {L:Nat->Nat->Bool} (hs:∀ e g,L e g=L g e) {f:Nat} {D:Nat->Int} {h:Nat} {r:List Nat} (b:Bfs n L f D (h :: r)):Bfs n L f (jg L D h n) (r++um L D h n):=by
 obtain⟨hh,h0⟩:=b.ok h (by simp);have qP:∀ e,0<=D e->jg L D h n e=D e:=fun e he=>by unfold jg;rw[if_neg (by omega)]
 have Ej:∀ e,e<n->D e<0->L h e=true->jg L D h n e=D h+1:=fun e he h1 h2=>by unfold jg;rw[if_pos ⟨he,h1,h2⟩]
 have jv:∀ e,D e<0->¬ (e<n/\L h e=true)->jg L D h n e=D e:=fun e h1 h2=>by unfold jg;rw[if_neg (fun h=>h2 ⟨h.1,h.2.2⟩)]
 have fO:∀ e,(jg L D h n e=D e)\/(e<n/\D e<0/\L h e=true/\jg L D h n e=D h+1):=fun e=>by
  unfold jg;split
  ·rename_i h1;exact .inr ⟨h1.1,h1.2.1,h1.2.2,rfl⟩
  ·exact .inl rfl
 have hq:∀ e,e∈um L D h n↔e<n/\D e<0/\L h e=true:=fun e=>by simp[um]
 have NJ:=b.asc;rw[List.pairwise_cons]at NJ;refine⟨by rw[qP f (by rw[b.zero];omega)];exact b.zero,fun e he h1=>?_,fun e he=>?_,fun e he d h1=>?_,fun q F6=>?_,fun e g he hg h1 h2 h3=>?_,?_,fun h' r' e1 e he=>?_⟩
 ·rcases fO e with h2|⟨_,_,_,h2⟩
  ·exact b.only e he (by omega)
  ·omega
 ·have:=b.low e he;rcases fO e with h2|⟨_,_,_,h2⟩<;>omega
 ·rcases fO e with h2|⟨_,h3,h4,h2⟩
  ·obtain⟨g,hg,h5,h6⟩:=b.pred e he d (by omega);exact⟨g,hg,by rw[qP g (by omega)];exact h5,h6⟩
  ·exact⟨h,hh,by rw[qP h h0];omega,by rw[hs];exact h4⟩
 ·rcases List.mem_append.1 F6 with F6|F6
  ·obtain⟨h1,h2⟩:=b.ok q (by simp[F6]);exact⟨h1,by rw[qP q h2];exact h2⟩
  ·obtain⟨h1,h2,h3⟩:=(hq q).1 F6;exact⟨h1,by rw[Ej q h1 h2 h3];omega⟩
 ·rw[List.mem_append,not_or]at h2;rcases fO g with h4|⟨h5,h6,h7,h4⟩
  ·by_cases e1:g=h
   ·subst e1;by_cases h5:0<=D e
    ·rw[qP e h5,h4];exact⟨h5,b.near g r rfl e he⟩
    ·rw[Ej e he (by omega) (by rw[hs];exact h3),h4];omega
   ·have h5:0<=D g:=by omega
    obtain⟨h6,h7⟩:=b.done e g he hg h5 (by simp[e1,h2.1]) h3;rw[qP e h6,h4];exact⟨h6,h7⟩
  ·exact absurd ((hq g).2 ⟨h5,h6,h7⟩) h2.2
 ·rw[List.pairwise_append];refine⟨?_,?_,fun a ha c hc=>?_⟩
  ·exact NJ.2.imp_of_mem fun {a c} ha hc hac=>by rw[qP a (b.ok a (by simp[ha])).2,qP c (b.ok c (by simp[hc])).2];exact hac
  ·refine Ha fun a ha c hc=>?_
   obtain⟨a1,a2,a3⟩:=(hq a).1 ha;obtain⟨c1,c2,c3⟩:=(hq c).1 hc;rw[Ej a a1 a2 a3,Ej c c1 c2 c3];omega
  ·obtain⟨c1,c2,c3⟩:=(hq c).1 hc;rw[qP a (b.ok a (by simp[ha])).2,Ej c c1 c2 c3];exact b.near h r rfl a (b.ok a (by simp[ha])).1
 ·have h2:D h<=jg L D h n h':=by
   have hm:h'∈r++um L D h n:=by rw[e1];simp
   rcases List.mem_append.1 hm with hm|hm
   ·rw[qP h' (b.ok h' (by simp[hm])).2];exact NJ.1 h' hm
   ·obtain⟨c1,c2,c3⟩:=(hq h').1 hm;rw[Ej h' c1 c2 c3];omega
  have h3:=b.near h r rfl e he;rcases fO e with h4|⟨_,_,_,h4⟩<;>omega
theorem Hb{α:Type} (l:List α) (p q:α->Bool):(l.filter fun x=>p x&&q x).length+(l.filter fun x=>p x&&!q x).length=(l.filter p).length:=by
 induction l with
 | nil=>rfl
 | cons a r ih=>simp only[List.filter_cons];cases p a<;>cases q a<;>simp<;>omega
theorem Ka{n:Nat} (L:Nat->Nat->Bool) (D:Nat->Int) (h:Nat) (h0:0<=D h) (r:List Nat):(r++um L D h n).length+((List.range n).filter fun e=>decide (jg L D h n e<0)).length<(h :: r).length+((List.range n).filter fun e=>decide (D e<0)).length:=by
 have h1:=Hb (List.range n) (fun e=>decide (D e<0)) (fun e=>L h e)
 have h2:((List.range n).filter fun e=>decide (jg L D h n e<0))=(List.range n).filter fun e=>decide (D e<0)&&!L h e:=by
  refine List.filter_congr fun e he=>?_
  have he:=List.mem_range.1 he;unfold jg;by_cases hd:D e<0
  ·cases hl:L h e with
   | true=>rw[if_pos ⟨he,hd,rfl⟩,decide_eq_true hd,decide_eq_false (by omega)];rfl
   | false=>rw[if_neg (by rintro⟨_,_,h⟩;cases h),decide_eq_true hd];rfl
  ·rw[if_neg (fun h=>hd h.2.1),decide_eq_false hd];rfl
 rw[h2];have h3:(um L D h n)=(List.range n).filter fun e=>decide (D e<0)&&L h e:=rfl
 rw[List.length_append,h3,List.length_cons];omega
def rA(R:Nat->Nat->Bool) (e:Nat):Int:=if firstIx e (R e)<0 then e else firstIx e (R e)
theorem vT(R:Nat->Nat->Bool) (e:Nat):(rA R e=e/\∀ f,f<e->R e f=false)\/∃ k,k<e/\rA R e=k/\R e k=true/\∀ f,f<k->R e f=false:=by
 unfold rA;rcases bI e (R e) with ⟨h,h1⟩|⟨k,hk,h,h1,h2⟩
 ·rw[h,if_pos (by omega)];exact .inl ⟨rfl,h1⟩
 ·rw[h,if_neg (by omega)];exact .inr ⟨k,hk,rfl,h1,h2⟩
theorem UR{R:Nat->Nat->Bool} (hs:∀ a b,R a b=R b a) (ht:∀ a b c,R a b=true->R b c=true->R a c=true) (i k:Nat) (hk:k<i):decide (rA R k=rA R i)=R k i:=by
 rcases vT R i with ⟨e1,h1⟩|⟨a,ha,e1,h1,h2⟩<;>rcases vT R k with ⟨e2,h3⟩|⟨b,hb,e2,h3,h4⟩
 ·rw[e1,e2,decide_eq_false (by omega),hs,h1 k hk]
 ·rw[e1,e2,decide_eq_false (by omega),hs,h1 k hk]
 ·rw[e1,e2];cases hr:R k i with
  | true=>
   rw[decide_eq_true_eq];rcases Nat.lt_trichotomy k a with h|h|h
   ·rw[hs,h2 k h]at hr;cases hr
   ·rw[h]
   ·have:=h3 a h;rw[ht k i a hr h1]at this;cases this
  | false=>
   rw[decide_eq_false_iff_not];intro e;have:k=a:=by omega
   subst this;rw[hs,h1]at hr;cases hr
 ·rw[e1,e2];cases hr:R k i with
  | true=>
   rw[decide_eq_true_eq];rcases Nat.lt_trichotomy a b with h|h|h
   ·have:=h4 a h;rw[ht k i a hr h1]at this;cases this
   ·rw[h]
   ·have:=h2 b h;rw[ht i k b (by rw[hs];exact hr) h3]at this;cases this
  | false=>
   rw[decide_eq_false_iff_not];intro e;have:b=a:=by omega
   subst this;rw[ht k b i h3 (by rw[hs];exact h1)]at hr;cases hr
def lh(keys:List Int):List Int:=im (fun k i=>decide (keys.getD k 0=keys.getD i 0)) keys.length
theorem Hc(f:Nat->Int) (n:Nat):lh ((List.range n).map f)=im (fun k i=>decide (f k=f i)) n:=by
 unfold lh;rw[List.length_map,List.length_range];refine nJ fun i hi k hk=>?_
 have e:∀ j,j<n->((List.range n).map f).getD j 0=f j:=fun j hj=>by simp[hj]
 rw[e i hi,e k (by omega)]
def l7(l:List Int):Prop:=∃ N:Nat->Int,N 0=0/\∀ i,i<l.length->0<=l.getD i 0/\l.getD i 0<=N i/\N (i+1)=if l.getD i 0=N i then N i+1 else N i
theorem rB(q:Nat->Nat->Bool) (n i:Nat) (hi:i<n):(im q n).getD i 0=(bu q (i+1)).1.getD i 0:=by
 unfold im;obtain⟨m,rfl⟩:∃ m,n=i+1+m:=⟨n - (i+1),by omega⟩;clear hi;induction m with
 | zero=>rfl
 | succ m ih=>rw[<-ih];exact sp q (i+1+m) i (by omega)
theorem rh(q:Nat->Nat->Bool) (i:Nat):(firstIx i (fun k=>q k i)=-1/\(bu q (i+1)).1.getD i 0=(bu q i).2/\(bu q (i+1)).2=(bu q i).2+1)\/∃ k,k<i/\firstIx i (fun k=>q k i)=k/\(bu q (i+1)).1.getD i 0=(bu q i).1.getD k 0/\(bu q (i+1)).2=(bu q i).2/\(bu q i).1.getD k 0<(bu q i).2/\0<=(bu q i).1.getD k 0:=by
 have hl:=j8 q i;have hn:=jR q i;rcases bI i (fun k=>q k i) with ⟨e,_⟩|⟨k,hk,e,_,_⟩
 ·refine .inl ⟨e,?_,?_⟩
  ·rw[bu];rw[e,if_pos (by omega),List.getD_eq_getElem?_getD,List.getElem?_append_right (by omega),hl];simp
  ·rw[bu];rw[e,if_pos (by omega)]
 ·refine .inr ⟨k,hk,e,?_,?_,?_⟩
  ·rw[bu];rw[e,if_neg (by omega),List.getD_eq_getElem?_getD,List.getElem?_append_right (by omega),hl];simp
  ·rw[bu];rw[e,if_neg (by omega)]
  ·have:=hn.2.2 ((bu q i).1[k]'(by omega)) (List.getElem_mem _);rw[show (bu q i).1.getD k 0=(bu q i).1[k]'(by omega) by simp[hl,hk]];omega
theorem pG(q:Nat->Nat->Bool) (n:Nat):l7 (im q n):=by
 refine⟨fun i=>(bu q i).2,rfl,fun i hi=>?_⟩;rw[pF]at hi;rw[rB q n i hi];have hn:=jR q i;dsimp only;rcases rh q i with ⟨_,e1,e2⟩|⟨k,_,_,e1,e2,e3,e4⟩
 ·rw[e1,e2,if_pos rfl];exact⟨hn.1,Int.le_refl _,rfl⟩
 ·rw[e1,e2,if_neg (by omega)];exact⟨e4,by omega,rfl⟩
theorem vU{l:List Int} (h:l7 l) (i:Nat) (hi:i<l.length) (x:Int) (h0:0<=x) (hx:x<l.getD i 0):∃ j,j<i/\l.getD j 0=x:=by
 obtain⟨N,hN,hs⟩:=h
 have key:∀ m,m<=l.length->0<=N m/\∀ x:Int,0<=x->x<N m->∃ j,j<m/\l.getD j 0=x:=by
  intro m;induction m with
  | zero=>intro _;exact⟨by omega,fun x h0 hx=>by omega⟩
  | succ m ih=>
   intro hm;obtain⟨a1,a2⟩:=ih (by omega);obtain⟨b1,b2,b3⟩:=hs m (by omega);split at b3
   ·rename_i b4;refine⟨by omega,fun x h0 hx=>?_⟩;by_cases e:x=N m
    ·exact⟨m,by omega,by rw[b4,e]⟩
    ·obtain⟨j,hj,ej⟩:=a2 x h0 (by omega);exact⟨j,by omega,ej⟩
   ·refine⟨by omega,fun x h0 hx=>?_⟩;obtain⟨j,hj,ej⟩:=a2 x h0 (by omega);exact⟨j,by omega,ej⟩
 obtain⟨b1,b2,_⟩:=hs i hi;exact(key i (by omega)).2 x h0 (by omega)
theorem l8{l:List Int} (h:l7 l) (i:Nat) (hi:i<l.length):0<=l.getD i 0/\l.getD i 0<=i:=by
 obtain⟨N,hN,hs⟩:=h
 have key:∀ m,m<=l.length->N m<=m:=by
  intro m;induction m with
  | zero=>intro _;omega
  | succ m ih=>
   intro hm;have a:=ih (by omega);obtain⟨b1,b2,b3⟩:=hs m (by omega);split at b3<;>omega
 obtain⟨b1,b2,_⟩:=hs i hi;have:=key i (by omega);exact⟨b1,by omega⟩
theorem EK{q:Nat->Nat->Bool} (hr:∀ a,q a a=true) (hs:∀ a b,q a b=q b a) (n:Nat) (ht:∀ a b c,a<n->b<n->c<n->q a b=true->q b c=true->q a c=true) (i k:Nat) (hi:i<n) (hk:k<n):(im q n).getD i 0=(im q n).getD k 0↔q i k=true:=by
 have key:∀ m,m<=n->∀ i k,i<m->k<m->((bu q m).1.getD i 0=(bu q m).1.getD k 0↔q i k=true):=by
  intro m;induction m with
  | zero=>intro _ i k h;omega
  | succ m ih=>
   intro hm;have ih:=ih (by omega);have hl:=j8 q m;have hn:=jR q m
   have one:∀ i,i<m->((bu q (m+1)).1.getD i 0=(bu q (m+1)).1.getD m 0↔q i m=true):=fun i hi=>by
    rw[sp q m i hi];rcases rh q m with ⟨e,e1,_⟩|⟨k,hk,e,e1,_⟩
    ·rw[e1];have aD:=(hn.2.2 ((bu q m).1[i]'(by omega)) (List.getElem_mem _)).2;rw[show (bu q m).1.getD i 0=(bu q m).1[i]'(by omega) by simp[hl,hi]]
     have jv:q i m=false:=by
      rcases bI m (fun k=>q k m) with ⟨_,h⟩|⟨k,hk,e',_⟩
      ·exact h i hi
      ·omega
     rw[jv];simp;omega
    ·rw[e1]
     have AA:q k m=true:=by
      rcases bI m (fun k=>q k m) with ⟨e',_⟩|⟨k',qY,e',h,_⟩
      ·omega
      ·rw[show k=k' by omega];exact h
     rw[ih i k hi hk];exact⟨fun h=>ht i k m (by omega) (by omega) (by omega) h AA,fun h=>ht i m k (by omega) (by omega) (by omega) h (by rw[hs];exact AA)⟩
   intro i k hi hk;by_cases e1:i=m
   ·by_cases e2:k=m
    ·rw[e1,e2,hr];simp
    ·rw[e1,hs,<-one k (by omega)];exact eq_comm
   ·by_cases e2:k=m
    ·rw[e2];exact one i (by omega)
    ·rw[sp q m i (by omega),sp q m k (by omega)];exact ih i k (by omega) (by omega)
 exact key n (Nat.le_refl _) i k hi hk
def dF(key f:Nat->Int) (k:Nat) (x:Int):Option Int:=if firstIx k (fun j=>decide (key j=x))<0 then none else some (f (firstIx k fun j=>decide (key j=x)).toNat)
theorem BN{key f:Nat->Int} {k:Nat} {x:Int}:dF key f k x=none↔∀ j,j<k->key j≠x:=by
 unfold dF;rcases bI k (fun j=>decide (key j=x)) with ⟨e,h⟩|⟨j,hj,e,h,_⟩
 ·rw[e,if_pos (by omega)];exact⟨fun _ j hj e=>(by have:=h j hj;rw[decide_eq_true e]at this;cases this),fun _=>rfl⟩
 ·rw[e,if_neg (by omega)];exact⟨fun h=>(by cases h),fun h'=>absurd (of_decide_eq_true h) (h' j hj)⟩
theorem ri{key f:Nat->Int} {k:Nat} {x y:Int} (h:dF key f k x=some y):∃ j,j<k/\firstIx k (fun j=>decide (key j=x))=j/\key j=x/\f j=y:=by
 unfold dF at h;rcases bI k (fun j=>decide (key j=x)) with ⟨e,_⟩|⟨j,hj,e,h1,_⟩
 ·rw[e,if_pos (by omega)]at h;cases h
 ·rw[e,if_neg (by omega),Int.toNat_natCast]at h;exact⟨j,hj,e,of_decide_eq_true h1,dp h⟩
theorem xL{key f:Nat->Int} {k:Nat} (h:dF key f k (key k)=none) (y:Int):dF key f (k+1) y=if y=key k then some (f k) else dF key f k y:=by
 have h:=BN.1 h;by_cases e:y=key k
 ·rw[if_pos e];unfold dF;rw[dB (k+1) k _ (by omega) (fun j hj=>by rw[decide_eq_false];rw[e];exact h j hj) (by rw[decide_eq_true e.symm]),if_neg (by omega),Int.toNat_natCast]
 ·rw[if_neg e];unfold dF;rcases bI k (fun j=>decide (key j=y)) with ⟨e1,h1⟩|⟨j,hj,e1,h1,h2⟩
  ·rw[e1,dH (k+1) _ (fun j hj=>by by_cases ej:j=k;(subst ej;exact decide_eq_false fun e'=>e e'.symm);exact h1 j (by omega))]
  ·rw[e1,dB (k+1) j _ (by omega) h2 h1]
theorem xM{key f:Nat->Int} {k:Nat} {z:Int} (h:dF key f k (key k)=some z) (y:Int):dF key f (k+1) y=dF key f k y:=by
 obtain⟨i,hi,ei,e2,_⟩:=ri h;unfold dF;rcases bI k (fun j=>decide (key j=y)) with ⟨e1,h1⟩|⟨j,hj,e1,h1,h2⟩
 ·rw[e1,dH (k+1) _ (fun j hj=>by
   by_cases ej:j=k
   ·subst ej;have:=h1 i hi;rw[e2]at this;exact this
   ·exact h1 j (by omega))]
 ·rw[e1,dB (k+1) j _ (by omega) h2 h1]
theorem Hd{q:Nat->Nat->Bool} {n k:Nat} (hk:k<n) (h:firstIx k (fun j=>q j k)<0):(im q n).getD k 0=(bu q k).2/\(bu q (k+1)).2=(bu q k).2+1:=by
 rw[rB q n k hk];rcases rh q k with ⟨_,e1,e2⟩|⟨j,_,e,_⟩
 ·exact⟨e1,e2⟩
 ·omega
theorem He{q:Nat->Nat->Bool} {n k j:Nat} (hk:k<n) (h:firstIx k (fun j=>q j k)=j):(im q n).getD k 0=(im q n).getD j 0/\(bu q (k+1)).2=(bu q k).2:=by
 rcases rh q k with ⟨e,_⟩|⟨i,hi,e,e1,e2,_⟩
 ·omega
 ·obtain rfl:i=j:=by omega
  refine⟨?_,e2⟩;rw[rB q n k hk,e1,rB q n i (by omega)];have:=rB q k i hi;unfold im at this;rw[this]
theorem Hf(a b:List Int) (m i:Nat):ic (dJ a b) m i i=true:=rz _ m i i (BM a b i)
structure Uni (a b:List Int) (n:Nat) (P:List Int):Prop where
 par:Par n P
 wr:∀ i,i<n->ic (dJ a b) n (rootN P i) i=true
theorem rC{P:List Int} {i n:Nat} (h:i<n):rootN P i<n:=Nat.lt_of_le_of_lt (G9 P i) h
theorem Uni.start(a b:List Int) (n:Nat):Uni a b n ((List.range n).map fun i:Nat=>(i:Int)):=by
 have h:∀ i,i<n->((List.range n).map fun i:Nat=>(i:Int)).getD i 0=i:=fun i hi=>by simp[hi]
 refine⟨⟨by simp,fun i hi=>by rw[h i hi];omega⟩,fun i hi=>?_⟩;rw[nL (h i hi)];exact Hf a b n i
theorem Uni.union{a b:List Int} {n:Nat} {P:List Int} (h:Uni a b n P) (i k:Nat) (hi:i<n) (hk:k<n) (hj:dJ a b i k=true):Uni a b n (P.set (max (rootN P i) (rootN P k)) (min (rootN P i) (rootN P k):Nat))/\∀ j,j<n->rootN (P.set (max (rootN P i) (rootN P k)) (min (rootN P i) (rootN P k):Nat)) j=if rootN P j=max (rootN P i) (rootN P k) then min (rootN P i) (rootN P k) else rootN P j:=by
 have hp:=rC (P:=P) hi;have hq:=rC (P:=P) hk;obtain⟨h1,h2⟩:=Of h.par _ _ hp hq (EH h.par i hi) (EH h.par k hk);refine⟨⟨h1,fun j nA=>?_⟩,h2⟩;have hs:=mL (nK a b);have jx:=h.wr i hi;have vJ:=h.wr k hk;have kK:=rz (dJ a b) n i k hj;have LC:ic (dJ a b) n (rootN P i) (rootN P k)=true:=gO _ n _ i _ hi jx (gO _ n _ k _ hk kK (by rw[hs];exact vJ));rw[h2 j nA];split
 ·rename_i e;have hw:=h.wr j nA;rw[e]at hw;rcases Nat.le_total (rootN P i) (rootN P k) with kW|kW
  ·rw[Nat.min_eq_left kW];rw[Nat.max_eq_right kW]at hw;exact gO _ n _ _ _ hq LC hw
  ·rw[Nat.min_eq_right kW];rw[Nat.max_eq_left kW]at hw;exact gO _ n _ _ _ hp (by rw[hs];exact LC) hw
 ·exact h.wr j nA
def jm(n:Nat) (P P':List Int):Prop:=∀ i k,i<n->k<n->rootN P i=rootN P k->rootN P' i=rootN P' k
theorem jm.refl(n:Nat) (P:List Int):jm n P P:=fun _ _ _ _ h=>h
theorem jm.trans{n:Nat} {P Q R:List Int} (h:jm n P Q) (k:jm n Q R):jm n P R:=fun i j hi hj e=>k i j hi hj (h i j hi hj e)
theorem Kb{n:Nat} {P Q:List Int} (h:∀ j,j<n->rootN Q j=rootN P j):jm n P Q:=fun i k hi hk e=>by rw[h i hi,h k hk];exact e
theorem Kc{n:Nat} {P Q:List Int} {x y:Nat} (h:∀ j,j<n->rootN Q j=if rootN P j=x then y else rootN P j):jm n P Q:=fun i k hi hk e=>by rw[h i hi,h k hk,e]
def fH(l:List Int) (n m:Nat) (P:List Int):Prop:=∀ i k,i<n->k<n->i<m->k<m->l.getD i 0=l.getD k 0->rootN P i=rootN P k
theorem fH.keep{l:List Int} {n m:Nat} {P Q:List Int} (h:fH l n m P) (k:jm n P Q):fH l n m Q:=fun i j hi hj h1 h2 e=>k i j hi hj (h i j hi hj h1 h2 e)
theorem fH.join{l:List Int} {n m k:Nat} {P Q:List Int} (h:fH l n m P) (hm:m<n) (hk:k<m) (e:l.getD k 0=l.getD m 0) (hq:jm n P Q) (hr:rootN Q m=rootN Q k):fH l n (m+1) Q:=by
 have h':=h.keep hq;intro i j hi hj h1 h2 e1;by_cases ei:i=m
 ·by_cases ej:j=m
  ·rw[ei,ej]
  ·rw[ei,hr];exact h' k j (by omega) hj hk (by omega) (by rw[e,<-ei,e1])
 ·by_cases ej:j=m
  ·rw[ej,hr];exact h' i k hi (by omega) (by omega) hk (by rw[e,<-ej,e1])
  ·exact h' i j hi hj (by omega) (by omega) e1
theorem fH.fresh{l:List Int} {n m:Nat} {P:List Int} (h:fH l n m P) (hn:∀ k,k<m->l.getD k 0≠l.getD m 0):fH l n (m+1) P:=by
 intro i j hi hj h1 h2 e1;by_cases ei:i=m
 ·by_cases ej:j=m
  ·rw[ei,ej]
  ·exact absurd (by rw[<-e1,ei]) (hn j (by omega))
 ·by_cases ej:j=m
  ·exact absurd (by rw[e1,ej]) (hn i (by omega))
  ·exact h i j hi hj (by omega) (by omega) e1
theorem Q6{a b:List Int} {n:Nat} {P:List Int} (ha:a.length=n) (h:Uni a b n P) (h1:fH a n n P) (h2:fH b n n P):lh ((List.range n).map fun i=>(rootN P i:Int))=kQ a b:=by
 rw[Hc];have he:∀ j,j<n->((List.range n).map fun i=>(rootN P i:Int)).getD j 0=rootN P j:=fun j hj=>by simp[hj]
 rw[<-G8 a b ((List.range n).map fun i=>(rootN P i:Int)) n ha]
 ·refine nJ fun i hi k hk=>?_
  rw[he i hi,he k (by omega)]
 ·intro i k hi hk hq;rw[he i hi,he k hk];unfold dJ at hq;simp only[Bool.or_eq_true,decide_eq_true_eq]at hq;rcases hq with e|e
  ·rw[h1 i k hi hk hi hk e]
  ·rw[h2 i k hi hk hi hk e]
 ·intro i hi;exact⟨rootN P i,rC hi,he i hi,h.wr i hi⟩
structure Glu (a b:List Int) (n:Nat) (O:List Int):Prop where
 len:O.length=n
 le:∀ i,i<n->0<=O.getD i 0/\O.getD i 0<=i
 wr:∀ i,i<n->ic (dJ a b) n (O.getD i 0).toNat i=true
theorem Glu.start(a b:List Int) (n:Nat):Glu a b n ((List.range n).map fun i:Nat=>(i:Int)):=by
 have h:∀ i,i<n->((List.range n).map fun i:Nat=>(i:Int)).getD i 0=i:=fun i hi=>by simp[hi]
 refine⟨by simp,fun i hi=>by rw[h i hi];omega,fun i hi=>?_⟩;rw[h i hi,Int.toNat_natCast];exact Hf a b n i
def lI(O:List Int) (i k:Nat):List Int:=(O.set i (min (O.getD i 0) (O.getD k 0))).set k (min (O.getD i 0) (O.getD k 0))
theorem EN(O:List Int) (i k j:Nat) (hi:i<O.length) (hk:k<O.length):(lI O i k).getD j 0=if j=k\/j=i then min (O.getD i 0) (O.getD k 0) else O.getD j 0:=by
 unfold lI;rw[fG _ _ _ _ _ (by simpa using hk)];by_cases e:j=k
 ·rw[if_pos e,if_pos (.inl e)]
 ·rw[if_neg e,fG _ _ _ _ _ hi];by_cases e2:j=i
  ·rw[if_pos e2,if_pos (.inr e2)]
  ·rw[if_neg e2,if_neg (by omega)]
theorem Glu.step{a b:List Int} {n:Nat} {O:List Int} (h:Glu a b n O) (i k:Nat) (hi:i<n) (hk:k<i) (hj:dJ a b i k=true):Glu a b n (lI O i k):=by
 have hl:=h.len;have hs:=mL (nK a b);have a1:=h.le i hi;have a2:=h.le k (by omega);have w1:=h.wr i hi;have w2:=h.wr k (by omega);have kK:=rz (dJ a b) n i k hj
 have wi:ic (dJ a b) n (min (O.getD i 0) (O.getD k 0)).toNat i=true:=by
  rcases Int.le_total (O.getD i 0) (O.getD k 0) with kW|kW
  ·rw[Int.min_eq_left kW];exact w1
  ·rw[Int.min_eq_right kW];exact gO _ n _ k _ (by omega) w2 (by rw[hs];exact kK)
 have wk:ic (dJ a b) n (min (O.getD i 0) (O.getD k 0)).toNat k=true:=gO _ n _ i _ hi wi kK;refine⟨by simp[lI,hl],fun j nA=>?_,fun j nA=>?_⟩
 ·rw[EN _ _ _ _ (by omega) (by omega)];split
  ·omega
  ·exact h.le j nA
 ·rw[EN _ _ _ _ (by omega) (by omega)];split
  ·rename_i e;rcases e with rfl|rfl
   ·exact wk
   ·exact wi
  ·exact h.wr j nA
def uq(O:List Int):Nat:=(O.map Int.toNat).sum
theorem BO(O:List Int) (i:Nat) (hi:i<O.length) (x:Int):uq (O.set i x)+(O.getD i 0).toNat=uq O+x.toNat:=by
 induction O generalizing i with
 | nil=>simp at hi
 | cons y r ih=>
  cases i with
  | zero=>simp[uq];omega
  | succ i=>
   have h:=ih i (by simpa using hi);simp only[uq,List.set_cons_succ,List.map_cons,List.sum_cons,List.getD_cons_succ]at h ⊢;omega
theorem Oh{a b:List Int} {n:Nat} {O:List Int} (h:Glu a b n O) (i k:Nat) (hi:i<n) (hk:k<i) (bP:O.getD i 0≠O.getD k 0):uq (lI O i k)<uq O:=by
 have hl:=h.len;have a1:=h.le i hi;have a2:=h.le k (by omega);have s1:=BO O i (by omega) (min (O.getD i 0) (O.getD k 0));have s2:=BO (O.set i (min (O.getD i 0) (O.getD k 0))) k (by simp;omega) (min (O.getD i 0) (O.getD k 0));rw[fG _ _ _ _ _ (by omega),if_neg (by omega)]at s2;unfold lI;omega
theorem Q7{a b:List Int} {n:Nat} {O:List Int} (ha:a.length=n) (h:Glu a b n O) (hd:∀ i k,i<n->k<i->dJ a b i k=true->O.getD i 0=O.getD k 0):lh O=kQ a b:=by
 unfold lh;rw[h.len];refine G8 a b O n ha (fun i k hi hk hq=>?_) fun i hi=>?_
 ·rcases Nat.lt_trichotomy i k with e|e|e
  ·exact(hd k i hk e (by rw[nK];exact hq)).symm
  ·rw[e]
  ·exact hd i k hi e hq
 ·have:=h.le i hi;exact⟨(O.getD i 0).toNat,by omega,by omega,h.wr i hi⟩
def kj(L:Int) (c acc:List Int) (sm:Nat × Mv):List Int:=acc.set sm.1 (pT L c (acc.getD sm.1 0) sm.2)
def jn(L:Int) (c:List Int) (l:List (List Mv)) (i:Nat):List Int:=((uJ l).take i).foldl (kj L c) (List.replicate l.length 0)
theorem L9(L:Int) (c:List Int) (l:List (List Mv)):jn L c l 0=List.replicate l.length 0:=rfl
theorem L'(L:Int) (c:List Int) (l:List (List Mv)) (i:Nat) (h:i<movesN l):jn L c l (i+1)=kj L c (jn L c l i) (mvAt l i):=by
 unfold jn mvAt;have hi:i<(uJ l).length:=by rw[wR];exact h
 rw[List.take_succ_eq_append_getElem hi,List.foldl_append,List.getD_eq_getElem?_getD,List.getElem?_eq_getElem hi];rfl
theorem Oi(L:Int) (c:List Int) (l:List (List Mv)) (i:Nat):(jn L c l i).length=l.length:=by
 unfold jn
 have key:∀ (x:List (Nat × Mv)) (acc:List Int),(x.foldl (kj L c) acc).length=acc.length:=by
  intro x;induction x with
  | nil=>intro acc;rfl
  | cons a r ih=>intro acc;rw[List.foldl_cons,ih];simp[kj]
 rw[key];simp
theorem Q8(L:Int) (c:List Int) (x:List Mv):∀ (pre rest:List Int) (z:Int),(x.map fun m=>(pre.length,m)).foldl (kj L c) (pre++z :: rest)=pre++x.foldl (pT L c) z :: rest:=by
 induction x with
 | nil=>intro pre rest z;rfl
 | cons m r ih=>
  intro pre rest z;rw[List.map_cons,List.foldl_cons,List.foldl_cons,<-ih];congr 1;simp[kj]
theorem Oj(L:Int) (c:List Int) (l:List (List Mv)):∀ (pre:List Int),(iB pre.length l).foldl (kj L c) (pre++List.replicate l.length 0)=pre++l.map (AY L c):=by
 induction l with
 | nil=>intro pre;simp[iB]
 | cons x r ih=>
  intro pre;simp only[iB,List.foldl_append,List.length_cons,List.replicate_succ,List.map_cons];rw[Q8];have h:=ih (pre++[AY L c x]);simp only[List.length_append,List.length_cons,List.length_nil,Nat.zero_add,List.append_assoc,List.cons_append,List.nil_append]at h;exact h
theorem Ok(L:Int) (a:Adv) (c:List Int):jn L c a.states (movesN a.states)=zn L a c:=by
 unfold jn zn;rw[<-wR,List.take_length];have:=Oj L c a.states [];simpa[uJ] using this
theorem Ra{L:Int} (hL:0<=L) {c:List Int} (hc:BL L c) (l:List (List Mv)) (i:Nat):BL L (jn L c l i):=by
 unfold jn
 have key:∀ (x:List (Nat × Mv)) (acc:List Int),BL L acc->BL L (x.foldl (kj L c) acc):=by
  intro x;induction x with
  | nil=>intro acc h;exact h
  | cons m r ih=>
   intro acc h;refine ih _ fun y hy=>?_
   unfold kj at hy;rcases List.mem_or_eq_of_mem_set hy with hy|rfl
   ·exact h y hy
   ·exact G0 hL hc (uL hL h _) _
 exact key _ _ (fun y hy=>by rw[(List.mem_replicate.1 hy).2];omega)
end Go.Proofs.YtmeaoneaephjeaaGreatDoor
namespace Go.Proofs.YtmeaoneaephjeaaGreatDoor
open Go
theorem zT(a b:Nat) (ha:a<9223372036854775808) (hb:b<9223372036854775808):bits .and .i64 (a:Int) (b:Int)=((a &&& b:Nat):Int):=by
 have hx:a &&& b<2 ^ 63:=Nat.and_lt_two_pow _ (by omega)
 show IntKind.i64.wrap ((BitVec.ofInt 64 (a:Int) &&& BitVec.ofInt 64 (b:Int)).toNat:Int)=_
 rw[BitVec.toNat_and,ofInt_u64 a (by omega),ofInt_u64 b (by omega)];simp[IntKind.wrap,IntKind.bits,IntKind.signed];omega
theorem vV(a b:Nat) (ha:a<9223372036854775808) (hb:b<9223372036854775808):bits .or .i64 (a:Int) (b:Int)=((a ||| b:Nat):Int):=by
 have hx:a ||| b<2 ^ 63:=Nat.or_lt_two_pow (by omega) (by omega)
 show IntKind.i64.wrap ((BitVec.ofInt 64 (a:Int) ||| BitVec.ofInt 64 (b:Int)).toNat:Int)=_
 rw[BitVec.toNat_or,ofInt_u64 a (by omega),ofInt_u64 b (by omega)];simp[IntKind.wrap,IntKind.bits,IntKind.signed];omega
theorem Hg(a:Int):bits .and .i64 a 1=a % 2:=by
 show IntKind.i64.wrap ((BitVec.ofInt 64 a &&& BitVec.ofInt 64 ((1:Nat):Int)).toNat:Int)=_
 rw[BitVec.toNat_and,ofInt_u64 1 (by omega),Nat.and_one_is_mod,BitVec.toNat_ofInt];simp[IntKind.wrap,IntKind.bits,IntKind.signed];omega
theorem sv(x:Int) (p:Nat):(bits .and .i64 (x / 2 ^ p) 1 == 0)=!hasB x p:=by
 rw[Hg];unfold hasB;rcases (show x / 2 ^ p % 2=0\/x / 2 ^ p % 2=1 by omega) with h|h<;>rw[h]<;>rfl
theorem rj(x:Int) (p:Nat):(bits .and .i64 (x / 2 ^ p) 1 == 1)=hasB x p:=by
 rw[Hg];unfold hasB;rfl
theorem nM(x:Int) (h0:0<=x) (p:Nat):hasB x p=x.toNat.testBit p:=by
 obtain⟨A,rfl⟩:=Int.eq_ofNat_of_zero_le h0;unfold hasB;rw[Int.toNat_natCast,Nat.testBit_eq_decide_div_mod_eq];have:((A:Int) / 2 ^ p % 2)=((A / 2 ^ p % 2:Nat):Int):=by simp
 rw[this,Bool.eq_iff_iff];simp only[beq_iff_eq,decide_eq_true_eq];omega
theorem Gm(x y:Int) (dq:0<=x) (hx:x<32) (jb:0<=y) (hy:y<32):(bits .andNot .i64 x y != 0)=!iL x y:=by
 obtain⟨A,rfl⟩:=Int.eq_ofNat_of_zero_le dq;obtain⟨B,rfl⟩:=Int.eq_ofNat_of_zero_le jb;have hA:A<32:=by omega
 have hB:B<32:=by omega
 have key:∀ a:Fin 32,∀ b:Fin 32,(bits .andNot .i64 ((a.val:Nat):Int) ((b.val:Nat):Int) != 0)=!iL ((a.val:Nat):Int) ((b.val:Nat):Int):=by decide +kernel
 exact key ⟨A,hA⟩ ⟨B,hB⟩
end Go.Proofs.YtmeaoneaephjeaaGreatDoor
namespace Go.Proofs.YtmeaoneaephjeaaGreatDoor
open Go.RowKit Go
theorem EO(n:Int) (w:World) :
  Calls Tryz.prog 226 #[.int .i64 n] w fun e w'=>e=.returned (.int .i64 (iM n))/\w=w':=by
 go_enter Tryz.func226,Tryz.ntmps226
 go_wp2
 all_goals go_ret;exact⟨aF (by unfold iM;first|rw[if_pos (by omega)]|rw[if_neg (by omega)]),rfl⟩
theorem A0(n x:Int) (w:World) :
  Calls Tryz.prog 223 #[.int .i64 n,.int .i64 x] w fun e w'=>e=.returned (.int .i64 (kg n x))/\w=w':=by
 by_cases hn:n<1\/5<n
 ·have hp:iM n=1:=by unfold iM;rw[if_pos hn]
  have hc:=EO n w;rw[hp]at hc;have H:=aa hp;clear hp
  go_enter Tryz.func223,Tryz.ntmps223
  go_wp2_with (go_at_call 226;refine hc.mono ?_;rintro e w' ⟨rfl,rfl⟩)
  go_ret;exact⟨aF (by unfold kg;rw[H.o];rfl),rfl⟩
 ·have hp:iM n=0:=by unfold iM;rw[if_neg hn]
  have hc:=EO n w;rw[hp]at hc;have H:=aa hp;clear hp;have h1:1<=n:=by omega
  have h2:n<=5:=by omega
  clear hn
  go_enter Tryz.func223,Tryz.ntmps223
  go_wp2_with (go_at_call 226;refine hc.mono ?_;rintro e w' ⟨rfl,rfl⟩)
  all_goals
   go_ret
   refine⟨aF ?_,rfl⟩
   go_light
   unfold kg;rw[H.o]
   grind
theorem Ma(g:Gr) (k:Nat) (hk:k<5) (w:World):(Instr.index 137 (.agg #[.int .i64 g.h0,.int .i64 g.h1,.int .i64 g.h2,.int .i64 g.h3,.int .i64 g.h4]) (.int .i64 k)).run Tryz.prog w=.ok (.int .i64 (g.hear k)) w:=by
 have:k=0\/k=1\/k=2\/k=3\/k=4:=by omega
 rcases this with h|h|h|h|h<;>(subst h;with_reducible refine Eq.trans ?_ (Eq.refl _);kernel_rfl)
theorem Rb(n:Int) (w:World) (h1:1<=n) (h2:n<=5) :
  Calls Tryz.prog 225 #[.int .i64 n] w fun e w'=>e=.returned (.int .i64 (2 ^ n.toNat - 1))/\w=w':=by
 have:n=1\/n=2\/n=3\/n=4\/n=5:=by omega
 rcases this with rfl|rfl|rfl|rfl|rfl
 all_goals
  go_enter Tryz.func225,Tryz.ntmps225
  go_wp2
  go_ret
  exact⟨rfl,rfl⟩
theorem DB(g:Gr) (w:World) :
  Calls Tryz.prog 222 #[g.v] w fun e w'=>e=.returned (.int .i64 (gN g))/\Below w.heap.size w w':=by
 obtain⟨n,h0,h1,h2,h3,h4⟩:=g;by_cases hn:n<1\/5<n
 ·have H:am (gN ⟨n,h0,h1,h2,h3,h4⟩=2):=by unfold gN;rw[if_pos hn];rfl
  rcases hn with hn|hn
  ·go_enter Tryz.func222,Tryz.ntmps222
   go_wp2
   go_ret;exact⟨aF H.o.symm,by go_grown⟩
  ·have yR:¬ n<1:=by omega
   go_enter Tryz.func222,Tryz.ntmps222
   go_wp2
   go_ret;exact⟨aF H.o.symm,by go_grown⟩
 have jV:1<=n:=by omega
 have oz:n<=5:=by omega
 have HE:am (gN ⟨n,h0,h1,h2,h3,h4⟩=bm 5 fun p=>mz n (Gr.hear ⟨n,h0,h1,h2,h3,h4⟩ p) p):=by unfold gN;rw[if_neg hn];rfl
 clear hn
 go_enter Tryz.func222,Tryz.ntmps222
 go_wp2
 go_loop [15] (fun i=>∃ k:Nat,k<=5/\i=.int .i64 k/\∀ j,j<k->mz n (Gr.hear ⟨n,h0,h1,h2,h3,h4⟩ j) j=0) (fun i=>5 - (intOf i).toNat)
 ·exact⟨0,by omega,rfl,by simp⟩
 ·
  obtain⟨k,hk,rfl,aV⟩:=hrel;have H:=aa aV;clear aV;by_cases aD:k<5
  ·have hx:=Ma ⟨n,h0,h1,h2,h3,h4⟩ k aD;have hEx:∃ x,x=Gr.hear ⟨n,h0,h1,h2,h3,h4⟩ k:=⟨_,rfl⟩;obtain⟨x,lF⟩:=hEx;rw[<-lF]at hx;have HX:=aa lF;clear lF;have fK:=sv x k
   go_wp2_with (go_at_call 225;refine(Rb _ _ (by omega) (by omega)).mono ?_;rintro e w' ⟨rfl,rfl⟩)
   all_goals first
    | (go_ret
       refine⟨aF ?_,by go_grown⟩
       rw[HE.o]
       go_light
       refine bU k _ aD H.o ?_ (by decide)
       rw[<-HX.o]
       unfold mz
       grind)
    | (go_round
       ·
        refine⟨k+1,by omega,by go_num,aW H.o ?_⟩
        go_light
        rw[<-HX.o]
        unfold mz
        grind
       ·simp[intOf];omega)
  ·go_wp2
   go_ret;exact⟨aF (by rw[HE.o,cT];intro j hj;exact H.o j (by omega)),by go_grown⟩
theorem zs(a b:Int) (w:World) :
  Calls Tryz.prog 203 #[.int .i64 a,.int .i64 b] w fun e w'=>e=.returned (.int .i64 (cmpI a b))/\w=w':=by
 go_enter Tryz.func203,Tryz.ntmps203
 go_wp2
 all_goals
  go_ret
  refine⟨aF ?_,rfl⟩
  go_light
  unfold cmpI
  grind
theorem Hh(d:Nat) (a0 a1 a2 a3 a4 b0 b1 b2 b3 b4:Int) (w:World):(Op.equalIn (d+2) 137 (.agg #[.int .i64 a0,.int .i64 a1,.int .i64 a2,.int .i64 a3,.int .i64 a4]) (.agg #[.int .i64 b0,.int .i64 b1,.int .i64 b2,.int .i64 b3,.int .i64 b4])).run Tryz.prog w=.ok (decide (a0=b0/\a1=b1/\a2=b2/\a3=b3/\a4=b4)) w:=by
 obtain⟨i,hi⟩:∃ i,Tryz.prog.info? 3=some i:=Option.isSome_iff_exists.1 (by kernel_rfl);have hc:Tryz.prog.cellsOf 3=1:=by kernel_rfl
 rw[run_equalIn_array w (d+1) _ _ Tryz.underlying137 hi,hc];have ag:=Tryz.isAgg3;have u3:=Tryz.underlying3;have hr:List.range 5=[0,1,2,3,4]:=rfl;rw[hr];simp only[Op.eqItems,Sem.run_bind,part,ag,Result.andThen_ok];simp[run_equalIn_int w d 3 _ .i64 _ _ u3];by_cases h0:a0=b0
 case neg=>simp[h0]
 by_cases h1:a1=b1
 case neg=>simp[h0,h1]
 by_cases h2:a2=b2
 case neg=>simp[h0,h1,h2]
 by_cases h3:a3=b3
 case neg=>simp[h0,h1,h2,h3]
 by_cases h4:a4=b4<;>simp[h0,h1,h2,h3,h4]
theorem DC(d:Nat) (a b:Gr) (w:World):(Op.equalIn (d+3) 139 a.v b.v).run Tryz.prog w=.ok (decide (a=b)) w:=by
 have hS:Tryz.prog.underlying 139=some (.struct (Tryz.prog.fieldsOf 139)):=by kernel_rfl
 have hp:Tryz.prog.stoodInHeld 139=false:=by kernel_rfl
 rw[run_equalIn_struct w (d+2) 139 _ _ hS hp];have ag:=Tryz.isAgg3;have ah:=Tryz.isAgg137;have zh:=Tryz.sizeOf137;have u3:=Tryz.underlying3;simp only[Program.fieldsOf,Tryz.underlying139];simp[Op.eqFields,part,ag,ah,zh,run_equalIn_int w (d+1) 3 _ .i64 _ _ u3,Hh d];obtain⟨n,h0,h1,h2,h3,h4⟩:=a;obtain⟨m,g0,g1,g2,g3,g4⟩:=b;by_cases hn:n=m
 case neg=>simp[hn]
 by_cases hh:h0=g0/\h1=g1/\h2=g2/\h3=g3/\h4=g4<;>simp[hn,hh]
theorem DD(d:Nat) (a b:Rd) (w:World):(Op.equalIn (d+4) 141 a.v b.v).run Tryz.prog w=.ok (decide (a=b)) w:=by
 have hS:Tryz.prog.underlying 141=some (.struct (Tryz.prog.fieldsOf 141)):=by kernel_rfl
 have hp:Tryz.prog.stoodInHeld 141=false:=by kernel_rfl
 rw[run_equalIn_struct w (d+3) 141 _ _ hS hp];have ag:=Tryz.isAgg3;have ah:=Tryz.isAgg139;have zh:=Tryz.sizeOf139;have u3:=Tryz.underlying3;have hg:=DC d a.g b.g w;simp only[Program.fieldsOf,Tryz.underlying141];simp[Op.eqFields,part,ag,ah,zh,run_equalIn_int w (d+2) 3 _ .i64 _ _ u3,hg];obtain⟨ga,fa⟩:=a;obtain⟨gb,fb⟩:=b;by_cases hn:ga=gb
 case neg=>simp[hn]
 by_cases hh:fa=fb<;>simp[hn,hh]
theorem Ol(a b:Gr) (w:World):(binOp .eql 139 a.v b.v).run Tryz.prog w=.ok (.bool (decide (a=b))) w:=by
 rw[run_eql_struct,DC 9997];rfl
theorem Om(a b:Gr) (w:World):(binOp .neq 139 a.v b.v).run Tryz.prog w=.ok (.bool (!decide (a=b))) w:=by
 rw[run_neq_struct,DC 9997];rfl
theorem On(a b:Rd) (w:World):(binOp .eql 141 a.v b.v).run Tryz.prog w=.ok (.bool (decide (a=b))) w:=by
 rw[run_eql_struct,DD 9996];rfl
theorem p9(a:Int):cmpI a a=0:=by unfold cmpI;grind
theorem li{a b:Int} (h:cmpI a b=0):a=b:=by unfold cmpI at h;grind
theorem ur(a:Gr):fw a a=0:=by
 unfold fw;rw[p9];simp;exact cT _ _ (fun j _=>p9 _)
theorem mY(g:Gr) (k:Nat) (hk:k<5) (w:World) (B:Nat) (hw:w.heap[B]?=some (.cells #[.int .i64 g.n,.int .i64 g.h0,.int .i64 g.h1,.int .i64 g.h2,.int .i64 g.h3,.int .i64 g.h4] 139)) :
  w.cell? ⟨B,1+k,none⟩=some (.int .i64 (g.hear k)):=by
 have:k=0\/k=1\/k=2\/k=3\/k=4:=by omega
 rcases this with h|h|h|h|h<;>subst h<;>simp[World.cell?,hw,Gr.hear]
theorem A1(a b:Gr) (w:World) :
  Calls Tryz.prog 224 #[a.v,b.v] w fun e w'=>e=.returned (.int .i64 (fw a b))/\Below w.heap.size w w':=by
 by_cases AM:a=b
 ·subst AM;have jX:∀ w,(binOp .eql 139 a.v a.v).run Tryz.prog w=.ok (.bool true) w:=fun w=>by rw[Ol];simp
  have H:=aa (ur a);obtain⟨n,h0,h1,h2,h3,h4⟩:=a
  go_enter Tryz.func224,Tryz.ntmps224
  go_wp2
  go_ret;exact⟨aF H.o.symm,by go_grown⟩
 have jX:∀ w,(binOp .eql 139 a.v b.v).run Tryz.prog w=.ok (.bool false) w:=fun w=>by rw[Ol];simp[AM]
 clear AM;by_cases hn:a.n=b.n
 ·have iK:(a.n != b.n)=false:=by simp[hn]
  have HC:am (fw a b=bm 5 fun p=>cmpI (a.hear p) (b.hear p)):=by(have h:fw a b=bm 5 fun p=>cmpI (a.hear p) (b.hear p):=by(unfold fw;rw[hn,p9];simp));exact h
  clear hn
  go_enter Tryz.func224,Tryz.ntmps224
  go_wp2
  refine bF (fun W=>Below w.heap.size w W/\W.heap[w.heap.size]?=some (.cells #[.int .i64 a.n,.int .i64 a.h0,.int .i64 a.h1,.int .i64 a.h2,.int .i64 a.h3,.int .i64 a.h4] 139)/\W.heap[w.heap.size+1]?=some (.cells #[.int .i64 b.n,.int .i64 b.h0,.int .i64 b.h1,.int .i64 b.h2,.int .i64 b.h3,.int .i64 b.h4] 139))
   ⟨by go_grown,az _ (aq _ _),by have:=aq (w.alloc (.cells #[.int .i64 a.n,.int .i64 a.h0,.int .i64 a.h1,.int .i64 a.h2,.int .i64 a.h3,.int .i64 a.h4] 139));rw[World.size_alloc]at this;exact this _⟩ (fun W0 bh=>?_)
  obtain⟨aJ,hA,hB⟩:=bh;have HA:=aa hA;clear hA;have HB:=aa hB;clear hB
  go_loopw [20] (fun i wr=>Below W0.heap.size W0 wr/\∃ k:Nat,k<=5/\i=.int .i64 k/\∀ j,j<k->cmpI (a.hear j) (b.hear j)=0) (fun i _=>5 - (intOf i).toNat)
  ·exact⟨Below.refl _ _,0,by omega,rfl,by simp⟩
  ·
   obtain⟨aB,k,hk,rfl,aV⟩:=hrel;have H:=aa aV;clear aV;by_cases aD:k<5
   ·have c1:∀ x:ExtW wr,x.val.cell? ⟨w.heap.size,1+k,none⟩=some (.int .i64 (a.hear k)):=fun x=>x.cell (mY a k aD wr _ (af aB HA.o))
    have c2:∀ x:ExtW wr,x.val.cell? ⟨w.heap.size+1,1+k,none⟩=some (.int .i64 (b.hear k)):=fun x=>x.cell (mY b k aD wr _ (af aB HB.o))
    go_wp2
    refine aE (by kernel_rfl) (by kernel_rfl) ?_
    repeat (quiet_step ((go_at_call 203;exact Calls.ext_of ((zs _ _ _).mono fun _ _ ⟨h1,h2⟩=>⟨h1,h2 ▸ Below.refl _ _⟩))))
    refine wpQuiet_nil ?_;intro _ eD;obtain⟨xq,dg⟩:=eD;subst dg
    go_wp2
    ·have ht:(cmpI (a.hear k) (b.hear k) != 0)=true:=by assumption
     go_ret
     exact⟨aF (by rw[HC.o];exact bU k _ aD H.o rfl (by simpa using ht)),ae aJ (ae aB xq.ext)⟩
    ·have ht:(cmpI (a.hear k) (b.hear k) != 0)=false:=by assumption
     go_roundw
     ·exact⟨ae aB xq.ext,k+1,by omega,by go_num,aW H.o (by simpa using ht)⟩
     ·simp[intOf];omega
   ·go_wp2
    go_ret;exact⟨aF (by rw[HC.o,cT];intro j hj;exact H.o j (by omega)),ae aJ aB⟩
 ·have iK:(a.n != b.n)=true:=by simp[hn]
  have HC:am (fw a b=cmpI a.n b.n):=by unfold fw;rw[if_pos];exact rfl;intro h;exact hn (li h)
  clear hn
  go_enter Tryz.func224,Tryz.ntmps224
  go_wp2_with (go_at_call 203;refine(zs _ _ _).mono ?_;rintro e w' ⟨rfl,rfl⟩)
  go_ret;exact⟨aF HC.o.symm,by go_grown⟩
theorem DE(r:Rd) (w:World) :
  Calls Tryz.prog 219 #[r.v] w fun e w'=>e=.returned (.int .i64 (roundE r))/\Below w.heap.size w w':=by
 obtain⟨⟨n,h0,h1,h2,h3,h4⟩,f⟩:=r
 go_enter Tryz.func219,Tryz.ntmps219
 go_wp2_with (first
  | (go_at_call 222;refine(DB ⟨_,_,_,_,_,_⟩ _).mono ?_;rintro e w1 ⟨rfl,hb⟩;obtain⟨hc,hf⟩:=L1 hb)
  | (go_at_call 223;refine(A0 _ _ _).mono ?_;rintro e w2 ⟨rfl,rfl⟩))
 all_goals
  go_ret
  refine⟨aF ?_,?_⟩
  ·go_light
   unfold roundE
   grind
  ·exact ae (by go_grown) hb
theorem Kd(a:Rd):roundC a a=0:=by
 unfold roundC;rw[ur,p9];simp
theorem Rc{a b:Gr} (hn:a.n=b.n) (h:∀ j,j<5->cmpI (a.hear j) (b.hear j)=0):a=b:=by
 obtain⟨n,h0,h1,h2,h3,h4⟩:=a;obtain⟨m,g0,g1,g2,g3,g4⟩:=b;have e0:=li (h 0 (by omega));have e1:=li (h 1 (by omega));have e2:=li (h 2 (by omega));have e3:=li (h 3 (by omega));have e4:=li (h 4 (by omega));simp[Gr.hear]at e0 e1 e2 e3 e4 hn;simp[e0,e1,e2,e3,e4,hn]
theorem Ke{a b:Gr} (h:fw a b=0):a=b:=by
 unfold fw at h;by_cases hc:cmpI a.n b.n=0
 ·rw[if_neg (by simpa using hc)]at h;exact Rc (li hc) (fF h)
 ·rw[if_pos hc]at h;exact absurd h hc
theorem A2(a b:Rd) (w:World) :
  Calls Tryz.prog 220 #[a.v,b.v] w fun e w'=>e=.returned (.int .i64 (roundC a b))/\Below w.heap.size w w':=by
 by_cases AM:a=b
 ·subst AM;have jX:∀ w,(binOp .eql 141 a.v a.v).run Tryz.prog w=.ok (.bool true) w:=fun w=>by rw[On];simp
  have H:=aa (Kd a)
  go_enter Tryz.func220,Tryz.ntmps220
  go_wp2
  go_ret;exact⟨aF H.o.symm,by go_grown⟩
 have jX:∀ w,(binOp .eql 141 a.v b.v).run Tryz.prog w=.ok (.bool false) w:=fun w=>by rw[On];simp[AM]
 by_cases hg:a.g=b.g
 ·have bP:∀ w,(binOp .neq 139 a.g.v b.g.v).run Tryz.prog w=.ok (.bool false) w:=fun w=>by rw[Om];simp[hg]
  have HC:am (roundC a b=cmpI a.f b.f):=by(have h:roundC a b=cmpI a.f b.f:=by(unfold roundC;rw[hg,ur];simp));exact h
  clear hg AM
  go_enter Tryz.func220,Tryz.ntmps220
  go_wp2_with (go_at_call 203;refine(zs _ _ _).mono ?_;rintro e w' ⟨rfl,rfl⟩)
  go_ret;exact⟨aF HC.o.symm,by go_grown⟩
 ·have bP:∀ w,(binOp .neq 139 a.g.v b.g.v).run Tryz.prog w=.ok (.bool true) w:=fun w=>by rw[Om];simp[hg]
  have HC:am (roundC a b=fw a.g b.g):=by(have h:roundC a b=fw a.g b.g:=by(unfold roundC;rw[if_pos (fun h=>hg (Ke h))]));exact h
  clear hg AM
  go_enter Tryz.func220,Tryz.ntmps220
  go_wp2_with (go_at_call 224;refine(A1 a.g b.g _).mono ?_;rintro e w1 ⟨rfl,hb⟩)
  go_ret;exact⟨aF HC.o.symm,ae (by go_grown) hb⟩
theorem jo(va vb:Value) (a b:List Int) (w:World) (ha:aX w va a) (hb:aX w vb b) :
  Calls Tryz.prog 15 #[va,vb] w fun e w'=>e=.returned (.bool (eqV a b))/\Below w.heap.size w w':=by
 obtain⟨pa,ca,rfl,la1,la2,ea⟩:=ha.at;obtain⟨pb,cb,rfl,lb1,lb2,eb⟩:=hb.at;clear ha hb;have EA:=aa ea;clear ea;have EB:=aa eb;clear eb;by_cases hl:a.length=b.length
 ·have ij:((a.length:Int) != (b.length:Int))=false:=by simp[hl]
  have HL:=aa hl;clear hl
  go_enter Tryz.func15,Tryz.ntmps15
  go_wp2
  go_loopw [13] (fun i wr=>Below w.heap.size w wr/\∃ k:Nat,k<=a.length/\i=.int .i64 k/\∀ j,j<k->a.getD j 0=b.getD j 0) (fun i _=>a.length - (intOf i).toNat)
  ·exact⟨Below.refl _ _,0,by omega,rfl,by simp⟩
  ·
   obtain⟨aB,k,hk,rfl,aV⟩:=hrel;have H:=aa aV;clear aV;by_cases aD:k<a.length
   ·obtain⟨b1,o1,rfl,h1⟩:=EA.o k aD;have iy:k<b.length:=by have:=HL.o;omega
    obtain⟨b2,o2,rfl,h2⟩:=EB.o k iy;obtain⟨x,hx⟩:∃ x,x=a[k]:=⟨_,rfl⟩;obtain⟨y,hy⟩:∃ y,y=b[k]:=⟨_,rfl⟩;rw[<-hx,Nat.mul_one]at h1;rw[<-hy,Nat.mul_one]at h2;have c1:∀ n,(wr.drewN n).cell? ⟨b1,o1+k,none⟩=some (.int .i64 x):=fun n=>ak aB h1.1
    have c2:∀ n,(wr.drewN n).cell? ⟨b2,o2+k,none⟩=some (.int .i64 y):=fun n=>ak aB h2.1
    have HX:=aa hx;clear hx;have HY:=aa hy;clear hy
    go_wp2
    go_quiet (fail)
    go_wp2
    ·have ht:(x != y)=true:=by assumption
     go_ret
     refine⟨aR ?_,eE aB _⟩
     go_light
     unfold eqV;simp at ht ⊢;intro h;subst h;exact ht (HX.o.trans HY.o.symm)
    ·have ht:(x != y)=false:=by assumption
     go_roundw
     ·
      refine⟨eE aB _,k+1,by omega,by go_num,aW H.o ?_⟩;rw[aA 0 aD,aA 0 iy,<-HX.o,<-HY.o];simpa using ht
     ·simp[intOf];omega
   ·go_wp2
    go_ret
    refine⟨aR ?_,aB⟩;unfold eqV;simp;refine List.ext_getElem HL.o fun i h1 h2=>?_
    have:=H.o i (by omega)
    rwa [aA 0 h1,aA 0 h2]at this
 ·have ij:((a.length:Int) != (b.length:Int))=true:=by simp;omega
  go_enter Tryz.func15,Tryz.ntmps15
  go_wp2
  go_ret
  exact⟨aR (by unfold eqV;simp;intro h;exact hl (by rw[h])),Below.refl _ _⟩
theorem EP{a b:List Int} {k:Nat} (h1:k<a.length) (h2:k<b.length) (hO:ordV a b=ordV (a.drop k) (b.drop k)):ordV a b=if cmpI a[k] b[k]=0 then ordV (a.drop (k+1)) (b.drop (k+1)) else cmpI a[k] b[k]:=by
 rw[hO,si h1,si h2,ordV];unfold cmpI
 grind
theorem qR(va vb:Value) (a b:List Int) (w:World) (ha:aX w va a) (hb:aX w vb b) :
  Calls Tryz.prog 170 #[va,vb] w fun e w'=>e=.returned (.int .i64 (ordV a b))/\Below w.heap.size w w':=by
 obtain⟨pa,ca,rfl,la1,la2,ea⟩:=ha.at;obtain⟨pb,cb,rfl,lb1,lb2,eb⟩:=hb.at;clear ha hb;have EA:=aa ea;clear ea;have EB:=aa eb;clear eb
 go_enter Tryz.func170,Tryz.ntmps170
 go_wp2
 go_loop [11] (fun i=>∃ k:Nat,k<=a.length/\i=.int .i64 k/\ordV a b=ordV (a.drop k) (b.drop k)) (fun i=>a.length - (intOf i).toNat)
 ·exact⟨0,by omega,rfl,by simp⟩
 ·
  obtain⟨k,hk,rfl,aV⟩:=hrel;have H:=aa aV;clear aV;by_cases aD:k<a.length
  ·obtain⟨b1,o1,rfl,h1⟩:=EA.o k aD;obtain⟨x,hx⟩:∃ x,x=a[k]:=⟨_,rfl⟩;rw[<-hx,Nat.mul_one]at h1;have c1:=h1.1;have HX:=aa hx;clear hx h1;by_cases iy:k<b.length
   ·obtain⟨b2,o2,rfl,h2⟩:=EB.o k iy;obtain⟨y,hy⟩:∃ y,y=b[k]:=⟨_,rfl⟩;rw[<-hy,Nat.mul_one]at h2;have c2:=h2.1;have HY:=aa hy;clear hy h2;have HS:=EP aD iy H.o;rw[<-HX.o,<-HY.o]at HS;have Ln:=aa HS;clear HS
    go_wp2_with (go_at_call 203;refine(zs _ _ _).mono ?_;rintro e w' ⟨rfl,rfl⟩)
    ·have ht:(cmpI x y != 0)=true:=by assumption
     go_ret
     exact⟨aF (by rw[Ln.o,if_neg (by simpa using ht)]),Below.refl _ _⟩
    ·have ht:(cmpI x y != 0)=false:=by assumption
     go_round
     ·exact⟨k+1,by omega,by go_num,by rw[Ln.o,if_pos (by simpa using ht)]⟩
     ·simp[intOf];omega
   ·go_wp2
    go_ret
    refine⟨aF ?_,Below.refl _ _⟩;rw[H.o,si aD,List.drop_of_length_le (l:=b) (by omega)];rfl
  ·have HR:am (ordV a b=if a.length<b.length then -1 else 0):=by
    have h:ordV a b=if a.length<b.length then -1 else 0:=by
     rw[H.o,List.drop_of_length_le (by omega),wO,List.length_drop]
     grind
    exact h
   go_wp2
   all_goals
    go_ret
    refine⟨aF ?_,Below.refl _ _⟩;rw[HR.o]
    go_light
    grind
theorem zK(g:Nat) (lb:Array Value) (eg:∀ args w,(callFunc g args).run Tryz.prog w=.ok (.enter g args) w) (v:Value) (l:List Int) (p:Nat->Bool) (w:World) (hv:aX w v l)
  (hp:∀ i (hi:i<l.length)  W,Below w.heap.size w W->Calls Tryz.prog g (#[.int .i64 l[i]]++lb) W fun e W'=>e=.returned (.bool (p i))/\Below W.heap.size W W') :
  Calls Tryz.prog 152 #[v,.func (.func g) #[] lb] w fun e w'=>e=.returned (.int .i64 (firstIx l.length p))/\Below w.heap.size w w':=by
 obtain⟨pa,ca,rfl,la1,la2,ea⟩:=hv.at;clear hv;have EA:=aa ea;clear ea;have HP:=aa hp;clear hp
 go_enter Tryz.func152,Tryz.ntmps152
 go_wp2
 go_loopw [8] (fun i wr=>Below w.heap.size w wr/\∃ k:Nat,k<=l.length/\i=.int .i64 k/\∀ j,j<k->p j=false) (fun i _=>l.length - (intOf i).toNat)
 ·exact⟨Below.refl _ _,0,by omega,rfl,by simp⟩
 ·
  obtain⟨aB,k,hk,rfl,aV⟩:=hrel;have H:=aa aV;clear aV;by_cases aD:k<l.length
  ·obtain⟨b1,o1,rfl,h1⟩:=EA.o k aD;rw[Nat.mul_one]at h1;have c1:=ak aB h1.1;have fi:=HP.o k aD wr aB;clear h1;generalize l[k]=x at c1 fi;cases tP:p k with
   | true=>
    rw[tP]at fi;have bW:=aa fi;clear fi;have JY:=aa tP;clear tP
    go_wp2_with fail
    refine bW.o.mono ?_;rintro e w1 ⟨rfl,aM⟩
    go_wp2_with fail
    go_ret
    exact⟨aF (dB _ _ _ aD H.o JY.o).symm,ae aB aM⟩
   | false=>
    rw[tP]at fi;have bW:=aa fi;clear fi;have JY:=aa tP;clear tP
    go_wp2_with fail
    refine bW.o.mono ?_;rintro e w1 ⟨rfl,aM⟩
    go_wp2_with fail
    go_roundw
    ·exact⟨ae aB aM,k+1,by omega,by go_num,aW H.o JY.o⟩
    ·simp[intOf];omega
  ·go_wp2
   go_ret
   exact⟨aF (by rw[dH];intro j hj;exact H.o j (by omega)),aB⟩
theorem zL(g:Nat) (lb:Array Value) (eg:∀ args w,(callFunc g args).run Tryz.prog w=.ok (.enter g args) w) (v:Value) (l:List (List Int)) (p:Nat->Bool) (w:World) (hv:ef w v l)
  (hp:∀ i (hi:i<l.length) (x:Value) (_:aX w x l[i]) W,Below w.heap.size w W->Calls Tryz.prog g (#[x]++lb) W fun e W'=>e=.returned (.bool (p i))/\Below W.heap.size W W') :
  Calls Tryz.prog 153 #[v,.func (.func g) #[] lb] w fun e w'=>e=.returned (.int .i64 (firstIx l.length p))/\Below w.heap.size w w':=by
 obtain⟨pa,ca,rfl,la1,la2,ea⟩:=hv.at;clear hv;have EA:=aa ea;clear ea;have HP:=aa hp;clear hp
 go_enter Tryz.func153,Tryz.ntmps153
 go_wp2
 go_loopw [8] (fun i wr=>Below w.heap.size w wr/\∃ k:Nat,k<=l.length/\i=.int .i64 k/\∀ j,j<k->p j=false) (fun i _=>l.length - (intOf i).toNat)
 ·exact⟨Below.refl _ _,0,by omega,rfl,by simp⟩
 ·
  obtain⟨aB,k,hk,rfl,aV⟩:=hrel;have H:=aa aV;clear aV;by_cases aD:k<l.length
  ·obtain⟨b1,o1,rfl,h1⟩:=EA.o k aD;rw[Nat.mul_one]at h1;obtain⟨x,jI,hx⟩:=h1;have c1:=ak aB jI;have fi:=HP.o k aD x hx wr aB;clear jI hx;cases tP:p k with
   | true=>
    rw[tP]at fi;have bW:=aa fi;clear fi;have JY:=aa tP;clear tP
    go_wp2_with fail
    refine bW.o.mono ?_;rintro e w1 ⟨rfl,aM⟩
    go_wp2_with fail
    go_ret
    exact⟨aF (dB _ _ _ aD H.o JY.o).symm,ae aB aM⟩
   | false=>
    rw[tP]at fi;have bW:=aa fi;clear fi;have JY:=aa tP;clear tP
    go_wp2_with fail
    refine bW.o.mono ?_;rintro e w1 ⟨rfl,aM⟩
    go_wp2_with fail
    go_roundw
    ·exact⟨ae aB aM,k+1,by omega,by go_num,aW H.o JY.o⟩
    ·simp[intOf];omega
  ·go_wp2
   go_ret
   exact⟨aF (by rw[dH];intro j hj;exact H.o j (by omega)),aB⟩
theorem kl(g:Nat) (lb:Array Value) (eg:∀ args w,(callFunc g args).run Tryz.prog w=.ok (.enter g args) w) (v:Value) (l:List Int) (p:Nat->Bool) (w:World) (hv:aX w v l)
  (hp:∀ i (hi:i<l.length)  W,Below w.heap.size w W->Calls Tryz.prog g (#[.int .i64 l[i]]++lb) W fun e W'=>e=.returned (.bool (p i))/\Below W.heap.size W W') :
  Calls Tryz.prog 106 #[v,.func (.func g) #[] lb] w fun e w'=>e=.returned (.bool (anyLt l.length p))/\Below w.heap.size w w':=by
 have hc:=zK g lb eg v l p w hv hp;have HA:=aa (pR l.length p);generalize firstIx l.length p=r at hc HA;have HC:=aa hc;clear hc hp
 go_enter Tryz.func106,Tryz.ntmps106
 go_wp2_with fail
 refine HC.o.mono ?_;rintro e w1 ⟨rfl,aM⟩
 go_wp2_with fail
 go_ret
 exact⟨aR HA.o,aM⟩
theorem vW(g:Nat) (lb:Array Value) (eg:∀ args w,(callFunc g args).run Tryz.prog w=.ok (.enter g args) w) (v:Value) (l:List (List Int)) (p:Nat->Bool) (w:World) (hv:ef w v l)
  (hp:∀ i (hi:i<l.length) (x:Value) (_:aX w x l[i]) W,Below w.heap.size w W->Calls Tryz.prog g (#[x]++lb) W fun e W'=>e=.returned (.bool (p i))/\Below W.heap.size W W') :
  Calls Tryz.prog 108 #[v,.func (.func g) #[] lb] w fun e w'=>e=.returned (.bool (anyLt l.length p))/\Below w.heap.size w w':=by
 have hc:=zL g lb eg v l p w hv hp;have HA:=aa (pR l.length p);generalize firstIx l.length p=r at hc HA;have HC:=aa hc;clear hc hp
 go_enter Tryz.func108,Tryz.ntmps108
 go_wp2_with fail
 refine HC.o.mono ?_;rintro e w1 ⟨rfl,aM⟩
 go_wp2_with fail
 go_ret
 exact⟨aR HA.o,aM⟩
end Go.Proofs.YtmeaoneaephjeaaGreatDoor
namespace Go.Proofs.YtmeaoneaephjeaaGreatDoor
open Go.RowKit Go Go.Shelf
def Ts(w:World) (v:Value) (xs:List Value):Prop:=
 ∃ a cap,v=.slice a xs.length cap/\(a=none->xs.length=0/\cap=0)/\(∀ i x,xs[i]?=some x->∃ b off,a=some ⟨b,off,none⟩/\w.cell? ⟨b,off+i,none⟩=some x)/\∀ x∈xs,x.oneCell'=true
theorem Tryz.infoInt:(Tryz.prog.info? 3).map (fun i=>(i.zero,i.size,i.bytes))=some (some (.int .i64 0),1,8):=by kernel_rfl
theorem Tryz.infoInts:(Tryz.prog.info? 38).map (fun i=>(i.zero,i.size,i.bytes))=some (some (.slice none 0 0),1,24):=by kernel_rfl
theorem xN(v:Value) (xs:List Value) (w:World) (hv:Ts w v xs) (hn:xs.length<=1099511627776) :
  Calls Tryz.prog 195 #[v] w fun e w'=>∃ u,e=.returned u/\w'.ownsRow w.heap.size 3 1 u xs.length xs/\Below w.heap.size w w':=by
 obtain⟨a,cap,rfl,ha,hc,h1⟩:=hv;obtain⟨i0,hi,cC,bY,cD⟩:=info_parts Tryz.infoInt;cases a with
 | none=>
  obtain⟨hl,rfl⟩:=ha rfl;obtain rfl:xs=[]:=List.eq_nil_of_length_eq_zero hl;have jX:=fun w=>Lib.run_eql_slice_nil (P:=Tryz.prog) w 38
  go_enter Tryz.func195,Tryz.ntmps195
  go_wp2_with fail
  go_ret
  exact⟨_,rfl,World.ownsRow_nil _ _ _ _,Below.refl _ _⟩
 | some ad=>
  have jX:=fun w=>Lib.run_eql_slice_nil (P:=Tryz.prog) w 38
  have bS:∀ j u,xs[j]?=some u->(w.alloc (.cells #[] 3)).cell? (ad.add j)=some u:=fun j u hj=>by
   obtain⟨b,off,e,eK⟩:=hc j u hj;cases e;have:(Addr.add ⟨b,off,none⟩ j)=⟨b,off+j,none⟩:=by unfold Addr.add;split<;>simp_all
   rw[this];exact ak (by go_grown) eK
  have bg:(w.alloc (.cells #[] 3)).ownsRow w.heap.size 3 1 (.slice (some ⟨w.heap.size,0,none⟩) 0 0) 0 []:=⟨by simp,.inr ⟨w.heap.size,0,#[],rfl,Nat.le_refl _,aq _ _,by omega,by simp[maxLen],by simp,by simp⟩⟩;have bE:=aa bS;have bO:=aa bg;have H1:=aa h1;clear bS bg h1 hc ha
  go_enter Tryz.func195,Tryz.ntmps195
  go_wp2_with (at_builtin;refine wpList_append_own _ rfl (.tmp 5) (.tmp 6) 38 rfl w.heap.size 3 i0 (.int .i64 0) 1 8 Tryz.underlying38 hi cC bY cD rfl (by decide) _ 0 [] rfl bO.o ad xs.length cap xs rfl (by simp) bE.o H1.o (by unfold maxLen;omega) (by omega) (by simp) ?_;intro v' w1 gM lA _)
  go_ret
  refine⟨_,rfl,by simpa using gM,Below.grown (w:=w.alloc (.cells #[] 3)) (by go_grown) lA (by simp) (fun k hk=>?_)⟩;cases hk;exact Nat.le_refl _
theorem Gn{w:World} {v:Value} {α:Type} {k:Nat} {R:World->Nat->Nat->α->Prop} {l:List α} (h:fe k R w v l):v.oneCell'=true:=by
 obtain⟨a,cap,rfl,_⟩:=h;rfl
theorem zU{w:World} {v:Value} {l:List Int} (h:aX w v l):Ts w v (l.map (Value.int .i64)):=by
 obtain⟨a,cap,rfl,h1,h2,h3⟩:=h;refine⟨a,cap,by simp,fun e=>?_,fun i x hx=>?_,fun x hx=>?_⟩
 ·have:=h1.2.2 e;exact⟨by rw[List.length_map];omega,this⟩
 ·simp only[List.getElem?_map,Option.map_eq_some_iff]at hx;obtain⟨y,hy,rfl⟩:=hx;obtain⟨b,off,ha,hr⟩:=h3 i y hy;exact⟨b,off,ha,by have:=hr.1;rwa [Nat.mul_one]at this⟩
 ·obtain⟨y,_,rfl⟩:=List.mem_map.1 hx;rfl
theorem sw{w:World} {base:Nat} {e:TypeId} {v:Value} {n:Nat} {xs:List Value} (h:w.ownsRow base e 1 v n xs):∃ a cap,v=.slice a n cap/\n<=cap/\cap<=9223372036854775807/\(a=none->cap=0)/\xs.length=n/\∀ i x,xs[i]?=some x->∃ b,a=some ⟨b,0,none⟩/\w.cell? ⟨b,i,none⟩=some x:=by
 obtain⟨hl,h⟩:=h;rw[Nat.mul_one]at hl;rcases h with ⟨rfl,rfl⟩|⟨g,cap,cur,rfl,hg,hb,hn,hm,hs,ht⟩
 ·exact⟨none,0,rfl,by omega,by omega,fun _=>rfl,hl,fun i x hx=>by have:=(List.getElem?_eq_some_iff.1 hx).1;omega⟩
 ·refine⟨_,cap,rfl,hn,by simpa[maxLen] using hm,(fun e=>(by cases e)),hl,fun i x hx=>⟨g,rfl,?_⟩⟩;rw[ab hb,<-hx,<-ht,Nat.mul_one];have hi:=(List.getElem?_eq_some_iff.1 hx).1;rw[List.getElem?_take_of_lt (by omega)];simp
theorem Hi{w:World} {v:Value} {l:List Int} (h:aX w v l):∀ x∈l,bT x:=fun x hx=>by
 obtain⟨a,cap,rfl,_,_,h3⟩:=h;obtain⟨i,hi,rfl⟩:=List.getElem_of_mem hx;obtain⟨b,off,_,hr⟩:=h3 i _ (List.getElem?_eq_getElem hi);exact hr.2
theorem Kf(x most:Int) (B:Nat) (W:World) (hc:W.cell? ⟨B,0,none⟩=some (.int .i64 most)) :
  Calls Tryz.prog 202 #[.int .i64 x,.pointer (some ⟨B,0,none⟩)] W fun e W'=>e=.returned (.bool (decide (x<0) || decide (most<=x)))/\Below W.heap.size W W':=by
 by_cases hx:x<0
 ·go_enter Tryz.func202,Tryz.ntmps202
  go_wp2
  go_ret
  exact⟨aR (by simp[hx]),Below.refl _ _⟩
 ·go_enter Tryz.func202,Tryz.ntmps202
  go_wp2
  go_ret
  exact⟨aR (by simp;omega),Below.refl _ _⟩
theorem BP(v:Value) (l:List Int) (n most:Int) (w:World) (hv:aX w v l) :
  Calls Tryz.prog 169 #[v,.int .i64 n,.int .i64 most] w fun e w'=>e=.returned (.int .i64 (vectorE l n most))/\Below w.heap.size w w':=by
 have aJ:Below w.heap.size w (w.alloc (.cells #[.int .i64 most] 3)):=by go_grown
 have Eu:=kl 202 #[.pointer (some ⟨w.heap.size,0,none⟩)] (enters_of Tryz.func202 (by kernel_rfl) rfl) v l (fun i=>decide (l.getD i 0<0) || decide (most<=l.getD i 0))
  (w.alloc (.cells #[.int .i64 most] 3)) (hv.up up_int aJ) (fun i hi W hW=>by
   rw[aA 0 hi]
   exact Kf _ _ _ _ (ak hW (by simp[ab (aq _ _)])))
 have HV:am (vectorE l n most=if (l.length:Int)≠n then 15 else if anyLt l.length (fun i=>decide (l.getD i 0<0) || decide (most<=l.getD i 0)) then 2 else 0):=by exact rfl
 generalize anyLt l.length (fun i=>decide (l.getD i 0<0) || decide (most<=l.getD i 0))=r at Eu HV;have HC:=aa Eu;clear Eu;obtain⟨pa,ca,rfl,la1,la2,_⟩:=hv.at;clear hv;by_cases hl:(l.length:Int)=n
 ·have ij:((l.length:Int) != n)=false:=by simp[hl]
  have HL:=aa hl;clear hl;cases r with
  | true=>
   go_enter Tryz.func169,Tryz.ntmps169
   go_wp2_with fail
   refine HC.o.mono ?_;rintro e w1 ⟨rfl,aM⟩
   go_wp2_with fail
   go_ret
   exact⟨aF (by rw[HV.o,if_neg (by simpa using HL.o)];rfl),ae aJ aM⟩
  | false=>
   go_enter Tryz.func169,Tryz.ntmps169
   go_wp2_with fail
   refine HC.o.mono ?_;rintro e w1 ⟨rfl,aM⟩
   go_wp2_with fail
   go_ret
   exact⟨aF (by rw[HV.o,if_neg (by simpa using HL.o)];rfl),ae aJ aM⟩
 ·have ij:((l.length:Int) != n)=true:=by simp[hl]
  go_enter Tryz.func169,Tryz.ntmps169
  go_wp2_with fail
  go_ret
  exact⟨aF (by rw[HV.o,if_pos hl]),aJ⟩
theorem wS(v:Value) (l:List (List Int)) (i:Nat) (hi:i<l.length) (w:World) (hv:ef w v l) :
  Calls Tryz.prog 204 #[v,.int .i64 i] w fun e w'=>e=.returned (.bool (unordB l i))/\Below w.heap.size w w':=by
 obtain⟨pa,ca,rfl,la1,la2,ea⟩:=hv.at;clear hv;by_cases h0:0<i
 ·obtain⟨j,rfl⟩:∃ j,i=j+1:=⟨i - 1,by omega⟩;have hj:j<l.length:=by omega
  obtain⟨b1,o1,rfl,x1,c1,h1⟩:=ea j hj;obtain⟨b2,o2,e2,x2,c2,h2⟩:=ea (j+1) hi;obtain⟨rfl,rfl⟩:b1=b2/\o1=o2:=by simpa using e2
  clear e2 ea;rw[Nat.mul_one]at c1 c2
  have HU:am (unordB l (j+1)=decide (0<=ordV l[j] l[j+1])):=by
   have h:unordB l (j+1)=decide (0<=ordV l[j] l[j+1]):=by
    unfold unordB;rw[Nat.add_sub_cancel,aA [] hj,aA [] hi];simp
   exact h
  generalize l[j]=y1 at h1 HU;generalize l[j+1]=y2 at h2 HU;have d1:∀ x:ExtW w,x.val.cell? ⟨b1,o1+j,none⟩=some x1:=fun x=>x.cell c1
  have d2:∀ x:ExtW w,x.val.cell? ⟨b1,o1+(j+1),none⟩=some x2:=fun x=>x.cell c2
  have fi:∀ x:ExtW w,Calls Tryz.prog 170 #[x1,x2] x.val fun e w''=>e=.returned (.int .i64 (ordV y1 y2))/\∃ p:ExtW w,w''=p.val:=
   fun x=>Calls.ext_of (qR _ _ _ _ _ (h1.up up_int x.ext) (h2.up up_int x.ext))
  have bW:=aa fi;clear fi;clear c1 c2 h1 h2;have Ur:IntKind.i64.wrap (j:Int)=(j:Int):=IntWalk.i64_in _ (by omega);have xp:(0:Int)<=(j:Int)+1:=by omega
  have FR:(j:Int)+1<(l.length:Int):=by omega
  have AC:((j:Int)+1).toNat=j+1:=by omega
  go_enter Tryz.func204,Tryz.ntmps204
  go_wp2_with fail
  refine aE (by kernel_rfl) (by kernel_rfl) ?_
  repeat (quiet_step ((go_at_call 170;exact bW.o _)))
  refine wpQuiet_nil ?_;intro _ eD;obtain⟨xq,dg⟩:=eD;subst dg
  go_wp2_with fail
  go_ret
  exact⟨aR HU.o.symm,xq.ext⟩
 ·obtain rfl:i=0:=by omega
  go_enter Tryz.func204,Tryz.ntmps204
  go_wp2_with fail
  go_quiet (fail)
  go_wp2_with fail
  go_ret
  exact⟨aR (by simp[unordB]),eE (Below.refl _ _) _⟩
theorem Re(x:Value) (v:Value) (y z:List Int) (B:Nat) (W:World) (hc:W.cell? ⟨B,0,none⟩=some v) (hx:aX W x y) (hv:aX W v z) :
  Calls Tryz.prog 214 #[x,.pointer (some ⟨B,0,none⟩)] W fun e W'=>e=.returned (.bool (eqV y z))/\Below W.heap.size W W':=by
 have HC:=aa (jo x v y z W hx hv);obtain⟨_,_,rfl,_⟩:=hv;clear hx
 go_enter Tryz.func214,Tryz.ntmps214
 go_wp2_with fail
 refine HC.o.mono ?_;rintro e w1 ⟨rfl,aM⟩
 go_wp2_with fail
 go_ret
 exact⟨rfl,aM⟩
theorem US(v:Value) (l:List (List Int)) (x:Value) (y:List Int) (w:World) (hv:ef w v l) (hx:aX w x y) :
  Calls Tryz.prog 205 #[v,x] w fun e w'=>e=.returned (.bool (hasV l y))/\Below w.heap.size w w':=by
 have aJ:Below w.heap.size w (w.alloc (.cells #[x] 38)):=by go_grown
 have Eu:=vW 214 #[.pointer (some ⟨w.heap.size,0,none⟩)] (enters_of Tryz.func214 (by kernel_rfl) rfl) v l (fun i=>eqV (l.getD i []) y)
  (w.alloc (.cells #[x] 38)) (hv.up up_ints aJ) (fun i hi z hz W hW=>by
   rw[aA [] hi]
   exact Re _ _ _ _ _ _ (ak hW (by simp[ab (aq _ _)])) (hz.up up_int hW) ((hx.up up_int aJ).up up_int hW))
 have HC:=aa Eu;clear Eu;obtain⟨_,_,rfl,_⟩:=hx;clear hv
 go_enter Tryz.func205,Tryz.ntmps205
 go_wp2_with fail
 refine HC.o.mono ?_;rintro e w1 ⟨rfl,aM⟩
 go_wp2_with fail
 go_ret
 exact⟨rfl,ae aJ aM⟩
theorem zV(t:Tk) (pc:Option Addr) (nc cc:Nat) (c:Cs) (x0 x1 x2:Value) (w:World) (h0:aX w x0 c.inp) (h1:ef w x1 c.out) (h2:ef w x2 c.calm) :
  Calls Tryz.prog 171 #[.agg #[.int .i64 t.n,.int .i64 t.ins,.int .i64 t.outs,.slice pc nc cc],.agg #[x0,x1,x2]] w fun e w'=>e=.returned (.int .i64 (vectorsE t c))/\Below w.heap.size w w':=by
 have G1:=aa h1;have G2:=aa h2;obtain⟨p0,c0,rfl,_⟩:=h0;obtain⟨p1,c1,rfl,l1,m1,e1⟩:=h1.at;obtain⟨p2,c2,rfl,l2,m2,e2⟩:=h2.at;have E1:=aa e1;have E2:=aa e2;clear h1 h2 e1 e2;by_cases hl:c.out.length<1\/1024<c.out.length
 ·have HV:am (vectorsE t c=5):=by(have h:vectorsE t c=5:=by(unfold vectorsE;rw[if_pos hl]));exact h
  rcases hl with hl|hl
  ·go_enter Tryz.func171,Tryz.ntmps171
   go_wp2_with fail
   go_ret
   exact⟨aF HV.o.symm,by go_grown⟩
  ·go_enter Tryz.func171,Tryz.ntmps171
   go_wp2_with fail
   go_ret
   exact⟨aF HV.o.symm,by go_grown⟩
 have ij:1<=c.out.length:=by omega
 have nm:c.out.length<=1024:=by omega
 have HV:am (vectorsE t c=if bm c.out.length (jf t c)≠0 then bm c.out.length (jf t c) else bm c.calm.length (iX c)):=by
  have h:vectorsE t c=if bm c.out.length (jf t c)≠0 then bm c.out.length (jf t c) else bm c.calm.length (iX c):=by unfold vectorsE;rw[if_neg hl]
  exact h
 clear hl
 go_enter Tryz.func171,Tryz.ntmps171
 go_wp2_with fail
 refine bF (fun W=>Below w.heap.size w W/\W.heap[w.heap.size]?=some (.cells #[.int .i64 t.n,.int .i64 t.ins,.int .i64 t.outs,.slice pc nc cc] 24)/\W.heap[w.heap.size+1]?=some (.cells #[.slice p0 c.inp.length c0,.slice p1 c.out.length c1,.slice p2 c.calm.length c2] 135))
  ⟨by go_grown,az _ (aq _ _),by simpa using aq (w.alloc (.cells #[.int .i64 t.n,.int .i64 t.ins,.int .i64 t.outs,.slice pc nc cc] 24)) _⟩ (fun W0 bh=>?_)
 obtain⟨aJ,hT,hC⟩:=bh;have HT:=aa hT;clear hT;have HC:=aa hC;clear hC
 go_loopw [23] (fun i wr=>Below W0.heap.size W0 wr/\∃ k:Nat,k<=c.out.length/\i=.int .i64 k/\∀ j,j<k->jf t c j=0) (fun i _=>c.out.length - (intOf i).toNat)
 ·exact⟨Below.refl _ _,0,by omega,rfl,by simp⟩
 ·
  obtain⟨aB,k,hk,rfl,aV⟩:=hrel;have H:=aa aV;clear aV;have t1:=ab (af aB HT.o);have t2:=ab (af aB HC.o);by_cases aD:k<c.out.length
  ·obtain⟨b1,o1,rfl,x,cx,hx⟩:=E1.o k aD;rw[Nat.mul_one]at cx;have d1:=ak (ae aJ aB) cx;have HX:=aa (hx.up up_int (ae aJ aB));obtain⟨px,qx,rfl,_⟩:=hx;clear cx
   go_wp2_with fail
   refine(BP _ _ _ _ _ HX.o).mono ?_;rintro e w1 ⟨rfl,aM⟩
   have HO:am (jf t c k=if vectorE c.out[k] t.n t.outs≠0 then vectorE c.out[k] t.n t.outs else if unordB c.out k then 14 else 0):=by
    have h:jf t c k=if vectorE c.out[k] t.n t.outs≠0 then vectorE c.out[k] t.n t.outs else if unordB c.out k then 14 else 0:=by unfold jf;rw[aA [] aD]
    exact h
   generalize vectorE c.out[k] t.n t.outs=ev at HO;by_cases mq:ev=0
   ·subst mq;have s1:=ab (af (ae aB aM) HT.o);have s2:=ab (af (ae aB aM) HC.o);clear t1 t2 d1
    go_wp2_with fail
    refine(wS _ _ k aD _ (G1.o.up up_ints (ae (ae aJ aB) aM))).mono ?_;rintro e w2 ⟨rfl,aY⟩;generalize unordB c.out k=u at HO;cases u with
    | true=>
     go_wp2_with fail
     go_ret
     exact⟨aF (by rw[HV.o,<-bU k 14 aD H.o (by rw[HO.o];rfl) (by decide)];rfl),ae (ae (ae aJ aB) aM) aY⟩
    | false=>
     go_wp2_with fail
     go_roundw
     ·exact⟨ae (ae aB aM) aY,k+1,by omega,by go_num,aW H.o (by rw[HO.o];rfl)⟩
     ·simp[intOf];omega
   ·have hev':(ev != 0)=true:=by simpa using mq
    go_wp2_with fail
    go_ret
    exact⟨aF (by rw[HV.o,<-bU k ev aD H.o (by rw[HO.o,if_pos mq]) mq,if_pos mq]),ae (ae aJ aB) aM⟩
  ·have df:am (vectorsE t c=bm c.calm.length (iX c)):=by
    have h:vectorsE t c=bm c.calm.length (iX c):=by rw[HV.o,cT _ _ (fun j hj=>H.o j (by omega))];simp
    exact h
   go_wp2_with fail
   clear t1 t2;have dD:=ae aJ aB;obtain⟨W1,cO⟩:∃ W1:World,W1=wr:=⟨_,rfl⟩;rw[<-cO]at aB dD ⊢;clear cO wr
   go_loopw [45] (fun i wr=>Below W1.heap.size W1 wr/\∃ k:Nat,k<=c.calm.length/\i=.int .i64 k/\∀ j,j<k->iX c j=0) (fun i _=>c.calm.length - (intOf i).toNat)
   ·exact⟨Below.refl _ _,0,by omega,rfl,by simp⟩
   ·
    obtain⟨jW,q,hq,rfl,pZ⟩:=hrel;have H2:=aa pZ;clear pZ;have t2:=ab (af (ae aB jW) HC.o);by_cases AO:q<c.calm.length
    ·obtain⟨b1,o1,rfl,x,cx,hx⟩:=E2.o q AO;rw[Nat.mul_one]at cx;have d1:=ak (ae dD jW) cx;have HX:=aa (hx.up up_int (ae dD jW));obtain⟨px,qx,rfl,_⟩:=hx;clear cx
     go_wp2_with fail
     refine(US _ _ _ _ _ (G1.o.up up_ints (ae dD jW)) HX.o).mono ?_;rintro e w1 ⟨rfl,aM⟩
     have HO:am (iX c q=if hasV c.out c.calm[q] then(if unordB c.calm q then 14 else 0) else 6):=by
      have h:iX c q=if hasV c.out c.calm[q] then(if unordB c.calm q then 14 else 0) else 6:=by unfold iX;rw[aA [] AO]
      exact h
     generalize hasV c.out c.calm[q]=ev at HO;cases ev with
     | true=>
      have s2:=ab (af (ae (ae aB jW) aM) HC.o);clear t2 d1
      go_wp2_with fail
      refine(wS _ _ q AO _ (G2.o.up up_ints (ae (ae dD jW) aM))).mono ?_;rintro e w2 ⟨rfl,aY⟩;generalize unordB c.calm q=u at HO;cases u with
      | true=>
       go_wp2_with fail
       go_ret
       exact⟨aF (by rw[df.o,<-bU q 14 AO H2.o (by rw[HO.o];rfl) (by decide)]),ae (ae (ae dD jW) aM) aY⟩
      | false=>
       go_wp2_with fail
       go_roundw
       ·exact⟨ae (ae jW aM) aY,q+1,by omega,by go_num,aW H2.o (by rw[HO.o];rfl)⟩
       ·simp[intOf];omega
     | false=>
      go_wp2_with fail
      go_ret
      exact⟨aF (by rw[df.o,<-bU q 6 AO H2.o (by rw[HO.o];rfl) (by decide)]),ae (ae dD jW) aM⟩
    ·go_wp2_with fail
     go_ret
     exact⟨aF (by rw[df.o,cT];intro j hj;exact H2.o j (by omega)),ae dD jW⟩
theorem qK(t:Tk) (vc:Value) (w:World) (hv:bN w vc t.cases) :
  Calls Tryz.prog 124 #[.agg #[.int .i64 t.n,.int .i64 t.ins,.int .i64 t.outs,vc]] w fun e w'=>e=.returned (.int .i64 (taskE t))/\Below w.heap.size w w':=by
 have G:=aa hv;obtain⟨pc,cc,rfl,l1,m1,e1⟩:=hv.at;clear hv;have E:=aa e1;clear e1;by_cases hr:t.n<1\/5<t.n\/t.ins<1\/8<t.ins\/t.outs<1\/8<t.outs
 ·have HV:am (taskE t=2):=by(have h:taskE t=2:=by(unfold taskE;rw[if_pos hr]));exact h
  by_cases r1:t.n<1
  ·go_enter Tryz.func124,Tryz.ntmps124
   go_wp2_with fail
   go_ret;exact⟨aF HV.o.symm,by go_grown⟩
  by_cases r2:5<t.n
  ·go_enter Tryz.func124,Tryz.ntmps124
   go_wp2_with fail
   go_ret;exact⟨aF HV.o.symm,by go_grown⟩
  by_cases r3:t.ins<1
  ·go_enter Tryz.func124,Tryz.ntmps124
   go_wp2_with fail
   go_ret;exact⟨aF HV.o.symm,by go_grown⟩
  by_cases r4:8<t.ins
  ·go_enter Tryz.func124,Tryz.ntmps124
   go_wp2_with fail
   go_ret;exact⟨aF HV.o.symm,by go_grown⟩
  by_cases r5:t.outs<1
  ·go_enter Tryz.func124,Tryz.ntmps124
   go_wp2_with fail
   go_ret;exact⟨aF HV.o.symm,by go_grown⟩
  ·have r6:8<t.outs:=by omega
   clear hr
   go_enter Tryz.func124,Tryz.ntmps124
   go_wp2_with fail
   go_ret;exact⟨aF HV.o.symm,by go_grown⟩
 have r1:1<=t.n:=by omega
 have r2:t.n<=5:=by omega
 have r3:1<=t.ins:=by omega
 have r4:t.ins<=8:=by omega
 have r5:1<=t.outs:=by omega
 have r6:t.outs<=8:=by omega
 by_cases hl:t.cases.length<1\/1024<t.cases.length
 ·have HV:am (taskE t=5):=by(have h:taskE t=5:=by(unfold taskE;rw[if_neg hr,if_pos hl]));exact h
  clear hr;rcases hl with hl|hl
  ·go_enter Tryz.func124,Tryz.ntmps124
   go_wp2_with fail
   go_ret;exact⟨aF HV.o.symm,by go_grown⟩
  ·go_enter Tryz.func124,Tryz.ntmps124
   go_wp2_with fail
   go_ret;exact⟨aF HV.o.symm,by go_grown⟩
 have ij:1<=t.cases.length:=by omega
 have nm:t.cases.length<=1024:=by omega
 have HV:am (taskE t=bm t.cases.length (eW t)):=by(have h:taskE t=bm t.cases.length (eW t):=by(unfold taskE;rw[if_neg hr,if_neg hl]));exact h
 clear hr hl
 go_enter Tryz.func124,Tryz.ntmps124
 go_wp2_with fail
 refine bF (fun W=>Below w.heap.size w W/\W.heap[w.heap.size]?=some (.cells #[.int .i64 t.n,.int .i64 t.ins,.int .i64 t.outs,.slice pc t.cases.length cc] 24))
  ⟨by go_grown,aq _ _⟩ (fun W0 bh=>?_)
 obtain⟨aJ,hT⟩:=bh;have HT:=aa hT;clear hT
 go_loopw [46] (fun i wr=>Below W0.heap.size W0 wr/\∃ k:Nat,k<=t.cases.length/\i=.int .i64 k/\∀ j,j<k->eW t j=0) (fun i _=>t.cases.length - (intOf i).toNat)
 ·exact⟨Below.refl _ _,0,by omega,rfl,by simp⟩
 ·
  obtain⟨aB,k,hk,rfl,aV⟩:=hrel;have H:=aa aV;clear aV;have t1:=ab (af aB HT.o);have dD:=ae aJ aB;by_cases aD:k<t.cases.length
  ·obtain⟨b1,o1,rfl,⟨x0,cx0,dq⟩,⟨x1,cx1,dA⟩,⟨x2,cx2,dW⟩⟩:=E.o k aD;have d0:=ak dD cx0;have d1:=ak dD cx1;have d2:=ak dD cx2;have yV:=aa dq;have kJ:=aa dA;have fY:=aa dW;obtain⟨p0,q0,rfl,_⟩:=dq;obtain⟨p1,q1,rfl,_⟩:=dA;obtain⟨p2,q2,rfl,_⟩:=dW;clear cx0 cx1 cx2;have eM:=aC (af aB HT.o)
   go_wp2_with fail
   refine aQ (fun W=>Below wr.heap.size wr W/\W.heap[wr.heap.size]?=some (.cells #[.slice p0 t.cases[k].inp.length q0,.slice p1 t.cases[k].out.length q1,.slice p2 t.cases[k].calm.length q2] 135)) ⟨by go_grown,aq _ _⟩ (fun V hV=>?_);obtain⟨kU,hC⟩:=hV;have HC:=aa hC;clear hC;have T5:=ae dD kU;refine(BP _ _ _ _ _ (yV.o.up up_int T5)).mono ?_;rintro e w1 ⟨rfl,aM⟩
   have HO:am (eW t k=if vectorE t.cases[k].inp t.n t.ins≠0 then vectorE t.cases[k].inp t.n t.ins else if 0<k/\0<=ordV (t.cases.getD (k - 1) default).inp t.cases[k].inp then 14 else vectorsE t t.cases[k]):=by
    have h:eW t k=if vectorE t.cases[k].inp t.n t.ins≠0 then vectorE t.cases[k].inp t.n t.ins else if 0<k/\0<=ordV (t.cases.getD (k - 1) default).inp t.cases[k].inp then 14 else vectorsE t t.cases[k]:=by unfold eW;rw[aA default aD]
    exact h
   generalize vectorE t.cases[k].inp t.n t.ins=ev at HO;have jc:=ae T5 aM;by_cases mq:ev=0
   case neg=>
    have hev':(ev != 0)=true:=by simpa using mq
    go_wp2_with fail
    go_ret
    exact⟨aF (by rw[HV.o,<-bU k ev aD H.o (by rw[HO.o,if_pos mq]) mq]),jc⟩
   subst mq;have yN:=ae kU aM;have s1:=ab (af (ae aB yN) HT.o);have s2:=ab (af aM HC.o);clear t1 d0 d1 d2 eM
   go_wp2_with fail
   by_cases eZ:k=0
   ·have eO:am (eW t k=vectorsE t t.cases[k]):=by(have h:eW t k=vectorsE t t.cases[k]:=by(rw[HO.o,if_neg (by simp),if_neg (by omega)]));exact h
    have hd:decide ((0:Int)<(k:Int))=false:=by simp;omega
    have gB:decide (0<k)=false:=by simp;omega
    clear HO eZ;refine aE (by kernel_rfl) (by kernel_rfl) ?_
    repeat (go_big_quiet_step (fail))
    refine wpQuiet_nil ?_;intro _ eD;obtain⟨xq,dg⟩:=eD;subst dg;have r1':=ab (af (ae (ae aB yN) xq.ext) HT.o);have r2':=ab (af (ae aM xq.ext) HC.o);clear s1 s2 hd gB;have sZ:=ae jc xq.ext
    go_wp2_with fail
    refine(zV t _ _ _ t.cases[k] _ _ _ _ (yV.o.up up_int sZ) (kJ.o.up up_ints sZ) (fY.o.up up_ints sZ)).mono ?_;rintro e w2 ⟨rfl,aY⟩;generalize vectorsE t t.cases[k]=e2 at eO;by_cases AU:e2=0
    ·subst AU
     go_wp2_with fail
     go_roundw
     ·exact⟨ae (ae (ae aB yN) xq.ext) aY,k+1,by omega,by go_num,aW H.o eO.o⟩
     ·simp[intOf];omega
    ·have he2':(e2 != 0)=true:=by simpa using AU
     go_wp2_with fail
     go_ret
     exact⟨aF (by rw[HV.o,<-bU k e2 aD H.o eO.o AU]),ae sZ aY⟩
   ·obtain⟨j,hj⟩:∃ j,k=j+1:=⟨k - 1,by omega⟩;have fJ:j<t.cases.length:=by omega
    have HJ:=aa hj;obtain⟨b2,o2,e2,⟨y0,cy0,jb⟩,_⟩:=E.o j fJ;obtain⟨rfl,rfl⟩:b1=b2/\o1=o2:=by simpa using e2
    clear e2;have hd:decide ((0:Int)<(k:Int))=true:=by simp;omega
    have gB:0<k:=by omega
    have gy:am (eW t k=if 0<=ordV t.cases[j].inp t.cases[k].inp then 14 else vectorsE t t.cases[k]):=by
     have h:eW t k=if 0<=ordV t.cases[j].inp t.cases[k].inp then 14 else vectorsE t t.cases[k]:=by
      rw[HO.o,if_neg (by simp)];have e:k - 1=j:=by omega
      rw[e,aA default fJ]
      grind
     exact h
    clear HO eZ hj;have jx:IntKind.i64.wrap ((k:Int) - 1)=(j:Int):=by rw[HJ.o];rw[IntWalk.i64_in _ (by omega)];omega
    have q1:∀ x:ExtW w1,∀ o,x.val.cell? ⟨w.heap.size,o,none⟩=_:=fun x=>ab (af (ae (ae aB yN) x.ext) HT.o)
    have q2:∀ x:ExtW w1,∀ o,x.val.cell? ⟨wr.heap.size,o,none⟩=_:=fun x=>ab (af (ae aM x.ext) HC.o)
    have q3:∀ x:ExtW w1,x.val.cell? ⟨b1,o1+j * 3,none⟩=some y0:=fun x=>x.cell (ak jc cy0)
    have fi:∀ x:ExtW w1,Calls Tryz.prog 170 #[y0,.slice p0 t.cases[k].inp.length q0] x.val fun e w''=>e=.returned (.int .i64 (ordV t.cases[j].inp t.cases[k].inp))/\∃ p:ExtW w1,w''=p.val:=
     fun x=>Calls.ext_of (qR _ _ _ _ _ (jb.up up_int (ae jc x.ext)) (yV.o.up up_int (ae jc x.ext)))
    have bW:=aa fi;clear fi;have Ua:=aa jb;clear jb cy0;generalize ordV t.cases[j].inp t.cases[k].inp=oo at bW gy;clear s1 s2;refine aE (by kernel_rfl) (by kernel_rfl) ?_
    repeat (go_big_quiet_step ((go_at_call 170;exact bW.o _)))
    refine wpQuiet_nil ?_;intro _ eD;obtain⟨xq,dg⟩:=eD;subst dg;have r1':=q1 xq;have r2':=q2 xq;clear q1 q2 q3 hd gB;have sZ:=ae jc xq.ext;by_cases qW:0<=oo
    ·go_wp2_with fail
     go_ret
     exact⟨aF (by rw[HV.o,<-bU k 14 aD H.o (by rw[gy.o,if_pos qW]) (by decide)]),sZ⟩
    ·have eO:am (eW t k=vectorsE t t.cases[k]):=by(have h:eW t k=vectorsE t t.cases[k]:=by(rw[gy.o,if_neg qW]));exact h
     clear gy
     go_wp2_with fail
     refine(zV t _ _ _ t.cases[k] _ _ _ _ (yV.o.up up_int sZ) (kJ.o.up up_ints sZ) (fY.o.up up_ints sZ)).mono ?_;rintro e w2 ⟨rfl,aY⟩;generalize vectorsE t t.cases[k]=e2 at eO;by_cases AU:e2=0
     ·subst AU
      go_wp2_with fail
      go_roundw
      ·exact⟨ae (ae (ae aB yN) xq.ext) aY,k+1,by omega,by go_num,aW H.o eO.o⟩
      ·simp[intOf];omega
     ·have he2':(e2 != 0)=true:=by simpa using AU
      go_wp2_with fail
      go_ret
      exact⟨aF (by rw[HV.o,<-bU k e2 aD H.o eO.o AU]),ae sZ aY⟩
  ·go_wp2_with fail
   go_ret
   exact⟨aF (by rw[HV.o,cT];intro j hj;exact H.o j (by omega)),dD⟩
theorem pH{w w':World} {base:Nat} {e:TypeId} {v:Value} {n:Nat} {xs:List Value} (h:w.ownsRow base e 1 v n xs) (hb:Below w.heap.size w w'):w'.ownsRow base e 1 v n xs:=by
 obtain⟨hl,h⟩:=h;refine⟨hl,?_⟩;rcases h with h|⟨g,cap,cur,h1,h2,h3,h4⟩
 ·exact .inl h
 ·exact .inr ⟨g,cap,cur,h1,h2,af hb h3,h4⟩
theorem zW{w w':World} {base base':Nat} {e e':TypeId} {u v:Value} {n m:Nat} {xs ys:List Value} (h:w.ownsRow base e 1 u n xs) (hv:w.ownsRow base' e' 1 v m ys) (bP:e≠e') (hg:w.grownBy w' v.ownBlock):w'.ownsRow base e 1 u n xs:=by
 obtain⟨hl,h⟩:=h;refine⟨hl,?_⟩;rcases h with h|⟨g,cap,cur,h1,h2,h3,h4⟩
 ·exact .inl h
 ·refine .inr ⟨g,cap,cur,h1,h2,(hg.block g (aC h3) (fun e1=>?_)).trans h3,h4⟩;rcases hv.2 with ⟨rfl,_⟩|⟨g',cap',cur',rfl,_,UA,_⟩
  ·cases e1
  ·cases e1
   rw[h3]at UA;cases UA;exact bP rfl
theorem DF{w:World} {base:Nat} {e:TypeId} {v:Value} {n:Nat} {xs:List Value} (h:w.ownsRow base e 1 v n xs):∀ g,v.ownBlock=some g->base<=g/\g<w.heap.size:=by
 intro g hg;rcases h.2 with ⟨rfl,_⟩|⟨g',cap,cur,rfl,h2,h3,_⟩
 ·cases hg
 ·cases hg;exact⟨h2,aC h3⟩
theorem sy{w:World} {base base':Nat} {e:TypeId} {v:Value} {n:Nat} {xs:List Value} (h:w.ownsRow base e 1 v n xs) (hb:base'<=base):w.ownsRow base' e 1 v n xs:=by
 obtain⟨hl,h⟩:=h;refine⟨hl,?_⟩;rcases h with h|⟨g,cap,cur,h1,h2,h3⟩
 ·exact .inl h
 ·exact .inr ⟨g,cap,cur,h1,Nat.le_trans hb h2,h3⟩
def qd(w:World) (base:Nat) (v:Value) (l:List (List Int)):Prop:=
 ∃ xs:List Value,w.ownsRow base 38 1 v l.length xs/\∀ i (hi:i<l.length) (hx:i<xs.length),w.ownsRow base 3 1 xs[i] l[i].length (l[i].map (Value.int .i64))
theorem Mb(v:Value) (l:List (List Int)) (w:World) (hv:ef w v l) (hn:l.length<=1099511627776) (oz:∀ x∈l,x.length<=1099511627776) :
  Calls Tryz.prog 173 #[v] w fun e w'=>∃ u,e=.returned u/\qd w' w.heap.size u l/\Below w.heap.size w w':=by
 have HR:=aa (fun i (hi:i<l.length)=>oz l[i] (List.getElem_mem hi));clear oz;obtain⟨pa,ca,rfl,la1,la2,ea⟩:=hv.at;clear hv;have EA:=aa ea;clear ea;obtain⟨i0,cY,cC,bY,cD⟩:=info_parts Tryz.infoInts
 go_enter Tryz.func173,Tryz.ntmps173
 go_wp2_with fail
 go_loopw [3,8] (fun o i wr=>Below w.heap.size w wr/\∃ k:Nat,k<=l.length/\i=.int .i64 k/\qd wr w.heap.size o (l.take k)) (fun _ i _=>l.length - (intOf i).toNat)
 ·exact⟨Below.refl _ _,0,by omega,rfl,[],by simpa using World.ownsRow_nil _ _ _ _,fun i hi=>by simp at hi⟩
 ·
  obtain⟨aB,k,hk,rfl,qZ⟩:=hrel;by_cases aD:k<l.length
  ·obtain⟨b1,o1,rfl,x,cx,hx⟩:=EA.o k aD;rw[Nat.mul_one]at cx;have d1:=ak aB cx;have HX:=aa (hx.up up_int aB);obtain⟨px,qx,rfl,_⟩:=hx;clear cx;obtain⟨xs,bg,jY⟩:=qZ;have mu:(l.take k).length=k:=by simp;omega
   rw[mu]at bg;have bO:=aa bg;have CN:=aa jY;have Ux:=aa mu;clear bg jY mu
   go_wp2_with fail
   refine(xN _ _ _ (zU HX.o) (by rw[List.length_map];exact HR.o k aD)).mono ?_;rintro e w1 ⟨u,rfl,hu,aM⟩;obtain⟨au,cu,rfl,_⟩:=sw hu;rw[List.length_map]at hu;rw[List.length_map];generalize hN:l[k].length=nn at hu ⊢;have HN:=aa hN;clear hN;have oV:=ae aB aM;have hA:Below w1.heap.size w1 (w1.alloc (.cells #[(Value.slice au nn cu)] 38)):=by go_grown
   have du:=aa (pH (pH bO.o aM) hA)
   have bS:∀ j u',[(Value.slice au nn cu)][j]?=some u'->(w1.alloc (.cells #[(Value.slice au nn cu)] 38)).cell? (Addr.add ⟨w1.heap.size,0,none⟩ j)=some u':=fun j u' hj=>by
    cases j with
    | zero=>simp at hj;subst hj;simp[Addr.add,ab (aq w1 _)]
    | succ j=>simp at hj
   have bE:=aa bS;have HU:=aa hu;clear bS hu d1;have ie:=oV.size
   go_wp2_with (at_builtin;(refine wpList_append_own _ rfl (.tmp 12) (.tmp 15) 56 rfl w.heap.size 38 i0 (.slice none 0 0) 1 24 Tryz.underlying56 cY cC bY cD rfl (by decide) _ k xs rfl du.o ⟨w1.heap.size,0,none⟩ 1 1 [(Value.slice au nn cu)] rfl rfl bE.o (by simp[Value.oneCell']) (by unfold maxLen;omega) (by omega) (by simp;omega) ?_;intro v' w2 fP dz _))
   go_roundw
   ·
    refine⟨Below.grown (w:=w1.alloc (.cells #[(Value.slice au nn cu)] 38)) (oV.alloc ie _) dz (by simp;omega) (fun g hg=>(DF bO.o g hg).1),k+1,by omega,by go_num,xs++[(Value.slice au nn cu)],?_,?_⟩
    ·rw[show (l.take (k+1)).length=k+1 by simp;omega];exact fP
    ·intro i hi hx;have iF:xs.length=k:=by have:=bO.o.1;omega
     by_cases kK:i<k
     ·have h1:=CN.o i (by rw[Ux.o];exact kK) (by omega);have h2:=zW (pH (pH h1 aM) hA) du.o (by decide) dz;simp only[List.getElem_take]at h2 ⊢
      rwa [List.getElem_append_left (by omega)]
     ·obtain rfl:i=k:=by simp at hi;omega
      have h2:=zW (sy (pH HU.o hA) aB.size) du.o (by decide) dz;simp only[List.getElem_take];rw[List.getElem_append_right (by omega)];obtain rfl:=HN.o;simpa using h2
   ·simp[intOf];omega
  ·go_wp2_with fail
   go_ret
   refine⟨_,rfl,?_,aB⟩
   rwa [List.take_of_length_le (by omega)]at qZ
theorem Hj(x0 x1 x2:Value) (c:Cs) (f:Int) (w:World) (h1:ef w x1 c.out) (h2:ef w x2 c.calm) :
  Calls Tryz.prog 109 #[.agg #[x0,x1,x2],.int .i64 f] w fun e w'=>∃ u,e=.returned u/\ef w' u (gg c f)/\Below w.heap.size w w':=by
 have H1:=aa h1;have H2:=aa h2;obtain⟨p1,q1,rfl,_⟩:=h1.at;obtain⟨p2,q2,rfl,m1,m2,_⟩:=h2.at;clear h1 h2;by_cases hf:f=0
 ·subst hf;by_cases hl:0<c.calm.length
  ·have HV:am (gg c 0=c.calm):=by(have h:gg c 0=c.calm:=by(unfold gg;rw[if_pos ⟨rfl,hl⟩]));exact h
   have hl':decide ((0:Int)<(c.calm.length:Int))=true:=by simp;omega
   go_enter Tryz.func109,Tryz.ntmps109
   go_wp2_with fail
   go_ret
   refine⟨_,rfl,?_,by go_grown⟩;rw[HV.o];exact H2.o.up up_ints (by go_grown)
  ·have HV:am (gg c 0=c.out):=by(have h:gg c 0=c.out:=by(unfold gg;rw[if_neg (fun h=>hl h.2)]));exact h
   have hl':decide ((0:Int)<(c.calm.length:Int))=false:=decide_eq_false (by omega)
   go_enter Tryz.func109,Tryz.ntmps109
   go_wp2_with fail
   go_ret
   refine⟨_,rfl,?_,by go_grown⟩;rw[HV.o];exact H1.o.up up_ints (by go_grown)
 ·have HV:am (gg c f=c.out):=by(have h:gg c f=c.out:=by(unfold gg;rw[if_neg (fun h=>hf h.1)]));exact h
  have hf':(f == 0)=false:=by simpa using hf
  go_enter Tryz.func109,Tryz.ntmps109
  go_wp2_with fail
  go_ret
  refine⟨_,rfl,?_,by go_grown⟩;rw[HV.o];exact H1.o.up up_ints (by go_grown)
theorem Oo{t:Tk} {i f:Int} (h:iO t i f=0):taskE t=0/\0<=i/\i.toNat<t.cases.length:=by
 unfold iO at h;split at h
 ·omega
 ·rename_i h1;split at h
  ·omega
  ·exact⟨by simpa using h1,by omega,by omega⟩
theorem Oq(t:Tk) (vc:Value) (i f:Int) (w:World) (hv:bN w vc t.cases) :
  Calls Tryz.prog 105 #[.agg #[.int .i64 t.n,.int .i64 t.ins,.int .i64 t.outs,vc],.int .i64 i,.int .i64 f] w fun e w'=>e=.returned (.int .i64 (iO t i f))/\Below w.heap.size w w':=by
 have G:=aa hv;obtain⟨pc,cc,rfl,l1,m1,_⟩:=hv.at;clear hv
 go_enter Tryz.func105,Tryz.ntmps105
 go_wp2_with fail
 refine aQ (fun W=>Below w.heap.size w W/\W.heap[w.heap.size]?=some (.cells #[.int .i64 t.n,.int .i64 t.ins,.int .i64 t.outs,.slice pc t.cases.length cc] 24)) ⟨by go_grown,aq _ _⟩ (fun W0 bh=>?_);obtain⟨aJ,bK⟩:=bh;refine(qK t _ W0 (G.o.up up_case aJ)).mono ?_;rintro e w1 ⟨rfl,aM⟩;have gl:=ae aJ aM;have t1:=ab (af aM bK);clear bK;by_cases oF:taskE t=0
 case neg=>
  have HV:am (iO t i f=taskE t):=by(have h:iO t i f=taskE t:=by(unfold iO;rw[if_pos oF]));exact h
  generalize taskE t=et at HV oF;have NU:(et != 0)=true:=by simpa using oF
  go_wp2_with fail
  go_ret
  exact⟨aF (by rw[HV.o]),gl⟩
 obtain⟨⟨n1,n2⟩,_⟩:=fp oF;have HV:am (iO t i f=if i<0\/(t.cases.length:Int)<=i then 6 else if f<0\/2 ^ t.n.toNat<=f then 2 else 0):=by(have h:iO t i f=if i<0\/(t.cases.length:Int)<=i then 6 else if f<0\/2 ^ t.n.toNat<=f then 2 else 0:=by(unfold iO;rw[if_neg (by simpa using oF)]));exact h
 rw[oF];clear oF;generalize t.n=n at *;have:n=1\/n=2\/n=3\/n=4\/n=5:=by omega
 rcases this with rfl|rfl|rfl|rfl|rfl
 all_goals
  go_wp2_with fail
  all_goals
   go_ret
   refine⟨aF ?_,gl⟩;rw[HV.o]
   go_light
   grind
theorem Kg(t:Tk) (vc:Value) (i f:Int) (w:World) (hv:bN w vc t.cases) :
  Calls Tryz.prog 126 #[.agg #[.int .i64 t.n,.int .i64 t.ins,.int .i64 t.outs,vc],.int .i64 i,.int .i64 f] w fun e w'=>∃ u,e=.returned (.tuple #[u,.int .i64 (iO t i f)])/\qd w' w.heap.size u (iP t i f)/\Below w.heap.size w w':=by
 have G:=aa hv;obtain⟨pc,cc,rfl,l1,m1,e1⟩:=hv.at;clear hv;have E:=aa e1;clear e1
 go_enter Tryz.func126,Tryz.ntmps126
 go_wp2_with fail
 refine aQ (fun W=>Below w.heap.size w W/\W.heap[w.heap.size]?=some (.cells #[.int .i64 t.n,.int .i64 t.ins,.int .i64 t.outs,.slice pc t.cases.length cc] 24)) ⟨by go_grown,aq _ _⟩ (fun W0 bh=>?_);obtain⟨aJ,bK⟩:=bh;refine(Oq t _ i f W0 (G.o.up up_case aJ)).mono ?_;rintro e w1 ⟨rfl,aM⟩;have gl:=ae aJ aM;have t1:=ab (af aM bK);clear bK;by_cases hp:iO t i f=0
 case neg=>
  have HV:am (iP t i f=[]):=by(have h:iP t i f=[]:=by(unfold iP;rw[if_pos hp]));exact h
  generalize hE:iO t i f=et at hp;have HE:=aa hE;clear hE;have NU:(et != 0)=true:=by simpa using hp
  go_wp2_with fail
  go_ret2
  refine⟨.slice none 0 0,by rw[HE.o];rfl,?_,gl⟩;rw[HV.o];exact⟨[],by simpa using World.ownsRow_nil _ _ _ _,fun i hi=>by simp at hi⟩
 obtain⟨ht,cY,oY⟩:=Oo hp;have HV:am (iP t i f=gg (t.cases.getD i.toNat default) f):=by(have h:iP t i f=gg (t.cases.getD i.toNat default) f:=by(unfold iP;rw[if_neg (by simpa using hp)]));exact h
 rw[hp];have HE:=aa hp;clear hp;obtain⟨k,rfl⟩:∃ k:Nat,i=k:=⟨i.toNat,by omega⟩;simp only[Int.toNat_natCast]at oY HV;have dI:=aa (KH ((fp ht).2.2.2.2 t.cases[k] (List.getElem_mem oY)) f);have HN:=aa (fp ht).1;clear ht cY;have Au:am (iP t k f=gg t.cases[k] f):=by(have h:iP t k f=gg t.cases[k] f:=by(rw[HV.o,aA default oY]));exact h
 clear HV;obtain⟨b1,o1,rfl,⟨x0,cx0,dq⟩,⟨x1,cx1,dA⟩,⟨x2,cx2,dW⟩⟩:=E.o k oY;have d0:=ak gl cx0;have d1:=ak gl cx1;have d2:=ak gl cx2;have kJ:=aa (dA.up up_ints gl);have fY:=aa (dW.up up_ints gl);obtain⟨p0,q0,rfl,_⟩:=dq;obtain⟨p1,q1,rfl,_⟩:=dA;obtain⟨p2,q2,rfl,_⟩:=dW;clear cx0 cx1 cx2
 go_wp2_with fail
 refine(Hj _ _ _ t.cases[k] f w1 kJ.o fY.o).mono ?_;rintro e w2 ⟨u,rfl,hu,aY⟩;have HU:=aa hu;obtain⟨pu,qu,rfl,_⟩:=hu;clear t1 d0 d1 d2
 go_wp2_with fail
 refine(Mb _ _ w2 HU.o (Nat.le_trans dI.o.1 (by omega)) (fun x hx=>by have h1:=dI.o.2 x hx;have h2:=HN.o;omega)).mono ?_;rintro e w3 ⟨u3,rfl,rR,bH⟩;have ku:=ae gl aY
 go_wp2_with fail
 go_ret2
 refine⟨u3,by rw[HE.o];rfl,?_,ae ku bH⟩;rw[Au.o];obtain⟨xs,h1,h2⟩:=rR;exact⟨xs,sy h1 ku.size,fun i hi hx=>sy (h2 i hi hx) ku.size⟩
theorem Rf{n k:Nat} {p:Nat->Bool} (hk:k<n) (h:p k=true):anyLt n p=true:=eo n k p hk h
theorem zu(k:Nat) (h:k<=30):(1:Int)<=2 ^ k/\(2:Int) ^ k<=1073741824:=by
 have h1:2 ^ k<=2 ^ 30:=Nat.pow_le_pow_right (by decide) h;have h2:1<=2 ^ k:=Nat.one_le_two_pow;have e:((2 ^ k:Nat):Int)=2 ^ k:=by simp
 rw[<-e];omega
theorem vX(n:Nat) (h:n<=30) (w:World) :
  Calls Tryz.prog 88 #[.int .i64 n] w fun e w'=>e=.returned (.int .i64 (2 ^ n))/\w=w':=by
 go_enter Tryz.func88,Tryz.ntmps88
 go_wp2
 go_loop [3,4] (fun o i=>∃ k:Nat,k<=n/\i=.int .i64 k/\o=.int .i64 (2 ^ k)) (fun _ i=>n - (intOf i).toNat)
 ·exact⟨0,by omega,rfl,rfl⟩
 ·
  obtain⟨k,hk,rfl,rfl⟩:=hrel;have hp:=zu k (by omega);have HS:am ((2:Int) ^ (k+1)=2 ^ k * 2):=by(have h:(2:Int) ^ (k+1)=2 ^ k * 2:=Int.pow_succ _ _);exact h
  have HK:am ((2:Int) ^ k=2 ^ k):=by exact rfl
  generalize hx:(2:Int) ^ k=x at hp HS;have HX:=aa hx;clear hx;by_cases aD:k<n
  ·go_wp2
   go_round
   ·exact⟨k+1,by omega,by go_num,by rw[HS.o]⟩
   ·simp[intOf];omega
  ·go_wp2
   go_ret
   obtain rfl:k=n:=by omega
   exact⟨aF HX.o.symm,rfl⟩
theorem Rg(set:Int) (p:Nat) (h:0<=set):(Int.tmod (Int.tdiv set (2 ^ p)) 2 == 1)=hasB set p:=by
 unfold hasB;rw[Int.tdiv_eq_ediv_of_nonneg h,Int.tmod_eq_emod_of_nonneg (Int.ediv_nonneg h (by have:=Int.pow_pos (n:=2) (m:=p) (by decide);omega))]
theorem mM(set:Int) (p:Nat) (h:p<=30) (h0:0<=set) (h1:set<=9223372036854775807) (w:World) :
  Calls Tryz.prog 47 #[.int .i64 set,.int .i64 p] w fun e w'=>e=.returned (.bool (hasB set p))/\w=w':=by
 have hp:=zu p h;have HD:=aa (Rg set p h0);have hc:=fun w=>vX p h w
 have HC:=aa hc;clear hc;generalize (2:Int) ^ p=x at hp HD HC
 go_enter Tryz.func47,Tryz.ntmps47
 go_wp2_with (go_at_call 88;refine(HC.o _).mono ?_;rintro e w' ⟨rfl,rfl⟩)
 go_ret
 refine⟨aR ?_,rfl⟩;rw[<-HD.o,Int.tdiv_eq_ediv_of_nonneg h0,Int.tmod_eq_emod_of_nonneg (Int.ediv_nonneg h0 (by omega))]
theorem EQ(n:Nat) (h:n<=30) (w:World) :
  Calls Tryz.prog 60 #[.int .i64 n] w fun e w'=>e=.returned (.int .i64 (2 ^ n - 1))/\w=w':=by
 have hp:=zu n h;have HC:=aa (fun w=>vX n h w);generalize (2:Int) ^ n=x at hp HC
 go_enter Tryz.func60,Tryz.ntmps60
 go_wp2_with (go_at_call 88;refine(HC.o _).mono ?_;rintro e w' ⟨rfl,rfl⟩)
 go_ret
 exact⟨rfl,rfl⟩
theorem BQ(n:Int) (w:World) :
  Calls Tryz.prog 215 #[.int .i64 n] w fun e w'=>e=.returned (.int .i64 (iM n))/\w=w':=by
 go_enter Tryz.func215,Tryz.ntmps215
 go_wp2
 all_goals
  go_ret
  refine⟨aF ?_,rfl⟩
  go_light
  unfold iM
  grind
theorem UT(f:Int) (n:Nat) (h:0<=f):f / 2 ^ n≠0↔2 ^ n<=f:=by
 have hp:(0:Int)<2 ^ n:=Int.pow_pos (by decide);constructor
 ·intro h1;rcases Int.lt_or_le f (2 ^ n) with h2|h2
  ·exact absurd (Int.ediv_eq_zero_of_lt h h2) h1
  ·exact h2
 ·intro h1 h2;have:(1:Int)<=f / 2 ^ n:=(Int.le_ediv_iff_mul_le hp).2 (by omega);omega
theorem Gp(n set:Int) (w:World) :
  Calls Tryz.prog 209 #[.int .i64 n,.int .i64 set] w fun e w'=>e=.returned (.int .i64 (kg n set))/\w=w':=by
 by_cases hn:n<1\/5<n
 ·have hp:iM n=1:=by unfold iM;rw[if_pos hn]
  have HP:am (kg n set=1):=by(have h:kg n set=1:=by(unfold kg;rw[hp];rfl));exact h
  have HC:=aa (BQ n);rw[hp]at HC;clear hp
  go_enter Tryz.func209,Tryz.ntmps209
  go_wp2_with (go_at_call 215;refine(HC.o _).mono ?_;rintro e w' ⟨rfl,rfl⟩)
  go_ret
  exact⟨aF HP.o.symm,rfl⟩
 ·have hp:iM n=0:=by unfold iM;rw[if_neg hn]
  obtain⟨m,rfl⟩:∃ m:Nat,n=m:=⟨n.toNat,by omega⟩
  have HP:am (kg m set=if set<0\/2 ^ m<=set then 2 else 0):=by
   have h:kg m set=if set<0\/2 ^ m<=set then 2 else 0:=by
    unfold kg;rw[hp,Int.toNat_natCast,if_neg (by simp)];by_cases h0:set<0
    ·simp[h0]
    ·have:=UT set m (by omega);simp only[this]
   exact h
  have HC:=aa (BQ m);rw[hp]at HC;have kb:=aa (fun w=>vX m (by omega) w);generalize (2:Int) ^ m=x at HP kb;clear hp hn
  go_enter Tryz.func209,Tryz.ntmps209
  go_wp2_with (first|(go_at_call 215;refine(HC.o _).mono ?_;rintro e w' ⟨rfl,rfl⟩)|(go_at_call 88;refine(kb.o _).mono ?_;rintro e w' ⟨rfl,rfl⟩))
  all_goals
   go_ret
   refine⟨aF ?_,rfl⟩;rw[HP.o]
   go_light
   grind
theorem Kh(a b:Int) (h1:0<=a/\a<=9223372036854775807) (h2:0<=b/\b<=9223372036854775807) (w:World) :
  Calls Tryz.prog 188 #[.int .i64 a,.int .i64 b] w fun e w'=>e=.returned (.bool (iL a b))/\w=w':=by
 have HV:am (iL a b=!anyLt 5 fun p=>hasB a p&&!hasB b p):=by exact rfl
 go_enter Tryz.func188,Tryz.ntmps188
 go_wp2
 go_loop [5] (fun i=>∃ k:Nat,k<=5/\i=.int .i64 k/\∀ j,j<k->(hasB a j&&!hasB b j)=false) (fun i=>5 - (intOf i).toNat)
 ·exact⟨0,by omega,rfl,by simp⟩
 ·
  obtain⟨k,hk,rfl,aV⟩:=hrel;have H:=aa aV;clear aV;by_cases aD:k<5
  ·have C1:=aa (fun w=>mM a k (by omega) h1.1 h1.2 w);have C2:=aa (fun w=>mM b k (by omega) h2.1 h2.2 w);cases hx:hasB a k with
   | false=>
    rw[hx]at C1;have HX:=aa hx;clear hx
    go_wp2_with (go_at_call 47;refine(C1.o _).mono ?_;rintro e w' ⟨rfl,rfl⟩)
    go_round
    ·exact⟨k+1,by omega,by go_num,aW H.o (by rw[HX.o];rfl)⟩
    ·simp[intOf];omega
   | true=>
    rw[hx]at C1;have HX:=aa hx;clear hx;cases hy:hasB b k with
    | false=>
     rw[hy]at C2;have HY:=aa hy;clear hy
     go_wp2_with fail
     refine(C1.o _).mono ?_;rintro e w' ⟨rfl,rfl⟩
     go_wp2_with fail
     refine(C2.o _).mono ?_;rintro e w' ⟨rfl,rfl⟩
     go_wp2_with fail
     go_ret
     exact⟨aR (by rw[HV.o,eo 5 k _ aD (by rw[HX.o,HY.o];rfl)];rfl),rfl⟩
    | true=>
     rw[hy]at C2;have HY:=aa hy;clear hy
     go_wp2_with fail
     refine(C1.o _).mono ?_;rintro e w' ⟨rfl,rfl⟩
     go_wp2_with fail
     refine(C2.o _).mono ?_;rintro e w' ⟨rfl,rfl⟩
     go_wp2_with fail
     go_round
     ·exact⟨k+1,by omega,by go_num,aW H.o (by rw[HX.o,HY.o];rfl)⟩
     ·simp[intOf];omega
  ·go_wp2
   go_ret
   exact⟨aR (by rw[HV.o,eQ];rfl;intro j hj;exact H.o j (by omega)),rfl⟩
end Go.Proofs.YtmeaoneaephjeaaGreatDoor
