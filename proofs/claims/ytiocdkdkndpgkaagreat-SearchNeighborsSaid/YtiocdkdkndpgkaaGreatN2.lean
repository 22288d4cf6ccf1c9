/-
  A part of the proof: lemmas and contracts that the parts behind it use. Each one's conditions are its own premises.
-/
import Derived.WalkKit
import Derived.Test.YtiocdkdkndpgkaaGreatProg
import Derived.ChangeKeysEq
import Derived.WalkSpells
import Derived.Laws.AppendOwnNone
import Derived.Test.YtiocdkdkndpgkaaGreatN1
set_option maxRecDepth 100000
set_option maxHeartbeats 8000000
set_option linter.unusedVariables false
set_option linter.unusedSimpArgs false
namespace Go.Proofs.YtiocdkdkndpgkaaGreat
def bN(a:Adv):Nat->Nat->List (List Rd)
 | 0,_=>[[]]
 | k+1,s=>(a.states.getD s []).flatMap fun m=>(bN a k m.to.toNat).map (m.r :: ·)
theorem qh(a:Adv) (k:Nat):∀ s,∀ x∈bN a k s,x.length=k:=by
 induction k with
 | zero=>intro s x hx;simp[bN]at hx;rw[hx];rfl
 | succ k ih=>
  intro s x hx;simp only[bN,List.mem_flatMap,List.mem_map]at hx;obtain⟨m,_,y,hy,rfl⟩:=hx;simp[ih _ y hy]
def jm(L:Int) (c:List Int) (n:Int) (m:Mv):Int:=min (n+c.getD m.to.toNat 0) (L+1)
def lB(L:Int) (c:List Int) (l:List Mv):Int:=l.foldl (jm L c) 0
def tF(L:Int) (a:Adv) (c:List Int):List Int:=a.states.map (lB L c)
def bW(L:Int) (a:Adv):Nat->List Int
 | 0=>List.replicate a.states.length 1
 | k+1=>tF L a (bW L a k)
def dy(L:Int) (a:Adv) (k:Nat):Int:=(bW L a k).getD 0 0
theorem za(L:Int) (a:Adv) (k:Nat):(bW L a k).length=a.states.length:=by
 cases k with
 | zero=>simp[bW]
 | succ k=>simp[bW,tF]
def wn(L:Int) (c:List Int):Prop:=∀ x∈c,0<=x/\x<=L+1
theorem lC{L:Int} (hL:0<=L) {c:List Int} (h:wn L c) (i:Nat):0<=c.getD i 0/\c.getD i 0<=L+1:=by
 by_cases hi:i<c.length
 ·rw[List.getD_eq_getElem?_getD,List.getElem?_eq_getElem hi];exact h _ (List.getElem_mem hi)
 ·rw[List.getD_eq_getElem?_getD,List.getElem?_eq_none (by omega)];simp;omega
theorem Bb{L:Int} (hL:0<=L) {c:List Int} (h:wn L c) {n:Int} (hn:0<=n/\n<=L+1) (m:Mv):0<=jm L c n m/\jm L c n m<=L+1:=by
 have:=lC hL h m.to.toNat;unfold jm;omega
theorem LC{L:Int} (hL:0<=L) {c:List Int} (h:wn L c) (l:List Mv):∀ n:Int,(0<=n/\n<=L+1)->0<=l.foldl (jm L c) n/\l.foldl (jm L c) n<=L+1:=by
 induction l with
 | nil=>intro n hn;exact hn
 | cons m r ih=>intro n hn;exact ih _ (Bb hL h hn m)
theorem ER{L:Int} (hL:0<=L) {c:List Int} (h:wn L c) (l:List Mv):0<=lB L c l/\lB L c l<=L+1:=LC hL h l 0 (by omega)
theorem qi{L:Int} (hL:0<=L) (a:Adv) (k:Nat):wn L (bW L a k):=by
 induction k with
 | zero=>intro x hx;rw[(List.mem_replicate.1 hx).2];omega
 | succ k ih=>intro x hx;obtain⟨l,_,rfl⟩:=List.mem_map.1 hx;exact ER hL ih l
theorem Iv{L:Int} (hL:0<=L) (c:List Int) (f:Mv->Int) (l:List Mv) (hc:∀ m∈l,c.getD m.to.toNat 0=min (f m) (L+1)) (hf:∀ m∈l,0<=f m):∀ n s:Int,0<=s->n=min s (L+1) →
  l.foldl (jm L c) n=min (s+(l.map f).sum) (L+1):=by
 induction l with
 | nil=>intro n s _ hn;simp[hn]
 | cons m r ih=>
  intro n s hs hn;have h1:=hc m (by simp);have h2:=hf m (by simp);rw[List.foldl_cons,ih (fun x hx=>hc x (by simp[hx])) (fun x hx=>hf x (by simp[hx])) _ (s+f m) (by omega) ?_,List.map_cons,List.sum_cons]
  ·rw[Int.add_assoc]
  ·unfold jm;rw[h1,hn];omega
theorem DQ{α β:Type} (l:List α) (f:α->List β):((l.flatMap f).length:Int)=(l.map fun x=>((f x).length:Int)).sum:=by
 induction l with
 | nil=>rfl
 | cons a r ih=>rw[List.flatMap_cons,List.length_append,List.map_cons,List.sum_cons,<-ih];omega
theorem Iw{L:Int} (hL:0<=L) (a:Adv) (tu:∀ s,s<a.states.length->∀ m∈a.states.getD s [],m.to.toNat<a.states.length) (k:Nat):∀ s,s<a.states.length->(bW L a k).getD s 0=min ((bN a k s).length:Int) (L+1):=by
 induction k with
 | zero=>
  intro s hs;simp[bW,bN,hs];omega
 | succ k ih=>
  intro s hs
  have h1:(bW L a (k+1)).getD s 0=lB L (bW L a k) (a.states.getD s []):=by
   simp[bW,tF,hs]
  rw[h1];unfold lB;rw[Iv hL (bW L a k) (fun m=>((bN a k m.to.toNat).length:Int)) _ (fun m hm=>ih _ (tu s hs m hm)) (fun m _=>by omega) 0 0 (by omega) (by omega)];simp only[bN];rw[DQ];simp
theorem qj{L:Int} (hL:0<=L) (a:Adv) (tu:∀ s,s<a.states.length->∀ m∈a.states.getD s [],m.to.toNat<a.states.length) (h0:0<a.states.length) (k:Nat):dy L a k=min ((bN a k 0).length:Int) (L+1):=Iw hL a tu k 0 h0
structure Vw where
 p:Int
 k:Int
 i:Int
 h0:Int
 h1:Int
 h2:Int
 h3:Int
 h4:Int
instance:Inhabited Vw:=⟨⟨0,0,0,0,0,0,0,0⟩⟩
instance:DecidableEq Vw:=fun a b=>decidable_of_iff (a.p=b.p/\a.k=b.k/\a.i=b.i/\a.h0=b.h0/\a.h1=b.h1/\a.h2=b.h2/\a.h3=b.h3/\a.h4=b.h4) (by cases a;cases b;simp)
structure Ex where
 c:Int
 word:List Rd
 views:List (List Int)
structure Sys where
 prob:Pb
 n:Int
 tab:List Vw
 ex:List Ex
def rQ(tb:List Vw) (v:Vw):List Vw × Nat:=if v∈tb then(tb,tb.idxOf v) else(tb++[v],tb.length)
def iC(st:List Vw × List Int) (v:Vw):List Vw × List Int:=((rQ st.1 v).1,st.2++[((rQ st.1 v).2:Int)])
def b7(tb:List Vw) (vs:List Vw):List Vw × List Int:=vs.foldl iC (tb,[])
theorem DR(tb:List Vw) (vs:List Vw) (k:Nat) (hk:k<vs.length):b7 tb (vs.take (k+1))=iC (b7 tb (vs.take k)) vs[k]:=by
 unfold b7;rw[List.take_succ_eq_append_getElem hk,List.foldl_append];rfl
theorem Iy(st:List Vw × List Int) (v:Vw):(iC st v).2.length=st.2.length+1/\(iC st v).1.length<=st.1.length+1:=by
 unfold iC rQ;refine⟨by simp,?_⟩;split<;>simp
theorem F6(vs:List Vw):∀ st:List Vw × List Int,(vs.foldl iC st).2.length=st.2.length+vs.length/\(vs.foldl iC st).1.length<=st.1.length+vs.length:=by
 induction vs with
 | nil=>intro st;simp
 | cons v r ih=>
  intro st;have h1:=ih (iC st v);have h2:=Iy st v;simp only[List.foldl_cons,List.length_cons];omega
def fE(inp:List Int) (p:Nat):Vw:=⟨p,0,inp.getD p 0,-1,-1,-1,-1,-1⟩
def fF(n:Nat) (r:Rd) (now:List Int) (p q:Nat):Int:=if q<n/\bX (r.g.hear p) q=true then now.getD q 0 else -1
def iE(n k:Nat) (r:Rd) (now:List Int) (p:Nat):Vw:=⟨p,k+1,0,fF n r now p 0,fF n r now p 1,fF n r now p 2,fF n r now p 3,fF n r now p 4⟩
def Bc(n:Nat) (inp:List Int) (tb:List Vw):List Vw × List Int:=b7 tb ((List.range n).map (fE inp))
def AM(n k:Nat) (r:Rd) (st:List Vw × List (List Int)):List Vw × List (List Int):=
 let a:=b7 st.1 ((List.range n).map (iE n k r (st.2.getLastD [])))
 (a.1,st.2++[a.2])
def playTo(n:Nat) (inp:List Int) (word:List Rd) (tb:List Vw):Nat->List Vw × List (List Int)
 | 0=>let a:=Bc n inp tb;(a.1,[a.2])
 | k+1=>AM n k (word.getD k default) (playTo n inp word tb k)
def mR(n:Nat) (inp:List Int) (word:List Rd) (tb:List Vw):List Vw × List (List Int):=playTo n inp word tb word.length
def dU(cases words:Nat):List (Nat × Nat):=(List.range cases).flatMap fun c=>(List.range words).map fun w=>(c,w)
def mS(p:Pb) (words:List (List Rd)) (st:List Vw × List Ex) (x:Nat × Nat):List Vw × List Ex:=
 let a:=mR p.t.n.toNat (p.t.cases.getD x.1 default).inp (words.getD x.2 []) st.1
 (a.1,st.2++[⟨x.1,words.getD x.2 [],a.2⟩])
def fG(p:Pb) (words:List (List Rd)) (l:List (Nat × Nat)):List Vw × List Ex:=l.foldl (mS p words) ([],[])
def aM(p:Pb):List (List Rd):=bN p.a p.rounds.toNat 0
def cq(p:Pb):Sys:=
 let a:=fG p (aM p) (dU p.t.cases.length (aM p).length)
 ⟨p,p.t.n,a.1,a.2⟩
def buildE(p:Pb):Int:=if bg p≠0 then bg p else if 4096<p.t.cases.length * (aM p).length then 17 else if 8192<(cq p).tab.length then 17 else 0
def fY(L:Int) (c acc:List Int) (sm:Nat × Mv):List Int:=acc.set sm.1 (jm L c (acc.getD sm.1 0) sm.2)
def gl(L:Int) (c:List Int) (l:List (List Mv)) (i:Nat):List Int:=((mc l).take i).foldl (fY L c) (List.replicate l.length 0)
theorem F7(L:Int) (c:List Int) (l:List (List Mv)):gl L c l 0=List.replicate l.length 0:=rfl
theorem F8(L:Int) (c:List Int) (l:List (List Mv)) (i:Nat) (h:i<az l):gl L c l (i+1)=fY L c (gl L c l i) (mvAt l i):=by
 unfold gl mvAt;have hi:i<(mc l).length:=by rw[eA];exact h
 rw[List.take_succ_eq_append_getElem hi,List.foldl_append,List.getD_eq_getElem?_getD,List.getElem?_eq_getElem hi];rfl
theorem rR(L:Int) (c:List Int) (l:List (List Mv)) (i:Nat):(gl L c l i).length=l.length:=by
 unfold gl
 have key:∀ (x:List (Nat × Mv)) (acc:List Int),(x.foldl (fY L c) acc).length=acc.length:=by
  intro x;induction x with
  | nil=>intro acc;rfl
  | cons a r ih=>intro acc;rw[List.foldl_cons,ih];simp[fY]
 rw[key];simp
theorem LD(L:Int) (c:List Int) (x:List Mv):∀ (pre rest:List Int) (z:Int),(x.map fun m=>(pre.length,m)).foldl (fY L c) (pre++z :: rest)=pre++x.foldl (jm L c) z :: rest:=by
 induction x with
 | nil=>intro pre rest z;rfl
 | cons m r ih=>
  intro pre rest z;rw[List.map_cons,List.foldl_cons,List.foldl_cons,<-ih];congr 1;simp[fY]
theorem Iz(L:Int) (c:List Int) (l:List (List Mv)):∀ (pre:List Int),(eP pre.length l).foldl (fY L c) (pre++List.replicate l.length 0)=pre++l.map (lB L c):=by
 induction l with
 | nil=>intro pre;simp[eP]
 | cons x r ih=>
  intro pre;simp only[eP,List.foldl_append,List.length_cons,List.replicate_succ,List.map_cons];rw[LD];have h:=ih (pre++[lB L c x]);simp only[List.length_append,List.length_cons,List.length_nil,Nat.zero_add,List.append_assoc,List.cons_append,List.nil_append]at h;exact h
theorem IA(L:Int) (a:Adv) (c:List Int):gl L c a.states (az a.states)=tF L a c:=by
 unfold gl tF;rw[<-eA,List.take_length];have:=Iz L c a.states [];simpa[mc] using this
theorem LE{L:Int} (hL:0<=L) {c:List Int} (hc:wn L c) (l:List (List Mv)) (i:Nat):wn L (gl L c l i):=by
 unfold gl
 have key:∀ (x:List (Nat × Mv)) (acc:List Int),wn L acc->wn L (x.foldl (fY L c) acc):=by
  intro x;induction x with
  | nil=>intro acc h;exact h
  | cons m r ih=>
   intro acc h;refine ih _ fun y hy=>?_
   unfold fY at hy;rcases List.mem_or_eq_of_mem_set hy with hy|rfl
   ·exact h y hy
   ·exact Bb hL hc (lC hL h _) _
 exact key _ _ (fun y hy=>by rw[(List.mem_replicate.1 hy).2];omega)
def bx(L:Int) (a:Adv) (r:Int):Int × Int:=
 if advE a≠0 then(0,advE a) else if r<0\/6<r then(0,2) else if L<dy L a r.toNat then(0,17) else(dy L a r.toNat,0)
def aW(n:Nat) (f:Int):List Nat:=(List.range n).filter fun p=>!bX f p
theorem iW(n:Nat) (f:Int):aW (n+1) f=if bX f n then aW n f else aW n f++[n]:=by
 unfold aW;rw[List.range_succ,List.filter_append];cases h:bX f n<;>simp[h]
theorem vm{n:Nat} {f:Int} {p:Nat}:p∈aW n f↔p<n/\bX f p=false:=by
 simp[aW]
theorem pF{n:Nat} {f:Int} {i:Nat} (hi:i<(aW n f).length):(aW n f)[i]<n/\bX f (aW n f)[i]=false:=vm.1 (List.getElem_mem hi)
theorem DT(n:Nat) (f:Int):(aW n f).Pairwise (·<·):=List.Pairwise.filter _ List.pairwise_lt_range
theorem rS(n:Nat) (f:Int) {i j:Nat} (hj:j<(aW n f).length) (h:i<j):(aW n f)[i]<(aW n f)[j]:=(List.pairwise_iff_getElem.1 (DT n f)) i j (by omega) hj h
theorem t8(f:Int) {p n:Nat} (h:p<=n):aW p f <+: aW n f:=by
 induction n with
 | zero=>obtain rfl:p=0:=by omega
         exact List.prefix_refl _
 | succ n ih=>
  by_cases e:p=n+1
  ·subst e;exact List.prefix_refl _
  ·rw[iW];split
   ·exact ih (by omega)
   ·exact(ih (by omega)).trans (List.prefix_append _ _)
theorem yi(f:Int) {p n:Nat} (h:p<n) (hp:bX f p=false):(aW n f)[(aW p f).length]?=some p:=by
 have h1:=t8 f (show p+1<=n by omega);rw[iW,hp]at h1;simp only[Bool.false_eq_true,if_false]at h1;obtain⟨t,ht⟩:=h1;rw[<-ht,List.append_assoc,List.getElem?_append_right (Nat.le_refl _)];simp
def qk(n:Nat) (f:Int) (q:Nat->Bool):Int:=firstIx n fun p=>!bX f p&&q p
theorem rm{n:Nat} {f:Int} {q:Nat->Bool} (h:∀ j,j<(aW n f).length->q ((aW n f).getD j 0)=false):qk n f q=-1:=by
 refine cU _ _ fun p hp=>?_
 cases hb:bX f p with
 | true=>rfl
 | false=>
  obtain⟨j,hj,e⟩:=List.getElem_of_mem (vm.2 ⟨hp,hb⟩);have:=h j hj;rw[show (aW n f).getD j 0=(aW n f)[j] by simp[hj],e]at this;simp[this]
theorem t9{n:Nat} {f:Int} {q:Nat->Bool} {i:Nat} (hi:i<(aW n f).length) (h:∀ j,j<i->q ((aW n f).getD j 0)=false) (hq:q ((aW n f).getD i 0)=true):qk n f q=(aW n f).getD i 0:=by
 have e0:(aW n f).getD i 0=(aW n f)[i]:=by simp[hi]
 rw[e0]at hq ⊢;have h1:=pF hi;refine cD _ _ _ h1.1 (fun p hp=>?_) (by simp[h1.2,hq]);cases hb:bX f p with
 | true=>rfl
 | false=>
  obtain⟨j,hj,e⟩:=List.getElem_of_mem (vm.2 ⟨show p<n by omega,hb⟩)
  have tw:j<i:=by
   rcases Nat.lt_or_ge j i with h'|h'
   ·exact h'
   ·rcases Nat.eq_or_lt_of_le h' with h2|h2
    ·subst h2;omega
    ·have:=rS n f hj h2;omega
  have:=h j tw;rw[show (aW n f).getD j 0=(aW n f)[j] by simp[hj],e]at this;simp[this]
def faultyS(word:List Rd):Int:=if word.length=0 then 0 else(word.getD (word.length - 1) default).f
def fq(c:Cs) (f:Int):List (List Int):=if f=0/\0<c.calm.length then c.calm else c.out
def fH(t:Tk) (i f:Int):Int:=
 if taskE t≠0 then taskE t else if i<0\/(t.cases.length:Int)<=i then 6 else if f<0\/2 ^ t.n.toNat<=f then 2 else 0
def aP(t:Tk) (i f:Int):List (List Int):=if fH t i f≠0 then [] else fq (t.cases.getD i.toNat default) f
theorem LF{α:Type} [DecidableEq α] (l m:List α) (hl:l.Pairwise (·≠·)) (h:∀ x∈l,x∈m):l.length<=m.length:=by
 induction l generalizing m with
 | nil=>simp
 | cons x r ih=>
  have hx:=h x (by simp);have h1:=ih (m.erase x) (List.pairwise_cons.1 hl).2 (fun y hy=>(List.mem_erase_of_ne (fun e=>(List.pairwise_cons.1 hl).1 y hy e.symm)).2 (h y (by simp[hy])));rw[List.length_erase_of_mem hx]at h1;have:=List.length_pos_of_mem hx;simp only[List.length_cons];omega
theorem Be(l:List (List Int)) (h:∀ i,i<l.length->unordB l i=false):∀ j i,i<j->j<l.length->ordV (l.getD i []) (l.getD j [])<0:=by
 intro j;induction j with
 | zero=>intro i hi;omega
 | succ j ih=>
  intro i hi hj;have h1:=h (j+1) hj
  have h2:ordV (l.getD j []) (l.getD (j+1) [])<0:=by
   unfold unordB at h1;rw[Nat.add_sub_cancel,decide_eq_true (by omega:0<j+1),Bool.true_and]at h1;have:=of_decide_eq_false h1;omega
  rcases Nat.lt_or_ge i j with h3|h3
  ·exact gJ (ih i h3 (by omega)) h2
  ·obtain rfl:i=j:=by omega
   exact h2
theorem IB(l:List (List Int)) (h:∀ i,i<l.length->unordB l i=false):l.Pairwise (·≠·):=by
 rw[List.pairwise_iff_getElem];intro i j hi hj p6 e;have h1:=Be l h j i p6 hj;rw[show l.getD i []=l[i] by simp[hi],show l.getD j []=l[j] by simp[hj],e,l9]at h1;omega
theorem iG{n:Nat} {f:Nat->Int} (h:ay n f=0):∀ i,i<n->f i=0:=by
 intro i hi;induction n generalizing f i with
 | zero=>omega
 | succ n ih=>
  rw[gu]at h;by_cases h0:f 0=0
  ·rw[if_neg (by simpa using h0)]at h;cases i with
   | zero=>exact h0
   | succ i=>exact ih h i (by omega)
  ·rw[if_pos h0]at h;exact absurd h h0
theorem ua{v:List Int} {n m:Int} (h:vectorE v n m=0):(v.length:Int)=n:=by
 unfold vectorE at h;by_cases e:(v.length:Int)=n
 ·exact e
 ·rw[if_pos e]at h;omega
theorem LG{l:List (List Int)} {v:List Int} (h:hasV l v=true):v∈l:=by
 unfold hasV at h;obtain⟨i,hi,e⟩:=(Im _ _).1 h;unfold eqV at e;have:=of_decide_eq_true e;rw[<-this,show l.getD i []=l[i] by simp[hi]];exact List.getElem_mem hi
structure CaseOk (t:Tk) (c:Cs):Prop where
 inp:(c.inp.length:Int)=t.n
 out1:1<=c.out.length
 out2:c.out.length<=1024
 calm:c.calm.length<=1024
 outs:∀ v∈c.out,(v.length:Int)=t.n
 calms:∀ v∈c.calm,v∈c.out
theorem dL{t:Tk} (h:taskE t=0):(1<=t.n/\t.n<=5)/\(1<=t.ins/\t.ins<=8)/\(1<=t.outs/\t.outs<=8)/\(1<=t.cases.length/\t.cases.length<=1024)/\∀ c∈t.cases,CaseOk t c:=by
 unfold taskE at h;split at h
 ·omega
 rename_i h1;split at h
 ·omega
 rename_i h2;refine⟨by omega,by omega,by omega,by omega,fun c hc=>?_⟩;obtain⟨k,hk,rfl⟩:=List.getElem_of_mem hc;have h3:=iG h k hk;unfold dl at h3;rw[show t.cases.getD k default=t.cases[k] by simp[hk]]at h3;split at h3
 ·omega
 rename_i h4;split at h3
 ·omega
 unfold vectorsE at h3;split at h3
 ·omega
 rename_i h5;split at h3
 ·omega
 rename_i h6;have h7:=iG (show ay _ _=0 by simpa using h6);have h8:=iG h3
 have Ig:∀ i,i<(t.cases[k]).calm.length->hasV (t.cases[k]).out ((t.cases[k]).calm.getD i [])=true/\unordB (t.cases[k]).calm i=false:=by
  intro i hi;have:=h8 i hi;unfold gk at this;split at this
  ·rename_i h9;refine⟨h9,?_⟩;cases hu:unordB (t.cases[k]).calm i
   ·rfl
   ·rw[hu]at this;simp at this
  ·omega
 have vV:∀ v∈(t.cases[k]).calm,v∈(t.cases[k]).out:=by
  intro v hv;obtain⟨i,hi,rfl⟩:=List.getElem_of_mem hv;have:=LG (Ig i hi).1
  rwa [show (t.cases[k]).calm.getD i []=(t.cases[k]).calm[i] by simp[hi]]at this
 refine⟨ua (by simpa using h4),by omega,by omega,?_,?_,vV⟩
 ·exact Nat.le_trans (LF _ _ (IB _ fun i hi=>(Ig i hi).2) vV) (by omega)
 ·intro v hv;obtain⟨i,hi,rfl⟩:=List.getElem_of_mem hv;have:=h7 i hi;unfold iM at this;rw[show (t.cases[k]).out.getD i []=(t.cases[k]).out[i] by simp[hi]]at this;split at this
  ·omega
  ·rename_i h9;exact ua (by simpa using h9)
theorem ES{t:Tk} {c:Cs} (h:CaseOk t c) (f:Int):(fq c f).length<=1024/\∀ v∈fq c f,(v.length:Int)=t.n:=by
 unfold fq;split
 ·exact⟨h.calm,fun v hv=>h.outs v (h.calms v hv)⟩
 ·exact⟨h.out2,h.outs⟩
def tG(ps:List Nat) (dec v:List Int):Bool:=ps.all fun p=>v.getD p 0 == dec.getD p 0
def fS(n:Nat) (f:Int) (dec:List Int) (ls:List (List Int)) (i:Nat):List (List Int):=ls.filter (tG ((aW n f).take i) dec)
theorem OT(n:Nat) (f:Int) (dec:List Int) (ls:List (List Int)):fS n f dec ls 0=ls:=by
 unfold fS;exact List.filter_eq_self.2 fun v _=>by simp[tG]
theorem OU(n:Nat) (f:Int) (dec:List Int) (ls:List (List Int)) (i:Nat) (hi:i<(aW n f).length) :
  fS n f dec ls (i+1)=(fS n f dec ls i).filter fun v=>!(v.getD (aW n f)[i] 0 != dec.getD (aW n f)[i] 0):=by
 unfold fS;rw[List.filter_filter];refine List.filter_congr fun v _=>?_
 unfold tG;rw[List.take_succ_eq_append_getElem hi,List.all_append];simp[bne];rw[Bool.and_comm]
theorem PU{n:Nat} {f:Int} {dec:List Int} {ls:List (List Int)} {i:Nat} {v:List Int} (h:v∈fS n f dec ls i):v∈ls:=(List.mem_filter.1 h).1
def AN(f:Int) (dec:List Int) (ls:List (List Int)) (q:Nat):Bool:=!(ls.any (tG (aW (q+1) f) dec))
theorem IC(n:Nat) (f:Int) (i:Nat) (hi:i<(aW n f).length):aW ((aW n f)[i]+1) f=(aW n f).take (i+1):=by
 have h1:=pF hi;have h2:=t8 f (show (aW n f)[i]+1<=n by omega)
 have h3:(aW ((aW n f)[i]+1) f).length=i+1:=by
  have hs:aW ((aW n f)[i]+1) f=aW (aW n f)[i] f++[(aW n f)[i]]:=by rw[iW,h1.2];rfl
  have h4:=yi f h1.1 h1.2;rw[hs,List.length_append]
  have h5:(aW (aW n f)[i] f).length=i:=by
   obtain⟨h6,h7⟩:=List.getElem?_eq_some_iff.1 h4;rcases Nat.lt_trichotomy (aW (aW n f)[i] f).length i with h|h|h
   ·have:=rS n f hi h;omega
   ·exact h
   ·have:=rS n f h6 h;omega
  simp[h5]
 have h4:=List.prefix_iff_eq_take.1 h2;rw[h3]at h4;exact h4
theorem ID(n:Nat) (f:Int) (dec:List Int) (ls:List (List Int)) (i:Nat) (hi:i<(aW n f).length):AN f dec ls ((aW n f).getD i 0)=decide ((fS n f dec ls (i+1)).length=0):=by
 rw[show (aW n f).getD i 0=(aW n f)[i] by simp[hi]];unfold AN fS;rw[IC n f i hi,Bool.eq_iff_iff];simp[List.length_eq_zero_iff,List.filter_eq_nil_iff]
def outpE(n:Nat) (f:Int) (dec:List Int) (ls:List (List Int)):Int:=qk n f (AN f dec ls)
def keptIx(p:Nat->Bool) (n:Nat):List Nat:=(List.range n).filter fun i=>!p i
theorem ws{α:Type} (xs:List α) (d:α):(List.range xs.length).map (fun i=>xs.getD i d)=xs:=by
 apply List.ext_getElem
 ·simp
 ·intro i h1 h2;simp at h1;simp[h1]
def jW{α:Type} (p:Nat->Bool) (xs:List α) (d:α):List α:=(keptIx p xs.length).map fun i=>xs.getD i d
theorem Bg{α:Type} (q:α->Bool) (xs:List α) (d:α):jW (fun i=>q (xs.getD i d)) xs d=xs.filter fun x=>!q x:=by
 unfold jW keptIx
 conv=>rhs;rw[<-ws xs d]
 rw[List.filter_map];rfl
def findE(t:Tk) (inp:List Int):Int:=firstIx t.cases.length fun i=>eqV (t.cases.getD i default).inp inp
def undecE(n:Nat) (f:Int) (d:List Int):Int:=qk n f fun p=>decide (d.getD p 0<0)
def schedB(p:Pb) (word:List Rd):Bool:=decide (aQ p.a 0 word<0) || decide ((word.length:Int)≠p.rounds)
def nE(p:Pb) (ix:Int) (word:List Rd) (dec:List Int):Int × Int:=
 if schedB p word then(1,-1)
 else if 0<=undecE p.t.n.toNat (faultyS word) dec then(2,undecE p.t.n.toNat (faultyS word) dec)
 else if 0<=outpE p.t.n.toNat (faultyS word) dec (aP p.t ix (faultyS word)) then(3,outpE p.t.n.toNat (faultyS word) dec (aP p.t ix (faultyS word))) else(0,-1)
def mT(p:Pb) (m:Mac) (t:Tr):Int × Int:=
 if bg p≠0 then(0,bg p) else if da m≠0 then(0,da m) else if m.n≠p.t.n\/m.rounds≠p.rounds\/m.ins≠p.t.ins\/m.outs≠p.t.outs then(0,22)
 else if hZ t≠0 then(0,hZ t) else if findE p.t t.inp<0 then(0,6) else if (nE p (findE p.t t.inp) t.word t.dec).1=0/\tE m t≠0 then(4,0) else((nE p (findE p.t t.inp) t.word t.dec).1,0)
theorem LH{t:Tk} {inp:List Int} (h:taskE t=0) (hf:¬ findE t inp<0):(inp.length:Int)=t.n:=by
 unfold findE at hf;rcases cn t.cases.length (fun i=>eqV (t.cases.getD i default).inp inp) with ⟨e,_⟩|⟨k,hk,e,he,_⟩
 ·omega
 ·have h1:=((dL h).2.2.2.2 t.cases[k] (List.getElem_mem hk)).inp;rw[show t.cases.getD k default=t.cases[k] by simp[hk]]at he;have h2:t.cases[k].inp=inp:=by simpa[eqV] using he
  rw[<-h2];exact h1
theorem IE{t:Tr} (h:hZ t=0):t.dec.length=t.inp.length:=by
 unfold hZ decisionsE at h
 grind
theorem cy{p:Pb} (h:bg p=0):taskE p.t=0/\advE p.a=0/\p.t.n=p.a.n/\0<=p.rounds/\p.rounds<=6:=by
 unfold bg at h;split at h
 ·rename_i h1;exact absurd h h1
 rename_i h1;split at h
 ·rename_i h2;exact absurd h h2
 rename_i h2;split at h
 ·omega
 split at h
 ·omega
 exact⟨by simpa using h1,by simpa using h2,by omega,by omega,by omega⟩
theorem pG{a:Adv} (h:advE a=0):∀ s,s<a.states.length->∀ m∈a.states.getD s [],0<=m.to/\m.to.toNat<a.states.length:=fun s hs m hm=>by
 rw[show a.states.getD s []=a.states[s] by simp[hs]]at hm;obtain⟨j,hj,rfl⟩:=List.getElem_of_mem hm;have:=(fB (cZ h).2.1 hs hj).2;omega
structure Py where
 inp:List Int
 word:List Rd
instance:Inhabited Py:=⟨⟨[],[]⟩⟩
instance:DecidableEq Py:=fun a b=>decidable_of_iff (a.inp=b.inp/\a.word=b.word) (by cases a;cases b;simp)
def bothE(p:Pb) (m:Mac):Int:=
 if bg p≠0 then bg p else if da m≠0 then da m else if m.n≠p.t.n\/m.rounds≠p.rounds\/m.ins≠p.t.ins\/m.outs≠p.t.outs then 22 else 0
def aB(p:Pb):List Py:=(dU p.t.cases.length (aM p).length).map fun x=>⟨(p.t.cases.getD x.1 default).inp,(aM p).getD x.2 []⟩
def wt(r:Int) (t:Tr) (q:Nat):Int:=if bX (faultyS t.word) q then 0 else if t.times.getD q 0<0 then r+1 else t.times.getD q 0
def gw(r:Int) (t:Tr):Nat->Int
 | 0=>0
 | q+1=>max (gw r t q) (wt r t q)
def timeS(n:Nat) (r:Int) (t:Tr):Int:=gw r t n
def noTr:Tr:=⟨[],[],[],[],[],[]⟩
def ia(p:Pb) (m:Mac) (l:List Py):Nat->Tr × Int
 | 0=>(noTr,-1)
 | k+1=>let b:=ia p m l k
  let t:=madeT m (l.getD k default).inp (l.getD k default).word
  if b.2<timeS p.t.n.toNat p.rounds t then(t,timeS p.t.n.toNat p.rounds t) else b
def lD(m:Mac) (l:List Py) (i:Nat):Int:=playE m (l.getD i default).inp (l.getD i default).word
def dH(p:Pb) (m:Mac):Tr × Int × Int:=
 if bothE p m≠0 then(noTr,0,bothE p m) else if buildE p≠0 then(noTr,0,buildE p)
 else if ay (aB p).length (lD m (aB p))≠0 then(noTr,0,ay (aB p).length (lD m (aB p)))
 else((ia p m (aB p) (aB p).length).1,max (ia p m (aB p) (aB p).length).2 0,0)
def jn(p:Pb) (m:Mac) (x:Py):Int:=
 if playE m x.inp x.word≠0 then 0 else if (mT p m (madeT m x.inp x.word)).2≠0 then 0 else(mT p m (madeT m x.inp x.word)).1
def badB(p:Pb) (m:Mac) (x:Py):Bool:=decide (jn p m x≠0)
def kl(p:Pb) (m:Mac):Int:=firstIx (aB p).length fun i=>badB p m ((aB p).getD i default)
def dP(p:Pb) (m:Mac):Tr × Int × Bool × Int:=
 if bothE p m≠0 then(noTr,0,false,bothE p m) else if buildE p≠0 then(noTr,0,false,buildE p)
 else if kl p m<0 then(noTr,0,false,0)
 else let x:=(aB p).getD (kl p m).toNat default
  (madeT m x.inp x.word,jn p m x,true,0)
def permB(p:Pb) (word:List Rd):Bool:=decide ((word.length:Int)=p.rounds)&&decide (0<=aQ p.a 0 word)
def rightE(p:Pb) (x:Py):Int:=if findE p.t x.inp<0 then 6 else if permB p x.word then 0 else 25
def iH(a b:Rd):Bool:=!anyLt b.g.n.toNat (fun q=>!bF (b.g.hear q) (a.g.hear q))&&decide (a.g≠b.g)&&bF a.f b.f
def ql(r:Rd):List Rd->List Rd
 | []=>[r]
 | x :: l=>if roundC r x<0 then r :: x :: l else if roundC r x=0 then x :: l else x :: ql r l
def aU(a:Adv):List Rd:=(a.states.flatMap fun l=>l.map (·.r)).foldr ql []
def lT(p:Pb) (x:Py) (k:Nat):List Py:=
 ((aU p.a).filter fun r=>iH r (x.word.getD k default)&&permB p (x.word.set k r)).map fun r=>⟨x.inp,x.word.set k r⟩
def jX(p:Pb) (x:Py) (q:Nat):List Py:=
 ((List.range (x.inp.getD q 0).toNat).filter fun v=>decide (0<=findE p.t (x.inp.set q (v:Nat)))).map fun v=>⟨x.inp.set q (v:Nat),x.word⟩
def nearS(p:Pb) (x:Py):List Py:=(List.range x.word.length).flatMap (lT p x)++(List.range x.inp.length).flatMap (jX p x)
def fI(p:Pb) (x:Py):List Py × Int:=if bg p≠0 then([],bg p) else if rightE p x≠0 then([],rightE p x) else(nearS p x,0)
def ib(p:Pb) (m:Mac) (x:Py):Int:=if bothE p m≠0 then bothE p m else if rightE p x≠0 then rightE p x else if jn p m x=0 then 21 else 0
def km(p:Pb) (m:Mac) (x:Py):Option Py:=(nearS p x).find? (badB p m)
theorem R9(a b c:Int):A8 [a,b,c]=if a≠0 then a else if b≠0 then b else c:=by
 unfold A8;simp only[List.length_cons,List.length_nil,ay,List.getD_cons_zero,List.getD_cons_succ];by_cases ha:a=0<;>by_cases hb:b=0<;>simp[ha,hb]
theorem zb(a b:St):iT a b=ordV (a.rd :: a.pr :: a.heard) (b.rd :: b.pr :: b.heard):=by
 unfold iT;rw[R9,rM,rM]
theorem yj{x lo hi:Int}:inB x lo hi=true↔lo<=x/\x<=hi:=by unfold inB;simp
theorem tH{α:Type} {l:List α} {i:Nat} (d:α) (h:i<l.length):l.getD i d=l[i]:=by simp[h]
structure Good (m:Mac) (n r:Nat):Prop where
 hn:m.n=n
 n1:1<=n
 n5:n<=5
 hr:m.rounds=r
 r6:r<=6
 ins:1<=m.ins/\m.ins<=8
 outs:1<=m.outs/\m.outs<=8
 fl:m.first.length=n
 fp:∀ p,p<n->((m.first.getD p []).length:Int)=m.ins
 ol:m.out.length=r+1
 ok:∀ k,k<r+1->(m.out.getD k []).length=n
 yl:m.syms.length=r
 yk:∀ k,k<r->(m.syms.getD k []).length=n
 yp:∀ k p,k<r->p<n->((m.syms.getD k []).getD p []).length=n
 yq:∀ k p q,k<r->p<n->q<n->(((m.syms.getD k []).getD p []).getD q []).length=if p=q then 0 else((m.out.getD k []).getD p []).length
 fr:∀ p v,p<n->v<(m.first.getD p []).length->-1<=(m.first.getD p []).getD v 0/\(m.first.getD p []).getD v 0<(((m.out.getD 0 []).getD p []).length:Int)
 outr:∀ k p s,k<r+1->p<n->s<((m.out.getD k []).getD p []).length->-1<=((m.out.getD k []).getD p []).getD s 0/\((m.out.getD k []).getD p []).getD s 0<m.outs
 symr:∀ k p q s,k<r->p<n->q<n->s<(((m.syms.getD k []).getD p []).getD q []).length->0<=(((m.syms.getD k []).getD p []).getD q []).getD s 0/\(((m.syms.getD k []).getD p []).getD q []).getD s 0<=1048576
 st:∀ i,i<m.steps.length->0<=(m.steps.getD i default).rd/\(m.steps.getD i default).rd<r/\0<=(m.steps.getD i default).pr/\(m.steps.getD i default).pr<n/\0<=(m.steps.getD i default).to/\(m.steps.getD i default).to<pe m ((m.steps.getD i default).rd+1) (m.steps.getD i default).pr
 len:m.steps.length<=65536
 diff:∀ i j (hi:i<m.steps.length) (hj:j<m.steps.length),i<j->m.steps[i].pl≠m.steps[j].pl
theorem LI{l:List St} (h:∀ i,0<i->i<l.length->iT (l.getD (i - 1) default) (l.getD i default)<0):∀ d i (_hj:i+d+1<l.length),iT (l.getD i default) (l.getD (i+d+1) default)<0:=by
 intro d;induction d with
 | zero=>intro i hj;have:=h (i+0+1) (by omega) hj;simpa using this
 | succ d ih=>
  intro i hj;have h1:=ih i (by omega);have h2:=h (i+(d+1)+1) (by omega) hj;rw[show i+(d+1)+1 - 1=i+d+1 by omega]at h2;rw[zb]at h1 h2 ⊢;exact gJ h1 h2
theorem nG{l:List Int} {lo hi:Int} (h:cL l lo hi=true) (i:Nat) (jS:i<l.length):lo<=l.getD i 0/\l.getD i 0<=hi:=by
 unfold cL at h
 have h1:anyLt l.length (fun i=>!inB (l.getD i 0) lo hi)=false:=by
  cases hh:anyLt l.length (fun i=>!inB (l.getD i 0) lo hi) with
  | false=>rfl
  | true=>rw[hh]at h;cases h
 have:=(aI _ _).1 h1 i jS;exact yj.1 (by simpa using this)
theorem zc{n:Nat} {p:Nat->Bool} (h:(!anyLt n p)=true):∀ k,k<n->p k=false:=by
 refine(aI _ _).1 ?_;cases hh:anyLt n p with
 | false=>rfl
 | true=>rw[hh]at h;cases h
theorem ub{m:Mac} (h:da m=0):∃ n r,Good m n r:=by
 unfold da at h;split at h
 ·cases h
 rename_i h1;split at h
 ·cases h
 rename_i h2;split at h
 ·cases h
 rename_i h3;split at h
 ·cases h
 rename_i h4;have hh:=bH h;have e1:gK m=false:=eq_false_of_ne_true h1;unfold gK at e1;simp only[Bool.or_eq_false_iff,Bool.not_eq_false']at e1;obtain⟨⟨⟨a1,a2⟩,a3⟩,a4⟩:=e1;rw[yj]at a1 a2 a3 a4;obtain⟨n,hn⟩:∃ n:Nat,m.n=n:=⟨m.n.toNat,by omega⟩;obtain⟨r,hr⟩:∃ r:Nat,m.rounds=r:=⟨m.rounds.toNat,by omega⟩;have e2:ec m=true:=by simpa using h2
 unfold ec at e2;split at e2
 ·cases e2
 rename_i b1;split at e2
 ·cases e2
 rename_i b2;split at e2
 ·cases e2
 rename_i b3;have b2':=(aI _ _).1 (eq_false_of_ne_true b2);have b3':=(aI _ _).1 (eq_false_of_ne_true b3);have b4':=zc e2;have fl:m.first.length=n:=by omega
 have ol:m.out.length=r+1:=by omega
 have yl:m.syms.length=r:=by omega
 have ok:∀ k,k<r+1->(m.out.getD k []).length=n:=fun k hk=>by
  have:=b3' k (by omega);simp only[ne_eq,decide_eq_false_iff_not,Decidable.not_not]at this;omega
 have yk:∀ k,k<r->(m.syms.getD k []).length=n:=fun k hk=>by
  have:=b4' k (by omega);unfold fD at this;simp only[Bool.or_eq_false_iff,ne_eq,decide_eq_false_iff_not,Decidable.not_not]at this;omega
 have ys:∀ k,k<r->∀ p,p<n->jk m.n (m.out.getD k []) (m.syms.getD k []) p=false:=fun k hk p hp=>by
  have:=b4' k (by omega);unfold fD at this;simp only[Bool.or_eq_false_iff]at this;exact(aI _ _).1 this.2 p (by rw[yk k hk];exact hp)
 have yp:∀ k p,k<r->p<n->((m.syms.getD k []).getD p []).length=n:=fun k p hk hp=>by
  have:=ys k hk p hp;unfold jk at this;simp only[Bool.or_eq_false_iff,ne_eq,decide_eq_false_iff_not,Decidable.not_not]at this;omega
 have e4:iv m=true:=by simpa using h4
 unfold iv at e4;split at e4
 ·cases e4
 rename_i c1;split at e4
 ·cases e4
 rename_i c2;have c1':=(aI _ _).1 (eq_false_of_ne_true c1);have c2':=(aI _ _).1 (eq_false_of_ne_true c2);have c3':=zc e4
 have cJ:∀ i,i<m.steps.length->lR m (m.steps.getD i default)=0/\¬ (0<i/\0<=iT (m.steps.getD (i - 1) default) (m.steps.getD i default)):=fun i hi=>by
  have:=hh i hi;unfold eH at this;split at this
  ·rename_i q;exact absurd this q
  ·rename_i q;split at this
   ·cases this
   ·rename_i q2;exact⟨by simpa using q,q2⟩
 refine⟨n,r,⟨hn,by omega,by omega,hr,by omega,a3,a4,fl,fun p hp=>?_,ol,ok,yl,yk,yp,fun k p q hk hp hq=>?_,fun p v hp hv=>?_,fun k p s hk hp hs=>?_,fun k p q s hk hp hq hs=>?_,fun i hi=>?_,by omega,fun i j hi hj p6=>?_⟩⟩
 ·have:=b2' p (by omega);simpa only[ne_eq,decide_eq_false_iff_not,Decidable.not_not] using this
 ·have:=ys k hk p hp;unfold jk at this;simp only[Bool.or_eq_false_iff]at this;have:=(aI _ _).1 this.2 q (by rw[yp k p hk hp];exact hq);simpa only[ne_eq,decide_eq_false_iff_not,Decidable.not_not] using this
 ·have:=c1' p (by omega);have:=nG (by simpa only[Bool.not_eq_false'] using this) v hv;omega
 ·have:=c2' k (by omega);have:=(aI _ _).1 this p (by rw[ok k hk];exact hp);have:=nG (by simpa only[Bool.not_eq_false'] using this) s hs;omega
 ·have:=c3' k (by omega);have:=(aI _ _).1 this p (by rw[yk k hk];exact hp);have:=(aI _ _).1 this q (by rw[yp k p hk hp];exact hq);have:=nG (by simpa only[Bool.not_eq_false'] using this) s hs;omega
 ·have:=(cJ i hi).1;unfold lR at this;split at this
  ·cases this
  ·rename_i q;have q1:eX m (m.steps.getD i default)=false:=eq_false_of_ne_true q;unfold eX at q1;simp only[Bool.or_eq_false_iff,Bool.not_eq_false']at q1;obtain⟨⟨q2,q3⟩,q4⟩:=q1;rw[yj]at q2 q3 q4;omega
 ·have h5:=LI (l:=m.steps) (fun i h1 h2=>by have:=(cJ i h2).2;omega) (j - i - 1) i (by omega);rw[show i+(j - i - 1)+1=j by omega,tH default hi,tH default hj,zb]at h5;intro e
  have e':m.steps[i].rd :: m.steps[i].pr :: m.steps[i].heard=m.steps[j].rd :: m.steps[j].pr :: m.steps[j].heard:=by
   unfold St.pl at e;injection e with e1 e2 e3 e4 e5 e6 e7
   unfold St.heard;rw[e1,e2,e3,e4,e5,e6,e7]
  rw[e',l9]at h5;omega
def Bh(m:Mac) (n k:Nat) (now:List Int):Prop:=now.length=n/\∀ p,p<n->0<=now.getD p 0/\now.getD p 0<(((m.out.getD k []).getD p []).length:Int)
theorem DU{m:Mac} {n r:Nat} (g:Good m n r) {x:Pl} {t:Int} {k p:Nat} (hk:x.rd=k) (hp:x.pr=p) (h:pD m x=some t):0<=t/\t<(((m.out.getD (k+1) []).getD p []).length:Int):=by
 unfold pD at h;rw[Option.map_eq_some_iff]at h;obtain⟨s,hs,rfl⟩:=h;have h1:=List.find?_some hs;have h2:=List.mem_of_find?_eq_some hs;obtain⟨i,hi,rfl⟩:=List.getElem_of_mem h2;have h3:=g.st i hi;rw[tH default hi]at h3;simp only[decide_eq_true_eq]at h1;rw[h1]at hk hp;have e1:m.steps[i].rd=k:=hk;have e2:m.steps[i].pr=p:=hp;rw[e1,e2]at h3;unfold pe at h3;rw[show ((k:Int)+1).toNat=k+1 by omega,Int.toNat_natCast]at h3;exact⟨h3.2.2.2.2.1,h3.2.2.2.2.2⟩
theorem wu{m:Mac} {n r k:Nat} (g:Good m n r) {now x:List Int} {rd:Rd} (h:lS m k now rd=some x):Bh m n (k+1) x:=by
 unfold lS at h;split at h
 ·cases h
 rename_i h1;cases h;have tc:=(aI _ _).1 (eq_false_of_ne_true h1);have e:m.n.toNat=n:=by rw[g.hn];simp
 rw[e]at tc;refine⟨by simp[e],fun p hp=>?_⟩;have h2:=tc p hp
 obtain⟨t,ht⟩:∃ t,qc m k now rd p=some t:=by
  cases hh:qc m k now rd p with
  | none=>rw[hh]at h2;cases h2
  | some t=>exact⟨t,rfl⟩
 have e2:((List.range m.n.toNat).map fun p=>(qc m k now rd p).getD 0).getD p 0=t:=by
  simp[e,hp,ht]
 rw[e2];unfold qc at ht;exact DU g (by rfl) (by rfl) ht
theorem ud{m:Mac} {n r:Nat} (g:Good m n r) {inputs:List Int} (_hl:inputs.length=n) (hi:∀ p,p<n->0<=inputs.getD p 0/\inputs.getD p 0<m.ins) (h:(bZ m inputs).contains (-1)=false):Bh m n 0 (bZ m inputs):=by
 have e:m.n.toNat=n:=by rw[g.hn];simp
 refine⟨by simp[bZ,e],fun p hp=>?_⟩
 have e2:(bZ m inputs).getD p 0=(m.first.getD p []).getD (inputs.getD p 0).toNat 0:=by
  simp[bZ,e,hp]
 have h1:=hi p hp;have h2:=g.fp p hp;have h3:=g.fr p (inputs.getD p 0).toNat hp (by omega)
 have h4:(bZ m inputs).getD p 0≠-1:=by
  intro hh;have aG:p<(bZ m inputs).length:=by simp[bZ,e,hp]
  rw[tH 0 aG]at hh
  have:(bZ m inputs).contains (-1)=true:=by
   rw[List.contains_iff_mem,<-hh];exact List.getElem_mem aG
  rw[h]at this;cases this
 rw[e2]at h4 ⊢;omega
theorem F9{n:Nat} {l:List Rd} (h:jl n l=0) {k:Nat} (hk:k<l.length):roundE (l.getD k default)=0/\(l.getD k default).g.n=n:=by
 unfold jl at h;split at h
 ·cases h
 split at h
 ·cases h
 have:=bH h k hk;unfold pC at this;split at this
 ·rename_i q;exact absurd this q
 rename_i q;split at this
 ·cases this
 rename_i q2;exact⟨by simpa using q,by simpa using q2⟩
theorem zd(a:List Int):∀ b,ordV a b<0↔0<ordV b a:=by
 induction a with
 | nil=>intro b;cases b<;>simp[ordV]
 | cons x r ih=>
  intro b;cases b with
  | nil=>simp[ordV]
  | cons y s=>
   rw[ordV,ordV];have:=ih s
   grind
theorem jZ(a:List Int):∀ b,ordV a b=0↔a=b:=by
 induction a with
 | nil=>intro b;cases b<;>simp[ordV]
 | cons x r ih=>
  intro b;cases b with
  | nil=>simp[ordV]
  | cons y s=>
   rw[ordV];have:=ih s;rw[List.cons.injEq]
   grind
theorem LJ{a b:Rd} (h:a.list=b.list):a=b:=by
 obtain⟨⟨_,_,_,_,_,_⟩,_⟩:=a;obtain⟨⟨_,_,_,_,_,_⟩,_⟩:=b;simp[Rd.list]at h;simp[h]
theorem kK(a b:Rd):roundC a b=0↔a=b:=by
 rw[iu,jZ];exact⟨LJ,fun h=>by rw[h]⟩
theorem lU(a b:Rd):roundC a b<0↔0<roundC b a:=by rw[iu,iu];exact zd _ _
theorem gx{a b c:Rd} (h1:roundC a b<0) (h2:roundC b c<0):roundC a c<0:=by
 rw[iu]at *;exact gJ h1 h2
theorem kL(a:Rd):¬ roundC a a<0:=by
 have:=(kK a a).2 rfl;omega
def ee(l:List Rd):Prop:=l.Pairwise fun a b=>roundC a b<0
theorem Bi(r x:Rd) (l:List Rd):x∈ql r l↔x=r\/x∈l:=by
 induction l with
 | nil=>simp[ql]
 | cons y l ih=>
  unfold ql;by_cases h1:roundC r y<0
  ·simp[h1]
  ·by_cases h2:roundC r y=0
   ·have:=(kK r y).1 h2;subst this;simp[h2]
   ·simp only[if_neg h1,if_neg h2,List.mem_cons,ih]
    grind
theorem DV(r:Rd) (l:List Rd) (h:ee l):ee (ql r l):=by
 induction l with
 | nil=>simp[ql,ee]
 | cons y l ih=>
  unfold ql;have h':=List.pairwise_cons.1 h;by_cases h1:roundC r y<0
  ·rw[if_pos h1];refine List.pairwise_cons.2 ⟨fun x hx=>?_,h⟩;rcases List.mem_cons.1 hx with rfl|hx
   ·exact h1
   ·exact gx h1 (h'.1 x hx)
  ·by_cases h2:roundC r y=0
   ·rw[if_neg h1,if_pos h2];exact h
   ·rw[if_neg h1,if_neg h2];refine List.pairwise_cons.2 ⟨fun x hx=>?_,ih h'.2⟩;rcases (Bi r x l).1 hx with rfl|hx
    ·have:=lU y x;omega
    ·exact h'.1 x hx
theorem sorted_unique:∀ (a b:List Rd),ee a->ee b->(∀ x,x∈a↔x∈b)->a=b:=by
 intro a;induction a with
 | nil=>
  intro b _ _ h;cases b with
  | nil=>rfl
  | cons y s=>have:=(h y).2 (by simp);simp at this
 | cons x r ih=>
  intro b ha hb h;cases b with
  | nil=>have:=(h x).1 (by simp);simp at this
  | cons y s=>
   have Dv:=List.pairwise_cons.1 ha;have jz:=List.pairwise_cons.1 hb
   have La:x=y:=by
    rcases List.mem_cons.1 ((h x).1 (by simp)) with e|e
    ·exact e
    ·rcases List.mem_cons.1 ((h y).2 (by simp)) with e2|e2
     ·exact e2.symm
     ·exact absurd (gx (Dv.1 y e2) (jz.1 x e)) (kL x)
   subst La;congr 1;refine ih s Dv.2 jz.2 fun z=>⟨fun hz=>?_,fun hz=>?_⟩
   ·rcases List.mem_cons.1 ((h z).1 (by simp[hz])) with e|e
    ·subst e;exact absurd (Dv.1 z hz) (kL z)
    ·exact e
   ·rcases List.mem_cons.1 ((h z).2 (by simp[hz])) with e|e
    ·subst e;exact absurd (jz.1 z hz) (kL z)
    ·exact e
theorem pH(a:Adv):ee (aU a):=by
 unfold aU;generalize (a.states.flatMap fun l=>l.map (·.r))=l;induction l with
 | nil=>simp[ee]
 | cons x l ih=>exact DV x _ ih
theorem jL(a:Adv) (x:Rd):x∈aU a↔∃ l∈a.states,∃ m∈l,m.r=x:=by
 unfold aU
 have key:∀ l:List Rd,x∈l.foldr ql []↔x∈l:=by
  intro l;induction l with
  | nil=>simp
  | cons y l ih=>rw[List.foldr_cons,Bi,ih,List.mem_cons]
 rw[key];simp
def AO(t:Tk) (inp:List Int):Int × Int:=if findE t inp<0 then(0,6) else(findE t inp,0)
theorem F'{t:Tk} (h:taskE t=0) (j:Nat) (hj:j+1<t.cases.length):ordV (t.cases.getD j default).inp (t.cases.getD (j+1) default).inp<0:=by
 unfold taskE at h;split at h
 ·omega
 ·split at h
  ·omega
  ·have h1:=bH h (j+1) hj;unfold dl at h1;split at h1
   ·rename_i h2;exact absurd h1 h2
   ·split at h1
    ·omega
    ·rename_i h3;rw[Nat.add_sub_cancel]at h3;omega
theorem Bj{t:Tk} (h:taskE t=0):∀ j i,i<j->j<t.cases.length->ordV (t.cases.getD i default).inp (t.cases.getD j default).inp<0:=by
 intro j;induction j with
 | zero=>intro i hi;omega
 | succ j ih=>
  intro i hi hj;have h1:=F' h j hj;by_cases e:i=j
  ·subst e;exact h1
  ·exact gJ (ih i (by omega) (by omega)) h1
def jM(t:Tk) (z:List Int):Int × Int:=if taskE t≠0 then(0,taskE t) else AO t z
theorem LK{t:Tk} {z:List Int} {i:Nat} (hi:i<=t.cases.length) (h1:∀ k,k<i->ordV (t.cases.getD k default).inp z<0) (h2:∀ k,i<=k->k<t.cases.length->0<=ordV (t.cases.getD k default).inp z) (Dl:∀ j i,i<j->j<t.cases.length->ordV (t.cases.getD i default).inp (t.cases.getD j default).inp<0) :
  findE t z=if i<t.cases.length/\ordV (t.cases.getD i default).inp z=0 then(i:Int) else -1:=by
 unfold findE
 have aV:∀ k,k<t.cases.length->(eqV (t.cases.getD k default).inp z=true↔ordV (t.cases.getD k default).inp z=0):=fun k _=>by
  unfold eqV;rw[decide_eq_true_eq,jZ]
 by_cases hc:i<t.cases.length/\ordV (t.cases.getD i default).inp z=0
 ·rw[if_pos hc];rcases cn t.cases.length (fun i=>eqV (t.cases.getD i default).inp z) with ⟨e,h⟩|⟨k,hk,e,hkp,hkf⟩
  ·have:=h i hc.1;rw[(aV i hc.1).2 hc.2]at this;cases this
  ·rw[e];have Rj:=(aV k hk).1 hkp;by_cases FU:k<i
   ·have:=h1 k FU;omega
   ·by_cases e2:k=i
    ·rw[e2]
    ·have h3:=Dl k i (by omega) hk;have h4:=(jZ _ _).1 hc.2;rw[h4]at h3;have h5:=(zd z (t.cases.getD k default).inp).1 h3;omega
 ·rw[if_neg hc];rcases cn t.cases.length (fun i=>eqV (t.cases.getD i default).inp z) with ⟨e,h⟩|⟨k,hk,e,hkp,hkf⟩
  ·exact e
  ·exfalso;have Rj:=(aV k hk).1 hkp;by_cases FU:k<i
   ·have:=h1 k FU;omega
   ·by_cases e2:k=i
    ·subst e2;exact hc ⟨hk,Rj⟩
    ·have h3:=Dl k i (by omega) hk;have h4:=h2 i (Nat.le_refl _) (by omega);have h5:=(jZ _ _).1 Rj;rw[h5]at h3;omega
theorem LM(p:Pb) (words:List (List Rd)) (l:List (Nat × Nat)):∀ st:List Vw × List Ex,(l.foldl (mS p words) st).2.map (fun e=>(e.c,e.word))=st.2.map (fun e=>(e.c,e.word))++l.map fun x=>((x.1:Int),words.getD x.2 []):=by
 induction l with
 | nil=>intro st;simp
 | cons a r ih=>
  intro st;rw[List.foldl_cons,ih];simp[mS]
theorem ue(p:Pb):(cq p).ex.map (fun e=>(e.c,e.word))=(dU p.t.cases.length (aM p).length).map fun x=>((x.1:Int),(aM p).getD x.2 []):=by
 have h:=LM p (aM p) (dU p.t.cases.length (aM p).length) ([],[]);simpa[cq,fG] using h
theorem LN{c n:Nat} {x:Nat × Nat} (h:x∈dU c n):x.1<c/\x.2<n:=by
 unfold dU at h;obtain⟨i,hi,hx⟩:=List.mem_flatMap.1 h;obtain⟨j,hj,rfl⟩:=List.mem_map.1 hx;exact⟨List.mem_range.1 hi,List.mem_range.1 hj⟩
theorem ze(p:Pb):(cq p).ex.length=(aB p).length:=by
 have h:=congrArg List.length (ue p);simpa[aB] using h
theorem Bk(p:Pb) (i:Nat) (hi:i<(cq p).ex.length):∃ c:Nat,c<p.t.cases.length/\(cq p).ex[i].c=c/\(aB p).getD i default=⟨(p.t.cases.getD c default).inp,(cq p).ex[i].word⟩:=by
 have hl:i<(aB p).length:=by rw[<-ze];exact hi
 have dJ:i<(dU p.t.cases.length (aM p).length).length:=by simpa[aB] using hl
 have h:=congrArg (fun l=>l[i]?) (ue p);simp only[List.getElem?_map,List.getElem?_eq_getElem hi,List.getElem?_eq_getElem dJ,Option.map_some,Option.some.injEq,Prod.mk.injEq]at h;have hm:=LN (List.getElem_mem dJ);refine⟨_,hm.1,h.1,?_⟩;rw[List.getD_eq_getElem?_getD];unfold aB;rw[List.getElem?_map,List.getElem?_eq_getElem dJ,h.2];rfl
structure OkR (n:Int) (r:Rd):Prop where
 gn:r.g.n=n
 h:∀ q,q<5->0<=r.g.hear q/\r.g.hear q<32
 z:∀ q:Nat,n<=q->q<5->r.g.hear q=0
 n1:1<=n/\n<=5
 f:0<=r.f/\r.f<32
theorem LO{g:Gr} (h:dS g=0):(∀ q,q<5->0<=g.hear q/\g.hear q<32)/\(∀ q:Nat,g.n<=q->q<5->g.hear q=0)/\1<=g.n/\g.n<=5:=by
 unfold dS at h;split at h
 ·omega
 rename_i h1;have h2:=bH h;have hn:g.n=1\/g.n=2\/g.n=3\/g.n=4\/g.n=5:=by omega
 have key:∀ q,q<5->(0<=g.hear q/\g.hear q<32)/\(g.n<=(q:Int)->g.hear q=0):=fun q hq=>by
  have h3:=h2 q hq;unfold ji at h3;split at h3
  ·split at h3
   ·omega
   ·rename_i h4;exact⟨by omega,fun _=>by omega⟩
  ·split at h3
   ·omega
   ·rename_i h4 h5;refine⟨?_,fun e=>absurd e h4⟩;rcases hn with e|e|e|e|e<;>rw[e]at h5<;>simp at h5<;>omega
 exact⟨fun q hq=>(key q hq).1,fun q hn hq=>(key q hq).2 hn,by omega,by omega⟩
theorem eQ{a:Adv} (ha:advE a=0) {r:Rd} (h:r∈aU a):OkR a.n r:=by
 obtain⟨l,hl,m,hm,rfl⟩:=(jL a r).1 h;obtain⟨s,hs,rfl⟩:=List.getElem_of_mem hl;obtain⟨j,hj,rfl⟩:=List.getElem_of_mem hm;have h1:=(cZ ha).2.1 s hs;rw[show a.states.getD s []=a.states[s] by simp[hs]]at h1;unfold stateE at h1;rw[if_neg (by omega)]at h1;have h2:=bH h1 j hj;have hf:=(EO h2).1;unfold cr at h2;rw[show a.states[s].getD j default=a.states[s][j] by simp[hj]]at h2 hf;split at h2
 ·rename_i h3;exact absurd h2 h3
 rename_i h3;split at h2
 ·omega
 rename_i h4;have h5:roundE a.states[s][j].r=0:=by simpa using h3
 unfold roundE at h5;split at h5
 ·rename_i h6;exact absurd h5 h6
 rename_i h6;obtain⟨g1,g2,g3,g4⟩:=LO (by simpa using h6);have hn:a.states[s][j].r.g.n=a.n:=by simpa using h4
 rw[hn]at g2 g3 g4;exact⟨hn,g1,g2,⟨g3,g4⟩,hf⟩
theorem Ga{a:Adv} {s:Int} {r:Rd} (h:¬ toS a s r<0):r∈aU a:=by
 unfold toS at h;cases hf:(a.states.getD s.toNat []).find? fun m=>decide (r=m.r) with
 | none=>rw[hf]at h;simp at h
 | some m=>
  have h1:=List.mem_of_find?_eq_some hf;have h2:=List.find?_some hf;refine(jL a r).2 ⟨a.states.getD s.toNat [],?_,m,h1,by simpa using (of_decide_eq_true h2).symm⟩;by_cases hs:s.toNat<a.states.length
  ·rw[show a.states.getD s.toNat []=a.states[s.toNat] by simp[hs]];exact List.getElem_mem hs
  ·rw[show a.states.getD s.toNat []=[] by simp[List.getD_eq_getElem?_getD,List.getElem?_eq_none (by omega:a.states.length<=s.toNat)]]at h1;cases h1
theorem iX{a:Adv}:∀ (word:List Rd) (s:Int),0<=aQ a s word->∀ r∈word,r∈aU a
 | [],_,_,r,h=>by cases h
 | x :: rest,s,h0,r,h=>by
  unfold aQ at h0;split at h0
  ·omega
  rename_i h1;rcases List.mem_cons.1 h with rfl|h2
  ·exact Ga h1
  ·exact iX rest _ h0 r h2
theorem DX{x y:Int} (hx:0<=x/\x<32) (hy:0<=y/\y<32) (h:bF x y=true):x<=y:=by
 obtain⟨a,rfl⟩:∃ a:Fin 32,x=a.1:=⟨⟨x.toNat,by omega⟩,by simp;omega⟩;obtain⟨b,rfl⟩:∃ b:Fin 32,y=b.1:=⟨⟨y.toNat,by omega⟩,by simp;omega⟩;have key:∀ a b:Fin 32,bF (a.1:Int) (b.1:Int)=true->a.1<=b.1:=by decide +kernel
 exact Int.ofNat_le.2 (key a b h)
def mU(r:Rd):Nat:=(31 - r.g.h0).toNat+(31 - r.g.h1).toNat+(31 - r.g.h2).toNat+(31 - r.g.h3).toNat+(31 - r.g.h4).toNat
def kM(x:Py):Nat:=(x.word.map mU).sum+(x.inp.map Int.toNat).sum
theorem IF{n:Int} {a b:Rd} (ha:OkR n a) (hb:OkR n b) (h:iH a b=true):mU a<mU b:=by
 unfold iH at h;simp only[Bool.and_eq_true,Bool.not_eq_true',decide_eq_true_eq]at h;obtain⟨⟨h1,h2⟩,_⟩:=h
 have im:∀ q,q<5->b.g.hear q<=a.g.hear q:=fun q hq=>by
  by_cases K8:(q:Int)<n
  ·have h3:=(aI _ _).1 h1 q (by rw[hb.gn];omega);exact DX (hb.h q hq) (ha.h q hq) (by simpa using h3)
  ·rw[hb.z q (by omega) hq,ha.z q (by omega) hq];exact Int.le_refl _
 have l0:=im 0 (by omega);have l1:=im 1 (by omega);have l2:=im 2 (by omega);have l3:=im 3 (by omega);have l4:=im 4 (by omega);have u0:=ha.h 0 (by omega);have u1:=ha.h 1 (by omega);have u2:=ha.h 2 (by omega);have u3:=ha.h 3 (by omega);have u4:=ha.h 4 (by omega);simp only[Gr.hear]at l0 l1 l2 l3 l4 u0 u1 u2 u3 u4
 have aV:¬ (a.g.h0=b.g.h0/\a.g.h1=b.g.h1/\a.g.h2=b.g.h2/\a.g.h3=b.g.h3/\a.g.h4=b.g.h4):=fun ⟨e0,e1,e2,e3,e4⟩=>h2 (by
  have e:=ha.gn.trans hb.gn.symm;cases QT:a.g;cases Fz:b.g;rw[QT,Fz]at e0 e1 e2 e3 e4 e;simp only at e0 e1 e2 e3 e4 e;subst e0 e1 e2 e3 e4 e
  rfl)
 unfold mU;omega
theorem ET(f:Rd->Nat):∀ (l:List Rd) (k:Nat) (hk:k<l.length) (r:Rd),((l.set k r).map f).sum+f l[k]=(l.map f).sum+f r
 | [],k,hk,_=>by simp at hk
 | x :: l,0,_,r=>by simp;omega
 | x :: l,k+1,hk,r=>by
  have:=ET f l k (by simpa using hk) r;simp only[List.set_cons_succ,List.map_cons,List.sum_cons,List.getElem_cons_succ];omega
theorem sum_setI:∀ (l:List Int) (k:Nat) (hk:k<l.length) (r:Int),((l.set k r).map Int.toNat).sum+l[k].toNat=(l.map Int.toNat).sum+r.toNat
 | [],k,hk,_=>by simp at hk
 | x :: l,0,_,r=>by simp;omega
 | x :: l,k+1,hk,r=>by
  have:=sum_setI l k (by simpa using hk) r;simp only[List.set_cons_succ,List.map_cons,List.sum_cons,List.getElem_cons_succ];omega
theorem dj{p:Pb} {x:Py}:rightE p x=0↔0<=findE p.t x.inp/\permB p x.word=true:=by
 unfold rightE;split
 ·constructor
  ·intro h;omega
  ·intro h;omega
 ·split
  ·rename_i h1 h2;exact⟨fun _=>⟨by omega,h2⟩,fun _=>rfl⟩
  ·rename_i h1 h2;exact⟨fun h=>by omega,fun h=>absurd h.2 h2⟩
theorem jo{p:Pb} {w:List Rd} (h:permB p w=true):(w.length:Int)=p.rounds/\0<=aQ p.a 0 w:=by
 unfold permB at h;simpa using h
theorem jp{p:Pb} {x y:Py} (hp:bg p=0) (hx:rightE p x=0) (h:y∈nearS p x):rightE p y=0/\kM y<kM x:=by
 obtain⟨ip,lf⟩:=dj.1 hx;have ha:=(cy hp).2.1;unfold nearS at h;rcases List.mem_append.1 h with h|h
 ·obtain⟨k,hk,h⟩:=List.mem_flatMap.1 h;have hk:=List.mem_range.1 hk;unfold lT at h;obtain⟨r,hr,rfl⟩:=List.mem_map.1 h;obtain⟨hr1,uU⟩:=List.mem_filter.1 hr;simp only[Bool.and_eq_true]at uU;refine⟨dj.2 ⟨ip,uU.2⟩,?_⟩;have h1:=uU.1;rw[show x.word.getD k default=x.word[k] by simp[hk]]at h1;have h2:=IF (eQ ha hr1) (eQ ha (iX _ _ (jo lf).2 _ (List.getElem_mem hk))) h1;have h3:=ET mU x.word k hk r
  show ((x.word.set k r).map mU).sum+(x.inp.map Int.toNat).sum<(x.word.map mU).sum+(x.inp.map Int.toNat).sum
  omega
 ·obtain⟨q,hq,h⟩:=List.mem_flatMap.1 h;have hq:=List.mem_range.1 hq;unfold jX at h;obtain⟨v,hv,rfl⟩:=List.mem_map.1 h;obtain⟨Ly,xF⟩:=List.mem_filter.1 hv;have Ly:=List.mem_range.1 Ly;refine⟨dj.2 ⟨by simpa using xF,lf⟩,?_⟩;rw[show x.inp.getD q 0=x.inp[q] by simp[hq]]at Ly;have h3:=sum_setI x.inp q hq (v:Int)
  show (x.word.map mU).sum+((x.inp.set q (v:Int)).map Int.toNat).sum<(x.word.map mU).sum+(x.inp.map Int.toNat).sum
  simp only[Int.toNat_natCast]at h3;omega
def j7(p:Pb) (m:Mac):Nat->Py->Py
 | 0,x=>x
 | k+1,x=>match km p m x with|none=>x|some y=>j7 p m k y
def jq(p:Pb) (m:Mac) (x:Py):Py:=j7 p m (kM x) x
theorem Bm{p:Pb} {m:Mac} {x y:Py} (h:km p m x=some y):y∈nearS p x/\badB p m y=true:=⟨List.mem_of_find?_eq_some h,List.find?_some h⟩
theorem uf{p:Pb} (m:Mac) (hp:bg p=0):∀ (n:Nat) (x:Py) (k:Nat),kM x=n->rightE p x=0->kM x<=k->j7 p m k x=jq p m x:=by
 intro n;induction n using Nat.strongRecOn with
 | ind n ih=>
  intro x k hn hx hk;cases hb:km p m x with
  | none=>
   have e:∀ k,j7 p m k x=x:=fun k=>by cases k with|zero=>rfl|succ k=>(unfold j7;rw[hb])
   unfold jq;rw[e,e]
  | some y=>
   obtain⟨h1,h2⟩:=jp hp hx (Bm hb).1;obtain⟨n',ms⟩:∃ n',kM x=n'+1:=⟨kM x - 1,by omega⟩;obtain⟨k',rfl⟩:∃ k',k=k'+1:=⟨k - 1,by omega⟩;unfold jq;rw[ms];unfold j7;rw[hb];dsimp only;rw[ih (kM y) (by omega) y k' rfl h1 (by omega),ih (kM y) (by omega) y n' rfl h1 (by omega)]
theorem DY{p:Pb} (m:Mac) (hp:bg p=0) {x:Py} (hx:rightE p x=0):jq p m x=match km p m x with|none=>x|some y=>jq p m y:=by
 have h:=uf m hp _ x (kM x+1) rfl hx (by omega);rw[<-h];unfold j7;cases hb:km p m x with
 | none=>rfl
 | some y=>
  obtain⟨h1,h2⟩:=jp hp hx (Bm hb).1;exact uf m hp _ y _ rfl h1 (by omega)
def fy(p:Pb) (m:Mac) (x:Py):Py × Int:=if ib p m x≠0 then(⟨[],[]⟩,ib p m x) else(jq p m x,0)
def eC(p:Pb) (m:Mac) (x:Py):Bool × Int:=if ib p m x≠0 then(false,ib p m x) else((km p m x).isNone,0)
def nJ(r old:Rd):Bool:=!anyLt old.g.n.toNat (fun q=>!bF (old.g.hear q) (r.g.hear q))&&anyLt old.g.n.toNat (fun q=>decide (old.g.hear q≠r.g.hear q))&&bF r.f old.f
def kn(p:Pb) (x:Py) (k:Nat) (r:Rd):Bool:=nJ r (x.word.getD k default)&&decide (0<=aQ p.a 0 (x.word.set k r))
def wv(p:Pb) (x:Py) (k:Nat):List Py:=((p.a.states.getD (aQ p.a 0 (x.word.take k)).toNat []).filter fun m=>kn p x k m.r).map fun m=>⟨x.inp,x.word.set k m.r⟩
def Gb(p:Pb) (x:Py):List Py:=(List.range x.word.length).flatMap (wv p x)++(List.range x.inp.length).flatMap (jX p x)
theorem ww{n:Int} {a b:Rd} (ha:OkR n a) (hb:OkR n b):nJ a b=iH a b:=by
 unfold nJ iH;congr 2;rw[Bool.eq_iff_iff,decide_eq_true_eq];constructor
 ·intro h e;have h2:anyLt b.g.n.toNat (fun q=>decide (b.g.hear q≠a.g.hear q))=false:=jI _ _ fun q _=>by rw[e];simp
  rw[h2]at h;cases h
 ·intro h;cases hc:anyLt b.g.n.toNat (fun q=>decide (b.g.hear q≠a.g.hear q)) with
  | true=>rfl
  | false=>
   exfalso;have h1:=(aI _ _).1 hc
   have key:∀ q,q<5->b.g.hear q=a.g.hear q:=fun q hq=>by
    by_cases K8:(q:Int)<n
    ·have:=h1 q (by rw[hb.gn];omega);simpa using this
    ·rw[hb.z q (by omega) hq,ha.z q (by omega) hq]
   have e0:=key 0 (by omega);have e1:=key 1 (by omega);have e2:=key 2 (by omega);have e3:=key 3 (by omega);have e4:=key 4 (by omega);have e:=ha.gn.trans hb.gn.symm;apply h;cases QT:a.g;cases Fz:b.g;rw[QT,Fz]at e e0 e1 e2 e3 e4;simp only[Gr.hear]at e e0 e1 e2 e3 e4;subst e e0 e1 e2 e3 e4;rfl
theorem qm(a:Adv):∀ (u v:List Rd) (s:Int),0<=s->0<=aQ a s (u++v)->0<=aQ a s u/\0<=aQ a (aQ a s u) v
 | [],v,s,hs,h=>⟨hs,h⟩
 | r :: u,v,s,hs,h=>by
  rw[List.cons_append]at h;rw[aQ]at h ⊢;split at h
  ·omega
  ·rename_i h1;rw[if_neg h1];exact qm a u v _ (by omega) h
theorem OV{a:Adv} {s:Int} {r:Rd} (h:0<=toS a s r):r∈(a.states.getD s.toNat []).map (·.r):=by
 unfold toS at h;cases hf:(a.states.getD s.toNat []).find? fun m=>decide (r=m.r) with
 | none=>rw[hf]at h;simp at h
 | some m=>exact List.mem_map.2 ⟨m,List.mem_of_find?_eq_some hf,(by simpa using List.find?_some hf:r=m.r).symm⟩
theorem Gc{a:Adv} {w:List Rd} {k:Nat} {r:Rd} (hk:k<w.length) (h:0<=aQ a 0 (w.set k r)):r∈(a.states.getD (aQ a 0 (w.take k)).toNat []).map (·.r):=by
 rw[List.set_eq_take_append_cons_drop,if_pos hk]at h;obtain⟨_,h2⟩:=qm a _ _ 0 (by omega) h;unfold aQ at h2;split at h2
 ·omega
 ·exact OV (by omega)
theorem Bn{a:Adv} (ha:advE a=0) (s:Nat):ee ((a.states.getD s []).map (·.r)):=by
 by_cases hs:s<a.states.length
 ·have h1:=(cZ ha).2.1 s hs;unfold stateE at h1;split at h1
  ·cases h1
  unfold ee;rw[List.pairwise_map,List.pairwise_iff_getElem];intro i j hi hj p6;have:=y8 (bH h1) j i p6 hj;rw[show (a.states.getD s []).getD i default=(a.states.getD s [])[i] by rw[List.getD_eq_getElem?_getD,List.getElem?_eq_getElem hi];rfl,show (a.states.getD s []).getD j default=(a.states.getD s [])[j] by rw[List.getD_eq_getElem?_getD,List.getElem?_eq_getElem hj];rfl]at this;rw[iu];exact this
 ·rw[show a.states.getD s []=[] by rw[List.getD_eq_getElem?_getD,List.getElem?_eq_none (by omega)];rfl];simp[ee]
theorem nK{a:Adv} {s:Nat} {r:Rd} (h:r∈(a.states.getD s []).map (·.r)):r∈aU a:=by
 obtain⟨m,hm,rfl⟩:=List.mem_map.1 h;by_cases hs:s<a.states.length
 ·rw[show a.states.getD s []=a.states[s] by simp[hs]]at hm;exact(jL a _).2 ⟨_,List.getElem_mem hs,m,hm,rfl⟩
 ·rw[show a.states.getD s []=[] by rw[List.getD_eq_getElem?_getD,List.getElem?_eq_none (by omega)];rfl]at hm;cases hm
theorem LP{p:Pb} {x:Py} (hp:bg p=0) (hx:rightE p x=0) {k:Nat} (hk:k<x.word.length):wv p x k=lT p x k:=by
 obtain⟨_,lf⟩:=dj.1 hx;have ha:=(cy hp).2.1;have hl:=jo lf
 have bO:OkR p.a.n (x.word.getD k default):=by
  rw[show x.word.getD k default=x.word[k] by simp[hk]];exact eQ ha (iX _ _ hl.2 _ (List.getElem_mem hk))
 have key:((p.a.states.getD (aQ p.a 0 (x.word.take k)).toNat []).map (·.r)).filter (kn p x k)=(aU p.a).filter fun r=>iH r (x.word.getD k default)&&permB p (x.word.set k r):=by
  refine sorted_unique _ _ (List.Pairwise.filter _ (Bn ha _)) (List.Pairwise.filter _ (pH _)) fun r=>?_
  simp only[List.mem_filter]
  have hperm:permB p (x.word.set k r)=decide (0<=aQ p.a 0 (x.word.set k r)):=by
   unfold permB;rw[List.length_set,hl.1];simp
  rw[hperm];unfold kn;constructor
  ·rintro⟨h1,h2⟩;refine⟨nK h1,?_⟩
   rwa [ww (eQ ha (nK h1)) bO]at h2
  ·rintro⟨h1,h2⟩;simp only[Bool.and_eq_true,decide_eq_true_eq]at h2;refine⟨Gc hk h2.2,?_⟩;rw[ww (eQ ha h1) bO];simpa using h2
 unfold wv lT;rw[<-key,List.filter_map,List.map_map];rfl
theorem LQ{p:Pb} {x:Py} (hp:bg p=0) (hx:rightE p x=0):Gb p x=nearS p x:=by
 unfold Gb nearS;congr 1;rw[List.flatMap,List.flatMap];congr 1;exact List.map_congr_left fun k hk=>LP hp hx (List.mem_range.1 hk)
theorem rT{a:Adv} (h:∀ s,s<a.states.length->stateE a (a.states.getD s [])=0):∀ (u:List Rd) (s:Int),0<=s->s<a.states.length->aQ a s u=-1\/(0<=aQ a s u/\aQ a s u<a.states.length)
 | [],s,h0,h1=>.inr ⟨h0,h1⟩
 | r :: u,s,h0,h1=>by
  rw[aQ];split
  ·exact .inl rfl
  ·rename_i h2;obtain⟨n,rfl⟩:∃ n:Nat,s=n:=⟨s.toNat,by omega⟩;rcases rN h n (by omega) r with e|⟨e1,e2⟩
   ·omega
   ·exact rT h u _ e1 e2
theorem wx{p:Pb} {x:Py} (hp:bg p=0) (hx:rightE p x=0) (k:Nat):∃ s:Nat,aQ p.a 0 (x.word.take k)=s/\s<p.a.states.length:=by
 obtain⟨_,h2⟩:=dj.1 hx;have h3:=(jo h2).2;have ha:=cZ (cy hp).2.1;rw[<-List.take_append_drop k x.word]at h3;have h4:=(qm p.a _ _ 0 (Int.le_refl _) h3).1;rcases rT ha.2.1 (x.word.take k) 0 (Int.le_refl _) (by have:=ha.1.1;omega) with e|⟨e1,e2⟩
 ·omega
 ·exact⟨(aQ p.a 0 (x.word.take k)).toNat,by omega,by omega⟩
def j8(p:Pb) (x:Py) (k:Nat):List Py:=(List.range k).flatMap (wv p x)
def fJ(p:Pb) (x:Py) (k:Nat) (l:List Mv) (j:Nat):List Py:=((l.take j).filter fun m=>kn p x k m.r).map fun m=>⟨x.inp,x.word.set k m.r⟩
def ug(p:Pb) (x:Py) (q v:Nat):List Py:=((List.range v).filter fun u=>decide (0<=findE p.t (x.inp.set q (u:Nat)))).map fun u=>⟨x.inp.set q (u:Nat),x.word⟩
theorem zf(p:Pb) (x:Py):j8 p x 0=[]:=rfl
theorem zi(p:Pb) (x:Py) (k:Nat):j8 p x (k+1)=j8 p x k++fJ p x k (p.a.states.getD (aQ p.a 0 (x.word.take k)).toNat []) (p.a.states.getD (aQ p.a 0 (x.word.take k)).toNat []).length:=by
 unfold j8 fJ;rw[List.range_succ,List.flatMap_append,List.flatMap_singleton,List.take_length];rfl
theorem DZ(p:Pb) (x:Py) (k:Nat) (l:List Mv) (j:Nat) (h:j<l.length):fJ p x k l (j+1)=fJ p x k l j++if kn p x k l[j].r then [⟨x.inp,x.word.set k l[j].r⟩] else []:=by
 unfold fJ;rw[List.take_succ_eq_append_getElem h,List.filter_append,List.map_append];congr 1;by_cases hb:kn p x k l[j].r<;>simp[hb]
theorem LS(p:Pb) (x:Py) (q v:Nat):ug p x q (v+1)=ug p x q v++if 0<=findE p.t (x.inp.set q (v:Nat)) then [⟨x.inp.set q (v:Nat),x.word⟩] else []:=by
 unfold ug;rw[List.range_succ,List.filter_append,List.map_append];congr 1;by_cases hb:0<=findE p.t (x.inp.set q (v:Nat))<;>simp[hb]
theorem zj{t:Tk} {z:List Int} (h:0<=findE t z):∃ c∈t.cases,c.inp=z:=by
 unfold findE at h;rcases cn t.cases.length (fun i=>eqV (t.cases.getD i default).inp z) with ⟨e,_⟩|⟨k,hk,e,hp,_⟩
 ·rw[e]at h;omega
 ·refine⟨t.cases[k],List.getElem_mem hk,?_⟩;unfold eqV at hp;have:=of_decide_eq_true hp
  rwa [show t.cases.getD k default=t.cases[k] by simp[hk]]at this
theorem Bq{t:Tk} (h:taskE t=0) {c:Cs} (hc:c∈t.cases):(c.inp.length:Int)=t.n/\∀ i,i<c.inp.length->0<=c.inp.getD i 0/\c.inp.getD i 0<t.ins:=by
 refine⟨((dL h).2.2.2.2 c hc).inp,?_⟩;unfold taskE at h;split at h
 ·omega
 split at h
 ·omega
 obtain⟨k,hk,rfl⟩:=List.getElem_of_mem hc;have h3:=iG h k hk;unfold dl at h3;rw[show t.cases.getD k default=t.cases[k] by simp[hk]]at h3;split at h3
 ·rename_i h4;exact absurd h3 h4
 rename_i h4;have h5:vectorE t.cases[k].inp t.n t.ins=0:=by simpa using h4
 unfold vectorE at h5;split at h5
 ·omega
 split at h5
 ·omega
 rename_i h6;have h7:=(aI _ _).1 (by simpa using h6);intro i hi;have h8:=h7 i hi;rw[Bool.or_eq_false_iff]at h8;have h9:=of_decide_eq_false h8.1;have h10:=of_decide_eq_false h8.2;rw[List.getD_eq_getElem?_getD];omega
theorem gA{p:Pb} {x:Py} (hp:bg p=0) (hx:rightE p x=0):x.inp.length<=5/\∀ i,i<x.inp.length->0<=x.inp.getD i 0/\x.inp.getD i 0<8:=by
 obtain⟨c,hc,e⟩:=zj (dj.1 hx).1;have ht:=(cy hp).1;have h1:=Bq ht hc;rw[e]at h1;have h2:=dL ht;exact⟨by omega,fun i hi=>by have:=h1.2 i hi;omega⟩
theorem fK{p:Pb} {x:Py} (hp:bg p=0) (hx:rightE p x=0):x.word.length<=6/\∀ r∈x.word,OkR p.a.n r:=by
 have h1:=jo (dj.1 hx).2;have h2:=cy hp;exact⟨by omega,fun r hr=>eQ h2.2.1 (iX _ _ h1.2 r hr)⟩
theorem rU{m:Mac} {n r:Nat} (g:Good m n r) {inputs:List Int} {word:List Rd} (hl:inputs.length=n) (hi:∀ p,p<n->0<=inputs.getD p 0/\inputs.getD p 0<m.ins):∀ (k:Nat) (x:List Int),(gv m inputs word)[k]?=some x->Bh m n k x:=by
 intro k;by_cases hc:(bZ m inputs).contains (-1)=true
 ·intro x hx;unfold gv at hx;rw[if_pos hc]at hx;simp at hx
 ·have N7:gv m inputs word=dx m 0 (bZ m inputs) word:=by unfold gv;rw[if_neg hc]
  rw[N7];induction k with
  | zero=>
   intro x hx;rw[kJ]at hx;cases hx;exact ud g hl hi (eq_false_of_ne_true hc)
  | succ k ih=>
   intro x hx;have aG:=(List.getElem?_eq_some_iff.1 hx).1;have im:=qd m 0 (bZ m inputs) word;have hk:k<word.length:=by omega
   obtain⟨y,hy⟩:∃ y,(dx m 0 (bZ m inputs) word)[k]?=some y:=⟨_,List.getElem?_eq_getElem (by omega)⟩;have hs:=rO m 0 (bZ m inputs) word k y hy hk;rw[Nat.zero_add]at hs;cases hn:lS m k y word[k] with
   | none=>have:=hs.2 hn;omega
   | some z=>
    have:=hs.1 z hn;rw[hx]at this;cases this;exact wu g hn
theorem IG{l:List Int} {lo hi:Int} (h:cL l lo hi=true):∀ p,p<l.length->lo<=l.getD p 0/\l.getD p 0<=hi:=fun p hp=>nG h p hp
structure PlayOk (m:Mac) (inputs:List Int) (word:List Rd) (n r:Nat):Prop where
 good:Good m n r
 chk:da m=0
 il:inputs.length=n
 ir:∀ p,p<n->0<=inputs.getD p 0/\inputs.getD p 0<m.ins
 we:jl n word=0
 wl:word.length=r
 rl:(gv m inputs word).length=r+1
theorem wy{m:Mac} {inputs:List Int} {word:List Rd} (h:playE m inputs word=0):∃ n r,PlayOk m inputs word n r:=by
 unfold playE at h;split at h
 ·rename_i q;exact absurd h q
 rename_i h1;have tc:da m=0:=by simpa using h1
 obtain⟨n,r,g⟩:=ub tc;have hn:=g.hn;have hr:=g.hr;split at h
 ·cases h
 split at h
 ·cases h
 rename_i h2 h3;split at h
 ·rename_i q;exact absurd h q
 rename_i h4;split at h
 ·cases h
 split at h
 ·cases h
 rename_i h5 h6;have FW:cL inputs 0 (m.ins - 1)=true:=by simpa using h3
 have OF:jl m.n word=0:=by simpa using h4
 rw[hn]at OF;refine⟨n,r,g,tc,by omega,fun p hp=>?_,OF,by omega,by omega⟩;have:=IG FW p (by omega);omega
theorem wz{n:Nat} {word:List Rd} {x:Nat × Nat × Nat} (h:x∈placesL n word):x.2.1≠x.2.2:=by
 unfold placesL b9 dO at h;rw[List.mem_filterMap]at h;obtain⟨j,hj,hx⟩:=h;unfold ni at hx;split at hx
 ·rename_i hc;cases hx;exact hc.2.2.1
 ·cases hx
theorem uj{n:Nat} {word:List Rd} {x:Nat × Nat × Nat} (h:x∈placesL n word):x.1<word.length/\x.2.1<n/\x.2.2<n:=by
 unfold placesL b9 dO at h;rw[List.mem_filterMap]at h;obtain⟨j,hj,hx⟩:=h;rw[List.mem_range]at hj;unfold ni at hx;split at hx
 ·rename_i hc;cases hx;exact⟨by dsimp only;omega,hc.1,hc.2.1⟩
 ·cases hx
theorem uk(n:Nat) (word:List Rd):(placesL n word).length<=word.length * 25:=by
 unfold placesL b9 dO;exact Nat.le_trans (List.length_filterMap_le _ _) (by simp)
theorem PlayOk.fits{m:Mac} {inputs:List Int} {word:List Rd} {n r:Nat} (h:PlayOk m inputs word n r) {k p:Nat} (hk:k<r+1) (hp:p<n) :
  0<=((gv m inputs word).getD k []).getD p 0/\((gv m inputs word).getD k []).getD p 0<(((m.out.getD k []).getD p []).length:Int):=by
 have hl:k<(gv m inputs word).length:=by rw[h.rl];exact hk
 have:=(rU h.good (word:=word) h.il h.ir k _ (List.getElem?_eq_getElem hl)).2 p hp;rw[aj [] hl];exact this
theorem Bs{n:Int} {r:Rd} (h:OkR n r):cV r.g.n/\cV r.g.h0/\cV r.g.h1/\cV r.g.h2/\cV r.g.h3/\cV r.g.h4/\cV r.f:=by
 have h0:=h.h 0 (by omega);have h1:=h.h 1 (by omega);have h2:=h.h 2 (by omega);have h3:=h.h 3 (by omega);have h4:=h.h 4 (by omega);simp only[Gr.hear]at h0 h1 h2 h3 h4;have h5:=h.f;have h6:=h.n1;have h7:=h.gn;unfold cV;omega
def cM(a b:Int):Rd:=⟨⟨2,a,b,0,0,0⟩,0⟩
def exCs:List Cs:=[⟨[0,0],[[0,0]],[]⟩,⟨[0,1],[[0,0],[1,1]],[]⟩,⟨[1,0],[[0,0],[1,1]],[]⟩,⟨[1,1],[[1,1]],[]⟩]
def exMv:List Mv:=[⟨cM 1 3,0⟩,⟨cM 3 2,0⟩,⟨cM 3 3,0⟩]
def exP8:Pb:=⟨⟨2,2,2,exCs⟩,⟨2,[exMv]⟩,1⟩
def EV(p a b:Int):St:=⟨0,p,a,b,-1,-1,-1,if min a b<0 then max a b else min a b⟩
def PV(p a b:Nat):List St:=if (if p=0 then(a:Int) - 1 else(b:Int) - 1)<0 then [] else [EV p ((a:Int) - 1) ((b:Int) - 1)]
def wA(p a b:Nat):List St:=(List.range b).flatMap fun b=>PV p a b
def rV(p a:Nat):List St:=(List.range a).flatMap fun a=>wA p a 3
def pI(p:Nat):List St:=(List.range p).flatMap fun p=>rV p 3
def exM8:Mac:=⟨2,1,2,2,[[0,1],[0,1]],[[[[],[0,1]],[[0,1],[]]]],pI 2,[[[-1,-1],[-1,-1]],[[0,1],[0,1]]]⟩
def exH:List (Int × Int):=[(1,3),(3,2),(3,3)]
theorem LT(p a b:Nat):wA p a (b+1)=wA p a b++PV p a b:=by simp[wA,List.range_succ]
theorem LU(p a:Nat):rV p (a+1)=rV p a++wA p a 3:=by simp[rV,List.range_succ]
theorem LV(p:Nat):pI (p+1)=pI p++rV p 3:=by simp[pI,List.range_succ]
theorem ex8_viol:(dP exP8 exM8).2.1=3/\(dP exP8 exM8).2.2.1=true/\(dP exP8 exM8).2.2.2=0/\(dP exP8 exM8).1.inp=[0,1]/\(dP exP8 exM8).1.word=[cM 3 2]:=by decide +kernel
theorem ex8_worst:(dH exP8 exM8).2.1=1/\(dH exP8 exM8).2.2=0/\(dH exP8 exM8).1.inp=[0,0]/\(dH exP8 exM8).1.word=[cM 1 3]:=by decide +kernel
theorem ex8_near:(fI exP8 ⟨[1,0],[cM 1 3]⟩)=([⟨[1,0],[cM 3 3]⟩,⟨[0,0],[cM 1 3]⟩],0):=by decide +kernel
theorem ex8_min:eC exP8 exM8 ⟨[0,1],[cM 3 2]⟩=(true,0):=by decide +kernel
theorem ex8_shrink:fy exP8 exM8 ⟨[0,1],[cM 3 2]⟩=(⟨[0,1],[cM 3 2]⟩,0):=by decide +kernel
structure Ex8 (p:Pb) (m:Mac):Prop where
 hN:az p.a.states<1099511627776
 vi:(dP p m).2.1=3/\(dP p m).2.2.1=true/\(dP p m).2.2.2=0/\(dP p m).1.inp=[0,1]/\(dP p m).1.word=[cM 3 2]
 wo:(dH p m).2.1=1/\(dH p m).2.2=0/\(dH p m).1.inp=[0,0]/\(dH p m).1.word=[cM 1 3]
 nb:fI p ⟨[1,0],[cM 1 3]⟩=([⟨[1,0],[cM 3 3]⟩,⟨[0,0],[cM 1 3]⟩],0)
 mi:eC p m ⟨[0,1],[cM 3 2]⟩=(true,0)
 sh:fy p m ⟨[0,1],[cM 3 2]⟩=(⟨[0,1],[cM 3 2]⟩,0)
theorem ex8_all:Ex8 exP8 exM8:=⟨by decide,ex8_viol,ex8_worst,ex8_near,ex8_min,ex8_shrink⟩
theorem Gd{p:Pb} {m:Mac} {i:Nat} (hi:i<(aB p).length) (h:∀ j,j<i->badB p m ((aB p).getD j default)=false) (hb:badB p m ((aB p).getD i default)=true):kl p m=i:=by
 unfold kl;rcases cn (aB p).length (fun j=>badB p m ((aB p).getD j default)) with ⟨_,hn⟩|⟨k,hk,e,hp,aG⟩
 ·rw[hn i hi]at hb;cases hb
 ·rw[e]
  have:k=i:=by
   rcases Nat.lt_trichotomy k i with h1|h1|h1
   ·rw[h k h1]at hp;cases hp
   ·exact h1
   ·rw[aG i h1]at hb;cases hb
  rw[this]
theorem IH{p:Pb} {m:Mac} (h:∀ j,j<(aB p).length->badB p m ((aB p).getD j default)=false):kl p m<0:=by
 unfold kl;rcases cn (aB p).length (fun j=>badB p m ((aB p).getD j default)) with ⟨e,_⟩|⟨k,hk,e,hp,_⟩
 ·rw[e];decide
 ·rw[h k hk]at hp;cases hp
theorem jN(n:Nat):∀ c,dU c n=(List.range (c * n)).map fun i=>(i / n,i % n)
 | 0=>by simp[dU]
 | c+1=>by
  have ih:=jN n c;unfold dU at ih ⊢;rw[List.range_succ,List.flatMap_append,ih,Nat.succ_mul,List.range_add,List.map_append,List.map_map];congr 1;simp only[List.flatMap_cons,List.flatMap_nil,List.append_nil];refine List.map_congr_left fun j hj=>?_
  have hj:=List.mem_range.1 hj;simp only[Function.comp];rw[show c * n+j=n * c+j by rw[Nat.mul_comm],Nat.mul_add_div (by omega),Nat.div_eq_of_lt hj,Nat.mul_add_mod,Nat.mod_eq_of_lt hj,Nat.add_zero]
theorem II(c n:Nat):(dU c n).length=c * n:=by
 unfold dU;induction c with
 | zero=>simp
 | succ c ih=>rw[List.range_succ,List.flatMap_append,List.length_append,ih];simp[Nat.succ_mul]
theorem LW{C n:Nat} (c k:Nat) (hc:c<C) (hk:k<n):(dU C n)[c * n+k]?=some (c,k):=by
 have h1:c * n+k<C * n:=by
  have:(c+1) * n<=C * n:=Nat.mul_le_mul_right _ hc;rw[Nat.add_mul]at this;omega
 rw[jN,List.getElem?_map,List.getElem?_range h1]
 have h2:(c * n+k) / n=c:=by
  rw[Nat.mul_comm,Nat.mul_add_div (by omega),Nat.div_eq_of_lt hk];rfl
 have h3:(c * n+k) % n=k:=by
  rw[Nat.mul_comm,Nat.mul_add_mod,Nat.mod_eq_of_lt hk]
 rw[Option.map_some,h2,h3]
end Go.Proofs.YtiocdkdkndpgkaaGreat
namespace Go.Proofs.YtiocdkdkndpgkaaGreat
open Go
theorem D0(a b:Nat) (ha:a<9223372036854775808) (hb:b<9223372036854775808):bits .and .i64 (a:Int) (b:Int)=((a &&& b:Nat):Int):=by
 have hx:a &&& b<2 ^ 63:=Nat.and_lt_two_pow _ (by omega)
 show IntKind.i64.wrap ((BitVec.ofInt 64 (a:Int) &&& BitVec.ofInt 64 (b:Int)).toNat:Int)=_
 rw[BitVec.toNat_and,ofInt_u64 a (by omega),ofInt_u64 b (by omega)];simp[IntKind.wrap,IntKind.bits,IntKind.signed];omega
theorem vn(a:Int):bits .and .i64 a 1=a % 2:=by
 show IntKind.i64.wrap ((BitVec.ofInt 64 a &&& BitVec.ofInt 64 ((1:Nat):Int)).toNat:Int)=_
 rw[BitVec.toNat_and,ofInt_u64 1 (by omega),Nat.and_one_is_mod,BitVec.toNat_ofInt];simp[IntKind.wrap,IntKind.bits,IntKind.signed];omega
theorem oC(x:Int) (p:Nat):(bits .and .i64 (x / 2 ^ p) 1 == 0)=!bX x p:=by
 rw[vn];unfold bX;rcases (show x / 2 ^ p % 2=0\/x / 2 ^ p % 2=1 by omega) with h|h<;>rw[h]<;>rfl
theorem qn(x:Int) (p:Nat):(bits .and .i64 (x / 2 ^ p) 1 == 1)=bX x p:=by
 rw[vn];unfold bX;rfl
theorem ic(x y:Int) (p7:0<=x) (hx:x<32) (Ld:0<=y) (hy:y<32):(bits .andNot .i64 x y != 0)=!bF x y:=by
 obtain⟨A,rfl⟩:=Int.eq_ofNat_of_zero_le p7;obtain⟨B,rfl⟩:=Int.eq_ofNat_of_zero_le Ld;have hA:A<32:=by omega
 have hB:B<32:=by omega
 have key:∀ a:Fin 32,∀ b:Fin 32,(bits .andNot .i64 ((a.val:Nat):Int) ((b.val:Nat):Int) != 0)=!bF ((a.val:Nat):Int) ((b.val:Nat):Int):=by decide +kernel
 exact key ⟨A,hA⟩ ⟨B,hB⟩
end Go.Proofs.YtiocdkdkndpgkaaGreat
namespace Go.Proofs.YtiocdkdkndpgkaaGreat
open Go.RowKit Go
theorem zk(n:Int) (w:World) :
  Calls Tryz.prog 288 #[.int .i64 n] w fun e w'=>e=.returned (.int .i64 (dR n))/\w=w':=by
 go_enter Tryz.func288,Tryz.ntmps288
 go_wp2
 all_goals go_ret;exact⟨aE (by unfold dR;first|rw[if_pos (by omega)]|rw[if_neg (by omega)]),rfl⟩
theorem vp(n x:Int) (w:World) :
  Calls Tryz.prog 256 #[.int .i64 n,.int .i64 x] w fun e w'=>e=.returned (.int .i64 (gj n x))/\w=w':=by
 by_cases hn:n<1\/5<n
 ·have hp:dR n=1:=by unfold dR;rw[if_pos hn]
  have hc:=zk n w;rw[hp]at hc;have H:=ab hp;clear hp
  go_enter Tryz.func256,Tryz.ntmps256
  go_wp2_with (go_at_call 288;refine hc.mono ?_;rintro e w' ⟨rfl,rfl⟩)
  go_ret;exact⟨aE (by unfold gj;rw[H.o];rfl),rfl⟩
 ·have hp:dR n=0:=by unfold dR;rw[if_neg hn]
  have hc:=zk n w;rw[hp]at hc;have H:=ab hp;clear hp;have h1:1<=n:=by omega
  have h2:n<=5:=by omega
  clear hn
  go_enter Tryz.func256,Tryz.ntmps256
  go_wp2_with (go_at_call 288;refine hc.mono ?_;rintro e w' ⟨rfl,rfl⟩)
  all_goals
   go_ret
   refine⟨aE ?_,rfl⟩
   go_light
   unfold gj;rw[H.o]
   grind
theorem Ge(g:Gr) (k:Nat) (hk:k<5) (w:World):(Instr.index 105 (.agg #[.int .i64 g.h0,.int .i64 g.h1,.int .i64 g.h2,.int .i64 g.h3,.int .i64 g.h4]) (.int .i64 k)).run Tryz.prog w=.ok (.int .i64 (g.hear k)) w:=by
 have:k=0\/k=1\/k=2\/k=3\/k=4:=by omega
 rcases this with h|h|h|h|h<;>(subst h;with_reducible refine Eq.trans ?_ (Eq.refl _);kernel_rfl)
theorem LX(n:Int) (w:World) (h1:1<=n) (h2:n<=5) :
  Calls Tryz.prog 287 #[.int .i64 n] w fun e w'=>e=.returned (.int .i64 (2 ^ n.toNat - 1))/\w=w':=by
 have:n=1\/n=2\/n=3\/n=4\/n=5:=by omega
 rcases this with rfl|rfl|rfl|rfl|rfl
 all_goals
  go_enter Tryz.func287,Tryz.ntmps287
  go_wp2
  go_ret
  exact⟨rfl,rfl⟩
theorem ym(g:Gr) (w:World) :
  Calls Tryz.prog 255 #[g.v] w fun e w'=>e=.returned (.int .i64 (dS g))/\Below w.heap.size w w':=by
 obtain⟨n,h0,h1,h2,h3,h4⟩:=g;by_cases hn:n<1\/5<n
 ·have H:bc (dS ⟨n,h0,h1,h2,h3,h4⟩=2):=by unfold dS;rw[if_pos hn];rfl
  rcases hn with hn|hn
  ·go_enter Tryz.func255,Tryz.ntmps255
   go_wp2
   go_ret;exact⟨aE H.o.symm,by go_grown⟩
  ·have ms:¬ n<1:=by omega
   go_enter Tryz.func255,Tryz.ntmps255
   go_wp2
   go_ret;exact⟨aE H.o.symm,by go_grown⟩
 have oY:1<=n:=by omega
 have n9:n<=5:=by omega
 have HE:bc (dS ⟨n,h0,h1,h2,h3,h4⟩=ay 5 fun p=>ji n (Gr.hear ⟨n,h0,h1,h2,h3,h4⟩ p) p):=by unfold dS;rw[if_neg hn];rfl
 clear hn
 go_enter Tryz.func255,Tryz.ntmps255
 go_wp2
 go_loop [15] (fun i=>∃ k:Nat,k<=5/\i=.int .i64 k/\∀ j,j<k->ji n (Gr.hear ⟨n,h0,h1,h2,h3,h4⟩ j) j=0) (fun i=>5 - (intOf i).toNat)
 ·exact⟨0,by omega,rfl,by simp⟩
 ·
  obtain⟨k,hk,rfl,bB⟩:=hrel;have H:=ab bB;clear bB;by_cases aG:k<5
  ·have hx:=Ge ⟨n,h0,h1,h2,h3,h4⟩ k aG;have hEx:∃ x,x=Gr.hear ⟨n,h0,h1,h2,h3,h4⟩ k:=⟨_,rfl⟩;obtain⟨x,Rp⟩:=hEx;rw[<-Rp]at hx;have HX:=ab Rp;clear Rp;have jH:=oC x k
   go_wp2_with (go_at_call 287;refine(LX _ _ (by omega) (by omega)).mono ?_;rintro e w' ⟨rfl,rfl⟩)
   all_goals first
    | (go_ret
       refine⟨aE ?_,by go_grown⟩
       rw[HE.o]
       go_light
       refine bR k _ aG H.o ?_ (by decide)
       rw[<-HX.o]
       unfold ji
       grind)
    | (go_round
       ·
        refine⟨k+1,by omega,by go_num,bG H.o ?_⟩
        go_light
        rw[<-HX.o]
        unfold ji
        grind
       ·simp[intOf];omega)
  ·go_wp2
   go_ret;exact⟨aE (by rw[HE.o,cj];intro j hj;exact H.o j (by omega)),by go_grown⟩
theorem lE(a b:Int) (w:World) :
  Calls Tryz.prog 204 #[.int .i64 a,.int .i64 b] w fun e w'=>e=.returned (.int .i64 (cmpI a b))/\w=w':=by
 go_enter Tryz.func204,Tryz.ntmps204
 go_wp2
 all_goals
  go_ret
  refine⟨aE ?_,rfl⟩
  go_light
  unfold cmpI
  grind
theorem qo(d:Nat) (a0 a1 a2 a3 a4 b0 b1 b2 b3 b4:Int) (w:World):(Op.equalIn (d+2) 105 (.agg #[.int .i64 a0,.int .i64 a1,.int .i64 a2,.int .i64 a3,.int .i64 a4]) (.agg #[.int .i64 b0,.int .i64 b1,.int .i64 b2,.int .i64 b3,.int .i64 b4])).run Tryz.prog w=.ok (decide (a0=b0/\a1=b1/\a2=b2/\a3=b3/\a4=b4)) w:=by
 obtain⟨i,hi⟩:∃ i,Tryz.prog.info? 3=some i:=Option.isSome_iff_exists.1 (by kernel_rfl);have hc:Tryz.prog.cellsOf 3=1:=by kernel_rfl
 rw[run_equalIn_array w (d+1) _ _ Tryz.underlying105 hi,hc];have ag:=Tryz.isAgg3;have u3:=Tryz.underlying3;have hr:List.range 5=[0,1,2,3,4]:=rfl;rw[hr];simp only[Op.eqItems,Sem.run_bind,part,ag,Result.andThen_ok];simp[run_equalIn_int w d 3 _ .i64 _ _ u3];by_cases h0:a0=b0
 case neg=>simp[h0]
 by_cases h1:a1=b1
 case neg=>simp[h0,h1]
 by_cases h2:a2=b2
 case neg=>simp[h0,h1,h2]
 by_cases h3:a3=b3
 case neg=>simp[h0,h1,h2,h3]
 by_cases h4:a4=b4<;>simp[h0,h1,h2,h3,h4]
theorem nj(d:Nat) (a b:Gr) (w:World):(Op.equalIn (d+3) 107 a.v b.v).run Tryz.prog w=.ok (decide (a=b)) w:=by
 have hS:Tryz.prog.underlying 107=some (.struct (Tryz.prog.fieldsOf 107)):=by kernel_rfl
 have hp:Tryz.prog.stoodInHeld 107=false:=by kernel_rfl
 rw[run_equalIn_struct w (d+2) 107 _ _ hS hp];have ag:=Tryz.isAgg3;have ah:=Tryz.isAgg105;have zh:=Tryz.sizeOf105;have u3:=Tryz.underlying3;simp only[Program.fieldsOf,Tryz.underlying107];simp[Op.eqFields,part,ag,ah,zh,run_equalIn_int w (d+1) 3 _ .i64 _ _ u3,qo d];obtain⟨n,h0,h1,h2,h3,h4⟩:=a;obtain⟨m,g0,g1,g2,g3,g4⟩:=b;by_cases hn:n=m
 case neg=>simp[hn]
 by_cases hh:h0=g0/\h1=g1/\h2=g2/\h3=g3/\h4=g4<;>simp[hn,hh]
theorem eZ(d:Nat) (a b:Rd) (w:World):(Op.equalIn (d+4) 109 a.v b.v).run Tryz.prog w=.ok (decide (a=b)) w:=by
 have hS:Tryz.prog.underlying 109=some (.struct (Tryz.prog.fieldsOf 109)):=by kernel_rfl
 have hp:Tryz.prog.stoodInHeld 109=false:=by kernel_rfl
 rw[run_equalIn_struct w (d+3) 109 _ _ hS hp];have ag:=Tryz.isAgg3;have ah:=Tryz.isAgg107;have zh:=Tryz.sizeOf107;have u3:=Tryz.underlying3;have hg:=nj d a.g b.g w;simp only[Program.fieldsOf,Tryz.underlying109];simp[Op.eqFields,part,ag,ah,zh,run_equalIn_int w (d+2) 3 _ .i64 _ _ u3,hg];obtain⟨ga,fa⟩:=a;obtain⟨gb,fb⟩:=b;by_cases hn:ga=gb
 case neg=>simp[hn]
 by_cases hh:fa=fb<;>simp[hn,hh]
theorem wD(a b:Gr) (w:World):(binOp .eql 107 a.v b.v).run Tryz.prog w=.ok (.bool (decide (a=b))) w:=by
 rw[run_eql_struct,nj 9997];rfl
theorem wE(a b:Gr) (w:World):(binOp .neq 107 a.v b.v).run Tryz.prog w=.ok (.bool (!decide (a=b))) w:=by
 rw[run_neq_struct,nj 9997];rfl
theorem rW(a b:Rd) (w:World):(binOp .eql 109 a.v b.v).run Tryz.prog w=.ok (.bool (decide (a=b))) w:=by
 rw[run_eql_struct,eZ 9996];rfl
theorem me(a:Int):cmpI a a=0:=by unfold cmpI;grind
theorem gC{a b:Int} (h:cmpI a b=0):a=b:=by unfold cmpI at h;grind
theorem jO(a:Gr):bJ a a=0:=by
 unfold bJ;rw[me];simp;exact cj _ _ (fun j _=>me _)
theorem oD(g:Gr) (k:Nat) (hk:k<5) (w:World) (B:Nat) (hw:w.heap[B]?=some (.cells #[.int .i64 g.n,.int .i64 g.h0,.int .i64 g.h1,.int .i64 g.h2,.int .i64 g.h3,.int .i64 g.h4] 107)) :
  w.cell? ⟨B,1+k,none⟩=some (.int .i64 (g.hear k)):=by
 have:k=0\/k=1\/k=2\/k=3\/k=4:=by omega
 rcases this with h|h|h|h|h<;>subst h<;>simp[World.cell?,hw,Gr.hear]
theorem vq(a b:Gr) (w:World) :
  Calls Tryz.prog 248 #[a.v,b.v] w fun e w'=>e=.returned (.int .i64 (bJ a b))/\Below w.heap.size w w':=by
 by_cases k9:a=b
 ·subst k9;have kB:∀ w,(binOp .eql 107 a.v a.v).run Tryz.prog w=.ok (.bool true) w:=fun w=>by rw[wD];simp
  have H:=ab (jO a);obtain⟨n,h0,h1,h2,h3,h4⟩:=a
  go_enter Tryz.func248,Tryz.ntmps248
  go_wp2
  go_ret;exact⟨aE H.o.symm,by go_grown⟩
 have kB:∀ w,(binOp .eql 107 a.v b.v).run Tryz.prog w=.ok (.bool false) w:=fun w=>by rw[wD];simp[k9]
 clear k9;by_cases hn:a.n=b.n
 ·have u5:(a.n != b.n)=false:=by simp[hn]
  have HC:bc (bJ a b=ay 5 fun p=>cmpI (a.hear p) (b.hear p)):=by(have h:bJ a b=ay 5 fun p=>cmpI (a.hear p) (b.hear p):=by(unfold bJ;rw[hn,me];simp));exact h
  clear hn
  go_enter Tryz.func248,Tryz.ntmps248
  go_wp2
  refine eE (fun W=>Below w.heap.size w W/\W.heap[w.heap.size]?=some (.cells #[.int .i64 a.n,.int .i64 a.h0,.int .i64 a.h1,.int .i64 a.h2,.int .i64 a.h3,.int .i64 a.h4] 107)/\W.heap[w.heap.size+1]?=some (.cells #[.int .i64 b.n,.int .i64 b.h0,.int .i64 b.h1,.int .i64 b.h2,.int .i64 b.h3,.int .i64 b.h4] 107))
   ⟨by go_grown,aH _ (aA _ _),by have:=aA (w.alloc (.cells #[.int .i64 a.n,.int .i64 a.h0,.int .i64 a.h1,.int .i64 a.h2,.int .i64 a.h3,.int .i64 a.h4] 107));rw[World.size_alloc]at this;exact this _⟩ (fun W0 dF=>?_)
  obtain⟨bw,hA,hB⟩:=dF;have HA:=ab hA;clear hA;have HB:=ab hB;clear hB
  go_loopw [20] (fun i wr=>Below W0.heap.size W0 wr/\∃ k:Nat,k<=5/\i=.int .i64 k/\∀ j,j<k->cmpI (a.hear j) (b.hear j)=0) (fun i _=>5 - (intOf i).toNat)
  ·exact⟨Below.refl _ _,0,by omega,rfl,by simp⟩
  ·
   obtain⟨ba,k,hk,rfl,bB⟩:=hrel;have H:=ab bB;clear bB;by_cases aG:k<5
   ·have c1:∀ x:ExtW wr,x.val.cell? ⟨w.heap.size,1+k,none⟩=some (.int .i64 (a.hear k)):=fun x=>x.cell (oD a k aG wr _ (aq ba HA.o))
    have c2:∀ x:ExtW wr,x.val.cell? ⟨w.heap.size+1,1+k,none⟩=some (.int .i64 (b.hear k)):=fun x=>x.cell (oD b k aG wr _ (aq ba HB.o))
    go_wp2
    refine bI (by kernel_rfl) (by kernel_rfl) ?_
    repeat (quiet_step ((go_at_call 204;exact Calls.ext_of ((lE _ _ _).mono fun _ _ ⟨h1,h2⟩=>⟨h1,h2 ▸ Below.refl _ _⟩))))
    refine wpQuiet_nil ?_;intro _ jT;obtain⟨xq,gW⟩:=jT;subst gW
    go_wp2
    ·have ht:(cmpI (a.hear k) (b.hear k) != 0)=true:=by assumption
     go_ret
     exact⟨aE (by rw[HC.o];exact bR k _ aG H.o rfl (by simpa using ht)),ak bw (ak ba xq.ext)⟩
    ·have ht:(cmpI (a.hear k) (b.hear k) != 0)=false:=by assumption
     go_roundw
     ·exact⟨ak ba xq.ext,k+1,by omega,by go_num,bG H.o (by simpa using ht)⟩
     ·simp[intOf];omega
   ·go_wp2
    go_ret;exact⟨aE (by rw[HC.o,cj];intro j hj;exact H.o j (by omega)),ak bw ba⟩
 ·have u5:(a.n != b.n)=true:=by simp[hn]
  have HC:bc (bJ a b=cmpI a.n b.n):=by unfold bJ;rw[if_pos];exact rfl;intro h;exact hn (gC h)
  clear hn
  go_enter Tryz.func248,Tryz.ntmps248
  go_wp2_with (go_at_call 204;refine(lE _ _ _).mono ?_;rintro e w' ⟨rfl,rfl⟩)
  go_ret;exact⟨aE HC.o.symm,by go_grown⟩
theorem yn(r:Rd) (w:World) :
  Calls Tryz.prog 208 #[r.v] w fun e w'=>e=.returned (.int .i64 (roundE r))/\Below w.heap.size w w':=by
 obtain⟨⟨n,h0,h1,h2,h3,h4⟩,f⟩:=r
 go_enter Tryz.func208,Tryz.ntmps208
 go_wp2_with (first
  | (go_at_call 255;refine(ym ⟨_,_,_,_,_,_⟩ _).mono ?_;rintro e w1 ⟨rfl,hb⟩;obtain⟨hc,hf⟩:=RF hb)
  | (go_at_call 256;refine(vp _ _ _).mono ?_;rintro e w2 ⟨rfl,rfl⟩))
 all_goals
  go_ret
  refine⟨aE ?_,?_⟩
  ·go_light
   unfold roundE
   grind
  ·exact ak (by go_grown) hb
theorem um(a:Rd):roundC a a=0:=by
 unfold roundC;rw[jO,me];simp
theorem LY{a b:Gr} (hn:a.n=b.n) (h:∀ j,j<5->cmpI (a.hear j) (b.hear j)=0):a=b:=by
 obtain⟨n,h0,h1,h2,h3,h4⟩:=a;obtain⟨m,g0,g1,g2,g3,g4⟩:=b;have e0:=gC (h 0 (by omega));have e1:=gC (h 1 (by omega));have e2:=gC (h 2 (by omega));have e3:=gC (h 3 (by omega));have e4:=gC (h 4 (by omega));simp[Gr.hear]at e0 e1 e2 e3 e4 hn;simp[e0,e1,e2,e3,e4,hn]
theorem uo{a b:Gr} (h:bJ a b=0):a=b:=by
 unfold bJ at h;by_cases hc:cmpI a.n b.n=0
 ·rw[if_neg (by simpa using hc)]at h;exact LY (gC hc) (bH h)
 ·rw[if_pos hc]at h;exact absurd h hc
theorem vr(a b:Rd) (w:World) :
  Calls Tryz.prog 188 #[a.v,b.v] w fun e w'=>e=.returned (.int .i64 (roundC a b))/\Below w.heap.size w w':=by
 by_cases k9:a=b
 ·subst k9;have kB:∀ w,(binOp .eql 109 a.v a.v).run Tryz.prog w=.ok (.bool true) w:=fun w=>by rw[rW];simp
  have H:=ab (um a)
  go_enter Tryz.func188,Tryz.ntmps188
  go_wp2
  go_ret;exact⟨aE H.o.symm,by go_grown⟩
 have kB:∀ w,(binOp .eql 109 a.v b.v).run Tryz.prog w=.ok (.bool false) w:=fun w=>by rw[rW];simp[k9]
 by_cases hg:a.g=b.g
 ·have aV:∀ w,(binOp .neq 107 a.g.v b.g.v).run Tryz.prog w=.ok (.bool false) w:=fun w=>by rw[wE];simp[hg]
  have HC:bc (roundC a b=cmpI a.f b.f):=by(have h:roundC a b=cmpI a.f b.f:=by(unfold roundC;rw[hg,jO];simp));exact h
  clear hg k9
  go_enter Tryz.func188,Tryz.ntmps188
  go_wp2_with (go_at_call 204;refine(lE _ _ _).mono ?_;rintro e w' ⟨rfl,rfl⟩)
  go_ret;exact⟨aE HC.o.symm,by go_grown⟩
 ·have aV:∀ w,(binOp .neq 107 a.g.v b.g.v).run Tryz.prog w=.ok (.bool true) w:=fun w=>by rw[wE];simp[hg]
  have HC:bc (roundC a b=bJ a.g b.g):=by(have h:roundC a b=bJ a.g b.g:=by(unfold roundC;rw[if_pos (fun h=>hg (uo h))]));exact h
  clear hg k9
  go_enter Tryz.func188,Tryz.ntmps188
  go_wp2_with (go_at_call 248;refine(vq a.g b.g _).mono ?_;rintro e w1 ⟨rfl,hb⟩)
  go_ret;exact⟨aE HC.o.symm,ak (by go_grown) hb⟩
theorem wF(va vb:Value) (a b:List Int) (w:World) (ha:cW w va a) (hb:cW w vb b) :
  Calls Tryz.prog 37 #[va,vb] w fun e w'=>e=.returned (.bool (eqV a b))/\Below w.heap.size w w':=by
 obtain⟨pa,ca,rfl,la1,la2,ea⟩:=ha.at;obtain⟨pb,cb,rfl,lb1,lb2,eb⟩:=hb.at;clear ha hb;have EA:=ab ea;clear ea;have EB:=ab eb;clear eb;by_cases hl:a.length=b.length
 ·have ge:((a.length:Int) != (b.length:Int))=false:=by simp[hl]
  have HL:=ab hl;clear hl
  go_enter Tryz.func37,Tryz.ntmps37
  go_wp2
  go_loopw [13] (fun i wr=>Below w.heap.size w wr/\∃ k:Nat,k<=a.length/\i=.int .i64 k/\∀ j,j<k->a.getD j 0=b.getD j 0) (fun i _=>a.length - (intOf i).toNat)
  ·exact⟨Below.refl _ _,0,by omega,rfl,by simp⟩
  ·
   obtain⟨ba,k,hk,rfl,bB⟩:=hrel;have H:=ab bB;clear bB;by_cases aG:k<a.length
   ·obtain⟨b1,o1,rfl,h1⟩:=EA.o k aG;have Dx:k<b.length:=by have:=HL.o;omega
    obtain⟨b2,o2,rfl,h2⟩:=EB.o k Dx;obtain⟨x,hx⟩:∃ x,x=a[k]:=⟨_,rfl⟩;obtain⟨y,hy⟩:∃ y,y=b[k]:=⟨_,rfl⟩;rw[<-hx,Nat.mul_one]at h1;rw[<-hy,Nat.mul_one]at h2;have c1:∀ n,(wr.drewN n).cell? ⟨b1,o1+k,none⟩=some (.int .i64 x):=fun n=>aC ba h1.1
    have c2:∀ n,(wr.drewN n).cell? ⟨b2,o2+k,none⟩=some (.int .i64 y):=fun n=>aC ba h2.1
    have HX:=ab hx;clear hx;have HY:=ab hy;clear hy
    go_wp2
    go_quiet (fail)
    go_wp2
    ·have ht:(x != y)=true:=by assumption
     go_ret
     refine⟨fW ?_,lP ba _⟩
     go_light
     unfold eqV;simp at ht ⊢;intro h;subst h;exact ht (HX.o.trans HY.o.symm)
    ·have ht:(x != y)=false:=by assumption
     go_roundw
     ·
      refine⟨lP ba _,k+1,by omega,by go_num,bG H.o ?_⟩;rw[aj 0 aG,aj 0 Dx,<-HX.o,<-HY.o];simpa using ht
     ·simp[intOf];omega
   ·go_wp2
    go_ret
    refine⟨fW ?_,ba⟩;unfold eqV;simp;refine List.ext_getElem HL.o fun i h1 h2=>?_
    have:=H.o i (by omega)
    rwa [aj 0 h1,aj 0 h2]at this
 ·have ge:((a.length:Int) != (b.length:Int))=true:=by simp;omega
  go_enter Tryz.func37,Tryz.ntmps37
  go_wp2
  go_ret
  exact⟨fW (by unfold eqV;simp;intro h;exact hl (by rw[h])),Below.refl _ _⟩
theorem IJ{a b:List Int} {k:Nat} (h1:k<a.length) (h2:k<b.length) (hO:ordV a b=ordV (a.drop k) (b.drop k)):ordV a b=if cmpI a[k] b[k]=0 then ordV (a.drop (k+1)) (b.drop (k+1)) else cmpI a[k] b[k]:=by
 rw[hO,cA h1,cA h2,ordV];unfold cmpI
 grind
theorem mI(va vb:Value) (a b:List Int) (w:World) (ha:cW w va a) (hb:cW w vb b) :
  Calls Tryz.prog 179 #[va,vb] w fun e w'=>e=.returned (.int .i64 (ordV a b))/\Below w.heap.size w w':=by
 obtain⟨pa,ca,rfl,la1,la2,ea⟩:=ha.at;obtain⟨pb,cb,rfl,lb1,lb2,eb⟩:=hb.at;clear ha hb;have EA:=ab ea;clear ea;have EB:=ab eb;clear eb
 go_enter Tryz.func179,Tryz.ntmps179
 go_wp2
 go_loop [11] (fun i=>∃ k:Nat,k<=a.length/\i=.int .i64 k/\ordV a b=ordV (a.drop k) (b.drop k)) (fun i=>a.length - (intOf i).toNat)
 ·exact⟨0,by omega,rfl,by simp⟩
 ·
  obtain⟨k,hk,rfl,bB⟩:=hrel;have H:=ab bB;clear bB;by_cases aG:k<a.length
  ·obtain⟨b1,o1,rfl,h1⟩:=EA.o k aG;obtain⟨x,hx⟩:∃ x,x=a[k]:=⟨_,rfl⟩;rw[<-hx,Nat.mul_one]at h1;have c1:=h1.1;have HX:=ab hx;clear hx h1;by_cases Dx:k<b.length
   ·obtain⟨b2,o2,rfl,h2⟩:=EB.o k Dx;obtain⟨y,hy⟩:∃ y,y=b[k]:=⟨_,rfl⟩;rw[<-hy,Nat.mul_one]at h2;have c2:=h2.1;have HY:=ab hy;clear hy h2;have HS:=IJ aG Dx H.o;rw[<-HX.o,<-HY.o]at HS;have HS':=ab HS;clear HS
    go_wp2_with (go_at_call 204;refine(lE _ _ _).mono ?_;rintro e w' ⟨rfl,rfl⟩)
    ·have ht:(cmpI x y != 0)=true:=by assumption
     go_ret
     exact⟨aE (by rw[HS'.o,if_neg (by simpa using ht)]),Below.refl _ _⟩
    ·have ht:(cmpI x y != 0)=false:=by assumption
     go_round
     ·exact⟨k+1,by omega,by go_num,by rw[HS'.o,if_pos (by simpa using ht)]⟩
     ·simp[intOf];omega
   ·go_wp2
    go_ret
    refine⟨aE ?_,Below.refl _ _⟩;rw[H.o,cA aG,List.drop_of_length_le (l:=b) (by omega)];rfl
  ·have HR:bc (ordV a b=if a.length<b.length then -1 else 0):=by
    have h:ordV a b=if a.length<b.length then -1 else 0:=by
     rw[H.o,List.drop_of_length_le (by omega),my,List.length_drop]
     grind
    exact h
   go_wp2
   all_goals
    go_ret
    refine⟨aE ?_,Below.refl _ _⟩;rw[HR.o]
    go_light
    grind
theorem tY(g:Nat) (lb:Array Value) (eg:∀ args w,(callFunc g args).run Tryz.prog w=.ok (.enter g args) w) (v:Value) (l:List Int) (p:Nat->Bool) (w:World) (hv:cW w v l)
  (hp:∀ i (hi:i<l.length)  W,Below w.heap.size w W->Calls Tryz.prog g (#[.int .i64 l[i]]++lb) W fun e W'=>e=.returned (.bool (p i))/\Below W.heap.size W W') :
  Calls Tryz.prog 137 #[v,.func (.func g) #[] lb] w fun e w'=>e=.returned (.int .i64 (firstIx l.length p))/\Below w.heap.size w w':=by
 obtain⟨pa,ca,rfl,la1,la2,ea⟩:=hv.at;clear hv;have EA:=ab ea;clear ea;have HP:=ab hp;clear hp
 go_enter Tryz.func137,Tryz.ntmps137
 go_wp2
 go_loopw [8] (fun i wr=>Below w.heap.size w wr/\∃ k:Nat,k<=l.length/\i=.int .i64 k/\∀ j,j<k->p j=false) (fun i _=>l.length - (intOf i).toNat)
 ·exact⟨Below.refl _ _,0,by omega,rfl,by simp⟩
 ·
  obtain⟨ba,k,hk,rfl,bB⟩:=hrel;have H:=ab bB;clear bB;by_cases aG:k<l.length
  ·obtain⟨b1,o1,rfl,h1⟩:=EA.o k aG;rw[Nat.mul_one]at h1;have c1:=aC ba h1.1;have br:=HP.o k aG wr ba;clear h1;generalize l[k]=x at c1 br;cases fU:p k with
   | true=>
    rw[fU]at br;have dg:=ab br;clear br;have tj:=ab fU;clear fU
    go_wp2_with fail
    refine dg.o.mono ?_;rintro e w1 ⟨rfl,aK⟩
    go_wp2_with fail
    go_ret
    exact⟨aE (cD _ _ _ aG H.o tj.o).symm,ak ba aK⟩
   | false=>
    rw[fU]at br;have dg:=ab br;clear br;have tj:=ab fU;clear fU
    go_wp2_with fail
    refine dg.o.mono ?_;rintro e w1 ⟨rfl,aK⟩
    go_wp2_with fail
    go_roundw
    ·exact⟨ak ba aK,k+1,by omega,by go_num,bG H.o tj.o⟩
    ·simp[intOf];omega
  ·go_wp2
   go_ret
   exact⟨aE (by rw[cU];intro j hj;exact H.o j (by omega)),ba⟩
theorem tZ(g:Nat) (lb:Array Value) (eg:∀ args w,(callFunc g args).run Tryz.prog w=.ok (.enter g args) w) (v:Value) (l:List (List Int)) (p:Nat->Bool) (w:World) (hv:iN w v l)
  (hp:∀ i (hi:i<l.length) (x:Value) (_:cW w x l[i]) W,Below w.heap.size w W->Calls Tryz.prog g (#[x]++lb) W fun e W'=>e=.returned (.bool (p i))/\Below W.heap.size W W') :
  Calls Tryz.prog 252 #[v,.func (.func g) #[] lb] w fun e w'=>e=.returned (.int .i64 (firstIx l.length p))/\Below w.heap.size w w':=by
 obtain⟨pa,ca,rfl,la1,la2,ea⟩:=hv.at;clear hv;have EA:=ab ea;clear ea;have HP:=ab hp;clear hp
 go_enter Tryz.func252,Tryz.ntmps252
 go_wp2
 go_loopw [8] (fun i wr=>Below w.heap.size w wr/\∃ k:Nat,k<=l.length/\i=.int .i64 k/\∀ j,j<k->p j=false) (fun i _=>l.length - (intOf i).toNat)
 ·exact⟨Below.refl _ _,0,by omega,rfl,by simp⟩
 ·
  obtain⟨ba,k,hk,rfl,bB⟩:=hrel;have H:=ab bB;clear bB;by_cases aG:k<l.length
  ·obtain⟨b1,o1,rfl,h1⟩:=EA.o k aG;rw[Nat.mul_one]at h1;obtain⟨x,tp,hx⟩:=h1;have c1:=aC ba tp;have br:=HP.o k aG x hx wr ba;clear tp hx;cases fU:p k with
   | true=>
    rw[fU]at br;have dg:=ab br;clear br;have tj:=ab fU;clear fU
    go_wp2_with fail
    refine dg.o.mono ?_;rintro e w1 ⟨rfl,aK⟩
    go_wp2_with fail
    go_ret
    exact⟨aE (cD _ _ _ aG H.o tj.o).symm,ak ba aK⟩
   | false=>
    rw[fU]at br;have dg:=ab br;clear br;have tj:=ab fU;clear fU
    go_wp2_with fail
    refine dg.o.mono ?_;rintro e w1 ⟨rfl,aK⟩
    go_wp2_with fail
    go_roundw
    ·exact⟨ak ba aK,k+1,by omega,by go_num,bG H.o tj.o⟩
    ·simp[intOf];omega
  ·go_wp2
   go_ret
   exact⟨aE (by rw[cU];intro j hj;exact H.o j (by omega)),ba⟩
theorem qp(g:Nat) (lb:Array Value) (eg:∀ args w,(callFunc g args).run Tryz.prog w=.ok (.enter g args) w) (v:Value) (l:List Int) (p:Nat->Bool) (w:World) (hv:cW w v l)
  (hp:∀ i (hi:i<l.length)  W,Below w.heap.size w W->Calls Tryz.prog g (#[.int .i64 l[i]]++lb) W fun e W'=>e=.returned (.bool (p i))/\Below W.heap.size W W') :
  Calls Tryz.prog 79 #[v,.func (.func g) #[] lb] w fun e w'=>e=.returned (.bool (anyLt l.length p))/\Below w.heap.size w w':=by
 have hc:=tY g lb eg v l p w hv hp;have HA:=ab (lO l.length p);generalize firstIx l.length p=r at hc HA;have HC:=ab hc;clear hc hp
 go_enter Tryz.func79,Tryz.ntmps79
 go_wp2_with fail
 refine HC.o.mono ?_;rintro e w1 ⟨rfl,aK⟩
 go_wp2_with fail
 go_ret
 exact⟨fW HA.o,aK⟩
theorem qq(g:Nat) (lb:Array Value) (eg:∀ args w,(callFunc g args).run Tryz.prog w=.ok (.enter g args) w) (v:Value) (l:List (List Int)) (p:Nat->Bool) (w:World) (hv:iN w v l)
  (hp:∀ i (hi:i<l.length) (x:Value) (_:cW w x l[i]) W,Below w.heap.size w W->Calls Tryz.prog g (#[x]++lb) W fun e W'=>e=.returned (.bool (p i))/\Below W.heap.size W W') :
  Calls Tryz.prog 200 #[v,.func (.func g) #[] lb] w fun e w'=>e=.returned (.bool (anyLt l.length p))/\Below w.heap.size w w':=by
 have hc:=tZ g lb eg v l p w hv hp;have HA:=ab (lO l.length p);generalize firstIx l.length p=r at hc HA;have HC:=ab hc;clear hc hp
 go_enter Tryz.func200,Tryz.ntmps200
 go_wp2_with fail
 refine HC.o.mono ?_;rintro e w1 ⟨rfl,aK⟩
 go_wp2_with fail
 go_ret
 exact⟨fW HA.o,aK⟩
end Go.Proofs.YtiocdkdkndpgkaaGreat
namespace Go.Proofs.YtiocdkdkndpgkaaGreat
open Go.RowKit Go Go.Shelf
structure KeyKit {K:Type} [DecidableEq K] (P:Program) (kt:TypeId) (enc:K->Value):Prop where
 eq:∀ a b w,(Op.equal kt (enc a) (enc b)).run P w=.ok (decide (a=b)) w
 check:∀ em a w,(Instr.checkKey em 10000 kt (enc a)).run P w=.ok () w
 und:∃ fs,P.underlying kt=some (.struct fs)
def rX{K:Type} (enc:K->Value) (w:World) (b:Nat) (f:List (K × Value)):Prop:=
 ∃ es clock,w.heap[b]?=some (.map es clock)/\es.toList.map (fun e=>(e.key,e.val))=f.map (fun p=>(enc p.1,p.2))
def dV{K:Type} [DecidableEq K] (f:List (K × Value)) (r:K):Option Value:=(f.find? fun p=>decide (r=p.1)).map (·.2)
theorem uq{K:Type} [DecidableEq K] {P:Program} {kt:TypeId} {enc:K->Value} (kit:KeyKit P kt enc) (r:K) (w:World):∀ (f:List (K × Value)) (es:List MapEntry) (i:Nat),es.map (fun e=>(e.key,e.val))=f.map (fun p=>(enc p.1,p.2)) →
  (dV f r=none->(Instr.findAsking kt (enc r) es i).run P w=.ok none w)/\(∀ x,dV f r=some x->∃ j,(Instr.findAsking kt (enc r) es i).run P w=.ok (some (j,x)) w)
 | [],es,i,h=>by
  obtain rfl:es=[]:=by simpa using h
  exact⟨fun _=>rfl,fun x hx=>by simp[dV]at hx⟩
 | p :: f,es,i,h=>by
  cases es with
  | nil=>simp at h
  | cons e es=>
   simp only[List.map_cons,List.cons.injEq,Prod.mk.injEq]at h;obtain⟨⟨hk,hv⟩,h⟩:=h;have ih:=uq kit r w f es (i+1) h;unfold Instr.findAsking;by_cases hr:r=p.1
   ·subst hr;refine⟨fun hn=>by simp[dV]at hn,fun x hx=>?_⟩;have Q5:p.2=x:=by simpa[dV] using hx
    refine⟨i,?_⟩;simp[Sem.run_bind,hk,kit.eq,hv,Q5]
   ·have e1:dV (p :: f) r=dV f r:=by simp[dV,hr]
    rw[e1];refine⟨fun hn=>?_,fun x hx=>?_⟩
    ·simp[Sem.run_bind,hk,kit.eq,hr,ih.1 hn]
    ·obtain⟨j,hj⟩:=ih.2 x hx;exact⟨j,by simp[Sem.run_bind,hk,kit.eq,hr,hj]⟩
theorem vu{K:Type} [DecidableEq K] {P:Program} {kt:TypeId} {enc:K->Value} (kit:KeyKit P kt enc) (r:K) (w:World) (f:List (K × Value)) (es:List MapEntry) (h:es.map (fun e=>(e.key,e.val))=f.map (fun p=>(enc p.1,p.2))) :
  (dV f r=none->(Instr.findKey kt (enc r) es).run P w=.ok none w)/\(∀ x,dV f r=some x->∃ j,(Instr.findKey kt (enc r) es).run P w=.ok (some (j,x)) w):=by
 have hA:=uq kit r w f es 0 h;obtain⟨fs,hu⟩:=kit.und;unfold Instr.findKey;cases es with
 | nil=>
  obtain rfl:f=[]:=by simpa using h.symm
  refine⟨fun _=>?_,fun x hx=>by simp[dV]at hx⟩;simp[run_underlying hu,Instr.findNow]
 | cons e es=>
  have hn:Instr.findNow (.struct fs) (enc r) (e :: es) 0=none:=by simp[Instr.findNow,Instr.sameNow]
  simp only[Sem.run_bind,run_underlying hu,Result.andThen_ok,hn];exact hA
theorem LZ{K:Type} [DecidableEq K] {P:Program} {kt mt vt:TypeId} {z:Value} {enc:K->Value} (kit:KeyKit P kt enc) (hm:P.underlying mt=some (.map kt vt)) (hz:∀ w,(zeroValue vt).run P w=.ok z w) {w:World} {b:Nat} {f:List (K × Value)} (h:rX enc w b f) (r:K) :
  (Instr.lookup mt (.map (some b)) (enc r) true).run P w=.ok (.tuple #[(dV f r).getD z,.bool (dV f r).isSome]) w:=by
 obtain⟨es,clock,hb,og⟩:=h;have hF:=vu kit r w f es.toList og;have hg:(getObj b).run P w=.ok (.map es clock) w:=by simp[getObj,Sem.run,hb]
 unfold Instr.lookup;cases hn:dV f r with
 | none=>simp[Sem.run_bind,run_underlying hm,hg,kit.check,hF.1 hn,hz]
 | some x=>
  obtain⟨j,hj⟩:=hF.2 x hn;simp[run_underlying hm,hg,kit.check,hj]
theorem L1{K:Type} [DecidableEq K] {P:Program} {kt mt vt:TypeId} {z:Value} {enc:K->Value} (kit:KeyKit P kt enc) (hm:P.underlying mt=some (.map kt vt)) (hz:∀ w,(zeroValue vt).run P w=.ok z w) {w:World} {b:Nat} {f:List (K × Value)} (h:rX enc w b f) (r:K) :
  (Instr.lookup mt (.map (some b)) (enc r) false).run P w=.ok ((dV f r).getD z) w:=by
 obtain⟨es,clock,hb,og⟩:=h;have hF:=vu kit r w f es.toList og;have hg:(getObj b).run P w=.ok (.map es clock) w:=by simp[getObj,Sem.run,hb]
 unfold Instr.lookup;cases hn:dV f r with
 | none=>simp[Sem.run_bind,run_underlying hm,hg,kit.check,hF.1 hn,hz]
 | some x=>
  obtain⟨j,hj⟩:=hF.2 x hn;simp[run_underlying hm,hg,kit.check,hj]
theorem OW{K:Type} [DecidableEq K] {P:Program} {kt mt vt:TypeId} {enc:K->Value} (kit:KeyKit P kt enc) (hm:P.underlying mt=some (.map kt vt)) {w:World} {b:Nat} {f:List (K × Value)} (h:rX enc w b f) (r:K) (x:Value) (hn:dV f r=none) :
  ∃ o,(Instr.mapUpdate mt (.map (some b)) (enc r) x).run P w=.ok () (w.putObj b o)/\rX enc (w.putObj b o) b (f++[(r,x)]):=by
 obtain⟨es,clock,hb,og⟩:=h;have hF:=vu kit r w f es.toList og;have hg:(getObj b).run P w=.ok (.map es clock) w:=by simp[getObj,Sem.run,hb]
 have hs:∀ o,(setObj b o).run P w=.ok () (w.putObj b o):=fun o=>by simp[setObj,Sem.run,hb,World.putObj]
 refine⟨_,?_,es.push { key:=enc r,val:=x,born:=clock },clock+1,World.putObj_heap_same (aw hb),?_⟩
 ·unfold Instr.mapUpdate;simp[run_underlying hm,hg,kit.check,hF.1 hn,hs]
 ·simp[og]
def mV(w:World) (v:Value) (xs:List Value):Prop:=
 ∃ a cap,v=.slice a xs.length cap/\(a=none->xs.length=0/\cap=0)/\(∀ i x,xs[i]?=some x->∃ b off,a=some ⟨b,off,none⟩/\w.cell? ⟨b,off+i,none⟩=some x)/\∀ x∈xs,x.oneCell'=true
theorem Tryz.infoInt:(Tryz.prog.info? 3).map (fun i=>(i.zero,i.size,i.bytes))=some (some (.int .i64 0),1,8):=by kernel_rfl
theorem Tryz.infoInts:(Tryz.prog.info? 38).map (fun i=>(i.zero,i.size,i.bytes))=some (some (.slice none 0 0),1,24):=by kernel_rfl
theorem Bt(v:Value) (xs:List Value) (w:World) (hv:mV w v xs) (hn:xs.length<=1099511627776) :
  Calls Tryz.prog 61 #[v] w fun e w'=>∃ u,e=.returned u/\w'.ownsRow w.heap.size 3 1 u xs.length xs/\Below w.heap.size w w':=by
 obtain⟨a,cap,rfl,ha,hc,h1⟩:=hv;obtain⟨i0,hi,dE,dc,dN⟩:=info_parts Tryz.infoInt;cases a with
 | none=>
  obtain⟨hl,rfl⟩:=ha rfl;obtain rfl:xs=[]:=List.eq_nil_of_length_eq_zero hl;have kB:=fun w=>Lib.run_eql_slice_nil (P:=Tryz.prog) w 38
  go_enter Tryz.func61,Tryz.ntmps61
  go_wp2_with fail
  go_ret
  exact⟨_,rfl,World.ownsRow_nil _ _ _ _,Below.refl _ _⟩
 | some ad=>
  have kB:=fun w=>Lib.run_eql_slice_nil (P:=Tryz.prog) w 38
  have bM:∀ j u,xs[j]?=some u->(w.alloc (.cells #[] 3)).cell? (ad.add j)=some u:=fun j u hj=>by
   obtain⟨b,off,e,nf⟩:=hc j u hj;cases e;have:(Addr.add ⟨b,off,none⟩ j)=⟨b,off+j,none⟩:=by unfold Addr.add;split<;>simp_all
   rw[this];exact aC (by go_grown) nf
  have aS:(w.alloc (.cells #[] 3)).ownsRow w.heap.size 3 1 (.slice (some ⟨w.heap.size,0,none⟩) 0 0) 0 []:=⟨by simp,.inr ⟨w.heap.size,0,#[],rfl,Nat.le_refl _,aA _ _,by omega,by simp[maxLen],by simp,by simp⟩⟩;have fV:=ab bM;have fw:=ab aS;have H1:=ab h1;clear bM aS h1 hc ha
  go_enter Tryz.func61,Tryz.ntmps61
  go_wp2_with (at_builtin;refine wpList_append_own _ rfl (.tmp 5) (.tmp 6) 38 rfl w.heap.size 3 i0 (.int .i64 0) 1 8 Tryz.underlying38 hi dE dc dN rfl (by decide) _ 0 [] rfl fw.o ad xs.length cap xs rfl (by simp) fV.o H1.o (by unfold maxLen;omega) (by omega) (by simp) ?_;intro v' w1 rh sV _)
  go_ret
  refine⟨_,rfl,by simpa using rh,Below.grown (w:=w.alloc (.cells #[] 3)) (by go_grown) sV (by simp) (fun k hk=>?_)⟩;cases hk;exact Nat.le_refl _
theorem Bu(v:Value) (xs:List Value) (w:World) (hv:mV w v xs) (hn:xs.length<=1099511627776) :
  Calls Tryz.prog 261 #[v] w fun e w'=>∃ u,e=.returned u/\w'.ownsRow w.heap.size 38 1 u xs.length xs/\Below w.heap.size w w':=by
 obtain⟨a,cap,rfl,ha,hc,h1⟩:=hv;obtain⟨i0,hi,dE,dc,dN⟩:=info_parts Tryz.infoInts;cases a with
 | none=>
  obtain⟨hl,rfl⟩:=ha rfl;obtain rfl:xs=[]:=List.eq_nil_of_length_eq_zero hl;have kB:=fun w=>Lib.run_eql_slice_nil (P:=Tryz.prog) w 30
  go_enter Tryz.func261,Tryz.ntmps261
  go_wp2_with fail
  go_ret
  exact⟨_,rfl,World.ownsRow_nil _ _ _ _,Below.refl _ _⟩
 | some ad=>
  have kB:=fun w=>Lib.run_eql_slice_nil (P:=Tryz.prog) w 30
  have bM:∀ j u,xs[j]?=some u->(w.alloc (.cells #[] 38)).cell? (ad.add j)=some u:=fun j u hj=>by
   obtain⟨b,off,e,nf⟩:=hc j u hj;cases e;have:(Addr.add ⟨b,off,none⟩ j)=⟨b,off+j,none⟩:=by unfold Addr.add;split<;>simp_all
   rw[this];exact aC (by go_grown) nf
  have aS:(w.alloc (.cells #[] 38)).ownsRow w.heap.size 38 1 (.slice (some ⟨w.heap.size,0,none⟩) 0 0) 0 []:=⟨by simp,.inr ⟨w.heap.size,0,#[],rfl,Nat.le_refl _,aA _ _,by omega,by simp[maxLen],by simp,by simp⟩⟩;have fV:=ab bM;have fw:=ab aS;have H1:=ab h1;clear bM aS h1 hc ha
  go_enter Tryz.func261,Tryz.ntmps261
  go_wp2_with (at_builtin;refine wpList_append_own _ rfl (.tmp 5) (.tmp 6) 30 rfl w.heap.size 38 i0 (.slice none 0 0) 1 24 Tryz.underlying30 hi dE dc dN rfl (by decide) _ 0 [] rfl fw.o ad xs.length cap xs rfl (by simp) fV.o H1.o (by unfold maxLen;omega) (by omega) (by simp) ?_;intro v' w1 rh sV _)
  go_ret
  refine⟨_,rfl,by simpa using rh,Below.grown (w:=w.alloc (.cells #[] 38)) (by go_grown) sV (by simp) (fun k hk=>?_)⟩;cases hk;exact Nat.le_refl _
theorem D1{w:World} {v:Value} {l:List Int} (h:cW w v l):mV w v (l.map (Value.int .i64)):=by
 obtain⟨a,cap,rfl,h1,h2,h3⟩:=h;refine⟨a,cap,by simp,fun e=>?_,fun i x hx=>?_,fun x hx=>?_⟩
 ·have:=h1.2.2 e;exact⟨by rw[List.length_map];omega,this⟩
 ·simp only[List.getElem?_map,Option.map_eq_some_iff]at hx;obtain⟨y,hy,rfl⟩:=hx;obtain⟨b,off,ha,hr⟩:=h3 i y hy;exact⟨b,off,ha,by have:=hr.1;rwa [Nat.mul_one]at this⟩
 ·obtain⟨y,_,rfl⟩:=List.mem_map.1 hx;rfl
theorem gE{w:World} {base:Nat} {e:TypeId} {v:Value} {n:Nat} {xs:List Value} (h:w.ownsRow base e 1 v n xs):∃ a cap,v=.slice a n cap/\n<=cap/\cap<=9223372036854775807/\(a=none->cap=0)/\xs.length=n/\∀ i x,xs[i]?=some x->∃ b,a=some ⟨b,0,none⟩/\w.cell? ⟨b,i,none⟩=some x:=by
 obtain⟨hl,h⟩:=h;rw[Nat.mul_one]at hl;rcases h with ⟨rfl,rfl⟩|⟨g,cap,cur,rfl,hg,hb,hn,hm,hs,ht⟩
 ·exact⟨none,0,rfl,by omega,by omega,fun _=>rfl,hl,fun i x hx=>by have:=(List.getElem?_eq_some_iff.1 hx).1;omega⟩
 ·refine⟨_,cap,rfl,hn,by simpa[maxLen] using hm,(fun e=>(by cases e)),hl,fun i x hx=>⟨g,rfl,?_⟩⟩;rw[ae hb,<-hx,<-ht,Nat.mul_one];have hi:=(List.getElem?_eq_some_iff.1 hx).1;rw[List.getElem?_take_of_lt (by omega)];simp
theorem D2(x most:Int) (B:Nat) (W:World) (hc:W.cell? ⟨B,0,none⟩=some (.int .i64 most)) :
  Calls Tryz.prog 241 #[.int .i64 x,.pointer (some ⟨B,0,none⟩)] W fun e W'=>e=.returned (.bool (decide (x<0) || decide (most<=x)))/\Below W.heap.size W W':=by
 by_cases hx:x<0
 ·go_enter Tryz.func241,Tryz.ntmps241
  go_wp2
  go_ret
  exact⟨fW (by simp[hx]),Below.refl _ _⟩
 ·go_enter Tryz.func241,Tryz.ntmps241
  go_wp2
  go_ret
  exact⟨fW (by simp;omega),Below.refl _ _⟩
theorem wG(v:Value) (l:List Int) (n most:Int) (w:World) (hv:cW w v l) :
  Calls Tryz.prog 178 #[v,.int .i64 n,.int .i64 most] w fun e w'=>e=.returned (.int .i64 (vectorE l n most))/\Below w.heap.size w w':=by
 have bw:Below w.heap.size w (w.alloc (.cells #[.int .i64 most] 3)):=by go_grown
 have sQ:=qp 241 #[.pointer (some ⟨w.heap.size,0,none⟩)] (enters_of Tryz.func241 (by kernel_rfl) rfl) v l (fun i=>decide (l.getD i 0<0) || decide (most<=l.getD i 0))
  (w.alloc (.cells #[.int .i64 most] 3)) (hv.up up_int bw) (fun i hi W hW=>by
   rw[aj 0 hi]
   exact D2 _ _ _ _ (aC hW (by simp[ae (aA _ _)])))
 have HV:bc (vectorE l n most=if (l.length:Int)≠n then 15 else if anyLt l.length (fun i=>decide (l.getD i 0<0) || decide (most<=l.getD i 0)) then 2 else 0):=by exact rfl
 generalize anyLt l.length (fun i=>decide (l.getD i 0<0) || decide (most<=l.getD i 0))=r at sQ HV;have HC:=ab sQ;clear sQ;obtain⟨pa,ca,rfl,la1,la2,_⟩:=hv.at;clear hv;by_cases hl:(l.length:Int)=n
 ·have ge:((l.length:Int) != n)=false:=by simp[hl]
  have HL:=ab hl;clear hl;cases r with
  | true=>
   go_enter Tryz.func178,Tryz.ntmps178
   go_wp2_with fail
   refine HC.o.mono ?_;rintro e w1 ⟨rfl,aK⟩
   go_wp2_with fail
   go_ret
   exact⟨aE (by rw[HV.o,if_neg (by simpa using HL.o)];rfl),ak bw aK⟩
  | false=>
   go_enter Tryz.func178,Tryz.ntmps178
   go_wp2_with fail
   refine HC.o.mono ?_;rintro e w1 ⟨rfl,aK⟩
   go_wp2_with fail
   go_ret
   exact⟨aE (by rw[HV.o,if_neg (by simpa using HL.o)];rfl),ak bw aK⟩
 ·have ge:((l.length:Int) != n)=true:=by simp[hl]
  go_enter Tryz.func178,Tryz.ntmps178
  go_wp2_with fail
  go_ret
  exact⟨aE (by rw[HV.o,if_pos hl]),bw⟩
theorem ro(v:Value) (l:List (List Int)) (i:Nat) (hi:i<l.length) (w:World) (hv:iN w v l) :
  Calls Tryz.prog 242 #[v,.int .i64 i] w fun e w'=>e=.returned (.bool (unordB l i))/\Below w.heap.size w w':=by
 obtain⟨pa,ca,rfl,la1,la2,ea⟩:=hv.at;clear hv;by_cases h0:0<i
 ·obtain⟨j,rfl⟩:∃ j,i=j+1:=⟨i - 1,by omega⟩;have hj:j<l.length:=by omega
  obtain⟨b1,o1,rfl,x1,c1,h1⟩:=ea j hj;obtain⟨b2,o2,e2,x2,c2,h2⟩:=ea (j+1) hi;obtain⟨rfl,rfl⟩:b1=b2/\o1=o2:=by simpa using e2
  clear e2 ea;rw[Nat.mul_one]at c1 c2
  have HU:bc (unordB l (j+1)=decide (0<=ordV l[j] l[j+1])):=by
   have h:unordB l (j+1)=decide (0<=ordV l[j] l[j+1]):=by
    unfold unordB;rw[Nat.add_sub_cancel,aj [] hj,aj [] hi];simp
   exact h
  generalize l[j]=y1 at h1 HU;generalize l[j+1]=y2 at h2 HU;have d1:∀ x:ExtW w,x.val.cell? ⟨b1,o1+j,none⟩=some x1:=fun x=>x.cell c1
  have d2:∀ x:ExtW w,x.val.cell? ⟨b1,o1+(j+1),none⟩=some x2:=fun x=>x.cell c2
  have br:∀ x:ExtW w,Calls Tryz.prog 179 #[x1,x2] x.val fun e w''=>e=.returned (.int .i64 (ordV y1 y2))/\∃ p:ExtW w,w''=p.val:=
   fun x=>Calls.ext_of (mI _ _ _ _ _ (h1.up up_int x.ext) (h2.up up_int x.ext))
  have dg:=ab br;clear br;clear c1 c2 h1 h2;have hwj:IntKind.i64.wrap (j:Int)=(j:Int):=IntWalk.i64_in _ (by omega);have Oi:(0:Int)<=(j:Int)+1:=by omega
  have Lu:(j:Int)+1<(l.length:Int):=by omega
  have hj3:((j:Int)+1).toNat=j+1:=by omega
  go_enter Tryz.func242,Tryz.ntmps242
  go_wp2_with fail
  refine bI (by kernel_rfl) (by kernel_rfl) ?_
  repeat (quiet_step ((go_at_call 179;exact dg.o _)))
  refine wpQuiet_nil ?_;intro _ jT;obtain⟨xq,gW⟩:=jT;subst gW
  go_wp2_with fail
  go_ret
  exact⟨fW HU.o.symm,xq.ext⟩
 ·obtain rfl:i=0:=by omega
  go_enter Tryz.func242,Tryz.ntmps242
  go_wp2_with fail
  go_quiet (fail)
  go_wp2_with fail
  go_ret
  exact⟨fW (by simp[unordB]),lP (Below.refl _ _) _⟩
theorem L3(x:Value) (v:Value) (y z:List Int) (B:Nat) (W:World) (hc:W.cell? ⟨B,0,none⟩=some v) (hx:cW W x y) (hv:cW W v z) :
  Calls Tryz.prog 274 #[x,.pointer (some ⟨B,0,none⟩)] W fun e W'=>e=.returned (.bool (eqV y z))/\Below W.heap.size W W':=by
 have HC:=ab (wF x v y z W hx hv);obtain⟨_,_,rfl,_⟩:=hv;clear hx
 go_enter Tryz.func274,Tryz.ntmps274
 go_wp2_with fail
 refine HC.o.mono ?_;rintro e w1 ⟨rfl,aK⟩
 go_wp2_with fail
 go_ret
 exact⟨rfl,aK⟩
theorem OX(v:Value) (l:List (List Int)) (x:Value) (y:List Int) (w:World) (hv:iN w v l) (hx:cW w x y) :
  Calls Tryz.prog 243 #[v,x] w fun e w'=>e=.returned (.bool (hasV l y))/\Below w.heap.size w w':=by
 have bw:Below w.heap.size w (w.alloc (.cells #[x] 38)):=by go_grown
 have sQ:=qq 274 #[.pointer (some ⟨w.heap.size,0,none⟩)] (enters_of Tryz.func274 (by kernel_rfl) rfl) v l (fun i=>eqV (l.getD i []) y)
  (w.alloc (.cells #[x] 38)) (hv.up up_ints bw) (fun i hi z hz W hW=>by
   rw[aj [] hi]
   exact L3 _ _ _ _ _ _ (aC hW (by simp[ae (aA _ _)])) (hz.up up_int hW) ((hx.up up_int bw).up up_int hW))
 have HC:=ab sQ;clear sQ;obtain⟨_,_,rfl,_⟩:=hx;clear hv
 go_enter Tryz.func243,Tryz.ntmps243
 go_wp2_with fail
 refine HC.o.mono ?_;rintro e w1 ⟨rfl,aK⟩
 go_wp2_with fail
 go_ret
 exact⟨rfl,ak bw aK⟩
theorem ur(t:Tk) (pc:Option Addr) (nc cc:Nat) (c:Cs) (x0 x1 x2:Value) (w:World) (h0:cW w x0 c.inp) (h1:iN w x1 c.out) (h2:iN w x2 c.calm) :
  Calls Tryz.prog 180 #[.agg #[.int .i64 t.n,.int .i64 t.ins,.int .i64 t.outs,.slice pc nc cc],.agg #[x0,x1,x2]] w fun e w'=>e=.returned (.int .i64 (vectorsE t c))/\Below w.heap.size w w':=by
 have G1:=ab h1;have G2:=ab h2;obtain⟨p0,c0,rfl,_⟩:=h0;obtain⟨p1,c1,rfl,l1,m1,e1⟩:=h1.at;obtain⟨p2,c2,rfl,l2,m2,e2⟩:=h2.at;have E1:=ab e1;have E2:=ab e2;clear h1 h2 e1 e2;by_cases hl:c.out.length<1\/1024<c.out.length
 ·have HV:bc (vectorsE t c=5):=by(have h:vectorsE t c=5:=by(unfold vectorsE;rw[if_pos hl]));exact h
  rcases hl with hl|hl
  ·go_enter Tryz.func180,Tryz.ntmps180
   go_wp2_with fail
   go_ret
   exact⟨aE HV.o.symm,by go_grown⟩
  ·go_enter Tryz.func180,Tryz.ntmps180
   go_wp2_with fail
   go_ret
   exact⟨aE HV.o.symm,by go_grown⟩
 have ge:1<=c.out.length:=by omega
 have dJ:c.out.length<=1024:=by omega
 have HV:bc (vectorsE t c=if ay c.out.length (iM t c)≠0 then ay c.out.length (iM t c) else ay c.calm.length (gk c)):=by
  have h:vectorsE t c=if ay c.out.length (iM t c)≠0 then ay c.out.length (iM t c) else ay c.calm.length (gk c):=by unfold vectorsE;rw[if_neg hl]
  exact h
 clear hl
 go_enter Tryz.func180,Tryz.ntmps180
 go_wp2_with fail
 refine eE (fun W=>Below w.heap.size w W/\W.heap[w.heap.size]?=some (.cells #[.int .i64 t.n,.int .i64 t.ins,.int .i64 t.outs,.slice pc nc cc] 24)/\W.heap[w.heap.size+1]?=some (.cells #[.slice p0 c.inp.length c0,.slice p1 c.out.length c1,.slice p2 c.calm.length c2] 94))
  ⟨by go_grown,aH _ (aA _ _),by simpa using aA (w.alloc (.cells #[.int .i64 t.n,.int .i64 t.ins,.int .i64 t.outs,.slice pc nc cc] 24)) _⟩ (fun W0 dF=>?_)
 obtain⟨bw,hT,hC⟩:=dF;have HT:=ab hT;clear hT;have HC:=ab hC;clear hC
 go_loopw [23] (fun i wr=>Below W0.heap.size W0 wr/\∃ k:Nat,k<=c.out.length/\i=.int .i64 k/\∀ j,j<k->iM t c j=0) (fun i _=>c.out.length - (intOf i).toNat)
 ·exact⟨Below.refl _ _,0,by omega,rfl,by simp⟩
 ·
  obtain⟨ba,k,hk,rfl,bB⟩:=hrel;have H:=ab bB;clear bB;have t1:=ae (aq ba HT.o);have t2:=ae (aq ba HC.o);by_cases aG:k<c.out.length
  ·obtain⟨b1,o1,rfl,x,cx,hx⟩:=E1.o k aG;rw[Nat.mul_one]at cx;have d1:=aC (ak bw ba) cx;have HX:=ab (hx.up up_int (ak bw ba));obtain⟨px,qx,rfl,_⟩:=hx;clear cx
   go_wp2_with fail
   refine(wG _ _ _ _ _ HX.o).mono ?_;rintro e w1 ⟨rfl,aK⟩
   have HO:bc (iM t c k=if vectorE c.out[k] t.n t.outs≠0 then vectorE c.out[k] t.n t.outs else if unordB c.out k then 14 else 0):=by
    have h:iM t c k=if vectorE c.out[k] t.n t.outs≠0 then vectorE c.out[k] t.n t.outs else if unordB c.out k then 14 else 0:=by unfold iM;rw[aj [] aG]
    exact h
   generalize vectorE c.out[k] t.n t.outs=ev at HO;by_cases pV:ev=0
   ·subst pV;have s1:=ae (aq (ak ba aK) HT.o);have s2:=ae (aq (ak ba aK) HC.o);clear t1 t2 d1
    go_wp2_with fail
    refine(ro _ _ k aG _ (G1.o.up up_ints (ak (ak bw ba) aK))).mono ?_;rintro e w2 ⟨rfl,bo⟩;generalize unordB c.out k=u at HO;cases u with
    | true=>
     go_wp2_with fail
     go_ret
     exact⟨aE (by rw[HV.o,<-bR k 14 aG H.o (by rw[HO.o];rfl) (by decide)];rfl),ak (ak (ak bw ba) aK) bo⟩
    | false=>
     go_wp2_with fail
     go_roundw
     ·exact⟨ak (ak ba aK) bo,k+1,by omega,by go_num,bG H.o (by rw[HO.o];rfl)⟩
     ·simp[intOf];omega
   ·have hev':(ev != 0)=true:=by simpa using pV
    go_wp2_with fail
    go_ret
    exact⟨aE (by rw[HV.o,<-bR k ev aG H.o (by rw[HO.o,if_pos pV]) pV,if_pos pV]),ak (ak bw ba) aK⟩
  ·have Ai:bc (vectorsE t c=ay c.calm.length (gk c)):=by
    have h:vectorsE t c=ay c.calm.length (gk c):=by rw[HV.o,cj _ _ (fun j hj=>H.o j (by omega))];simp
    exact h
   go_wp2_with fail
   clear t1 t2;have df:=ak bw ba;obtain⟨W1,io⟩:∃ W1:World,W1=wr:=⟨_,rfl⟩;rw[<-io]at ba df ⊢;clear io wr
   go_loopw [45] (fun i wr=>Below W1.heap.size W1 wr/\∃ k:Nat,k<=c.calm.length/\i=.int .i64 k/\∀ j,j<k->gk c j=0) (fun i _=>c.calm.length - (intOf i).toNat)
   ·exact⟨Below.refl _ _,0,by omega,rfl,by simp⟩
   ·
    obtain⟨cS,q,hq,rfl,xI⟩:=hrel;have H2:=ab xI;clear xI;have t2:=ae (aq (ak ba cS) HC.o);by_cases pW:q<c.calm.length
    ·obtain⟨b1,o1,rfl,x,cx,hx⟩:=E2.o q pW;rw[Nat.mul_one]at cx;have d1:=aC (ak df cS) cx;have HX:=ab (hx.up up_int (ak df cS));obtain⟨px,qx,rfl,_⟩:=hx;clear cx
     go_wp2_with fail
     refine(OX _ _ _ _ _ (G1.o.up up_ints (ak df cS)) HX.o).mono ?_;rintro e w1 ⟨rfl,aK⟩
     have HO:bc (gk c q=if hasV c.out c.calm[q] then(if unordB c.calm q then 14 else 0) else 6):=by
      have h:gk c q=if hasV c.out c.calm[q] then(if unordB c.calm q then 14 else 0) else 6:=by unfold gk;rw[aj [] pW]
      exact h
     generalize hasV c.out c.calm[q]=ev at HO;cases ev with
     | true=>
      have s2:=ae (aq (ak (ak ba cS) aK) HC.o);clear t2 d1
      go_wp2_with fail
      refine(ro _ _ q pW _ (G2.o.up up_ints (ak (ak df cS) aK))).mono ?_;rintro e w2 ⟨rfl,bo⟩;generalize unordB c.calm q=u at HO;cases u with
      | true=>
       go_wp2_with fail
       go_ret
       exact⟨aE (by rw[Ai.o,<-bR q 14 pW H2.o (by rw[HO.o];rfl) (by decide)]),ak (ak (ak df cS) aK) bo⟩
      | false=>
       go_wp2_with fail
       go_roundw
       ·exact⟨ak (ak cS aK) bo,q+1,by omega,by go_num,bG H2.o (by rw[HO.o];rfl)⟩
       ·simp[intOf];omega
     | false=>
      go_wp2_with fail
      go_ret
      exact⟨aE (by rw[Ai.o,<-bR q 6 pW H2.o (by rw[HO.o];rfl) (by decide)]),ak (ak df cS) aK⟩
    ·go_wp2_with fail
     go_ret
     exact⟨aE (by rw[Ai.o,cj];intro j hj;exact H2.o j (by omega)),ak df cS⟩
theorem Ay(t:Tk) (vc:Value) (w:World) (hv:it w vc t.cases) :
  Calls Tryz.prog 102 #[.agg #[.int .i64 t.n,.int .i64 t.ins,.int .i64 t.outs,vc]] w fun e w'=>e=.returned (.int .i64 (taskE t))/\Below w.heap.size w w':=by
 have G:=ab hv;obtain⟨pc,cc,rfl,l1,m1,e1⟩:=hv.at;clear hv;have E:=ab e1;clear e1;by_cases hr:t.n<1\/5<t.n\/t.ins<1\/8<t.ins\/t.outs<1\/8<t.outs
 ·have HV:bc (taskE t=2):=by(have h:taskE t=2:=by(unfold taskE;rw[if_pos hr]));exact h
  by_cases r1:t.n<1
  ·go_enter Tryz.func102,Tryz.ntmps102
   go_wp2_with fail
   go_ret;exact⟨aE HV.o.symm,by go_grown⟩
  by_cases r2:5<t.n
  ·go_enter Tryz.func102,Tryz.ntmps102
   go_wp2_with fail
   go_ret;exact⟨aE HV.o.symm,by go_grown⟩
  by_cases r3:t.ins<1
  ·go_enter Tryz.func102,Tryz.ntmps102
   go_wp2_with fail
   go_ret;exact⟨aE HV.o.symm,by go_grown⟩
  by_cases r4:8<t.ins
  ·go_enter Tryz.func102,Tryz.ntmps102
   go_wp2_with fail
   go_ret;exact⟨aE HV.o.symm,by go_grown⟩
  by_cases r5:t.outs<1
  ·go_enter Tryz.func102,Tryz.ntmps102
   go_wp2_with fail
   go_ret;exact⟨aE HV.o.symm,by go_grown⟩
  ·have r6:8<t.outs:=by omega
   clear hr
   go_enter Tryz.func102,Tryz.ntmps102
   go_wp2_with fail
   go_ret;exact⟨aE HV.o.symm,by go_grown⟩
 have r1:1<=t.n:=by omega
 have r2:t.n<=5:=by omega
 have r3:1<=t.ins:=by omega
 have r4:t.ins<=8:=by omega
 have r5:1<=t.outs:=by omega
 have r6:t.outs<=8:=by omega
 by_cases hl:t.cases.length<1\/1024<t.cases.length
 ·have HV:bc (taskE t=5):=by(have h:taskE t=5:=by(unfold taskE;rw[if_neg hr,if_pos hl]));exact h
  clear hr;rcases hl with hl|hl
  ·go_enter Tryz.func102,Tryz.ntmps102
   go_wp2_with fail
   go_ret;exact⟨aE HV.o.symm,by go_grown⟩
  ·go_enter Tryz.func102,Tryz.ntmps102
   go_wp2_with fail
   go_ret;exact⟨aE HV.o.symm,by go_grown⟩
 have ge:1<=t.cases.length:=by omega
 have dJ:t.cases.length<=1024:=by omega
 have HV:bc (taskE t=ay t.cases.length (dl t)):=by(have h:taskE t=ay t.cases.length (dl t):=by(unfold taskE;rw[if_neg hr,if_neg hl]));exact h
 clear hr hl
 go_enter Tryz.func102,Tryz.ntmps102
 go_wp2_with fail
 refine eE (fun W=>Below w.heap.size w W/\W.heap[w.heap.size]?=some (.cells #[.int .i64 t.n,.int .i64 t.ins,.int .i64 t.outs,.slice pc t.cases.length cc] 24))
  ⟨by go_grown,aA _ _⟩ (fun W0 dF=>?_)
 obtain⟨bw,hT⟩:=dF;have HT:=ab hT;clear hT
 go_loopw [46] (fun i wr=>Below W0.heap.size W0 wr/\∃ k:Nat,k<=t.cases.length/\i=.int .i64 k/\∀ j,j<k->dl t j=0) (fun i _=>t.cases.length - (intOf i).toNat)
 ·exact⟨Below.refl _ _,0,by omega,rfl,by simp⟩
 ·
  obtain⟨ba,k,hk,rfl,bB⟩:=hrel;have H:=ab bB;clear bB;have t1:=ae (aq ba HT.o);have df:=ak bw ba;by_cases aG:k<t.cases.length
  ·obtain⟨b1,o1,rfl,⟨x0,cx0,p7⟩,⟨x1,cx1,ip⟩,⟨x2,cx2,lf⟩⟩:=E.o k aG;have d0:=aC df cx0;have d1:=aC df cx1;have d2:=aC df cx2;have Oj:=ab p7;have Fq0:=ab ip;have Ot:=ab lf;obtain⟨p0,q0,rfl,_⟩:=p7;obtain⟨p1,q1,rfl,_⟩:=ip;obtain⟨p2,q2,rfl,_⟩:=lf;clear cx0 cx1 cx2;have bA:=aw (aq ba HT.o)
   go_wp2_with fail
   refine dB (fun W=>Below wr.heap.size wr W/\W.heap[wr.heap.size]?=some (.cells #[.slice p0 t.cases[k].inp.length q0,.slice p1 t.cases[k].out.length q1,.slice p2 t.cases[k].calm.length q2] 94)) ⟨by go_grown,aA _ _⟩ (fun V hV=>?_);obtain⟨nZ,hC⟩:=hV;have HC:=ab hC;clear hC;have N6:=ak df nZ;refine(wG _ _ _ _ _ (Oj.o.up up_int N6)).mono ?_;rintro e w1 ⟨rfl,aK⟩
   have HO:bc (dl t k=if vectorE t.cases[k].inp t.n t.ins≠0 then vectorE t.cases[k].inp t.n t.ins else if 0<k/\0<=ordV (t.cases.getD (k - 1) default).inp t.cases[k].inp then 14 else vectorsE t t.cases[k]):=by
    have h:dl t k=if vectorE t.cases[k].inp t.n t.ins≠0 then vectorE t.cases[k].inp t.n t.ins else if 0<k/\0<=ordV (t.cases.getD (k - 1) default).inp t.cases[k].inp then 14 else vectorsE t t.cases[k]:=by unfold dl;rw[aj default aG]
    exact h
   generalize vectorE t.cases[k].inp t.n t.ins=ev at HO;have lr:=ak N6 aK;by_cases pV:ev=0
   case neg=>
    have hev':(ev != 0)=true:=by simpa using pV
    go_wp2_with fail
    go_ret
    exact⟨aE (by rw[HV.o,<-bR k ev aG H.o (by rw[HO.o,if_pos pV]) pV]),lr⟩
   subst pV;have s9:=ak nZ aK;have s1:=ae (aq (ak ba s9) HT.o);have s2:=ae (aq aK HC.o);clear t1 d0 d1 d2 bA
   go_wp2_with fail
   by_cases k7:k=0
   ·have od:bc (dl t k=vectorsE t t.cases[k]):=by(have h:dl t k=vectorsE t t.cases[k]:=by(rw[HO.o,if_neg (by simp),if_neg (by omega)]));exact h
    have hd:decide ((0:Int)<(k:Int))=false:=by simp;omega
    have s8:decide (0<k)=false:=by simp;omega
    clear HO k7;refine bI (by kernel_rfl) (by kernel_rfl) ?_
    repeat (go_big_quiet_step (fail))
    refine wpQuiet_nil ?_;intro _ jT;obtain⟨xq,gW⟩:=jT;subst gW;have r1':=ae (aq (ak (ak ba s9) xq.ext) HT.o);have r2':=ae (aq (ak aK xq.ext) HC.o);clear s1 s2 hd s8;have oR:=ak lr xq.ext
    go_wp2_with fail
    refine(ur t _ _ _ t.cases[k] _ _ _ _ (Oj.o.up up_int oR) (Fq0.o.up up_ints oR) (Ot.o.up up_ints oR)).mono ?_;rintro e w2 ⟨rfl,bo⟩;generalize vectorsE t t.cases[k]=e2 at od;by_cases Ah:e2=0
    ·subst Ah
     go_wp2_with fail
     go_roundw
     ·exact⟨ak (ak (ak ba s9) xq.ext) bo,k+1,by omega,by go_num,bG H.o od.o⟩
     ·simp[intOf];omega
    ·have he2':(e2 != 0)=true:=by simpa using Ah
     go_wp2_with fail
     go_ret
     exact⟨aE (by rw[HV.o,<-bR k e2 aG H.o od.o Ah]),ak oR bo⟩
   ·obtain⟨j,hj⟩:∃ j,k=j+1:=⟨k - 1,by omega⟩;have tn:j<t.cases.length:=by omega
    have HJ:=ab hj;obtain⟨b2,o2,e2,⟨y0,cy0,Ld⟩,_⟩:=E.o j tn;obtain⟨rfl,rfl⟩:b1=b2/\o1=o2:=by simpa using e2
    clear e2;have hd:decide ((0:Int)<(k:Int))=true:=by simp;omega
    have s8:0<k:=by omega
    have xA:bc (dl t k=if 0<=ordV t.cases[j].inp t.cases[k].inp then 14 else vectorsE t t.cases[k]):=by
     have h:dl t k=if 0<=ordV t.cases[j].inp t.cases[k].inp then 14 else vectorsE t t.cases[k]:=by
      rw[HO.o,if_neg (by simp)];have e:k - 1=j:=by omega
      rw[e,aj default tn]
      grind
     exact h
    clear HO k7 hj;have DC:IntKind.i64.wrap ((k:Int) - 1)=(j:Int):=by rw[HJ.o];rw[IntWalk.i64_in _ (by omega)];omega
    have q1:∀ x:ExtW w1,∀ o,x.val.cell? ⟨w.heap.size,o,none⟩=_:=fun x=>ae (aq (ak (ak ba s9) x.ext) HT.o)
    have q2:∀ x:ExtW w1,∀ o,x.val.cell? ⟨wr.heap.size,o,none⟩=_:=fun x=>ae (aq (ak aK x.ext) HC.o)
    have q3:∀ x:ExtW w1,x.val.cell? ⟨b1,o1+j * 3,none⟩=some y0:=fun x=>x.cell (aC lr cy0)
    have br:∀ x:ExtW w1,Calls Tryz.prog 179 #[y0,.slice p0 t.cases[k].inp.length q0] x.val fun e w''=>e=.returned (.int .i64 (ordV t.cases[j].inp t.cases[k].inp))/\∃ p:ExtW w1,w''=p.val:=
     fun x=>Calls.ext_of (mI _ _ _ _ _ (Ld.up up_int (ak lr x.ext)) (Oj.o.up up_int (ak lr x.ext)))
    have dg:=ab br;clear br;have HY0:=ab Ld;clear Ld cy0;generalize ordV t.cases[j].inp t.cases[k].inp=oo at dg xA;clear s1 s2;refine bI (by kernel_rfl) (by kernel_rfl) ?_
    repeat (go_big_quiet_step ((go_at_call 179;exact dg.o _)))
    refine wpQuiet_nil ?_;intro _ jT;obtain⟨xq,gW⟩:=jT;subst gW;have r1':=q1 xq;have r2':=q2 xq;clear q1 q2 q3 hd s8;have oR:=ak lr xq.ext;by_cases hoo:0<=oo
    ·go_wp2_with fail
     go_ret
     exact⟨aE (by rw[HV.o,<-bR k 14 aG H.o (by rw[xA.o,if_pos hoo]) (by decide)]),oR⟩
    ·have od:bc (dl t k=vectorsE t t.cases[k]):=by(have h:dl t k=vectorsE t t.cases[k]:=by(rw[xA.o,if_neg hoo]));exact h
     clear xA
     go_wp2_with fail
     refine(ur t _ _ _ t.cases[k] _ _ _ _ (Oj.o.up up_int oR) (Fq0.o.up up_ints oR) (Ot.o.up up_ints oR)).mono ?_;rintro e w2 ⟨rfl,bo⟩;generalize vectorsE t t.cases[k]=e2 at od;by_cases Ah:e2=0
     ·subst Ah
      go_wp2_with fail
      go_roundw
      ·exact⟨ak (ak (ak ba s9) xq.ext) bo,k+1,by omega,by go_num,bG H.o od.o⟩
      ·simp[intOf];omega
     ·have he2':(e2 != 0)=true:=by simpa using Ah
      go_wp2_with fail
      go_ret
      exact⟨aE (by rw[HV.o,<-bR k e2 aG H.o od.o Ah]),ak oR bo⟩
  ·go_wp2_with fail
   go_ret
   exact⟨aE (by rw[HV.o,cj];intro j hj;exact H.o j (by omega)),df⟩
end Go.Proofs.YtiocdkdkndpgkaaGreat
