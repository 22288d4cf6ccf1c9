/-
  A part of the proof: lemmas and contracts that the parts behind it use. Each one's conditions are its own premises.
-/
import Derived.WalkKit
import Derived.Test.YtmeaoneaephjeaaGreatDoorE1
set_option maxRecDepth 100000
set_option maxHeartbeats 8000000
set_option linter.unusedVariables false
set_option linter.unusedSimpArgs false
namespace Go.Proofs.YtmeaoneaephjeaaGreatDoor
def bZ(a:Adv):Nat->Nat->List (List Rd)
 | 0,_=>[[]]
 | k+1,s=>(a.states.getD s []).flatMap fun m=>(bZ a k m.to.toNat).map (m.r :: ·)
theorem kA(a:Adv) (k:Nat):∀ s,∀ x∈bZ a k s,x.length=k:=by
 induction k with
 | zero=>intro s x hx;simp[bZ]at hx;rw[hx];rfl
 | succ k ih=>
  intro s x hx;simp only[bZ,List.mem_flatMap,List.mem_map]at hx;obtain⟨m,_,y,hy,rfl⟩:=hx;simp[ih _ y hy]
def qf(L:Int) (c:List Int) (n:Int) (m:Mv):Int:=min (n+c.getD m.to.toNat 0) (L+1)
def BE(L:Int) (c:List Int) (l:List Mv):Int:=l.foldl (qf L c) 0
def zX(L:Int) (a:Adv) (c:List Int):List Int:=a.states.map (BE L c)
def ez(L:Int) (a:Adv):Nat->List Int
 | 0=>List.replicate a.states.length 1
 | k+1=>zX L a (ez L a k)
def numberL(L:Int) (a:Adv) (k:Nat):Int:=(ez L a k).getD 0 0
theorem Fg(L:Int) (a:Adv) (k:Nat):(ez L a k).length=a.states.length:=by
 cases k with
 | zero=>simp[ez]
 | succ k=>simp[ez,zX]
def Cd(L:Int) (c:List Int):Prop:=∀ x∈c,0<=x/\x<=L+1
theorem uY{L:Int} (hL:0<=L) {c:List Int} (h:Cd L c) (i:Nat):0<=c.getD i 0/\c.getD i 0<=L+1:=by
 by_cases hi:i<c.length
 ·rw[List.getD_eq_getElem?_getD,List.getElem?_eq_getElem hi];exact h _ (List.getElem_mem hi)
 ·rw[List.getD_eq_getElem?_getD,List.getElem?_eq_none (by omega)];simp;omega
theorem Hw{L:Int} (hL:0<=L) {c:List Int} (h:Cd L c) {n:Int} (hn:0<=n/\n<=L+1) (m:Mv):0<=qf L c n m/\qf L c n m<=L+1:=by
 have:=uY hL h m.to.toNat;unfold qf;omega
theorem Rp{L:Int} (hL:0<=L) {c:List Int} (h:Cd L c) (l:List Mv):∀ n:Int,(0<=n/\n<=L+1)->0<=l.foldl (qf L c) n/\l.foldl (qf L c) n<=L+1:=by
 induction l with
 | nil=>intro n hn;exact hn
 | cons m r ih=>intro n hn;exact ih _ (Hw hL h hn m)
theorem Vg{L:Int} (hL:0<=L) {c:List Int} (h:Cd L c) (l:List Mv):0<=BE L c l/\BE L c l<=L+1:=Rp hL h l 0 (by omega)
theorem BF{L:Int} (hL:0<=L) (a:Adv) (k:Nat):Cd L (ez L a k):=by
 induction k with
 | zero=>intro x hx;rw[(List.mem_replicate.1 hx).2];omega
 | succ k ih=>intro x hx;obtain⟨l,_,rfl⟩:=List.mem_map.1 hx;exact Vg hL ih l
theorem Ow{L:Int} (hL:0<=L) (c:List Int) (f:Mv->Int) (l:List Mv) (hc:∀ m∈l,c.getD m.to.toNat 0=min (f m) (L+1)) (hf:∀ m∈l,0<=f m):∀ n s:Int,0<=s->n=min s (L+1) →
  l.foldl (qf L c) n=min (s+(l.map f).sum) (L+1):=by
 induction l with
 | nil=>intro n s _ hn;simp[hn]
 | cons m r ih=>
  intro n s hs hn;have h1:=hc m (by simp);have h2:=hf m (by simp);rw[List.foldl_cons,ih (fun x hx=>hc x (by simp[hx])) (fun x hx=>hf x (by simp[hx])) _ (s+f m) (by omega) ?_,List.map_cons,List.sum_cons]
  ·rw[Int.add_assoc]
  ·unfold qf;rw[h1,hn];omega
theorem Ks{α β:Type} (l:List α) (f:α->List β):((l.flatMap f).length:Int)=(l.map fun x=>((f x).length:Int)).sum:=by
 induction l with
 | nil=>rfl
 | cons a r ih=>rw[List.flatMap_cons,List.length_append,List.map_cons,List.sum_cons,<-ih];omega
theorem Ox{L:Int} (hL:0<=L) (a:Adv) (oX:∀ s,s<a.states.length->∀ m∈a.states.getD s [],m.to.toNat<a.states.length) (k:Nat):∀ s,s<a.states.length->(ez L a k).getD s 0=min ((bZ a k s).length:Int) (L+1):=by
 induction k with
 | zero=>
  intro s hs;simp[ez,bZ,hs];omega
 | succ k ih=>
  intro s hs
  have h1:(ez L a (k+1)).getD s 0=BE L (ez L a k) (a.states.getD s []):=by
   simp[ez,zX,hs]
  rw[h1];unfold BE;rw[Ow hL (ez L a k) (fun m=>((bZ a k m.to.toNat).length:Int)) _ (fun m hm=>ih _ (oX s hs m hm)) (fun m _=>by omega) 0 0 (by omega) (by omega)];simp only[bZ];rw[Ks];simp
theorem rq{L:Int} (hL:0<=L) (a:Adv) (oX:∀ s,s<a.states.length->∀ m∈a.states.getD s [],m.to.toNat<a.states.length) (h0:0<a.states.length) (k:Nat):numberL L a k=min ((bZ a k 0).length:Int) (L+1):=Ox hL a oX k 0 h0
theorem YM{a:Adv} (h:∀ s,s<a.states.length->stateE a (a.states.getD s [])=0):∀ s,s<a.states.length->∀ m∈a.states.getD s [],m.to.toNat<a.states.length:=fun s hs m hm=>by
 obtain⟨j,hj,rfl⟩:=List.mem_iff_getElem.1 hm;have h1:=h s hs;unfold stateE at h1;split at h1
 ·cases h1
 have h2:=fH h1 j hj;have h3:=(DZ h2).2;have e:(a.states.getD s []).getD j default=(a.states.getD s [])[j]:=by rw[List.getD_eq_getElem?_getD,List.getElem?_eq_getElem hj];rfl
 rw[e]at h3;omega
structure Vw where
 p:Int
 k:Int
 i:Int
 h0:Int
 h1:Int
 h2:Int
 h3:Int
 h4:Int
instance:Inhabited Vw:=⟨⟨0,0,0,0,0,0,0,0⟩⟩
instance:DecidableEq Vw:=fun a b=>decidable_of_iff (a.p=b.p/\a.k=b.k/\a.i=b.i/\a.h0=b.h0/\a.h1=b.h1/\a.h2=b.h2/\a.h3=b.h3/\a.h4=b.h4) (by cases a;cases b;simp)
structure Ex where
 c:Int
 word:List Rd
 views:List (List Int)
structure Sys where
 prob:Pb
 n:Int
 tab:List Vw
 ex:List Ex
def putV(tb:List Vw) (v:Vw):List Vw × Nat:=if v∈tb then(tb,tb.idxOf v) else(tb++[v],tb.length)
def gl(st:List Vw × List Int) (v:Vw):List Vw × List Int:=((putV st.1 v).1,st.2++[((putV st.1 v).2:Int)])
def addAll(tb:List Vw) (vs:List Vw):List Vw × List Int:=vs.foldl gl (tb,[])
theorem uD(tb:List Vw) (vs:List Vw) (k:Nat) (hk:k<vs.length):addAll tb (vs.take (k+1))=gl (addAll tb (vs.take k)) vs[k]:=by
 unfold addAll;rw[List.take_succ_eq_append_getElem hk,List.foldl_append];rfl
theorem Fh(st:List Vw × List Int) (v:Vw):(gl st v).2.length=st.2.length+1/\(gl st v).1.length<=st.1.length+1:=by
 unfold gl putV;refine⟨by simp,?_⟩;split<;>simp
theorem fO(vs:List Vw):∀ st:List Vw × List Int,(vs.foldl gl st).2.length=st.2.length+vs.length/\(vs.foldl gl st).1.length<=st.1.length+vs.length:=by
 induction vs with
 | nil=>intro st;simp
 | cons v r ih=>
  intro st;have h1:=ih (gl st v);have h2:=Fh st v;simp only[List.foldl_cons,List.length_cons];omega
def dX(inp:List Int) (p:Nat):Vw:=⟨p,0,inp.getD p 0,-1,-1,-1,-1,-1⟩
def kL(n:Nat) (r:Rd) (now:List Int) (p q:Nat):Int:=if q<n/\hasB (r.g.hear p) q=true then now.getD q 0 else -1
def nextV(n k:Nat) (r:Rd) (now:List Int) (p:Nat):Vw:=⟨p,k+1,0,kL n r now p 0,kL n r now p 1,kL n r now p 2,kL n r now p 3,kL n r now p 4⟩
def uZ(n:Nat) (inp:List Int) (tb:List Vw):List Vw × List Int:=addAll tb ((List.range n).map (dX inp))
def Mm(n k:Nat) (r:Rd) (st:List Vw × List (List Int)):List Vw × List (List Int):=
 let a:=addAll st.1 ((List.range n).map (nextV n k r (st.2.getLastD [])))
 (a.1,st.2++[a.2])
def playTo(n:Nat) (inp:List Int) (word:List Rd) (tb:List Vw):Nat->List Vw × List (List Int)
 | 0=>let a:=uZ n inp tb;(a.1,[a.2])
 | k+1=>Mm n k (word.getD k default) (playTo n inp word tb k)
def gC(n:Nat) (inp:List Int) (word:List Rd) (tb:List Vw):List Vw × List (List Int):=playTo n inp word tb word.length
def iX(cases words:Nat):List (Nat × Nat):=(List.range cases).flatMap fun c=>(List.range words).map fun w=>(c,w)
def jx(p:Pb) (words:List (List Rd)) (st:List Vw × List Ex) (x:Nat × Nat):List Vw × List Ex:=
 let a:=gC p.t.n.toNat (p.t.cases.getD x.1 default).inp (words.getD x.2 []) st.1
 (a.1,st.2++[⟨x.1,words.getD x.2 [],a.2⟩])
def execsS(p:Pb) (words:List (List Rd)) (l:List (Nat × Nat)):List Vw × List Ex:=l.foldl (jx p words) ([],[])
def aN(p:Pb):List (List Rd):=bZ p.a p.rounds.toNat 0
def aF(p:Pb):Sys:=
 let a:=execsS p (aN p) (iX p.t.cases.length (aN p).length)
 ⟨p,p.t.n,a.1,a.2⟩
def buildE(p:Pb):Int:=if probE p≠0 then probE p else if 4096<p.t.cases.length * (aN p).length then 17 else if 8192<(aF p).tab.length then 17 else 0
theorem Oy(x y:Int) (r s:List Int):ordV (x :: r) (y :: s)=if cmpI x y≠0 then cmpI x y else ordV r s:=by
 rw[ordV];unfold cmpI;grind
theorem jY(n:Nat) (f:Nat->Int):bm (n+1) f=if f 0≠0 then f 0 else bm n (fun j=>f (j+1)):=by
 induction n with
 | zero=>simp[bm]
 | succ n ih=>
  rw[bm,ih]
  conv=>rhs;rw[bm]
  grind
def Rd.list(r:Rd):List Int:=[r.g.n,r.g.h0,r.g.h1,r.g.h2,r.g.h3,r.g.h4,r.f]
theorem Kt(a b:Rd):roundC a b=ordV a.list b.list:=by
 unfold Rd.list roundC fA;rw[jY,jY,jY,jY,jY];simp only[Oy,bm,Gr.hear];have h0:ordV [] []=0:=rfl;rw[h0];generalize cmpI a.g.n b.g.n=c0;generalize cmpI a.g.h0 b.g.h0=c1;generalize cmpI a.g.h1 b.g.h1=c2;generalize cmpI a.g.h2 b.g.h2=c3;generalize cmpI a.g.h3 b.g.h3=c4;generalize cmpI a.g.h4 b.g.h4=c5;generalize cmpI a.f b.f=c6
 grind
theorem Mn{a b c:List Int} (h1:ordV a b<0) (h2:ordV b c<0):ordV a c<0:=by
 induction a generalizing b c with
 | nil=>
  cases b with
  | nil=>simp[ordV]at h1
  | cons y s=>
   cases c with
   | nil=>simp[ordV]at h2
   | cons z t=>simp[ordV]
 | cons x r ih=>
  cases b with
  | nil=>simp[ordV]at h1
  | cons y s=>
   cases c with
   | nil=>simp[ordV]at h2
   | cons z t=>
    unfold ordV at h1 h2 ⊢;by_cases cg:x<y
    ·by_cases YE:y<z
     ·rw[if_pos (by omega)];omega
     ·rw[if_neg YE]at h2;by_cases UV:z<y
      ·rw[if_pos UV]at h2;omega
      ·rw[if_pos (by omega)];omega
    ·rw[if_neg cg]at h1;by_cases pf:y<x
     ·rw[if_pos pf]at h1;omega
     ·rw[if_neg pf]at h1;by_cases YE:y<z
      ·rw[if_pos (by omega)];omega
      ·rw[if_neg YE]at h2;by_cases UV:z<y
       ·rw[if_pos UV]at h2;omega
       ·rw[if_neg UV]at h2;rw[if_neg (by omega),if_neg (by omega)];exact ih h1 h2
theorem ip{a:Adv} (h:advE a=0):(1<=a.states.length/\a.states.length<=256)/\(∀ s,s<a.states.length->stateE a (a.states.getD s [])=0)/\growsB a=true/\1<=a.n/\a.n<=5:=by
 unfold advE at h;by_cases h1:a.n<1\/5<a.n
 ·rw[if_pos h1]at h;omega
 ·rw[if_neg h1]at h;by_cases h2:a.states.length<1\/256<a.states.length\/4096<movesN a.states
  ·rw[if_pos h2]at h;omega
  ·rw[if_neg h2]at h;by_cases h3:bm a.states.length (fun s=>stateE a (a.states.getD s []))=0
   ·rw[if_neg (by simpa using h3)]at h;refine⟨by omega,fH h3,?_,by omega,by omega⟩;cases hg:growsB a with
    | true=>rfl
    | false=>rw[hg]at h;simp at h
   ·rw[if_pos h3]at h;exact absurd h h3
structure Pl where
 rd:Int
 pr:Int
 h0:Int
 h1:Int
 h2:Int
 h3:Int
 h4:Int
instance:DecidableEq Pl:=fun a b=>decidable_of_iff (a.rd=b.rd/\a.pr=b.pr/\a.h0=b.h0/\a.h1=b.h1/\a.h2=b.h2/\a.h3=b.h3/\a.h4=b.h4) (by cases a;cases b;simp)
def zY(word:List Rd):Int:=if word.length=0 then 0 else(word.getD (word.length - 1) default).f
def fm(c:Cs) (f:Int):List (List Int):=if f=0/\0<c.calm.length then c.calm else c.out
def gI(t:Tk) (i f:Int):Int:=
 if taskE t≠0 then taskE t else if i<0\/(t.cases.length:Int)<=i then 6 else if f<0\/2 ^ t.n.toNat<=f then 2 else 0
def iY(t:Tk) (i f:Int):List (List Int):=if gI t i f≠0 then [] else fm (t.cases.getD i.toNat default) f
theorem Rq{α:Type} [DecidableEq α] (l m:List α) (hl:l.Pairwise (·≠·)) (h:∀ x∈l,x∈m):l.length<=m.length:=by
 induction l generalizing m with
 | nil=>simp
 | cons x r ih=>
  have hx:=h x (by simp);have h1:=ih (m.erase x) (List.pairwise_cons.1 hl).2 (fun y hy=>(List.mem_erase_of_ne (fun e=>(List.pairwise_cons.1 hl).1 y hy e.symm)).2 (h y (by simp[hy])));rw[List.length_erase_of_mem hx]at h1;have:=List.length_pos_of_mem hx;simp only[List.length_cons];omega
theorem Hx(l:List (List Int)) (h:∀ i,i<l.length->unordB l i=false):∀ j i,i<j->j<l.length->ordV (l.getD i []) (l.getD j [])<0:=by
 intro j;induction j with
 | zero=>intro i hi;omega
 | succ j ih=>
  intro i hi hj;have h1:=h (j+1) hj
  have h2:ordV (l.getD j []) (l.getD (j+1) [])<0:=by
   unfold unordB at h1;rw[Nat.add_sub_cancel,decide_eq_true (by omega:0<j+1),Bool.true_and]at h1;have:=of_decide_eq_false h1;omega
  rcases Nat.lt_or_ge i j with h3|h3
  ·exact Mn (ih i h3 (by omega)) h2
  ·obtain rfl:i=j:=by omega
   exact h2
theorem Oz(l:List (List Int)) (h:∀ i,i<l.length->unordB l i=false):l.Pairwise (·≠·):=by
 rw[List.pairwise_iff_getElem];intro i j hi hj hij e;have h1:=Hx l h j i hij hj;rw[show l.getD i []=l[i] by simp[hi],show l.getD j []=l[j] by simp[hj],e,sD]at h1;omega
theorem nN{n:Nat} {f:Nat->Int} (h:bm n f=0):∀ i,i<n->f i=0:=by
 intro i hi;induction n generalizing f i with
 | zero=>omega
 | succ n ih=>
  rw[jY]at h;by_cases h0:f 0=0
  ·rw[if_neg (by simpa using h0)]at h;cases i with
   | zero=>exact h0
   | succ i=>exact ih h i (by omega)
  ·rw[if_pos h0]at h;exact absurd h h0
theorem As{v:List Int} {n m:Int} (h:vectorE v n m=0):(v.length:Int)=n:=by
 unfold vectorE at h;by_cases e:(v.length:Int)=n
 ·exact e
 ·rw[if_pos e]at h;omega
theorem Rr{l:List (List Int)} {v:List Int} (h:hasV l v=true):v∈l:=by
 unfold hasV at h;obtain⟨i,hi,e⟩:=(km _ _).1 h;unfold eqV at e;have:=of_decide_eq_true e;rw[<-this,show l.getD i []=l[i] by simp[hi]];exact List.getElem_mem hi
structure CaseOk (t:Tk) (c:Cs):Prop where
 inp:(c.inp.length:Int)=t.n
 out1:1<=c.out.length
 out2:c.out.length<=1024
 calm:c.calm.length<=1024
 outs:∀ v∈c.out,(v.length:Int)=t.n
 calms:∀ v∈c.calm,v∈c.out
theorem fy{t:Tk} (h:taskE t=0):(1<=t.n/\t.n<=5)/\(1<=t.ins/\t.ins<=8)/\(1<=t.outs/\t.outs<=8)/\(1<=t.cases.length/\t.cases.length<=1024)/\∀ c∈t.cases,CaseOk t c:=by
 unfold taskE at h;split at h
 ·omega
 rename_i h1;split at h
 ·omega
 rename_i h2;refine⟨by omega,by omega,by omega,by omega,fun c hc=>?_⟩;obtain⟨k,hk,rfl⟩:=List.getElem_of_mem hc;have h3:=nN h k hk;unfold fd at h3;rw[show t.cases.getD k default=t.cases[k] by simp[hk]]at h3;split at h3
 ·omega
 rename_i h4;split at h3
 ·omega
 unfold vectorsE at h3;split at h3
 ·omega
 rename_i h5;split at h3
 ·omega
 rename_i h6;have h7:=nN (show bm _ _=0 by simpa using h6);have h8:=nN h3
 have hcal:∀ i,i<(t.cases[k]).calm.length->hasV (t.cases[k]).out ((t.cases[k]).calm.getD i [])=true/\unordB (t.cases[k]).calm i=false:=by
  intro i hi;have:=h8 i hi;unfold jh at this;split at this
  ·rename_i h9;refine⟨h9,?_⟩;cases hu:unordB (t.cases[k]).calm i
   ·rfl
   ·rw[hu]at this;simp at this
  ·omega
 have kZ:∀ v∈(t.cases[k]).calm,v∈(t.cases[k]).out:=by
  intro v hv;obtain⟨i,hi,rfl⟩:=List.getElem_of_mem hv;have:=Rr (hcal i hi).1
  rwa [show (t.cases[k]).calm.getD i []=(t.cases[k]).calm[i] by simp[hi]]at this
 refine⟨As (by simpa using h4),by omega,by omega,?_,?_,kZ⟩
 ·exact Nat.le_trans (Rq _ _ (Oz _ fun i hi=>(hcal i hi).2) kZ) (by omega)
 ·intro v hv;obtain⟨i,hi,rfl⟩:=List.getElem_of_mem hv;have:=h7 i hi;unfold jq at this;rw[show (t.cases[k]).out.getD i []=(t.cases[k]).out[i] by simp[hi]]at this;split at this
  ·omega
  ·rename_i h9;exact As (by simpa using h9)
theorem K8{t:Tk} {c:Cs} (h:CaseOk t c) (f:Int):(fm c f).length<=1024/\∀ v∈fm c f,(v.length:Int)=t.n:=by
 unfold fm;split
 ·exact⟨h.calm,fun v hv=>h.outs v (h.calms v hv)⟩
 ·exact⟨h.out2,h.outs⟩
def br(q:Nat->Nat->Bool):Nat->List Int × Int
 | 0=>([],0)
 | i+1=>let s:=br q i;if firstIx i (fun k=>q k i)<0 then(s.1++[s.2],s.2+1) else(s.1++[s.1.getD (firstIx i fun k=>q k i).toNat 0],s.2)
def iD(q:Nat->Nat->Bool) (n:Nat):List Int:=(br q n).1
theorem kn(q:Nat->Nat->Bool):∀ n,(br q n).1.length=n
 | 0=>rfl
 | n+1=>by
  unfold br;dsimp only;split<;>simp[kn q n]
theorem pP(q:Nat->Nat->Bool) (n:Nat):(iD q n).length=n:=kn q n
theorem At{q r:Nat->Nat->Bool}:∀ n,(∀ i,i<n->firstIx i (fun k=>q k i)=firstIx i (fun k=>r k i))->br q n=br r n
 | 0,_=>rfl
 | n+1,h=>by
  unfold br;rw[At n (fun i hi=>h i (by omega)),h n (by omega)]
theorem nO{q r:Nat->Nat->Bool} {n:Nat} (h:∀ i,i<n->∀ k,k<i->q k i=r k i):iD q n=iD r n:=by
 unfold iD;rw[At n (fun i hi=>mB _ _ _ (h i hi))]
theorem sF(q:Nat->Nat->Bool):∀ n i,i<n->(br q (n+1)).1.getD i 0=(br q n).1.getD i 0:=fun n i hi=>by
 rw[br];have hl:=kn q n;split<;>(simp only[List.getD_eq_getElem?_getD];rw[List.getElem?_append_left (by omega)])
theorem jZ(q:Nat->Nat->Bool):∀ n,0<=(br q n).2/\(br q n).2<=n/\∀ x∈(br q n).1,0<=x/\x<(br q n).2
 | 0=>⟨by simp[br],by simp[br],fun x hx=>by simp[br]at hx⟩
 | n+1=>by
  obtain⟨h1,h2,h3⟩:=jZ q n;have hl:=kn q n;rw[br];split
  ·refine⟨by simp;omega,by simp;omega,fun x hx=>?_⟩;rcases List.mem_append.1 hx with hx|hx
   ·have:=h3 x hx;simp;omega
   ·rw[List.mem_singleton]at hx;subst hx;simp;omega
  ·rename_i hf;refine⟨by simpa using h1,by simp;omega,fun x hx=>?_⟩;rcases List.mem_append.1 hx with hx|hx
   ·exact h3 x hx
   ·rw[List.mem_singleton]at hx;subst hx;rcases bE n (fun k=>q k n) with ⟨e,_⟩|⟨k,hk,e,_⟩
    ·omega
    ·rw[e,Int.toNat_natCast,List.getD_eq_getElem?_getD,List.getElem?_eq_getElem (by omega)];exact h3 _ (List.getElem_mem _)
def ir(q:Nat->Nat->Bool):Nat->Nat->Nat->Bool
 | 0,i,k=>q i k
 | m+1,i,k=>ir q m i k || (ir q m i m&&ir q m m k)
theorem rH(q:Nat->Nat->Bool):∀ m i k,q i k=true->ir q m i k=true
 | 0,_,_,h=>h
 | m+1,i,k,h=>by rw[ir,rH q m i k h];rfl
theorem hH(q:Nat->Nat->Bool):∀ m i j k,j<m->ir q m i j=true->ir q m j k=true->ir q m i k=true
 | 0,_,_,_,hj,_,_=>by omega
 | m+1,i,j,k,hj,h1,h2=>by
  rw[ir]at h1 h2 ⊢;simp only[Bool.or_eq_true,Bool.and_eq_true]at h1 h2 ⊢;by_cases e:j=m
  ·subst e;have h3:ir q j i j=true:=by rcases h1 with h|⟨h,_⟩<;>exact h
   have h4:ir q j j k=true:=by rcases h2 with h|⟨_,h⟩<;>exact h
   exact .inr ⟨h3,h4⟩
  ·have nD:j<m:=by omega
   rcases h1 with h1|⟨h1,h3⟩<;>rcases h2 with h2|⟨h2,h4⟩
   ·exact .inl (hH q m i j k nD h1 h2)
   ·exact .inr ⟨hH q m i j m nD h1 h2,h4⟩
   ·exact .inr ⟨h1,hH q m m j k nD h3 h2⟩
   ·exact .inr ⟨h1,h4⟩
theorem mP{q:Nat->Nat->Bool} (h:∀ i k,q i k=q k i):∀ m i k,ir q m i k=ir q m k i
 | 0,i,k=>h i k
 | m+1,i,k=>by rw[ir,ir,mP h m i k,mP h m i m,mP h m m k,Bool.and_comm]
theorem sG{q:Nat->Nat->Bool} {R:Nat->Nat->Prop} (h0:∀ i k,q i k=true->R i k) (h1:∀ i j k,R i j->R j k->R i k):∀ m i k,ir q m i k=true->R i k
 | 0,i,k,h=>h0 i k h
 | m+1,i,k,h=>by
  rw[ir]at h;simp only[Bool.or_eq_true,Bool.and_eq_true]at h;rcases h with h|⟨h2,h3⟩
  ·exact sG h0 h1 m i k h
  ·exact h1 _ _ _ (sG h0 h1 m i m h2) (sG h0 h1 m m k h3)
def dO(a b:List Int) (i k:Nat):Bool:=decide (a.getD i 0=a.getD k 0) || decide (b.getD i 0=b.getD k 0)
theorem nP(a b:List Int) (i k:Nat):dO a b i k=dO a b k i:=by
 unfold dO;rw[decide_eq_decide.2 (eq_comm (a:=a.getD i 0)),decide_eq_decide.2 (eq_comm (a:=b.getD i 0))]
theorem Ce(a b:List Int) (i:Nat):dO a b i i=true:=by simp[dO]
def k9(a b:List Int):List Int:=iD (fun k i=>ir (dO a b) a.length k i) a.length
theorem Hy(a b R:List Int) (n:Nat) (hn:a.length=n) (h1:∀ i k,i<n->k<n->dO a b i k=true->R.getD i 0=R.getD k 0) (h2:∀ i,i<n->∃ j,j<n/\R.getD i 0=(j:Int)/\ir (dO a b) n j i=true):iD (fun k i=>decide (R.getD k 0=R.getD i 0)) n=k9 a b:=by
 unfold k9;rw[hn];refine nO fun i hi k hk=>?_
 have hs:=mP (nP a b);cases hw:ir (dO a b) n k i with
 | true=>
  rw[decide_eq_true_eq]
  exact sG (q:=fun i k=>dO a b i k&&decide (i<n)&&decide (k<n)) (R:=fun i k=>R.getD i 0=R.getD k 0) (fun i k h=>by simp only[Bool.and_eq_true,decide_eq_true_eq]at h;exact h1 i k h.1.2 h.2 h.1.1) (fun i j k h h'=>h.trans h') n k i (by
   have key:∀ m x y,m<=n->x<n->y<n->ir (dO a b) m x y=true->ir (fun i k=>dO a b i k&&decide (i<n)&&decide (k<n)) m x y=true:=by
    intro m;induction m with
    | zero=>intro x y _ hx hy h;simp only[ir,Bool.and_eq_true,decide_eq_true_eq]at h ⊢;exact⟨⟨h,hx⟩,hy⟩
    | succ m ih=>
     intro x y hm hx hy h;rw[ir]at h ⊢;simp only[Bool.or_eq_true,Bool.and_eq_true]at h ⊢;rcases h with h|⟨h,h'⟩
     ·exact .inl (ih x y (by omega) hx hy h)
     ·exact .inr ⟨ih x m (by omega) hx (by omega) h,ih m y (by omega) (by omega) hy h'⟩
   exact key n k i (Nat.le_refl _) (by omega) hi hw)
 | false=>
  rw[decide_eq_false_iff_not];intro e;obtain⟨j,hj,e1,w1⟩:=h2 k (by omega);obtain⟨j',nD,e2,w2⟩:=h2 i hi;have:j=j':=by omega
  subst this;rw[hs n j k]at w1;have:=hH _ n k j i hj w1 w2;rw[hw]at this;cases this
structure Par (n:Nat) (P:List Int):Prop where
 len:P.length=n
 le:∀ i,i<n->0<=P.getD i 0/\P.getD i 0<=i
def rootN(P:List Int) (i:Nat):Nat:=if (P.getD i 0).toNat<i then rootN P (P.getD i 0).toNat else i
termination_by i
theorem Hz(P:List Int) (i:Nat):rootN P i<=i:=by
 induction i using Nat.strongRecOn with
 | _ i ih=>
  rw[rootN];split
  ·rename_i h;have:=ih _ h;omega
  ·omega
theorem Fi{n:Nat} {P:List Int} (h:Par n P) (i:Nat) (hi:i<n):P.getD (rootN P i) 0=rootN P i:=by
 induction i using Nat.strongRecOn with
 | _ i ih=>
  rw[rootN];split
  ·rename_i h1;exact ih _ h1 (by omega)
  ·have:=h.le i hi;omega
theorem nQ{P:List Int} {i:Nat} (h:P.getD i 0=i):rootN P i=i:=by
 rw[rootN,if_neg (by omega)]
theorem m8{n:Nat} {P:List Int} (h:Par n P) (i:Nat) (hi:i<n):rootN P (P.getD i 0).toNat=rootN P i:=by
 by_cases e:(P.getD i 0).toNat<i
 ·rw[rootN.eq_1 P i,if_pos e]
 ·have h2:=h.le i hi;have:(P.getD i 0).toNat=i:=by omega
  rw[this]
theorem fI{α:Type} (l:List α) (i j:Nat) (x d:α) (hi:i<l.length):(l.set i x).getD j d=if j=i then x else l.getD j d:=by
 rw[List.getD_eq_getElem?_getD,List.getElem?_set,List.getD_eq_getElem?_getD];split
 ·rename_i e;subst e;simp
 ·rename_i e;rw[if_neg (Ne.symm e)]
theorem OA{n:Nat} {P:List Int} (h:Par n P) (i:Nat) (hi:i<n):Par n (P.set i (P.getD (P.getD i 0).toNat 0))/\∀ j,j<n->rootN (P.set i (P.getD (P.getD i 0).toNat 0)) j=rootN P j:=by
 have hl:=h.len;have h1:=h.le i hi;have h2:=h.le (P.getD i 0).toNat (by omega);refine⟨⟨by simpa using hl,fun j hj=>?_⟩,fun j=>?_⟩
 ·rw[fI _ _ _ _ _ (by omega)];split
  ·rename_i e;subst e;omega
  ·exact h.le j hj
 ·induction j using Nat.strongRecOn with
  | _ j ih=>
   intro hj;rw[rootN.eq_1 _ j,fI _ _ _ _ _ (by omega)];by_cases e:j=i
   ·subst e;rw[if_pos rfl];split
    ·rename_i h3;rw[ih _ h3 (by omega)];have h4:=m8 h (P.getD j 0).toNat (by omega);rw[h4,m8 h j hj]
    ·have h5:(P.getD j 0).toNat=j:=by
      apply Classical.byContradiction;intro h5;have:=h.le (P.getD j 0).toNat (by omega);omega
     rw[nQ (by omega)]
   ·rw[if_neg e];split
    ·rename_i h3;rw[ih _ h3 (by omega),m8 h j hj]
    ·rw[rootN,if_neg (by assumption)]
theorem OB{n:Nat} {P:List Int} (h:Par n P) (p q:Nat) (hp:p<n) (hq:q<n) (ep:P.getD p 0=p) (eq:P.getD q 0=q):Par n (P.set (max p q) (min p q:Nat))/\∀ j,j<n->rootN (P.set (max p q) (min p q:Nat)) j=if rootN P j=max p q then min p q else rootN P j:=by
 have hl:=h.len;refine⟨⟨by simpa using hl,fun j hj=>?_⟩,fun j=>?_⟩
 ·rw[fI _ _ _ _ _ (by omega)];split
  ·omega
  ·exact h.le j hj
 ·have em:P.getD (max p q) 0=(max p q:Nat):=by rcases Nat.le_total p q with h'|h'<;>simp only[Nat.max_eq_right h',Nat.max_eq_left h']<;>assumption
  have en:P.getD (min p q) 0=(min p q:Nat):=by rcases Nat.le_total p q with h'|h'<;>simp only[Nat.min_eq_right h',Nat.min_eq_left h']<;>assumption
  have lh:min p q<=max p q:=by omega
  have Rc:max p q<n:=by omega
  generalize max p q=hi at *;generalize min p q=lo at *;induction j using Nat.strongRecOn with
  | _ j ih=>
   intro hj;rw[rootN.eq_1 _ j,fI _ _ _ _ _ (by omega)];by_cases e:j=hi
   ·subst e;rw[if_pos rfl,nQ em,if_pos rfl,Int.toNat_natCast];split
    ·rename_i h3;rw[ih lo h3 (by omega),nQ en,if_neg (by omega)]
    ·omega
   ·rw[if_neg e];split
    ·rename_i h3;rw[ih _ h3 (by omega),m8 h j hj]
    ·rename_i h3;have:rootN P j=j:=by rw[rootN,if_neg h3]
     rw[this,if_neg e]
def dT(n:Nat) (L:Nat->Nat->Bool) (f:Nat):Nat->Nat->Int
 | 0,e=>if e=f then 0 else -1
 | d+1,e=>if 0<=dT n L f d e then dT n L f d e else if anyLt n (fun g=>decide (dT n L f d g=d)&&L e g) then(d:Int)+1 else -1
section
variable {n : Nat} {L : Nat → Nat → Bool} {f : Nat}
theorem gU(d e:Nat):-1<=dT n L f d e/\dT n L f d e<=d:=by
 induction d with
 | zero=>unfold dT;split<;>omega
 | succ d ih=>
  rw[dT];split
  ·omega
  ·split<;>omega
theorem sH(d e:Nat) (h:0<=dT n L f d e) (d':Nat) (hd:d<=d'):dT n L f d' e=dT n L f d e:=by
 induction d' with
 | zero=>have:d=0:=by omega
         subst this;rfl
 | succ d' ih=>
  by_cases e1:d=d'+1
  ·subst e1;rfl
  ·have h2:=ih (by omega);rw[dT,h2,if_pos h]
theorem sI(d e d':Nat) (h:dT n L f d e=(d':Int)) (hd:d'<=d):dT n L f d' e=d':=by
 induction d with
 | zero=>have:d'=0:=by omega
         subst this;exact h
 | succ d ih=>
  by_cases e1:d'=d+1
  ·subst e1;exact h
  ·refine ih ?_ (by omega);rw[dT]at h;split at h
   ·exact h
   ·split at h<;>omega
def D5(n:Nat) (D:Nat->Int):Nat:=((List.range n).filter fun e=>decide (0<=D e)).length
theorem Fj{α:Type} (l:List α) (p q:α->Bool) (h:∀ x∈l,p x=true->q x=true) (y:α) (hy:y∈l) (h1:p y=false) (h2:q y=true):(l.filter p).length<(l.filter q).length:=by
 induction l with
 | nil=>cases hy
 | cons a r ih=>
  have lh:(r.filter p).length<=(r.filter q).length:=by
   clear ih hy;have h':∀ x∈r,p x=true->q x=true:=fun x hx=>h x (by simp[hx])
   clear h;induction r with
   | nil=>simp
   | cons b s ih=>
    have:=ih (fun x hx=>h' x (by simp[hx]));have hb:=h' b (by simp);simp only[List.filter_cons];cases hp:p b with
    | true=>rw[hb hp];simp;omega
    | false=>cases q b<;>simp<;>omega
  rcases List.mem_cons.1 hy with rfl|hy
  ·simp only[List.filter_cons,h1,h2];simp;omega
  ·have:=ih (fun x hx=>h x (by simp[hx])) hy;have ha:=h a (by simp);simp only[List.filter_cons];cases hp:p a with
   | true=>rw[ha hp];simp;omega
   | false=>cases q a<;>simp<;>omega
theorem Ku(hf:f<n) (d e:Nat) (he:e<n) (h:dT n L f d e=d):d+1<=D5 n (dT n L f d):=by
 induction d generalizing e with
 | zero=>
  unfold D5;have:f∈(List.range n).filter fun e=>decide (0<=dT n L f 0 e):=by simp[hf,dT]
  have:=List.length_pos_of_mem this;omega
 | succ d ih=>
  have h0:=h;rw[dT]at h;split at h
  ·have:=gU (n:=n) (L:=L) (f:=f) d e;omega
  ·rename_i h1;split at h
   ·rename_i h2;obtain⟨g,hg,h3⟩:=(km _ _).1 h2;simp only[Bool.and_eq_true,decide_eq_true_eq]at h3;have h4:=ih g hg h3.1
    have h5:D5 n (dT n L f d)<D5 n (dT n L f (d+1)):=by
     refine Fj _ _ _ (fun x _ hx=>?_) e (by simpa using he) (by simpa using h1) (by rw[h0];simp;omega);simp only[decide_eq_true_eq]at hx ⊢;rw[sH d x hx (d+1) (by omega)];exact hx
    omega
   ·omega
theorem HH(hf:f<n) (d e:Nat) (he:e<n) (h:dT n L f d e=d):d<n:=by
 have h1:=Ku hf d e he h;have h2:D5 n (dT n L f d)<=n:=by unfold D5;exact Nat.le_trans (List.length_filter_le _ _) (by simp)
 omega
end
structure Dist (n:Nat) (L:Nat->Nat->Bool) (f:Nat) (D:Nat->Int):Prop where
 zero:D f=0
 only:∀ e,e<n->D e=0->e=f
 low:∀ e,e<n->-1<=D e
 pred:∀ e,e<n->∀ d:Nat,D e=d+1->∃ g,g<n/\D g=d/\L e g=true
 next:∀ e g,e<n->g<n->0<=D g->L e g=true->0<=D e/\D e<=D g+1
theorem Kv{n:Nat} {L:Nat->Nat->Bool} {f:Nat} {D E:Nat->Int} (h1:Dist n L f D) (h2:Dist n L f E):∀ e,e<n->D e=E e:=by
 have key:∀ d:Nat,∀ e,e<n->(D e=d↔E e=d):=by
  intro d;induction d using Nat.strongRecOn with
  | _ d ih=>
   have one:∀ {A B:Nat->Int},Dist n L f A->Dist n L f B->(∀ d',d'<d->∀ e,e<n->(A e=(d':Int)↔B e=d'))->∀ e,e<n->A e=d->B e=d:=by
    intro A B hA hB ih e he h
    match d,ih,h with
    | 0,_,h=>rw[hA.only e he h];exact hB.zero
    | k+1,ih,h=>
     obtain⟨g,hg,e1,e2⟩:=hA.pred e he k (by omega);have e3:=(ih k (by omega) g hg).1 e1;obtain⟨e4,e5⟩:=hB.next e g he hg (by omega) e2;by_cases e6:B e=((k+1:Nat):Int)
     ·exact e6
     ·have e7:=(ih (B e).toNat (by omega) e he).2 (by omega);omega
   exact fun e he=>⟨one h1 h2 ih e he,one h2 h1 (fun d' hd e he=>(ih d' hd e he).symm) e he⟩
 intro e he;have a:=h1.low e he;have b:=h2.low e he;by_cases h:0<=D e
 ·have:=(key (D e).toNat e he).1 (by omega);omega
 ·by_cases h':0<=E e
  ·have:=(key (E e).toNat e he).2 (by omega);omega
  ·omega
theorem OC{n:Nat} {L:Nat->Nat->Bool} {f:Nat} (hf:f<n):Dist n L f (dT n L f n) where
 zero:=by rw[sH 0 f (by simp[dT]) n (by omega)];simp[dT]
 only:=fun e he h=>by
  have:=sI n e 0 h (by omega);unfold dT at this;split at this
  ·assumption
  ·omega
 low:=fun e _=>(gU n e).1
 pred:=fun e he d h=>by
  have hr:=gU (n:=n) (L:=L) (f:=f) n e;have h1:=sI n e (d+1) (by rw[h];rfl) (by omega);rw[dT]at h1;split at h1
  ·have:=gU (n:=n) (L:=L) (f:=f) d e;omega
  ·split at h1
   ·rename_i h2;obtain⟨g,hg,h3⟩:=(km _ _).1 h2;simp only[Bool.and_eq_true,decide_eq_true_eq]at h3;exact⟨g,hg,by rw[sH d g (by omega) n (by omega)];exact h3.1,h3.2⟩
   ·omega
 next:=fun e g he hg h0 hl=>by
  have hr:=gU (n:=n) (L:=L) (f:=f) n g;obtain⟨d,hd⟩:∃ d:Nat,dT n L f n g=d:=⟨(dT n L f n g).toNat,by omega⟩;have h1:=sI n g d hd (by omega);have h2:=HH hf d g hg h1
  have h3:0<=dT n L f (d+1) e/\dT n L f (d+1) e<=d+1:=by
   refine⟨?_,(gU (d+1) e).2⟩;rw[dT];split
   ·assumption
   ·rw[if_pos ((km _ _).2 ⟨g,hg,by simp[h1,hl]⟩)];omega
  rw[sH (d+1) e h3.1 n (by omega),hd];exact h3
def Rt(n:Nat) (L:Nat->Nat->Bool) (f:Nat):List Int:=(List.range n).map (dT n L f n)
theorem H5{α:Type} {R:α->α->Prop} {l:List α} (h:∀ a∈l,∀ b∈l,R a b):l.Pairwise R:=by
 rw[List.pairwise_iff_getElem];intro i j hi hj _;exact h _ (List.getElem_mem hi) _ (List.getElem_mem hj)
structure Bfs (n:Nat) (L:Nat->Nat->Bool) (f:Nat) (D:Nat->Int) (Q:List Nat):Prop where
 zero:D f=0
 only:∀ e,e<n->D e=0->e=f
 low:∀ e,e<n->-1<=D e
 pred:∀ e,e<n->∀ d:Nat,D e=d+1->∃ g,g<n/\D g=d/\L e g=true
 ok:∀ q∈Q,q<n/\0<=D q
 done:∀ e g,e<n->g<n->0<=D g->g∉Q->L e g=true->0<=D e/\D e<=D g+1
 asc:Q.Pairwise fun a b=>D a<=D b
 near:∀ h r,Q=h :: r->∀ e,e<n->D e<=D h+1
theorem Bfs.start{n:Nat} {L:Nat->Nat->Bool} {f:Nat} (hf:f<n):Bfs n L f (dT n L f 0) [f] where
 zero:=by simp[dT]
 only:=fun e he h=>by unfold dT at h;split at h<;>first|assumption|omega
 low:=fun e _=>(gU 0 e).1
 pred:=fun e he d h=>by have:=(gU (n:=n) (L:=L) (f:=f) 0 e).2;omega
 ok:=fun q hq=>by rw[List.mem_singleton]at hq;subst hq;exact⟨hf,by simp[dT]⟩
 done:=fun e g he hg h0 hn=>by
  unfold dT at h0;split at h0
  ·rename_i e1;subst e1;simp at hn
  ·omega
 asc:=List.pairwise_singleton _ _
 near:=fun h r e1 e he=>by
  have:=(gU (n:=n) (L:=L) (f:=f) 0 e).2;injection e1 with e1 _
  subst e1;simp[dT];unfold dT at this;split<;>omega
theorem Bfs.dist{n:Nat} {L:Nat->Nat->Bool} {f:Nat} {D:Nat->Int} (h:Bfs n L f D []):Dist n L f D:=
 ⟨h.zero,h.only,h.low,h.pred,fun e g he hg h0 hl=>h.done e g he hg h0 (by simp) hl⟩
def jr(L:Nat->Nat->Bool) (D:Nat->Int) (h k e:Nat):Int:=if e<k/\D e<0/\L h e=true then D h+1 else D e
def uE(L:Nat->Nat->Bool) (D:Nat->Int) (h k:Nat):List Nat:=(List.range k).filter fun e=>decide (D e<0)&&L h e
theorem Bfs.step{n:Nat} {L:Nat->Nat->Bool} (hs:∀ e g,L e g=L g e) {f:Nat} {D:Nat->Int} {h:Nat} {r:List Nat} (b:Bfs n L f D (h :: r)):Bfs n L f (jr L D h n) (r++uE L D h n):=by
 obtain⟨hh,h0⟩:=b.ok h (by simp);have qT:∀ e,0<=D e->jr L D h n e=D e:=fun e he=>by unfold jr;rw[if_neg (by omega)]
 have Fd:∀ e,e<n->D e<0->L h e=true->jr L D h n e=D h+1:=fun e he h1 h2=>by unfold jr;rw[if_pos ⟨he,h1,h2⟩]
 have fY:∀ e,D e<0->¬ (e<n/\L h e=true)->jr L D h n e=D e:=fun e h1 h2=>by unfold jr;rw[if_neg (fun h=>h2 ⟨h.1,h.2.2⟩)]
 have fR:∀ e,(jr L D h n e=D e)\/(e<n/\D e<0/\L h e=true/\jr L D h n e=D h+1):=fun e=>by
  unfold jr;split
  ·rename_i h1;exact .inr ⟨h1.1,h1.2.1,h1.2.2,rfl⟩
  ·exact .inl rfl
 have hq:∀ e,e∈uE L D h n↔e<n/\D e<0/\L h e=true:=fun e=>by simp[uE]
 have N0:=b.asc;rw[List.pairwise_cons]at N0;refine⟨by rw[qT f (by rw[b.zero];omega)];exact b.zero,fun e he h1=>?_,fun e he=>?_,fun e he d h1=>?_,fun q xJ=>?_,fun e g he hg h1 h2 h3=>?_,?_,fun h' r' e1 e he=>?_⟩
 ·rcases fR e with h2|⟨_,_,_,h2⟩
  ·exact b.only e he (by omega)
  ·omega
 ·have:=b.low e he;rcases fR e with h2|⟨_,_,_,h2⟩<;>omega
 ·rcases fR e with h2|⟨_,h3,h4,h2⟩
  ·obtain⟨g,hg,h5,h6⟩:=b.pred e he d (by omega);exact⟨g,hg,by rw[qT g (by omega)];exact h5,h6⟩
  ·exact⟨h,hh,by rw[qT h h0];omega,by rw[hs];exact h4⟩
 ·rcases List.mem_append.1 xJ with xJ|xJ
  ·obtain⟨h1,h2⟩:=b.ok q (by simp[xJ]);exact⟨h1,by rw[qT q h2];exact h2⟩
  ·obtain⟨h1,h2,h3⟩:=(hq q).1 xJ;exact⟨h1,by rw[Fd q h1 h2 h3];omega⟩
 ·rw[List.mem_append,not_or]at h2;rcases fR g with h4|⟨h5,h6,h7,h4⟩
  ·by_cases e1:g=h
   ·subst e1;by_cases h5:0<=D e
    ·rw[qT e h5,h4];exact⟨h5,b.near g r rfl e he⟩
    ·rw[Fd e he (by omega) (by rw[hs];exact h3),h4];omega
   ·have h5:0<=D g:=by omega
    obtain⟨h6,h7⟩:=b.done e g he hg h5 (by simp[e1,h2.1]) h3;rw[qT e h6,h4];exact⟨h6,h7⟩
  ·exact absurd ((hq g).2 ⟨h5,h6,h7⟩) h2.2
 ·rw[List.pairwise_append];refine⟨?_,?_,fun a ha c hc=>?_⟩
  ·exact N0.2.imp_of_mem fun {a c} ha hc hac=>by rw[qT a (b.ok a (by simp[ha])).2,qT c (b.ok c (by simp[hc])).2];exact hac
  ·refine H5 fun a ha c hc=>?_
   obtain⟨a1,a2,a3⟩:=(hq a).1 ha;obtain⟨c1,c2,c3⟩:=(hq c).1 hc;rw[Fd a a1 a2 a3,Fd c c1 c2 c3];omega
  ·obtain⟨c1,c2,c3⟩:=(hq c).1 hc;rw[qT a (b.ok a (by simp[ha])).2,Fd c c1 c2 c3];exact b.near h r rfl a (b.ok a (by simp[ha])).1
 ·have h2:D h<=jr L D h n h':=by
   have hm:h'∈r++uE L D h n:=by rw[e1];simp
   rcases List.mem_append.1 hm with hm|hm
   ·rw[qT h' (b.ok h' (by simp[hm])).2];exact N0.1 h' hm
   ·obtain⟨c1,c2,c3⟩:=(hq h').1 hm;rw[Fd h' c1 c2 c3];omega
  have h3:=b.near h r rfl e he;rcases fR e with h4|⟨_,_,_,h4⟩<;>omega
theorem H6{α:Type} (l:List α) (p q:α->Bool):(l.filter fun x=>p x&&q x).length+(l.filter fun x=>p x&&!q x).length=(l.filter p).length:=by
 induction l with
 | nil=>rfl
 | cons a r ih=>simp only[List.filter_cons];cases p a<;>cases q a<;>simp<;>omega
theorem Kw{n:Nat} (L:Nat->Nat->Bool) (D:Nat->Int) (h:Nat) (h0:0<=D h) (r:List Nat):(r++uE L D h n).length+((List.range n).filter fun e=>decide (jr L D h n e<0)).length<(h :: r).length+((List.range n).filter fun e=>decide (D e<0)).length:=by
 have h1:=H6 (List.range n) (fun e=>decide (D e<0)) (fun e=>L h e)
 have h2:((List.range n).filter fun e=>decide (jr L D h n e<0))=(List.range n).filter fun e=>decide (D e<0)&&!L h e:=by
  refine List.filter_congr fun e he=>?_
  have he:=List.mem_range.1 he;unfold jr;by_cases hd:D e<0
  ·cases hl:L h e with
   | true=>rw[if_pos ⟨he,hd,rfl⟩,decide_eq_true hd,decide_eq_false (by omega)];rfl
   | false=>rw[if_neg (by rintro⟨_,_,h⟩;cases h),decide_eq_true hd];rfl
  ·rw[if_neg (fun h=>hd h.2.1),decide_eq_false hd];rfl
 rw[h2];have h3:(uE L D h n)=(List.range n).filter fun e=>decide (D e<0)&&L h e:=rfl
 rw[List.length_append,h3,List.length_cons];omega
def rI(R:Nat->Nat->Bool) (e:Nat):Int:=if firstIx e (R e)<0 then e else firstIx e (R e)
theorem wB(R:Nat->Nat->Bool) (e:Nat):(rI R e=e/\∀ f,f<e->R e f=false)\/∃ k,k<e/\rI R e=k/\R e k=true/\∀ f,f<k->R e f=false:=by
 unfold rI;rcases bE e (R e) with ⟨h,h1⟩|⟨k,hk,h,h1,h2⟩
 ·rw[h,if_pos (by omega)];exact .inl ⟨rfl,h1⟩
 ·rw[h,if_neg (by omega)];exact .inr ⟨k,hk,rfl,h1,h2⟩
theorem Vh{R:Nat->Nat->Bool} (hs:∀ a b,R a b=R b a) (ht:∀ a b c,R a b=true->R b c=true->R a c=true) (i k:Nat) (hk:k<i):decide (rI R k=rI R i)=R k i:=by
 rcases wB R i with ⟨e1,h1⟩|⟨a,ha,e1,h1,h2⟩<;>rcases wB R k with ⟨e2,h3⟩|⟨b,hb,e2,h3,h4⟩
 ·rw[e1,e2,decide_eq_false (by omega),hs,h1 k hk]
 ·rw[e1,e2,decide_eq_false (by omega),hs,h1 k hk]
 ·rw[e1,e2];cases hr:R k i with
  | true=>
   rw[decide_eq_true_eq];rcases Nat.lt_trichotomy k a with h|h|h
   ·rw[hs,h2 k h]at hr;cases hr
   ·rw[h]
   ·have:=h3 a h;rw[ht k i a hr h1]at this;cases this
  | false=>
   rw[decide_eq_false_iff_not];intro e;have:k=a:=by omega
   subst this;rw[hs,h1]at hr;cases hr
 ·rw[e1,e2];cases hr:R k i with
  | true=>
   rw[decide_eq_true_eq];rcases Nat.lt_trichotomy a b with h|h|h
   ·have:=h4 a h;rw[ht k i a hr h1]at this;cases this
   ·rw[h]
   ·have:=h2 b h;rw[ht i k b (by rw[hs];exact hr) h3]at this;cases this
  | false=>
   rw[decide_eq_false_iff_not];intro e;have:b=a:=by omega
   subst this;rw[ht k b i h3 (by rw[hs];exact h1)]at hr;cases hr
def ly(keys:List Int):List Int:=iD (fun k i=>decide (keys.getD k 0=keys.getD i 0)) keys.length
theorem H7(f:Nat->Int) (n:Nat):ly ((List.range n).map f)=iD (fun k i=>decide (f k=f i)) n:=by
 unfold ly;rw[List.length_map,List.length_range];refine nO fun i hi k hk=>?_
 have e:∀ j,j<n->((List.range n).map f).getD j 0=f j:=fun j hj=>by simp[hj]
 rw[e i hi,e k (by omega)]
def l7(l:List Int):Prop:=∃ N:Nat->Int,N 0=0/\∀ i,i<l.length->0<=l.getD i 0/\l.getD i 0<=N i/\N (i+1)=if l.getD i 0=N i then N i+1 else N i
theorem rJ(q:Nat->Nat->Bool) (n i:Nat) (hi:i<n):(iD q n).getD i 0=(br q (i+1)).1.getD i 0:=by
 unfold iD;obtain⟨m,rfl⟩:∃ m,n=i+1+m:=⟨n - (i+1),by omega⟩;clear hi;induction m with
 | zero=>rfl
 | succ m ih=>rw[<-ih];exact sF q (i+1+m) i (by omega)
theorem rt(q:Nat->Nat->Bool) (i:Nat):(firstIx i (fun k=>q k i)=-1/\(br q (i+1)).1.getD i 0=(br q i).2/\(br q (i+1)).2=(br q i).2+1)\/∃ k,k<i/\firstIx i (fun k=>q k i)=k/\(br q (i+1)).1.getD i 0=(br q i).1.getD k 0/\(br q (i+1)).2=(br q i).2/\(br q i).1.getD k 0<(br q i).2/\0<=(br q i).1.getD k 0:=by
 have hl:=kn q i;have hn:=jZ q i;rcases bE i (fun k=>q k i) with ⟨e,_⟩|⟨k,hk,e,_,_⟩
 ·refine .inl ⟨e,?_,?_⟩
  ·rw[br];rw[e,if_pos (by omega),List.getD_eq_getElem?_getD,List.getElem?_append_right (by omega),hl];simp
  ·rw[br];rw[e,if_pos (by omega)]
 ·refine .inr ⟨k,hk,e,?_,?_,?_⟩
  ·rw[br];rw[e,if_neg (by omega),List.getD_eq_getElem?_getD,List.getElem?_append_right (by omega),hl];simp
  ·rw[br];rw[e,if_neg (by omega)]
  ·have:=hn.2.2 ((br q i).1[k]'(by omega)) (List.getElem_mem _);rw[show (br q i).1.getD k 0=(br q i).1[k]'(by omega) by simp[hl,hk]];omega
theorem pQ(q:Nat->Nat->Bool) (n:Nat):l7 (iD q n):=by
 refine⟨fun i=>(br q i).2,rfl,fun i hi=>?_⟩;rw[pP]at hi;rw[rJ q n i hi];have hn:=jZ q i;dsimp only;rcases rt q i with ⟨_,e1,e2⟩|⟨k,_,_,e1,e2,e3,e4⟩
 ·rw[e1,e2,if_pos rfl];exact⟨hn.1,Int.le_refl _,rfl⟩
 ·rw[e1,e2,if_neg (by omega)];exact⟨e4,by omega,rfl⟩
theorem wC{l:List Int} (h:l7 l) (i:Nat) (hi:i<l.length) (x:Int) (h0:0<=x) (hx:x<l.getD i 0):∃ j,j<i/\l.getD j 0=x:=by
 obtain⟨N,hN,hs⟩:=h
 have key:∀ m,m<=l.length->0<=N m/\∀ x:Int,0<=x->x<N m->∃ j,j<m/\l.getD j 0=x:=by
  intro m;induction m with
  | zero=>intro _;exact⟨by omega,fun x h0 hx=>by omega⟩
  | succ m ih=>
   intro hm;obtain⟨a1,a2⟩:=ih (by omega);obtain⟨b1,b2,b3⟩:=hs m (by omega);split at b3
   ·rename_i b4;refine⟨by omega,fun x h0 hx=>?_⟩;by_cases e:x=N m
    ·exact⟨m,by omega,by rw[b4,e]⟩
    ·obtain⟨j,hj,ej⟩:=a2 x h0 (by omega);exact⟨j,by omega,ej⟩
   ·refine⟨by omega,fun x h0 hx=>?_⟩;obtain⟨j,hj,ej⟩:=a2 x h0 (by omega);exact⟨j,by omega,ej⟩
 obtain⟨b1,b2,_⟩:=hs i hi;exact(key i (by omega)).2 x h0 (by omega)
theorem l8{l:List Int} (h:l7 l) (i:Nat) (hi:i<l.length):0<=l.getD i 0/\l.getD i 0<=i:=by
 obtain⟨N,hN,hs⟩:=h
 have key:∀ m,m<=l.length->N m<=m:=by
  intro m;induction m with
  | zero=>intro _;omega
  | succ m ih=>
   intro hm;have a:=ih (by omega);obtain⟨b1,b2,b3⟩:=hs m (by omega);split at b3<;>omega
 obtain⟨b1,b2,_⟩:=hs i hi;have:=key i (by omega);exact⟨b1,by omega⟩
theorem Fk{q:Nat->Nat->Bool} (hr:∀ a,q a a=true) (hs:∀ a b,q a b=q b a) (n:Nat) (ht:∀ a b c,a<n->b<n->c<n->q a b=true->q b c=true->q a c=true) (i k:Nat) (hi:i<n) (hk:k<n):(iD q n).getD i 0=(iD q n).getD k 0↔q i k=true:=by
 have key:∀ m,m<=n->∀ i k,i<m->k<m->((br q m).1.getD i 0=(br q m).1.getD k 0↔q i k=true):=by
  intro m;induction m with
  | zero=>intro _ i k h;omega
  | succ m ih=>
   intro hm;have ih:=ih (by omega);have hl:=kn q m;have hn:=jZ q m
   have one:∀ i,i<m->((br q (m+1)).1.getD i 0=(br q (m+1)).1.getD m 0↔q i m=true):=fun i hi=>by
    rw[sF q m i hi];rcases rt q m with ⟨e,e1,_⟩|⟨k,hk,e,e1,_⟩
    ·rw[e1];have aC:=(hn.2.2 ((br q m).1[i]'(by omega)) (List.getElem_mem _)).2;rw[show (br q m).1.getD i 0=(br q m).1[i]'(by omega) by simp[hl,hi]]
     have fY:q i m=false:=by
      rcases bE m (fun k=>q k m) with ⟨_,h⟩|⟨k,hk,e',_⟩
      ·exact h i hi
      ·omega
     rw[fY];simp;omega
    ·rw[e1]
     have Bc:q k m=true:=by
      rcases bE m (fun k=>q k m) with ⟨e',_⟩|⟨k',rh,e',h,_⟩
      ·omega
      ·rw[show k=k' by omega];exact h
     rw[ih i k hi hk];exact⟨fun h=>ht i k m (by omega) (by omega) (by omega) h Bc,fun h=>ht i m k (by omega) (by omega) (by omega) h (by rw[hs];exact Bc)⟩
   intro i k hi hk;by_cases e1:i=m
   ·by_cases e2:k=m
    ·rw[e1,e2,hr];simp
    ·rw[e1,hs,<-one k (by omega)];exact eq_comm
   ·by_cases e2:k=m
    ·rw[e2];exact one i (by omega)
    ·rw[sF q m i (by omega),sF q m k (by omega)];exact ih i k (by omega) (by omega)
 exact key n (Nat.le_refl _) i k hi hk
def dI(key f:Nat->Int) (k:Nat) (x:Int):Option Int:=if firstIx k (fun j=>decide (key j=x))<0 then none else some (f (firstIx k fun j=>decide (key j=x)).toNat)
theorem Cf{key f:Nat->Int} {k:Nat} {x:Int}:dI key f k x=none↔∀ j,j<k->key j≠x:=by
 unfold dI;rcases bE k (fun j=>decide (key j=x)) with ⟨e,h⟩|⟨j,hj,e,h,_⟩
 ·rw[e,if_pos (by omega)];exact⟨fun _ j hj e=>(by have:=h j hj;rw[decide_eq_true e]at this;cases this),fun _=>rfl⟩
 ·rw[e,if_neg (by omega)];exact⟨fun h=>(by cases h),fun h'=>absurd (of_decide_eq_true h) (h' j hj)⟩
theorem ru{key f:Nat->Int} {k:Nat} {x y:Int} (h:dI key f k x=some y):∃ j,j<k/\firstIx k (fun j=>decide (key j=x))=j/\key j=x/\f j=y:=by
 unfold dI at h;rcases bE k (fun j=>decide (key j=x)) with ⟨e,_⟩|⟨j,hj,e,h1,_⟩
 ·rw[e,if_pos (by omega)]at h;cases h
 ·rw[e,if_neg (by omega),Int.toNat_natCast]at h;exact⟨j,hj,e,of_decide_eq_true h1,dy h⟩
theorem yo{key f:Nat->Int} {k:Nat} (h:dI key f k (key k)=none) (y:Int):dI key f (k+1) y=if y=key k then some (f k) else dI key f k y:=by
 have h:=Cf.1 h;by_cases e:y=key k
 ·rw[if_pos e];unfold dI;rw[dB (k+1) k _ (by omega) (fun j hj=>by rw[decide_eq_false];rw[e];exact h j hj) (by rw[decide_eq_true e.symm]),if_neg (by omega),Int.toNat_natCast]
 ·rw[if_neg e];unfold dI;rcases bE k (fun j=>decide (key j=y)) with ⟨e1,h1⟩|⟨j,hj,e1,h1,h2⟩
  ·rw[e1,dK (k+1) _ (fun j hj=>by by_cases ej:j=k;(subst ej;exact decide_eq_false fun e'=>e e'.symm);exact h1 j (by omega))]
  ·rw[e1,dB (k+1) j _ (by omega) h2 h1]
theorem yq{key f:Nat->Int} {k:Nat} {z:Int} (h:dI key f k (key k)=some z) (y:Int):dI key f (k+1) y=dI key f k y:=by
 obtain⟨i,hi,ei,e2,_⟩:=ru h;unfold dI;rcases bE k (fun j=>decide (key j=y)) with ⟨e1,h1⟩|⟨j,hj,e1,h1,h2⟩
 ·rw[e1,dK (k+1) _ (fun j hj=>by
   by_cases ej:j=k
   ·subst ej;have:=h1 i hi;rw[e2]at this;exact this
   ·exact h1 j (by omega))]
 ·rw[e1,dB (k+1) j _ (by omega) h2 h1]
theorem H'{q:Nat->Nat->Bool} {n k:Nat} (hk:k<n) (h:firstIx k (fun j=>q j k)<0):(iD q n).getD k 0=(br q k).2/\(br q (k+1)).2=(br q k).2+1:=by
 rw[rJ q n k hk];rcases rt q k with ⟨_,e1,e2⟩|⟨j,_,e,_⟩
 ·exact⟨e1,e2⟩
 ·omega
theorem Ia{q:Nat->Nat->Bool} {n k j:Nat} (hk:k<n) (h:firstIx k (fun j=>q j k)=j):(iD q n).getD k 0=(iD q n).getD j 0/\(br q (k+1)).2=(br q k).2:=by
 rcases rt q k with ⟨e,_⟩|⟨i,hi,e,e1,e2,_⟩
 ·omega
 ·obtain rfl:i=j:=by omega
  refine⟨?_,e2⟩;rw[rJ q n k hk,e1,rJ q n i (by omega)];have:=rJ q k i hi;unfold iD at this;rw[this]
theorem Ib(a b:List Int) (m i:Nat):ir (dO a b) m i i=true:=rH _ m i i (Ce a b i)
structure Uni (a b:List Int) (n:Nat) (P:List Int):Prop where
 par:Par n P
 wr:∀ i,i<n->ir (dO a b) n (rootN P i) i=true
theorem rK{P:List Int} {i n:Nat} (h:i<n):rootN P i<n:=Nat.lt_of_le_of_lt (Hz P i) h
theorem Uni.start(a b:List Int) (n:Nat):Uni a b n ((List.range n).map fun i:Nat=>(i:Int)):=by
 have h:∀ i,i<n->((List.range n).map fun i:Nat=>(i:Int)).getD i 0=i:=fun i hi=>by simp[hi]
 refine⟨⟨by simp,fun i hi=>by rw[h i hi];omega⟩,fun i hi=>?_⟩;rw[nQ (h i hi)];exact Ib a b n i
theorem Uni.union{a b:List Int} {n:Nat} {P:List Int} (h:Uni a b n P) (i k:Nat) (hi:i<n) (hk:k<n) (hj:dO a b i k=true):Uni a b n (P.set (max (rootN P i) (rootN P k)) (min (rootN P i) (rootN P k):Nat))/\∀ j,j<n->rootN (P.set (max (rootN P i) (rootN P k)) (min (rootN P i) (rootN P k):Nat)) j=if rootN P j=max (rootN P i) (rootN P k) then min (rootN P i) (rootN P k) else rootN P j:=by
 have hp:=rK (P:=P) hi;have hq:=rK (P:=P) hk;obtain⟨h1,h2⟩:=OB h.par _ _ hp hq (Fi h.par i hi) (Fi h.par k hk);refine⟨⟨h1,fun j nD=>?_⟩,h2⟩;have hs:=mP (nP a b);have jn:=h.wr i hi;have zB:=h.wr k hk;have kQ:=rH (dO a b) n i k hj;have LY:ir (dO a b) n (rootN P i) (rootN P k)=true:=hH _ n _ i _ hi jn (hH _ n _ k _ hk kQ (by rw[hs];exact zB));rw[h2 j nD];split
 ·rename_i e;have hw:=h.wr j nD;rw[e]at hw;rcases Nat.le_total (rootN P i) (rootN P k) with lh|lh
  ·rw[Nat.min_eq_left lh];rw[Nat.max_eq_right lh]at hw;exact hH _ n _ _ _ hq LY hw
  ·rw[Nat.min_eq_right lh];rw[Nat.max_eq_left lh]at hw;exact hH _ n _ _ _ hp (by rw[hs];exact LY) hw
 ·exact h.wr j nD
def jy(n:Nat) (P P':List Int):Prop:=∀ i k,i<n->k<n->rootN P i=rootN P k->rootN P' i=rootN P' k
theorem jy.refl(n:Nat) (P:List Int):jy n P P:=fun _ _ _ _ h=>h
theorem jy.trans{n:Nat} {P Q R:List Int} (h:jy n P Q) (k:jy n Q R):jy n P R:=fun i j hi hj e=>k i j hi hj (h i j hi hj e)
theorem Kx{n:Nat} {P Q:List Int} (h:∀ j,j<n->rootN Q j=rootN P j):jy n P Q:=fun i k hi hk e=>by rw[h i hi,h k hk];exact e
theorem Ky{n:Nat} {P Q:List Int} {x y:Nat} (h:∀ j,j<n->rootN Q j=if rootN P j=x then y else rootN P j):jy n P Q:=fun i k hi hk e=>by rw[h i hi,h k hk,e]
def fJ(l:List Int) (n m:Nat) (P:List Int):Prop:=∀ i k,i<n->k<n->i<m->k<m->l.getD i 0=l.getD k 0->rootN P i=rootN P k
theorem fJ.keep{l:List Int} {n m:Nat} {P Q:List Int} (h:fJ l n m P) (k:jy n P Q):fJ l n m Q:=fun i j hi hj h1 h2 e=>k i j hi hj (h i j hi hj h1 h2 e)
theorem fJ.join{l:List Int} {n m k:Nat} {P Q:List Int} (h:fJ l n m P) (hm:m<n) (hk:k<m) (e:l.getD k 0=l.getD m 0) (hq:jy n P Q) (hr:rootN Q m=rootN Q k):fJ l n (m+1) Q:=by
 have h':=h.keep hq;intro i j hi hj h1 h2 e1;by_cases ei:i=m
 ·by_cases ej:j=m
  ·rw[ei,ej]
  ·rw[ei,hr];exact h' k j (by omega) hj hk (by omega) (by rw[e,<-ei,e1])
 ·by_cases ej:j=m
  ·rw[ej,hr];exact h' i k hi (by omega) (by omega) hk (by rw[e,<-ej,e1])
  ·exact h' i j hi hj (by omega) (by omega) e1
theorem fJ.fresh{l:List Int} {n m:Nat} {P:List Int} (h:fJ l n m P) (hn:∀ k,k<m->l.getD k 0≠l.getD m 0):fJ l n (m+1) P:=by
 intro i j hi hj h1 h2 e1;by_cases ei:i=m
 ·by_cases ej:j=m
  ·rw[ei,ej]
  ·exact absurd (by rw[<-e1,ei]) (hn j (by omega))
 ·by_cases ej:j=m
  ·exact absurd (by rw[e1,ej]) (hn i (by omega))
  ·exact h i j hi hj (by omega) (by omega) e1
theorem Ru{a b:List Int} {n:Nat} {P:List Int} (ha:a.length=n) (h:Uni a b n P) (h1:fJ a n n P) (h2:fJ b n n P):ly ((List.range n).map fun i=>(rootN P i:Int))=k9 a b:=by
 rw[H7];have he:∀ j,j<n->((List.range n).map fun i=>(rootN P i:Int)).getD j 0=rootN P j:=fun j hj=>by simp[hj]
 rw[<-Hy a b ((List.range n).map fun i=>(rootN P i:Int)) n ha]
 ·refine nO fun i hi k hk=>?_
  rw[he i hi,he k (by omega)]
 ·intro i k hi hk hq;rw[he i hi,he k hk];unfold dO at hq;simp only[Bool.or_eq_true,decide_eq_true_eq]at hq;rcases hq with e|e
  ·rw[h1 i k hi hk hi hk e]
  ·rw[h2 i k hi hk hi hk e]
 ·intro i hi;exact⟨rootN P i,rK hi,he i hi,h.wr i hi⟩
structure Glu (a b:List Int) (n:Nat) (O:List Int):Prop where
 len:O.length=n
 le:∀ i,i<n->0<=O.getD i 0/\O.getD i 0<=i
 wr:∀ i,i<n->ir (dO a b) n (O.getD i 0).toNat i=true
theorem Glu.start(a b:List Int) (n:Nat):Glu a b n ((List.range n).map fun i:Nat=>(i:Int)):=by
 have h:∀ i,i<n->((List.range n).map fun i:Nat=>(i:Int)).getD i 0=i:=fun i hi=>by simp[hi]
 refine⟨by simp,fun i hi=>by rw[h i hi];omega,fun i hi=>?_⟩;rw[h i hi,Int.toNat_natCast];exact Ib a b n i
def lM(O:List Int) (i k:Nat):List Int:=(O.set i (min (O.getD i 0) (O.getD k 0))).set k (min (O.getD i 0) (O.getD k 0))
theorem Fl(O:List Int) (i k j:Nat) (hi:i<O.length) (hk:k<O.length):(lM O i k).getD j 0=if j=k\/j=i then min (O.getD i 0) (O.getD k 0) else O.getD j 0:=by
 unfold lM;rw[fI _ _ _ _ _ (by simpa using hk)];by_cases e:j=k
 ·rw[if_pos e,if_pos (.inl e)]
 ·rw[if_neg e,fI _ _ _ _ _ hi];by_cases e2:j=i
  ·rw[if_pos e2,if_pos (.inr e2)]
  ·rw[if_neg e2,if_neg (by omega)]
theorem Glu.step{a b:List Int} {n:Nat} {O:List Int} (h:Glu a b n O) (i k:Nat) (hi:i<n) (hk:k<i) (hj:dO a b i k=true):Glu a b n (lM O i k):=by
 have hl:=h.len;have hs:=mP (nP a b);have a1:=h.le i hi;have a2:=h.le k (by omega);have w1:=h.wr i hi;have w2:=h.wr k (by omega);have kQ:=rH (dO a b) n i k hj
 have wi:ir (dO a b) n (min (O.getD i 0) (O.getD k 0)).toNat i=true:=by
  rcases Int.le_total (O.getD i 0) (O.getD k 0) with lh|lh
  ·rw[Int.min_eq_left lh];exact w1
  ·rw[Int.min_eq_right lh];exact hH _ n _ k _ (by omega) w2 (by rw[hs];exact kQ)
 have wk:ir (dO a b) n (min (O.getD i 0) (O.getD k 0)).toNat k=true:=hH _ n _ i _ hi wi kQ;refine⟨by simp[lM,hl],fun j nD=>?_,fun j nD=>?_⟩
 ·rw[Fl _ _ _ _ (by omega) (by omega)];split
  ·omega
  ·exact h.le j nD
 ·rw[Fl _ _ _ _ (by omega) (by omega)];split
  ·rename_i e;rcases e with rfl|rfl
   ·exact wk
   ·exact wi
  ·exact h.wr j nD
def uF(O:List Int):Nat:=(O.map Int.toNat).sum
theorem Cg(O:List Int) (i:Nat) (hi:i<O.length) (x:Int):uF (O.set i x)+(O.getD i 0).toNat=uF O+x.toNat:=by
 induction O generalizing i with
 | nil=>simp at hi
 | cons y r ih=>
  cases i with
  | zero=>simp[uF];omega
  | succ i=>
   have h:=ih i (by simpa using hi);simp only[uF,List.set_cons_succ,List.map_cons,List.sum_cons,List.getD_cons_succ]at h ⊢;omega
theorem OD{a b:List Int} {n:Nat} {O:List Int} (h:Glu a b n O) (i k:Nat) (hi:i<n) (hk:k<i) (bK:O.getD i 0≠O.getD k 0):uF (lM O i k)<uF O:=by
 have hl:=h.len;have a1:=h.le i hi;have a2:=h.le k (by omega);have s1:=Cg O i (by omega) (min (O.getD i 0) (O.getD k 0));have s2:=Cg (O.set i (min (O.getD i 0) (O.getD k 0))) k (by simp;omega) (min (O.getD i 0) (O.getD k 0));rw[fI _ _ _ _ _ (by omega),if_neg (by omega)]at s2;unfold lM;omega
theorem Rv{a b:List Int} {n:Nat} {O:List Int} (ha:a.length=n) (h:Glu a b n O) (hd:∀ i k,i<n->k<i->dO a b i k=true->O.getD i 0=O.getD k 0):ly O=k9 a b:=by
 unfold ly;rw[h.len];refine Hy a b O n ha (fun i k hi hk hq=>?_) fun i hi=>?_
 ·rcases Nat.lt_trichotomy i k with e|e|e
  ·exact(hd k i hk e (by rw[nP];exact hq)).symm
  ·rw[e]
  ·exact hd i k hi e hq
 ·have:=h.le i hi;exact⟨(O.getD i 0).toNat,by omega,by omega,h.wr i hi⟩
def kD(L:Int) (c acc:List Int) (sm:Nat × Mv):List Int:=acc.set sm.1 (qf L c (acc.getD sm.1 0) sm.2)
def jz(L:Int) (c:List Int) (l:List (List Mv)) (i:Nat):List Int:=((uW l).take i).foldl (kD L c) (List.replicate l.length 0)
theorem Mo(L:Int) (c:List Int) (l:List (List Mv)):jz L c l 0=List.replicate l.length 0:=rfl
theorem Mp(L:Int) (c:List Int) (l:List (List Mv)) (i:Nat) (h:i<movesN l):jz L c l (i+1)=kD L c (jz L c l i) (mvAt l i):=by
 unfold jz mvAt;have hi:i<(uW l).length:=by rw[xy];exact h
 rw[List.take_succ_eq_append_getElem hi,List.foldl_append,List.getD_eq_getElem?_getD,List.getElem?_eq_getElem hi];rfl
theorem OE(L:Int) (c:List Int) (l:List (List Mv)) (i:Nat):(jz L c l i).length=l.length:=by
 unfold jz
 have key:∀ (x:List (Nat × Mv)) (acc:List Int),(x.foldl (kD L c) acc).length=acc.length:=by
  intro x;induction x with
  | nil=>intro acc;rfl
  | cons a r ih=>intro acc;rw[List.foldl_cons,ih];simp[kD]
 rw[key];simp
theorem Rw(L:Int) (c:List Int) (x:List Mv):∀ (pre rest:List Int) (z:Int),(x.map fun m=>(pre.length,m)).foldl (kD L c) (pre++z :: rest)=pre++x.foldl (qf L c) z :: rest:=by
 induction x with
 | nil=>intro pre rest z;rfl
 | cons m r ih=>
  intro pre rest z;rw[List.map_cons,List.foldl_cons,List.foldl_cons,<-ih];congr 1;simp[kD]
theorem OF(L:Int) (c:List Int) (l:List (List Mv)):∀ (pre:List Int),(iM pre.length l).foldl (kD L c) (pre++List.replicate l.length 0)=pre++l.map (BE L c):=by
 induction l with
 | nil=>intro pre;simp[iM]
 | cons x r ih=>
  intro pre;simp only[iM,List.foldl_append,List.length_cons,List.replicate_succ,List.map_cons];rw[Rw];have h:=ih (pre++[BE L c x]);simp only[List.length_append,List.length_cons,List.length_nil,Nat.zero_add,List.append_assoc,List.cons_append,List.nil_append]at h;exact h
theorem OG(L:Int) (a:Adv) (c:List Int):jz L c a.states (movesN a.states)=zX L a c:=by
 unfold jz zX;rw[<-xy,List.take_length];have:=OF L c a.states [];simpa[uW] using this
theorem Rx{L:Int} (hL:0<=L) {c:List Int} (hc:Cd L c) (l:List (List Mv)) (i:Nat):Cd L (jz L c l i):=by
 unfold jz
 have key:∀ (x:List (Nat × Mv)) (acc:List Int),Cd L acc->Cd L (x.foldl (kD L c) acc):=by
  intro x;induction x with
  | nil=>intro acc h;exact h
  | cons m r ih=>
   intro acc h;refine ih _ fun y hy=>?_
   unfold kD at hy;rcases List.mem_or_eq_of_mem_set hy with hy|rfl
   ·exact h y hy
   ·exact Hw hL hc (uY hL h _) _
 exact key _ _ (fun y hy=>by rw[(List.mem_replicate.1 hy).2];omega)
end Go.Proofs.YtmeaoneaephjeaaGreatDoor
namespace Go.Proofs.YtmeaoneaephjeaaGreatDoor
open Go
theorem Au(a b:Nat) (ha:a<9223372036854775808) (hb:b<9223372036854775808):bits .and .i64 (a:Int) (b:Int)=((a &&& b:Nat):Int):=by
 have hx:a &&& b<2 ^ 63:=Nat.and_lt_two_pow _ (by omega)
 show IntKind.i64.wrap ((BitVec.ofInt 64 (a:Int) &&& BitVec.ofInt 64 (b:Int)).toNat:Int)=_
 rw[BitVec.toNat_and,ofInt_u64 a (by omega),ofInt_u64 b (by omega)];simp[IntKind.wrap,IntKind.bits,IntKind.signed];omega
theorem wD(a b:Nat) (ha:a<9223372036854775808) (hb:b<9223372036854775808):bits .or .i64 (a:Int) (b:Int)=((a ||| b:Nat):Int):=by
 have hx:a ||| b<2 ^ 63:=Nat.or_lt_two_pow (by omega) (by omega)
 show IntKind.i64.wrap ((BitVec.ofInt 64 (a:Int) ||| BitVec.ofInt 64 (b:Int)).toNat:Int)=_
 rw[BitVec.toNat_or,ofInt_u64 a (by omega),ofInt_u64 b (by omega)];simp[IntKind.wrap,IntKind.bits,IntKind.signed];omega
theorem Ic(a:Int):bits .and .i64 a 1=a % 2:=by
 show IntKind.i64.wrap ((BitVec.ofInt 64 a &&& BitVec.ofInt 64 ((1:Nat):Int)).toNat:Int)=_
 rw[BitVec.toNat_and,ofInt_u64 1 (by omega),Nat.and_one_is_mod,BitVec.toNat_ofInt];simp[IntKind.wrap,IntKind.bits,IntKind.signed];omega
theorem sJ(x:Int) (p:Nat):(bits .and .i64 (x / 2 ^ p) 1 == 0)=!hasB x p:=by
 rw[Ic];unfold hasB;rcases (show x / 2 ^ p % 2=0\/x / 2 ^ p % 2=1 by omega) with h|h<;>rw[h]<;>rfl
theorem rx(x:Int) (p:Nat):(bits .and .i64 (x / 2 ^ p) 1 == 1)=hasB x p:=by
 rw[Ic];unfold hasB;rfl
theorem nR(x:Int) (h0:0<=x) (p:Nat):hasB x p=x.toNat.testBit p:=by
 obtain⟨A,rfl⟩:=Int.eq_ofNat_of_zero_le h0;unfold hasB;rw[Int.toNat_natCast,Nat.testBit_eq_decide_div_mod_eq];have:((A:Int) / 2 ^ p % 2)=((A / 2 ^ p % 2:Nat):Int):=by simp
 rw[this,Bool.eq_iff_iff];simp only[beq_iff_eq,decide_eq_true_eq];omega
theorem GP(x y:Int) (dk:0<=x) (hx:x<32) (fM:0<=y) (hy:y<32):(bits .andNot .i64 x y != 0)=!iU x y:=by
 obtain⟨A,rfl⟩:=Int.eq_ofNat_of_zero_le dk;obtain⟨B,rfl⟩:=Int.eq_ofNat_of_zero_le fM;have hA:A<32:=by omega
 have hB:B<32:=by omega
 have key:∀ a:Fin 32,∀ b:Fin 32,(bits .andNot .i64 ((a.val:Nat):Int) ((b.val:Nat):Int) != 0)=!iU ((a.val:Nat):Int) ((b.val:Nat):Int):=by decide +kernel
 exact key ⟨A,hA⟩ ⟨B,hB⟩
end Go.Proofs.YtmeaoneaephjeaaGreatDoor
namespace Go.Proofs.YtmeaoneaephjeaaGreatDoor
instance:Inhabited Ex:=⟨⟨0,[],[]⟩⟩
instance:DecidableEq Ex:=fun a b=>decidable_of_iff (a.c=b.c/\a.word=b.word/\a.views=b.views) (by cases a;cases b;simp)
def verifyE(s:Sys):Int:=if buildE s.prob≠0 then buildE s.prob else if s.n=(aF s.prob).n/\s.tab=(aF s.prob).tab/\s.ex=(aF s.prob).ex then 0 else 3
theorem yt{s:Sys} (h:verifyE s=0):buildE s.prob=0/\s=aF s.prob:=by
 unfold verifyE at h;split at h
 ·rename_i h1;exact absurd h h1
 rename_i h1;split at h
 ·rename_i h2;refine⟨by omega,?_⟩;obtain⟨p,n,t,e⟩:=s;obtain⟨h3,h4,h5⟩:=h2;dsimp only at h3 h4 h5 ⊢;rw[h3,h4,h5];rfl
 ·omega
def maskN(q:Nat->Bool):Nat->Nat
 | 0=>0
 | k+1=>maskN q k+if q k then 2 ^ k else 0
theorem ik(q:Nat->Bool):∀ n,maskN q n<2 ^ n
 | 0=>by simp[maskN]
 | n+1=>by
  have:=ik q n;have h2:(2:Nat) ^ (n+1)=2 ^ n+2 ^ n:=by rw[Nat.pow_succ];omega
  unfold maskN;split<;>omega
theorem dY(q:Nat->Bool):∀ n p,(maskN q n).testBit p=(decide (p<n)&&q p)
 | 0,p=>by simp[maskN]
 | n+1,p=>by
  have aC:=ik q n;rw[maskN];rcases Nat.lt_trichotomy p n with h|h|h
  ·rw[decide_eq_true (show p<n+1 by omega),Bool.true_and];have ih:=dY q n p;rw[decide_eq_true h,Bool.true_and]at ih;split
   ·rw[Nat.add_comm,Nat.testBit_two_pow_add_gt h];exact ih
   ·exact ih
  ·subst h;rw[decide_eq_true (show p<p+1 by omega),Bool.true_and];split
   ·rename_i h1;rw[Nat.add_comm,Nat.testBit_two_pow_add_eq,Nat.testBit_lt_two_pow aC,h1];rfl
   ·rename_i h1;rw[Nat.add_zero,Nat.testBit_lt_two_pow aC];simpa using h1
  ·rw[decide_eq_false (by omega),Bool.false_and];refine Nat.testBit_lt_two_pow (Nat.lt_of_lt_of_le (ik q (n+1)) (Nat.pow_le_pow_right (by omega) (by omega)))
theorem Av{q r:Nat->Bool} {n:Nat} (h:∀ p,p<n->q p=r p):maskN q n=maskN r n:=by
 refine Nat.eq_of_testBit_eq fun p=>?_
 rw[dY,dY];by_cases hp:p<n
 ·rw[h p hp]
 ·rw[decide_eq_false hp];rfl
theorem nT(q:Nat->Bool) (n:Nat):maskN q n=0↔anyLt n q=false:=by
 rw[dG];constructor
 ·intro h k hk;have:=dY q n k;rw[h,decide_eq_true hk]at this;simpa using this.symm
 ·intro h;refine Nat.eq_of_testBit_eq fun p=>?_
  rw[dY,Nat.zero_testBit];by_cases hp:p<n
  ·rw[h p hp,Bool.and_false]
  ·rw[decide_eq_false hp];rfl
theorem OH(q r:Nat->Bool) (n:Nat):maskN q n &&& maskN r n=maskN (fun p=>q p&&r p) n:=by
 refine Nat.eq_of_testBit_eq fun p=>?_
 rw[Nat.testBit_and,dY,dY,dY];cases decide (p<n)<;>simp
theorem Ry(q r:Nat->Bool) (n:Nat):maskN q n ||| maskN r n=maskN (fun p=>q p || r p) n:=by
 refine Nat.eq_of_testBit_eq fun p=>?_
 rw[Nat.testBit_or,dY,dY,dY];cases decide (p<n)<;>simp
theorem OI{n v:Nat} (h:v<n):maskN (fun p=>decide (p=v)) n=2 ^ v:=by
 refine Nat.eq_of_testBit_eq fun p=>?_
 rw[dY,Nat.testBit_two_pow];by_cases e:p=v
 ·subst e;simp[h]
 ·rw[decide_eq_false e,decide_eq_false (show ¬ v=p by omega),Bool.and_false]
theorem Mq(n:Nat):maskN (fun _=>true) n=2 ^ n - 1:=by
 refine Nat.eq_of_testBit_eq fun p=>?_
 rw[dY,Nat.testBit_two_pow_sub_one,Bool.and_true]
theorem yu{q:Nat->Bool} {k:Nat} (h:q k=true):maskN q k ||| 2 ^ k=maskN q (k+1):=by
 refine Nat.eq_of_testBit_eq fun p=>?_
 rw[Nat.testBit_or,dY,dY,Nat.testBit_two_pow];by_cases e:p=k
 ·subst e;simp[h]
 ·rw[decide_eq_false (show ¬ k=p by omega),Bool.or_false,decide_eq_decide.2 (show p<k↔p<k+1 by omega)]
theorem wE{q:Nat->Bool} {k:Nat} (h:q k=false):maskN q k=maskN q (k+1):=by rw[maskN,h];rfl
theorem nd(q:Nat->Bool) (n p:Nat):hasB (maskN q n:Nat) p=(decide (p<n)&&q p):=by
 rw[nR _ (by omega),Int.toNat_natCast,dY]
structure Lk where
 x:Int
 p:Int
instance:Inhabited Lk:=⟨⟨0,0⟩⟩
instance:DecidableEq Lk:=fun a b=>decidable_of_iff (a.x=b.x/\a.p=b.p) (by cases a;cases b;simp)
def cH(s:Sys) (e:Nat):Ex:=s.ex.getD e default
def fltS(s:Sys) (e:Nat):Int:=zY (cH s e).word
def nS(s:Sys):Nat:=s.n.toNat
def eS(s:Sys):Nat:=s.ex.length
def finS(s:Sys) (e p:Nat):Int:=((cH s e).views.getD s.prob.rounds.toNat []).getD p 0
def linkB(s:Sys) (p e f:Nat):Bool:=!hasB (fltS s e) p&&!hasB (fltS s f) p&&decide (finS s e p=finS s f p)
theorem ry(s:Sys) (p e f:Nat):linkB s p e f=linkB s p f e:=by
 unfold linkB;rw[Bool.and_comm (!hasB (fltS s e) p),decide_eq_decide.2 (eq_comm (a:=finS s e p))]
theorem uG{s:Sys} {p e f g:Nat} (h1:linkB s p e f=true) (h2:linkB s p f g=true):linkB s p e g=true:=by
 unfold linkB at *;simp only[Bool.and_eq_true,decide_eq_true_eq]at *;exact⟨⟨h1.1.1,h2.1.2⟩,h1.2.trans h2.2⟩
def eZ(s:Sys) (e f:Nat):Bool:=anyLt (nS s) fun p=>linkB s p e f
def byP(s:Sys) (e f:Nat):Int:=firstIx (nS s) fun p=>linkB s p e f
theorem Id(s:Sys) (e f:Nat):eZ s e f=eZ s f e:=Kq _ _ _ fun p _=>ry s p e f
theorem D7{s:Sys} {e f:Nat} (h:eZ s e f=true):0<=byP s e f/\byP s e f<nS s/\linkB s (byP s e f).toNat e f=true:=by
 unfold eZ at h;unfold byP;rcases bE (nS s) (fun p=>linkB s p e f) with ⟨_,h1⟩|⟨k,hk,e1,h1,_⟩
 ·rw[eX _ _ h1]at h;cases h
 ·rw[e1,Int.toNat_natCast];exact⟨by omega,by omega,h1⟩
def classL(s:Sys) (p:Nat):List Int:=iD (fun k i=>linkB s p k i) (eS s)
def eA(s:Sys):Nat->List Int
 | 0=>classL s 0
 | k+1=>k9 (eA s k) (classL s (k+1))
def partsS(s:Sys):List Int:=eA s (nS s - 1)
theorem jA(s:Sys) (p:Nat):(classL s p).length=eS s:=pP _ _
theorem gV(s:Sys):∀ k,(eA s k).length=eS s
 | 0=>jA s 0
 | k+1=>by rw[eA,k9,pP,gV s k]
theorem dp(s:Sys):(partsS s).length=eS s:=gV s _
def oS(s:Sys):Nat:=s.prob.t.outs.toNat
def vecE(s:Sys) (e:Nat):List (List Int):=fm (s.prob.t.cases.getD (cH s e).c.toNat default) (fltS s e)
def valB(s:Sys) (e v:Nat):Bool:=hasV (vecE s e) (List.replicate (nS s) (v:Int))
def valuesS(s:Sys) (e:Nat):List Int:=((List.range (oS s)).filter (valB s e)).map fun v:Nat=>(v:Int)
def constB(v:List Int):Bool:=!anyLt v.length fun i=>decide (v.getD i 0≠v.getD 0 0)
def agreeB(t:Tk):Bool:=!anyLt t.cases.length fun i=>anyLt (t.cases.getD i default).out.length fun j=>!constB ((t.cases.getD i default).out.getD j [])
def readyE(s:Sys):Int:=if verifyE s≠0 then verifyE s else if agreeB s.prob.t then 0 else 11
def valuesR(s:Sys) (x:Int):List Int × Int:=if readyE s≠0 then([],readyE s) else if x<0\/(eS s:Int)<=x then([],6) else(valuesS s x.toNat,0)
def memL(parts:List Int) (k:Int):List Nat:=(List.range parts.length).filter fun e=>decide (parts.getD e 0=k)
def comB(s:Sys) (l:List Nat):Int:=firstIx (oS s) fun v=>l.all fun e=>valB s e v
def choiceS(s:Sys):List Int:=(List.range (eS s)).map fun e=>comB s (memL (partsS s) ((partsS s).getD e 0))
def choiceR(s:Sys):List Int × Int:=if readyE s≠0 then([],readyE s) else(choiceS s,0)
def gx(s:Sys) (e:Nat) (out:List Int):Nat->List Int
 | 0=>out
 | p+1=>if hasB (fltS s e) p then gx s e out p else(gx s e out p).set (finS s e p).toNat ((choiceS s).getD e 0)
def fX(s:Sys):Nat->List Int
 | 0=>List.replicate s.tab.length (-1)
 | e+1=>gx s e (fX s e) (nS s)
def ruleR(s:Sys):List Int × Bool × Int:=if readyE s≠0 then([],false,readyE s) else if -1∈choiceS s then([],false,0) else(fX s (eS s),true,0)
def db(s:Sys) (f:Nat):List Int:=Rt (eS s) (eZ s) f
def gW(s:Sys) (D:List Int) (d e:Nat):Nat:=(firstIx (eS s) fun g=>decide (D.getD g 0=d)&&eZ s e g).toNat
def kM(s:Sys) (D:List Int):Nat->Nat->List Lk
 | 0,_=>[]
 | d+1,e=>⟨gW s D d e,byP s e (gW s D d e)⟩ :: kM s D d (gW s D d e)
def kE(s:Sys) (e f:Nat):List Lk:=kM s (db s f) ((db s f).getD e 0).toNat e
def la(s:Sys):Nat->List Nat->List Lk
 | _,[]=>[]
 | e,m :: r=>kE s e m++la s m r
def gO(s:Sys):List Nat->List Lk
 | []=>[]
 | a :: r=>⟨a,-1⟩ :: la s a r
def cK(l:List Lk):List Nat:=l.map fun y=>y.x.toNat
def dV(s:Sys) (l:List Lk):Bool:=decide (comB s (cK l)<0)
def rz(s:Sys) (l:List Lk):Nat:=if firstIx l.length (fun i=>dV s (l.take (i+1)))<0 then l.length else(firstIx l.length fun i=>dV s (l.take (i+1))).toNat+1
def nU(s:Sys) (l:List Lk):List Lk:=l.take (rz s l)
def hZ(s:Sys):Int:=firstIx (eS s) fun e=>decide ((choiceS s).getD e 0<0)
def kN(s:Sys):List Lk:=nU s (gO s (memL (partsS s) ((partsS s).getD (hZ s).toNat 0)))
def findW(s:Sys):List Lk × Bool × Int:=
 if readyE s≠0 then([],false,readyE s) else if hZ s<0 then([],false,0) else if 4096<(kN s).length then([],false,17) else(kN s,true,0)
structure Ct where
 kind:Int
 walk:List Lk
 nv:Nat
 nl:Nat
 np:Nat
def gD(s:Sys) (w:List Lk) (i:Nat):Int:=
 if (w.getD i default).x<0\/(eS s:Int)<=(w.getD i default).x then 6
 else if i=0 then(if (w.getD i default).p≠-1 then 3 else 0)
 else if (w.getD i default).p<0\/(nS s:Int)<=(w.getD i default).p then 2
 else if linkB s (w.getD i default).p.toNat (w.getD (i - 1) default).x.toNat (w.getD i default).x.toNat then 0 else 18
def walkE(s:Sys) (w:List Lk):Int:=if w.length=0 then 16 else if 4096<w.length then 5 else bm w.length (gD s w)
def zZ(s:Sys) (c:Ct):Int:=
 if c.kind≠1 then 1 else if 0<c.nv\/0<c.nl\/0<c.np then 3
 else if walkE s c.walk≠0 then walkE s c.walk else if dV s c.walk then 0 else 18
def certE(s:Sys) (c:Ct):Int:=if readyE s≠0 then readyE s else zZ s c
def wF(s:Sys) (w:List Lk) (i k:Nat):Option (List Lk):=
 if eZ s (w.getD i default).x.toNat (w.getD k default).x.toNat then some (w.take (i+1)++⟨(w.getD k default).x,byP s (w.getD i default).x.toNat (w.getD k default).x.toNat⟩ :: w.drop (k+1)) else none
def Hc(s:Sys) (w:List Lk) (i:Nat):List (List Lk):=(List.range (w.length - (i+2))).filterMap fun j=>wF s w i (w.length - 1 - j)
def dP(s:Sys) (w:List Lk):List (List Lk):=
 w.dropLast :: ((if 1<w.length then [⟨(w.getD 1 default).x,-1⟩ :: w.drop 2] else [])++(List.range w.length).flatMap (Hc s w))
def ji(s:Sys) (w:List Lk):Bool:=decide (0<w.length)&&dV s w
def jT(s:Sys) (w:List Lk):Option (List Lk):=(dP s w).find? (ji s)
def l9(s:Sys):Nat->List Lk->List Lk
 | 0,w=>w
 | k+1,w=>match jT s w with|some c=>l9 s k c|none=>w
def iZ(s:Sys) (w:List Lk):List Lk:=l9 s w.length w
def shortR(s:Sys) (c:Ct):List Lk × Int:=if certE s c≠0 then([],certE s c) else(iZ s c.walk,0)
structure SysOk (s:Sys):Prop where
 prob:probE s.prob=0
 n:1<=nS s/\nS s<=5/\s.n=nS s/\s.prob.t.n=nS s
 outs:1<=oS s/\oS s<=8/\s.prob.t.outs=oS s
 rounds:0<=s.prob.rounds/\s.prob.rounds<=6
 count:eS s<=4096
 tab:s.tab.length<=8192
 cas:∀ e,e<eS s->0<=(cH s e).c/\(cH s e).c.toNat<s.prob.t.cases.length
 word:∀ e,e<eS s->(cH s e).word.length=s.prob.rounds.toNat
 flt:∀ e,e<eS s->0<=fltS s e/\fltS s e<2 ^ nS s
 views:∀ e,e<eS s->(cH s e).views.length=s.prob.rounds.toNat+1/\∀ row∈(cH s e).views,row.length=nS s/\∀ z∈row,0<=z/\z<(s.tab.length:Int)
theorem OJ(tb:List Vw) (v:Vw):tb.length<=(putV tb v).1.length/\(putV tb v).2<(putV tb v).1.length:=by
 unfold putV;split
 ·rename_i h;exact⟨Nat.le_refl _,List.idxOf_lt_length_of_mem h⟩
 ·simp
theorem Fm(vs:List Vw):∀ st:List Vw × List Int,(∀ z∈st.2,0<=z/\z<(st.1.length:Int))->st.1.length<=(vs.foldl gl st).1.length/\∀ z∈(vs.foldl gl st).2,0<=z/\z<((vs.foldl gl st).1.length:Int):=by
 induction vs with
 | nil=>intro st h;exact⟨Nat.le_refl _,h⟩
 | cons v r ih=>
  intro st h;have hp:=OJ st.1 v
  have h2:=ih (gl st v) (by
   intro z hz
   show 0<=z/\z<((putV st.1 v).1.length:Int)
   rcases List.mem_append.1 hz with hz|hz
   ·have:=h z hz;omega
   ·rw[List.mem_singleton]at hz;subst hz;omega)
  exact⟨Nat.le_trans hp.1 h2.1,h2.2⟩
theorem D8(n:Nat) (inp:List Int) (word:List Rd) (tb:List Vw):∀ k,tb.length<=(playTo n inp word tb k).1.length/\(playTo n inp word tb k).2.length=k+1/\∀ row∈(playTo n inp word tb k).2,row.length=n/\∀ z∈row,0<=z/\z<((playTo n inp word tb k).1.length:Int)
 | 0=>by
  have h:=Fm ((List.range n).map (dX inp)) (tb,[]) (fun z hz=>by simp at hz);have hl:=(fO ((List.range n).map (dX inp)) (tb,[])).1;refine⟨h.1,rfl,fun row hr=>?_⟩;have e:row=(addAll tb ((List.range n).map (dX inp))).2:=by simpa[playTo,uZ] using hr
  subst e;exact⟨by simpa[addAll] using hl,h.2⟩
 | k+1=>by
  obtain⟨h1,h2,h3⟩:=D8 n inp word tb k;have h:=Fm ((List.range n).map (nextV n k (word.getD k default) ((playTo n inp word tb k).2.getLastD []))) ((playTo n inp word tb k).1,[]) (fun z hz=>by simp at hz);have hl:=(fO ((List.range n).map (nextV n k (word.getD k default) ((playTo n inp word tb k).2.getLastD []))) ((playTo n inp word tb k).1,[])).1;have e1:(playTo n inp word tb (k+1)).1=(addAll (playTo n inp word tb k).1 ((List.range n).map (nextV n k (word.getD k default) ((playTo n inp word tb k).2.getLastD [])))).1:=rfl;have e2:(playTo n inp word tb (k+1)).2=(playTo n inp word tb k).2++[(addAll (playTo n inp word tb k).1 ((List.range n).map (nextV n k (word.getD k default) ((playTo n inp word tb k).2.getLastD [])))).2]:=rfl;have h0:(playTo n inp word tb k).1.length<=(playTo n inp word tb (k+1)).1.length:=by rw[e1];exact h.1
  refine⟨by omega,by rw[e2,List.length_append,h2];rfl,fun row hr=>?_⟩;rw[e2]at hr;rcases List.mem_append.1 hr with hr|hr
  ·obtain⟨h4,h5⟩:=h3 row hr;exact⟨h4,fun z hz=>by have:=h5 z hz;omega⟩
  ·rw[List.mem_singleton]at hr;subst hr;rw[e1];exact⟨by simpa[addAll] using hl,h.2⟩
def Hd(p:Pb) (words:List (List Rd)) (st:List Vw × List Ex):Prop:=
 ∀ x∈st.2,(∃ c:Nat,x.c=c/\c<p.t.cases.length)/\x.word∈words/\x.views.length=x.word.length+1/\∀ row∈x.views,row.length=p.t.n.toNat/\∀ z∈row,0<=z/\z<(st.1.length:Int)
theorem Mr(p:Pb) (words:List (List Rd)) (st:List Vw × List Ex) (x:Nat × Nat) (h1:x.1<p.t.cases.length) (h2:x.2<words.length) (h:Hd p words st):Hd p words (jx p words st x):=by
 obtain⟨k1,k2,k3⟩:=D8 p.t.n.toNat (p.t.cases.getD x.1 default).inp (words.getD x.2 []) st.1 (words.getD x.2 []).length;intro y hy;rcases List.mem_append.1 hy with hy|hy
 ·obtain⟨a1,a2,a3,a4⟩:=h y hy;refine⟨a1,a2,a3,fun row hr=>⟨(a4 row hr).1,fun z hz=>?_⟩⟩;have:=(a4 row hr).2 z hz
  show 0<=z/\z<((gC p.t.n.toNat (p.t.cases.getD x.1 default).inp (words.getD x.2 []) st.1).1.length:Int)
  unfold gC;omega
 ·rw[List.mem_singleton]at hy;subst hy;refine⟨⟨x.1,rfl,h1⟩,?_,k2,k3⟩
  show words.getD x.2 []∈words
  rw[show words.getD x.2 []=words[x.2] by simp[h2]];exact List.getElem_mem h2
theorem OK(p:Pb) (words:List (List Rd)) (l:List (Nat × Nat)):∀ st,(∀ x∈l,x.1<p.t.cases.length/\x.2<words.length)->Hd p words st->Hd p words (l.foldl (jx p words) st):=by
 induction l with
 | nil=>intro st _ h;exact h
 | cons a r ih=>intro st hl h;exact ih _ (fun x hx=>hl x (by simp[hx])) (Mr p words st a (hl a (by simp)).1 (hl a (by simp)).2 h)
theorem rL(p:Pb) (words:List (List Rd)) (l:List (Nat × Nat)):∀ st:List Vw × List Ex,(l.foldl (jx p words) st).2.length=st.2.length+l.length:=by
 induction l with
 | nil=>intro st;rfl
 | cons a r ih=>
  intro st;rw[List.foldl_cons,ih];simp[jx];omega
theorem Rz{c n:Nat} {x:Nat × Nat} (h:x∈iX c n):x.1<c/\x.2<n:=by
 unfold iX at h;obtain⟨i,hi,hx⟩:=List.mem_flatMap.1 h;obtain⟨j,hj,rfl⟩:=List.mem_map.1 hx;exact⟨List.mem_range.1 hi,List.mem_range.1 hj⟩
theorem yv(c n:Nat):(iX c n).length=c * n:=by
 unfold iX;induction c with
 | zero=>simp
 | succ c ih=>rw[List.range_succ,List.flatMap_append,List.length_append,ih,Nat.succ_mul];simp
theorem RA{r:Rd} (h:roundE r=0):0<=r.f/\r.f<2 ^ r.g.n.toNat:=by
 unfold roundE at h;split at h
 ·rename_i h1;exact absurd h h1
 unfold ky at h;split at h
 ·rename_i h1;exact absurd h h1
 split at h
 ·omega
 rename_i h1;refine⟨by omega,?_⟩;have h2:r.f / 2 ^ r.g.n.toNat=0:=by omega
 have h3:(0:Int)<2 ^ r.g.n.toNat:=Int.pow_pos (by decide);have h4:=Int.emod_add_mul_ediv r.f (2 ^ r.g.n.toNat);rw[h2,Int.mul_zero,Int.add_zero]at h4;rw[<-h4];exact Int.emod_lt_of_pos _ h3
theorem RB{a:Adv} (h:∀ s,s<a.states.length->stateE a (a.states.getD s [])=0) (k:Nat):∀ s,∀ x∈bZ a k s,∀ r∈x,0<=r.f/\r.f<2 ^ a.n.toNat:=by
 induction k with
 | zero=>intro s x hx r hr;simp[bZ]at hx;subst hx;simp at hr
 | succ k ih=>
  intro s x hx r hr;simp only[bZ,List.mem_flatMap,List.mem_map]at hx;obtain⟨m,hm,y,hy,rfl⟩:=hx;rcases List.mem_cons.1 hr with rfl|hr
  ·by_cases hs:s<a.states.length
   ·obtain⟨j,hj,rfl⟩:=List.getElem_of_mem hm;have h1:=h s hs;unfold stateE at h1;rw[if_neg (by omega)]at h1;have h2:=fH h1 j hj;unfold dW at h2;rw[show (a.states.getD s []).getD j default=(a.states.getD s [])[j] by rw[List.getD_eq_getElem?_getD,List.getElem?_eq_getElem hj];rfl]at h2;split at h2
    ·rename_i h3;exact absurd h2 h3
    rename_i h3;split at h2
    ·omega
    rename_i h4;have h5:=RA (r:=(a.states.getD s [])[j].r) (by simpa using h3);rw[show (a.states.getD s [])[j].r.g.n=a.n by simpa using h4]at h5;exact h5
   ·rw[List.getD_eq_getElem?_getD,List.getElem?_eq_none (by omega)]at hm;simp at hm
  ·exact ih _ y hy r hr
theorem pS{p:Pb} (h:probE p=0):taskE p.t=0/\advE p.a=0/\p.t.n=p.a.n/\0<=p.rounds/\p.rounds<=6:=by
 unfold probE at h;split at h
 ·rename_i h1;exact absurd h h1
 split at h
 ·rename_i h1 h2;exact absurd h h2
 split at h
 ·omega
 split at h
 ·omega
 exact⟨by omega,by omega,by omega,by omega,by omega⟩
theorem gE{s:Sys} (hv:verifyE s=0):SysOk s:=by
 obtain⟨p,hb,rfl⟩:∃ p,buildE p=0/\s=aF p:=⟨s.prob,yt hv⟩;clear hv;unfold buildE at hb;split at hb
 ·rename_i h;exact absurd hb h
 rename_i hp;have hp:probE p=0:=by omega
 split at hb
 ·omega
 rename_i hm;split at hb
 ·omega
 rename_i ht;obtain⟨nH,JJ,fE,sr,pg⟩:=pS hp;obtain⟨hn,_,ho,_,_⟩:=fy nH;obtain⟨_,eD,_,_⟩:=ip JJ;have hE:=OK p (aN p) (iX p.t.cases.length (aN p).length) ([],[]) (fun x hx=>Rz hx) (fun x hx=>by simp at hx);have hL:=rL p (aN p) (iX p.t.cases.length (aN p).length) ([],[]);rw[yv]at hL
 have DS:∀ e,e<eS (aF p)->cH (aF p) e∈(execsS p (aN p) (iX p.t.cases.length (aN p).length)).2:=fun e he=>by
  unfold cH;have L8:e<(aF p).ex.length:=he;rw[show (aF p).ex.getD e default=(aF p).ex[e] by rw[List.getD_eq_getElem?_getD,List.getElem?_eq_getElem L8];rfl];exact List.getElem_mem L8
 have Jn:∀ e,e<eS (aF p)->(cH (aF p) e).word.length=p.rounds.toNat:=fun e he=>kA _ _ _ _ (hE _ (DS e he)).2.1
 have Gt:nS (aF p)=p.t.n.toNat:=rfl;refine⟨hp,⟨by rw[Gt];omega,by rw[Gt];omega,by rw[Gt];show p.t.n=_;omega,by rw[Gt];show p.t.n=_;omega⟩,⟨?_,?_,?_⟩,⟨sr,pg⟩,?_,by omega,fun e he=>?_,Jn,fun e he=>?_,fun e he=>?_⟩
 ·show 1<=p.t.outs.toNat;omega
 ·show p.t.outs.toNat<=8;omega
 ·show p.t.outs=(p.t.outs.toNat:Int);omega
 ·show (execsS p (aN p) (iX p.t.cases.length (aN p).length)).2.length<=4096
  unfold execsS;rw[hL];simp;omega
 ·obtain⟨⟨c,e1,e2⟩,_⟩:=hE _ (DS e he);rw[e1];exact⟨by omega,by rw[Int.toNat_natCast];exact e2⟩
 ·have h1:=(hE _ (DS e he)).2.1;unfold fltS zY;rw[Gt,fE];split
  ·exact⟨by omega,Int.pow_pos (by decide)⟩
  ·rename_i h2;have h3:(cH (aF p) e).word.length - 1<(cH (aF p) e).word.length:=by omega
   rw[show (cH (aF p) e).word.getD ((cH (aF p) e).word.length - 1) default=(cH (aF p) e).word[(cH (aF p) e).word.length - 1] by rw[List.getD_eq_getElem?_getD,List.getElem?_eq_getElem h3];rfl];exact RB eD _ _ _ h1 _ (List.getElem_mem h3)
 ·obtain⟨_,_,h3,h4⟩:=hE _ (DS e he);exact⟨by rw[h3,Jn e he];rfl,h4⟩
theorem RC{t:Tk} (h:taskE t=0) {c:Cs} (hc:c∈t.cases):c.out≠[]/\(∀ v∈c.calm,v∈c.out)/\∀ v∈c.out,(v.length:Int)=t.n/\∀ x∈v,0<=x/\x<t.outs:=by
 have hk:=(fy h).2.2.2.2 c hc;refine⟨fun e=>by have:=hk.out1;rw[e]at this;simp at this,hk.calms,fun v hv=>⟨hk.outs v hv,?_⟩⟩;obtain⟨k,rh,rfl⟩:=List.getElem_of_mem hc;unfold taskE at h;split at h
 ·omega
 split at h
 ·omega
 have h3:=fH h k rh;unfold fd at h3;rw[show t.cases.getD k default=t.cases[k] by simp[rh]]at h3;split at h3
 ·omega
 split at h3
 ·omega
 unfold vectorsE at h3;split at h3
 ·omega
 split at h3
 ·omega
 rename_i h6;have h7:=fH (show bm _ _=0 by simpa using h6);obtain⟨i,hi,rfl⟩:=List.getElem_of_mem hv;have h8:=h7 i hi;unfold jq at h8;rw[show (t.cases[k]).out.getD i []=(t.cases[k]).out[i] by simp[hi]]at h8;split at h8
 ·omega
 rename_i h9;have h9:vectorE (t.cases[k]).out[i] t.n t.outs=0:=by simpa using h9
 unfold vectorE at h9;split at h9
 ·omega
 split at h9
 ·omega
 rename_i Gj;have TT:=(dG _ _).1 ((Bool.not_eq_true _).mp Gj);intro x hx;obtain⟨j,hj,rfl⟩:=List.getElem_of_mem hx;have U2:=TT j hj;rw[show (t.cases[k]).out[i].getD j 0=(t.cases[k]).out[i][j] by simp[hj]]at U2;simp at U2;omega
theorem vf{s:Sys} (h:SysOk s) {e:Nat} (he:e<eS s):vecE s e≠[]/\∀ v∈vecE s e,v.length=nS s/\(∀ x∈v,0<=x/\x<(oS s:Int))/\∃ i j,i<s.prob.t.cases.length/\j<(s.prob.t.cases.getD i default).out.length/\v=(s.prob.t.cases.getD i default).out.getD j []:=by
 obtain⟨ht,_⟩:=pS h.prob;have hc:=(h.cas e he).2
 have hm:s.prob.t.cases.getD (cH s e).c.toNat default∈s.prob.t.cases:=by
  rw[show s.prob.t.cases.getD (cH s e).c.toNat default=s.prob.t.cases[(cH s e).c.toNat] by simp[hc]];exact List.getElem_mem hc
 obtain⟨h1,h2,h3⟩:=RC ht hm
 have h4:∀ v∈vecE s e,v∈(s.prob.t.cases.getD (cH s e).c.toNat default).out:=fun v hv=>by
  unfold vecE fm at hv;split at hv
  ·exact h2 v hv
  ·exact hv
 refine⟨?_,fun v hv=>?_⟩
 ·unfold vecE fm;split
  ·rename_i h5;intro h6;rw[h6]at h5;simp at h5
  ·exact h1
 ·obtain⟨h5,h6⟩:=h3 v (h4 v hv);have hn:=h.n;have ho:=h.outs;obtain⟨j,hj,e⟩:=List.getElem_of_mem (h4 v hv);exact⟨by omega,fun x hx=>by have:=h6 x hx;omega,_,j,hc,hj,by rw[<-e];exact(List.getElem_eq_getD []).trans rfl⟩
theorem D9(s:Sys) (e v:Nat):valB s e v=true↔List.replicate (nS s) (v:Int)∈vecE s e:=by
 unfold valB hasV;rw[km];constructor
 ·rintro⟨k,hk,h⟩;have:=of_decide_eq_true h;rw[show (vecE s e).getD k []=(vecE s e)[k] by simp[hk]]at this;rw[<-this];exact List.getElem_mem hk
 ·intro h;obtain⟨k,hk,e⟩:=List.getElem_of_mem h;exact⟨k,hk,decide_eq_true (by rw[<-e];simp[hk])⟩
theorem Ie{s:Sys} (h:SysOk s) {e v:Nat} (he:e<eS s) (hv:valB s e v=true):v<oS s:=by
 have h1:=((vf h he).2 _ ((D9 s e v).1 hv)).2.1 v (by have:=h.n;rw[List.mem_replicate];exact⟨by omega,rfl⟩);omega
theorem Fo{v:List Int} (h:constB v=true):v=List.replicate v.length (v.getD 0 0):=by
 unfold constB at h;have h1:=(dG _ _).1 ((Bool.not_eq_true' _).mp h);rw[List.eq_replicate_iff];refine⟨rfl,fun x hx=>?_⟩;obtain⟨j,hj,rfl⟩:=List.getElem_of_mem hx;have:=h1 j hj;rw[show v.getD j 0=v[j] by simp[hj]]at this;simpa using this
theorem nf(t:Tk):agreeB t=true↔∀ i,i<t.cases.length->∀ j,j<(t.cases.getD i default).out.length->constB ((t.cases.getD i default).out.getD j [])=true:=by
 unfold agreeB;rw[Bool.not_eq_true',dG];constructor
 ·intro h i hi j hj;have:=(dG _ _).1 (h i hi) j hj;simpa using this
 ·intro h i hi;rw[dG];intro j hj;rw[h i hi j hj];rfl
def il(s:Sys) (e:Nat):Nat:=maskN (valB s e) 8
def wG(s:Sys) (l:List Nat) (v:Nat):Bool:=l.all fun e=>valB s e v
def comM(s:Sys) (l:List Nat):Nat:=maskN (wG s l) 8
theorem BG(s:Sys):comM s []=255:=by
 unfold comM;rw[show wG s []=fun _=>true from rfl,Mq]
theorem Fp(s:Sys) (l:List Nat) (e:Nat):comM s (l++[e])=comM s l &&& il s e:=by
 unfold comM il;rw[OH];congr 1
 funext v
 simp[wG]
theorem Aw{n m:Nat} (q:Nat->Bool) (h:n<=m) (hq:∀ v,n<=v->v<m->q v=false):firstIx m q=firstIx n q:=by
 rcases bE n q with ⟨e,h1⟩|⟨k,hk,e,h1,h2⟩
 ·rw[e];refine dK _ _ fun j hj=>?_
  by_cases vX:j<n
  ·exact h1 j vX
  ·exact hq j (by omega) hj
 ·rw[e];exact dB m k q (by omega) h2 h1
theorem K9{s:Sys} (h:SysOk s) {l:List Nat} (hl:∀ e∈l,e<eS s):comB s l=firstIx 8 (wG s l):=by
 have ho:=h.outs;unfold comB;rcases l with _|⟨a,r⟩
 ·rw[dB (oS s) 0 _ (by omega) (fun j hj=>by omega) rfl,dB 8 0 _ (by omega) (fun j hj=>by omega) rfl]
 ·refine(Aw _ ho.2.1 fun v hv _=>?_).symm;cases hq:wG s (a :: r) v with
  | false=>exact hq
  | true=>
   unfold wG at hq;rw[List.all_eq_true]at hq;have:=Ie h (hl a (by simp)) (hq a (by simp));omega
theorem OL{s:Sys} (h:SysOk s) {l:List Nat} (hl:∀ e∈l,e<eS s):comB s l<0↔comM s l=0:=by
 rw[K9 h hl];unfold comM;rw[nT,<-p9];simp
theorem Ms(s:Sys) (l:List Nat):-1<=comB s l/\comB s l<oS s\/oS s=0:=by
 unfold comB;rcases bE (oS s) (fun v=>l.all fun e=>valB s e v) with ⟨e,_⟩|⟨k,hk,e,_⟩<;>omega
theorem Fq(s:Sys) (l:List Nat):comB s l<0↔∀ v,v<oS s->∃ e∈l,valB s e v=false:=by
 unfold comB;constructor
 ·intro h v hv;rcases bE (oS s) (fun v=>l.all fun e=>valB s e v) with ⟨_,h1⟩|⟨k,hk,e,_⟩
  ·have:=h1 v hv;rw[List.all_eq_false]at this;obtain⟨e,he,h2⟩:=this;exact⟨e,he,by simpa using h2⟩
  ·omega
 ·intro h;rw[dK]
  ·omega
  ·intro j hj;obtain⟨e,he,h2⟩:=h j hj;rw[List.all_eq_false];exact⟨e,he,by simp[h2]⟩
theorem OM(s:Sys) {l m:List Nat} (h:∀ e∈l,e∈m) (hl:comB s l<0):comB s m<0:=by
 rw[Fq]at hl ⊢;intro v hv;obtain⟨e,he,h1⟩:=hl v hv;exact⟨e,h e he,h1⟩
theorem wH(s:Sys) (f:Nat):(db s f).length=eS s:=by simp[db,Rt]
theorem ng(s:Sys) (f e:Nat) (he:e<eS s):(db s f).getD e 0=dT (eS s) (eZ s) f (eS s) e:=by
 simp[db,Rt,he]
theorem lz{s:Sys} {f:Nat} (hf:f<eS s):Dist (eS s) (eZ s) f fun e=>(db s f).getD e 0:=by
 have h:=OC (L:=eZ s) hf;refine⟨by rw[ng s f f hf];exact h.zero,fun e he h1=>?_,fun e he=>?_,fun e he d h1=>?_,fun e g he hg h1 h2=>?_⟩
 ·rw[ng s f e he]at h1;exact h.only e he h1
 ·rw[ng s f e he];exact h.low e he
 ·rw[ng s f e he]at h1;obtain⟨g,hg,h2,h3⟩:=h.pred e he d h1;exact⟨g,hg,by rw[ng s f g hg];exact h2,h3⟩
 ·rw[ng s f g hg]at h1 ⊢;rw[ng s f e he];exact h.next e g he hg h1 h2
theorem Ea{s:Sys} {f:Nat} (hf:f<eS s) (e:Nat) (he:e<eS s):(db s f).getD e 0<eS s:=by
 rw[ng s f e he];have hr:=gU (n:=eS s) (L:=eZ s) (f:=f) (eS s) e;by_cases h0:0<=dT (eS s) (eZ s) f (eS s) e
 ·have h1:=sI (n:=eS s) (L:=eZ s) (f:=f) (eS s) e (dT (eS s) (eZ s) f (eS s) e).toNat (by omega) (by omega);have:=HH hf _ e he h1;omega
 ·omega
theorem BH{s:Sys} {f:Nat} (hf:f<eS s) {e d:Nat} (he:e<eS s) (h:(db s f).getD e 0=d+1):gW s (db s f) d e<eS s/\(db s f).getD (gW s (db s f) d e) 0=d/\eZ s e (gW s (db s f) d e)=true/\firstIx (eS s) (fun g=>decide ((db s f).getD g 0=d)&&eZ s e g)=(gW s (db s f) d e:Nat):=by
 obtain⟨g,hg,h1,h2⟩:=(lz hf).pred e he d h;unfold gW;rcases bE (eS s) (fun g=>decide ((db s f).getD g 0=d)&&eZ s e g) with ⟨_,h3⟩|⟨k,hk,e1,h3,_⟩
 ·have h4:=h3 g hg;rw[decide_eq_true h1,h2]at h4;cases h4
 ·rw[e1,Int.toNat_natCast];simp only[Bool.and_eq_true,decide_eq_true_eq]at h3;exact⟨hk,h3.1,h3.2,rfl⟩
def chainB(s:Sys):Nat->List Lk->Prop
 | _,[]=>True
 | e,y :: r=>0<=y.x/\y.x.toNat<eS s/\0<=y.p/\y.p<nS s/\linkB s y.p.toNat e y.x.toNat=true/\chainB s y.x.toNat r
def qQ(e:Nat):List Lk->Nat
 | []=>e
 | y :: r=>qQ y.x.toNat r
theorem yw{s:Sys}:∀ (l:List Lk) (e:Nat) (m:List Lk),chainB s e l->chainB s (qQ e l) m->chainB s e (l++m)
 | [],_,_,_,h=>h
 | _ :: r,_,m,⟨h1,h2,h3,h4,h5,h6⟩,h=>⟨h1,h2,h3,h4,h5,yw r _ m h6 h⟩
theorem yy{s:Sys} {f:Nat} (hf:f<eS s):∀ (d e:Nat),e<eS s->(db s f).getD e 0=d->chainB s e (kM s (db s f) d e)/\qQ e (kM s (db s f) d e)=f/\(kM s (db s f) d e).length=d
 | 0,e,he,h=>⟨trivial,(lz hf).only e he h,rfl⟩
 | d+1,e,he,h=>by
  obtain⟨h1,h2,h3,_⟩:=BH hf he (by rw[h];rfl);obtain⟨h4,h5,h6⟩:=D7 h3;obtain⟨h7,h8,h9⟩:=yy hf d _ h1 h2;refine⟨⟨by dsimp only;omega,by dsimp only;rw[Int.toNat_natCast];exact h1,h4,h5,?_,?_⟩,?_,?_⟩
  ·dsimp only;rw[Int.toNat_natCast];exact h6
  ·dsimp only;rw[Int.toNat_natCast];exact h7
  ·show qQ (gW s (db s f) d e:Int).toNat _=f
   rw[Int.toNat_natCast];exact h8
  ·show (kM s (db s f) d (gW s (db s f) d e)).length+1=d+1
   rw[h9]
def If(s:Sys) (e f:Nat):Prop:=0<=(db s f).getD e 0
theorem La{s:Sys} {e f:Nat} (he:e<eS s) (hf:f<eS s) (h:If s e f):chainB s e (kE s e f)/\qQ e (kE s e f)=f/\(kE s e f).length<eS s:=by
 have h1:=Ea hf e he;obtain⟨h2,h3,h4⟩:=yy hf ((db s f).getD e 0).toNat e he (by unfold If at h;omega);exact⟨h2,h3,by unfold kE;rw[h4];omega⟩
theorem end_mem:∀ (l:List Lk) (e:Nat),qQ e l∈e :: cK l
 | [],e=>by simp[qQ]
 | y :: r,e=>by
  have h:=end_mem r y.x.toNat
  show qQ y.x.toNat r∈e :: (y.x.toNat :: cK r)
  exact List.mem_cons_of_mem _ h
theorem wI(l m:List Lk):cK (l++m)=cK l++cK m:=by simp[cK]
theorem Lb{s:Sys}:∀ (l:List Nat) (e:Nat),e<eS s->(∀ m∈l,m<eS s)->(∀ a∈e :: l,∀ b∈e :: l,If s a b)->chainB s e (la s e l)/\(∀ m∈l,m∈e :: cK (la s e l))/\(la s e l).length<=l.length * (eS s - 1)
 | [],e,_,_,_=>⟨trivial,fun m hm=>by simp at hm,by simp[la]⟩
 | m :: r,e,he,hl,hn=>by
  have hm:=hl m (by simp);obtain⟨h1,h2,h3⟩:=La he hm (hn e (by simp) m (by simp));obtain⟨h4,h5,h6⟩:=Lb r m hm (fun x hx=>hl x (by simp[hx])) (fun a ha b hb=>hn a (List.mem_cons_of_mem _ ha) b (List.mem_cons_of_mem _ hb));have Rb:=end_mem (kE s e m) e;rw[h2]at Rb
  have hme2:m∈e :: cK (la s e (m :: r)):=by
   show m∈e :: cK (kE s e m++la s m r)
   rw[wI];rcases List.mem_cons.1 Rb with h|h
   ·rw[h];simp
   ·exact List.mem_cons_of_mem _ (List.mem_append_left _ h)
  refine⟨yw _ _ _ h1 (by rw[h2];exact h4),fun x hx=>?_,?_⟩
  ·rcases List.mem_cons.1 hx with rfl|hx
   ·exact hme2
   ·rcases List.mem_cons.1 (h5 x hx) with rfl|h
    ·exact hme2
    ·show x∈e :: cK (kE s e m++la s m r)
     rw[wI];exact List.mem_cons_of_mem _ (List.mem_append_right _ h)
  ·show (kE s e m++la s m r).length<=(r.length+1) * (eS s - 1)
   rw[List.length_append,Nat.succ_mul];omega
theorem Ig{q:Nat->Nat->Bool} (hs:∀ a b,q a b=q b a) (ht:∀ a b c,q a b=true->q b c=true->q a c=true) (n i k:Nat) (hi:i<n) (hk:k<n):(iD q n).getD i 0=(iD q n).getD k 0↔i=k\/q i k=true:=by
 have e:iD q n=iD (fun a b=>decide (a=b) || q a b) n:=nO fun i _ k hk=>by rw[decide_eq_false (by omega)];rfl
 rw[e,Fk (q:=fun a b=>decide (a=b) || q a b) (fun a=>by simp) (fun a b=>by rw[hs,decide_eq_decide.2 (eq_comm (a:=a))]) n (fun a b c _ _ _ h1 h2=>by
  simp only[Bool.or_eq_true,decide_eq_true_eq]at h1 h2 ⊢;rcases h1 with rfl|h1
  ·exact h2
  ·rcases h2 with rfl|h2
   ·exact .inr h1
   ·exact .inr (ht a b c h1 h2)) i k hi hk]
 simp
theorem uH{s:Sys} (h:SysOk s) {R:Nat->Nat->Prop} (hr:∀ a,R a a) (h0:∀ p a b,p<nS s->a<eS s->b<eS s->linkB s p a b=true->R a b) (h1:∀ a b c,R a b->R b c->R a c):∀ m,m<nS s->∀ i k,i<eS s->k<eS s->(eA s m).getD i 0=(eA s m).getD k 0->R i k
 | 0,hm,i,k,hi,hk,e=>by
  rcases (Ig (ry s 0) (fun a b c=>uG) (eS s) i k hi hk).1 e with rfl|e
  ·exact hr i
  ·exact h0 0 i k hm hi hk e
 | m+1,hm,i,k,hi,hk,e=>by
  have hl:=gV s m;unfold eA k9 at e;rw[hl]at e;have cA:=mP (nP (eA s m) (classL s (m+1)));rw[Fk (fun a=>rH _ _ a a (Ce _ _ a)) (fun a b=>cA _ a b) (eS s) (fun a b c _ hb _ h2 h3=>hH _ _ a b c hb h2 h3) i k hi hk]at e
  have key:∀ m' x y,m'<=eS s->x<eS s->y<eS s->ir (dO (eA s m) (classL s (m+1))) m' x y=true->R x y:=by
   intro m';induction m' with
   | zero=>
    intro x y _ hx hy h2;unfold ir dO at h2;simp only[Bool.or_eq_true,decide_eq_true_eq]at h2;rcases h2 with h2|h2
    ·exact uH h hr h0 h1 m (by omega) x y hx hy h2
    ·rcases (Ig (ry s (m+1)) (fun a b c=>uG) (eS s) x y hx hy).1 h2 with rfl|h2
     ·exact hr x
     ·exact h0 (m+1) x y hm hx hy h2
   | succ m' ih=>
    intro x y hm' hx hy h2;rw[ir]at h2;simp only[Bool.or_eq_true,Bool.and_eq_true]at h2;rcases h2 with h2|⟨h2,h3⟩
    ·exact ih x y (by omega) hx hy h2
    ·exact h1 _ _ _ (ih x m' (by omega) hx (by omega) h2) (ih m' y (by omega) (by omega) hy h3)
  exact key _ i k (Nat.le_refl _) hi hk e
theorem Ch{s:Sys} (h:SysOk s) (i k:Nat) (hi:i<eS s) (hk:k<eS s) (e:(partsS s).getD i 0=(partsS s).getD k 0):If s i k:=by
 have hn:=h.n
 have hR:=uH h (R:=fun a b=>∀ c,c<eS s->(0<=(db s c).getD a 0↔0<=(db s c).getD b 0)) (fun a c _=>Iff.rfl) (fun p a b hp ha hb hl c hc=>by
  have hd:=lz hc;have gT:eZ s a b=true:=dN _ p _ hp hl
  exact⟨fun h1=>(hd.next b a hb ha h1 (by rw[Id];exact gT)).1,fun h1=>(hd.next a b ha hb h1 gT).1⟩) (fun a b c h1 h2 x hx=>(h1 x hx).trans (h2 x hx)) (nS s - 1) (by omega) i k hi hk e
 unfold If;rw[hR k hk];have:=(lz hk).zero;omega
theorem jN{parts:List Int} {k:Int} {e:Nat}:e∈memL parts k↔e<parts.length/\parts.getD e 0=k:=by simp[memL]
theorem ON{s:Sys} (h:SysOk s) (k:Int) (a:Nat) (r:List Nat) (e:memL (partsS s) k=a :: r):a<eS s/\chainB s a (la s a r)/\(∀ m∈a :: r,m∈cK (gO s (a :: r)))/\(gO s (a :: r)).length<=1+r.length * (eS s - 1)/\r.length<eS s:=by
 have hm:∀ m∈a :: r,m<eS s/\(partsS s).getD m 0=k:=fun m hm=>by
  rw[<-e,jN,dp]at hm;exact hm
 have ha:=(hm a (by simp)).1;obtain⟨h1,h2,h3⟩:=Lb r a ha (fun m h=>(hm m (by simp[h])).1) (fun x hx y hy=>Ch h x y (hm x hx).1 (hm y hy).1 (by rw[(hm x hx).2,(hm y hy).2]));refine⟨ha,h1,fun m h4=>?_,?_,?_⟩
 ·have ev:cK (gO s (a :: r))=a :: cK (la s a r):=by simp[cK,gO]
  rw[ev];rcases List.mem_cons.1 h4 with rfl|h4
  ·simp
  ·exact h2 m h4
 ·simp only[gO,List.length_cons];omega
 ·have h4:=congrArg List.length e
  have h5:(memL (partsS s) k).length<=eS s:=by
   exact Nat.le_trans (List.length_filter_le _ _) (by rw[List.length_range,dp];exact Nat.le_refl _)
  rw[List.length_cons]at h4;omega
theorem Ay(s:Sys) (p:Lk) (l:List Lk) (i:Nat):gD s (p :: l) (i+2)=gD s l (i+1):=by
 unfold gD;simp only[List.getD_cons_succ,Nat.add_sub_cancel,show i+2 - 1=i+1 by omega];rw[if_neg (show ¬ (i+2=0) by omega),if_neg (show ¬ (i+1=0) by omega)]
theorem OO(s:Sys) (p y:Lk) (r:List Lk):gD s (p :: y :: r) 1=0↔0<=y.x/\y.x.toNat<eS s/\0<=y.p/\y.p<nS s/\linkB s y.p.toNat p.x.toNat y.x.toNat=true:=by
 unfold gD;rw[show (p :: y :: r).getD 1 default=y from rfl,show (p :: y :: r).getD (1 - 1) default=p from rfl,if_neg (show ¬ (1=0) by omega)];constructor
 ·intro h;split at h
  ·omega
  split at h
  ·omega
  split at h
  ·rename_i h3;exact⟨by omega,by omega,by omega,by omega,h3⟩
  ·omega
 ·rintro⟨h1,h2,h3,h4,h5⟩;rw[if_neg (by omega),if_neg (by omega),if_pos h5]
theorem sK(s:Sys):∀ (l:List Lk) (p:Lk),chainB s p.x.toNat l↔∀ i,i<l.length->gD s (p :: l) (i+1)=0
 | [],p=>⟨fun _ i hi=>by simp at hi,fun _=>trivial⟩
 | y :: r,p=>by
  have ih:=sK s r y;have h1:=OO s p y r;constructor
  ·rintro⟨a1,a2,a3,a4,a5,a6⟩ i hi;cases i with
   | zero=>exact h1.2 ⟨a1,a2,a3,a4,a5⟩
   | succ i=>rw[Ay];exact ih.1 a6 i (by simpa using hi)
  ·intro h;obtain⟨a1,a2,a3,a4,a5⟩:=h1.1 (h 0 (by simp));exact⟨a1,a2,a3,a4,a5,ih.2 fun i hi=>by rw[<-Ay s p];exact h (i+1) (by simpa using hi)⟩
theorem mQ(s:Sys) (w:List Lk):walkE s w=0↔∃ a:Nat,∃ r,w=⟨a,-1⟩ :: r/\a<eS s/\chainB s a r/\w.length<=4096:=by
 constructor
 ·intro h;unfold walkE at h;split at h
  ·omega
  rename_i h1;split at h
  ·omega
  rename_i h2;have h3:=fH h
  match w,h1,h2,h3 with
  | y :: r,_,h2,h3=>
   have h4:=h3 0 (by simp);unfold gD at h4;rw[List.getD_cons_zero]at h4;split at h4
   ·omega
   rename_i h5;rw[if_pos rfl]at h4;split at h4
   ·omega
   rename_i h6;refine⟨y.x.toNat,r,?_,by omega,(sK s r y).2 fun i hi=>h3 (i+1) (by simpa using hi),by omega⟩;obtain⟨x,p⟩:=y;dsimp only at h5 h6 ⊢;rw[show p=-1 by omega,show ((x.toNat:Nat):Int)=x by omega]
 ·rintro⟨a,r,rfl,h1,h2,h3⟩;unfold walkE;rw[if_neg (by simp),if_neg (by omega),cS];intro j hj;cases j with
  | zero=>
   unfold gD;rw[List.getD_cons_zero,if_neg (by dsimp only;omega),if_pos rfl,if_neg (by simp)]
  | succ j=>exact(sK s r ⟨a,-1⟩).1 (by dsimp only;rw[Int.toNat_natCast];exact h2) j (by simpa using hj)
theorem rA{s:Sys}:∀ (l:List Lk) (e i:Nat),chainB s e l->chainB s e (l.take i)
 | [],_,i,_=>by simp[chainB]
 | y :: r,e,0,_=>trivial
 | y :: r,e,i+1,⟨h1,h2,h3,h4,h5,h6⟩=>⟨h1,h2,h3,h4,h5,rA r _ i h6⟩
theorem Ci{s:Sys}:∀ (l:List Lk) (e i:Nat),chainB s e l->chainB s (qQ e (l.take i)) (l.drop i)
 | [],_,i,_=>by simp[chainB]
 | y :: r,e,0,h=>h
 | y :: r,e,i+1,⟨_,_,_,_,_,h6⟩=>Ci r _ i h6
theorem end_at:∀ (l:List Lk) (a:Nat) (i:Nat),i<=l.length->qQ a (l.take i)=(((⟨a,-1⟩:Lk) :: l).getD i default).x.toNat
 | l,a,0,_=>by simp[qQ]
 | [],a,i+1,h=>by simp at h
 | y :: r,a,i+1,h=>by
  have ih:=end_at r y.x.toNat i (by simpa using h);rw[List.getD_cons_succ,List.take_succ_cons]
  show qQ y.x.toNat (r.take i)=_
  rw[ih];cases i with
  | zero=>simp;omega
  | succ i=>rw[List.getD_cons_succ,List.getD_cons_succ]
structure Less (s:Sys) (w c:List Lk):Prop where
 walk:walkE s w=0->walkE s c=0
 len:c.length<w.length
 vis:∀ e∈cK c,e∈cK w
theorem OP(w:List Lk) (i:Nat) (hi:i<w.length):(w.getD i default).x.toNat∈cK w:=by
 unfold cK;rw[show w.getD i default=w[i] by simp[hi]];exact List.mem_map_of_mem (List.getElem_mem hi)
theorem wJ{w c:List Lk} (h:∀ y∈c,y∈w):∀ e∈cK c,e∈cK w:=fun e he=>by
 unfold cK at he ⊢;obtain⟨y,hy,rfl⟩:=List.mem_map.1 he;exact List.mem_map_of_mem (h y hy)
theorem Fr{s:Sys} {w c:List Lk} (hc:c∈dP s w) (h0:0<c.length):Less s w c:=by
 unfold dP at hc;rcases List.mem_cons.1 hc with rfl|hc
 ·have hl:w.dropLast.length=w.length - 1:=List.length_dropLast;refine⟨fun h=>?_,by omega,wJ fun y hy=>(List.dropLast_sublist w).subset hy⟩;obtain⟨a,r,rfl,h1,h2,h3⟩:=(mQ s w).1 h;rw[List.length_cons]at hl h3;have hr:r≠[]:=fun e=>by rw[e]at hl;simp at hl;rw[e]at h0;simp at h0
  refine(mQ s _).2 ⟨a,r.dropLast,List.dropLast_cons_of_ne_nil hr,h1,?_,by rw[hl];omega⟩;rw[List.dropLast_eq_take];exact rA _ _ _ h2
 rcases List.mem_append.1 hc with hc|hc
 ·split at hc
  ·rename_i h4;rw[List.mem_singleton]at hc
   match w,h4 with
   | y :: z :: r,h4=>
    have hc:c=⟨z.x,-1⟩ :: r:=by rw[hc];rfl
    subst hc;refine⟨fun h=>?_,by simp,?_⟩
    ·obtain⟨a,r',e,h1,h2,h3⟩:=(mQ s _).1 h;injection e with e1 e2
     subst e2;obtain⟨a1,a2,_,_,_,a6⟩:=h2;exact(mQ s _).2 ⟨z.x.toNat,r,by rw[show ((z.x.toNat:Nat):Int)=z.x by omega],a2,a6,by simp at h3 ⊢;omega⟩
    ·intro e he;simp only[cK,List.map_cons,List.mem_cons]at he ⊢;exact .inr he
  ·simp at hc
 ·obtain⟨i,hi,hc⟩:=List.mem_flatMap.1 hc;obtain⟨j,hj,hc⟩:=List.mem_filterMap.1 hc;have hi:=List.mem_range.1 hi;have hj:=List.mem_range.1 hj;have vV:w.length - 1 - j<w.length:=by omega
  have kQ:i+2<=w.length - 1 - j:=by omega
  generalize w.length - 1 - j=k at hc vV kQ;clear hj;unfold wF at hc;split at hc
  ·rename_i gT;injection hc with hc
   subst hc;refine⟨fun h=>?_,by simp;omega,fun e he=>?_⟩
   ·obtain⟨a,r,rfl,h1,h2,h3⟩:=(mQ s w).1 h;obtain⟨b1,b2,b3⟩:=D7 gT;have gc:k<=r.length:=by simp at vV;omega
    have Rg:i<=r.length:=by omega
    have e1:=end_at r a i Rg;have e2:=end_at r a k gc
    have dk:0<=(((⟨a,-1⟩:Lk) :: r).getD k default).x/\(((⟨a,-1⟩:Lk) :: r).getD k default).x.toNat<eS s:=by
     obtain⟨k',rfl⟩:∃ k',k=k'+1:=⟨k - 1,by omega⟩;have h4:=(sK s r ⟨a,-1⟩).1 (by dsimp only;rw[Int.toNat_natCast];exact h2) k' (by omega);unfold gD at h4;split at h4
     ·omega
     ·omega
    refine(mQ s _).2 ⟨a,r.take i++⟨(((⟨a,-1⟩:Lk) :: r).getD k default).x,byP s (((⟨a,-1⟩:Lk) :: r).getD i default).x.toNat (((⟨a,-1⟩:Lk) :: r).getD k default).x.toNat⟩ :: r.drop k,rfl,h1,?_,by simp at h3 vV ⊢;omega⟩;refine yw _ _ _ (rA _ _ _ h2) ⟨dk.1,dk.2,b1,b2,?_,?_⟩
    ·rw[e1];exact b3
    ·have h5:=Ci r a k h2;rw[e2]at h5;exact h5
   ·unfold cK at he;rw[List.map_append,List.map_cons]at he;rcases List.mem_append.1 he with he|he
    ·exact wJ (c:=w.take (i+1)) (fun y hy=>List.mem_of_mem_take hy) e he
    ·rcases List.mem_cons.1 he with rfl|he
     ·exact OP w k vV
     ·exact wJ (c:=w.drop (k+1)) (fun y hy=>List.mem_of_mem_drop hy) e he
  ·cases hc
theorem sL{s:Sys} {w c:List Lk} (h:jT s w=some c):c∈dP s w/\0<c.length/\dV s c=true/\Less s w c:=by
 have h1:=List.mem_of_find?_eq_some h;have h2:=List.find?_some h;unfold ji at h2;simp only[Bool.and_eq_true,decide_eq_true_eq]at h2;exact⟨h1,h2.1,h2.2,Fr h1 h2.1⟩
theorem Az(s:Sys):∀ (k:Nat) (w:List Lk),w.length<=k->l9 s (k+1) w=l9 s k w
 | 0,w,h=>by
  show (match jT s w with|some c=>l9 s 0 c|none=>w)=w
  cases hn:jT s w with
  | none=>rfl
  | some c=>have:=(sL hn).2.2.2.len;omega
 | k+1,w,h=>by
  show (match jT s w with|some c=>l9 s (k+1) c|none=>w)=match jT s w with|some c=>l9 s k c|none=>w
  cases hn:jT s w with
  | none=>rfl
  | some c=>exact Az s k c (by have:=(sL hn).2.2.2.len;omega)
theorem OQ(s:Sys) (w:List Lk) (k:Nat) (h:w.length<=k):l9 s k w=iZ s w:=by
 obtain⟨d,rfl⟩:∃ d,k=w.length+d:=⟨k - w.length,by omega⟩;clear h;induction d with
 | zero=>rfl
 | succ d ih=>rw[<-ih];exact Az s (w.length+d) w (by omega)
theorem Mt{s:Sys} {w:List Lk} (h:jT s w=none):iZ s w=w:=by
 unfold iZ;cases w.length with
 | zero=>rfl
 | succ k=>rw[l9,h]
theorem Mu{s:Sys} {w c:List Lk} (h:jT s w=some c):iZ s w=iZ s c:=by
 have hl:=(sL h).2.2.2.len;unfold iZ;obtain⟨k,hk⟩:∃ k,w.length=k+1:=⟨w.length - 1,by omega⟩;rw[hk,l9,h];exact OQ s c k (by omega)
theorem wK(s:Sys) (w:List Lk) (i:Nat):gD s w i=0↔0<=(w.getD i default).x/\(w.getD i default).x.toNat<eS s/\(i=0->(w.getD i default).p=-1)/\(0<i->0<=(w.getD i default).p/\(w.getD i default).p<nS s/\linkB s (w.getD i default).p.toNat (w.getD (i - 1) default).x.toNat (w.getD i default).x.toNat=true):=by
 unfold gD;generalize w.getD i default=y;generalize w.getD (i - 1) default=z;constructor
 ·intro h;split at h
  ·omega
  split at h
  ·split at h
   ·omega
   ·exact⟨by omega,by omega,fun _=>by omega,fun h'=>by omega⟩
  ·split at h
   ·omega
   split at h
   ·rename_i h1;exact⟨by omega,by omega,fun h'=>by omega,fun _=>⟨by omega,by omega,h1⟩⟩
   ·omega
 ·rintro⟨h1,h2,h3,h4⟩;rw[if_neg (by omega)];split
  ·rename_i h5;rw[if_neg (by have:=h3 h5;omega)]
  ·rename_i h5;obtain⟨h6,h7,h8⟩:=h4 (by omega);rw[if_neg (by omega),if_pos h8]
theorem rB(s:Sys) (w:List Lk):walkE s w=0↔0<w.length/\w.length<=4096/\∀ i,i<w.length->gD s w i=0:=by
 unfold walkE;constructor
 ·intro h;split at h
  ·omega
  split at h
  ·omega
  ·exact⟨by omega,by omega,fH h⟩
 ·rintro⟨h1,h2,h3⟩;rw[if_neg (by omega),if_neg (by omega),cS _ _ h3]
theorem Wn{s:Sys} {l:List Lk} (h0:0<l.length) (h:dV s l=true):dV s (nU s l)=true/\0<rz s l/\rz s l<=l.length:=by
 unfold nU rz;rcases bE l.length (fun i=>dV s (l.take (i+1))) with ⟨e,h1⟩|⟨k,hk,e,h1,_⟩
 ·have:=h1 (l.length - 1) (by omega);rw[show l.length - 1+1=l.length by omega,List.take_length,h]at this;cases this
 ·rw[e,if_neg (by omega),Int.toNat_natCast];exact⟨h1,by omega,by omega⟩
theorem jB(s:Sys) (e:Nat) (he:e<eS s):(choiceS s).getD e 0=comB s (memL (partsS s) ((partsS s).getD e 0)):=by simp[choiceS,he]
theorem RD{s:Sys} (h:SysOk s) (hb:¬ hZ s<0):dV s (kN s)=true/\(kN s).length<=1+(eS s - 1) * (eS s - 1)/\((kN s).length<=4096->walkE s (kN s)=0):=by
 unfold hZ at hb;rcases bE (eS s) (fun e=>decide ((choiceS s).getD e 0<0)) with ⟨e,_⟩|⟨k,hk,e,h1,_⟩
 ·omega
 have eb:hZ s=k:=e;unfold kN;rw[eb,Int.toNat_natCast];rw[decide_eq_true_eq,jB s k hk]at h1;have kZ:k∈memL (partsS s) ((partsS s).getD k 0):=jN.2 ⟨by rw[dp];exact hk,rfl⟩;cases hl:memL (partsS s) ((partsS s).getD k 0) with
 | nil=>rw[hl]at kZ;simp at kZ
 | cons a r=>
  obtain⟨w1,w2,w3,w4,w5⟩:=ON h _ a r hl;have h0:0<(gO s (a :: r)).length:=by simp[gO]
  have hc:dV s (gO s (a :: r))=true:=by
   unfold dV;rw[hl]at h1;exact decide_eq_true (OM s w3 h1)
  obtain⟨c1,c2,c3⟩:=Wn h0 hc;refine⟨c1,?_,fun h5=>?_⟩
  ·have:(nU s (gO s (a :: r))).length=rz s (gO s (a :: r)):=by unfold nU;rw[List.length_take];omega
   have h6:r.length * (eS s - 1)<=(eS s - 1) * (eS s - 1):=Nat.mul_le_mul_right _ (by omega);omega
  ·obtain⟨j,hj⟩:∃ j,rz s (gO s (a :: r))=j+1:=⟨_,(Nat.succ_pred_eq_of_pos c2).symm⟩;have e1:nU s (gO s (a :: r))=⟨a,-1⟩ :: (la s a r).take j:=by unfold nU;rw[hj];rfl
   rw[e1]at h5 ⊢;exact(mQ s _).2 ⟨a,_,rfl,w1,rA _ _ _ w2,h5⟩
def ii(s:Sys) (w:List Lk) (i j:Nat):List (List Lk):=(List.range' j (w.length - (i+2) - j)).filterMap fun j=>wF s w i (w.length - 1 - j)
def gF(s:Sys) (w:List Lk) (i:Nat):List (List Lk):=(List.range' i (w.length - i)).flatMap (Hc s w)
theorem OR(s:Sys) (w:List Lk):gF s w 0=(List.range w.length).flatMap (Hc s w):=by
 unfold gF;rw[List.range_eq_range',Nat.sub_zero]
theorem OS(s:Sys) (w:List Lk):gF s w w.length=[]:=by
 unfold gF;rw[Nat.sub_self];rfl
theorem Mw(s:Sys) (w:List Lk) (i:Nat) (hi:i<w.length):gF s w i=ii s w i 0++gF s w (i+1):=by
 unfold gF ii;rw[show w.length - i=(w.length - (i+1))+1 by omega,List.range'_succ,List.flatMap_cons,Nat.sub_zero];unfold Hc;rw[List.range_eq_range']
theorem OT(s:Sys) (w:List Lk) (i j:Nat) (h:w.length<=i+2+j):ii s w i j=[]:=by
 unfold ii;rw[show w.length - (i+2) - j=0 by omega];rfl
theorem Mx(s:Sys) (w:List Lk) (i j:Nat) (h:i+2+j<w.length) {c:List Lk} (hc:wF s w i (w.length - 1 - j)=some c):ii s w i j=c :: ii s w i (j+1):=by
 unfold ii;rw[show w.length - (i+2) - j=(w.length - (i+2) - (j+1))+1 by omega,List.range'_succ,List.filterMap_cons,hc]
theorem My(s:Sys) (w:List Lk) (i j:Nat) (h:i+2+j<w.length) (hc:wF s w i (w.length - 1 - j)=none):ii s w i j=ii s w i (j+1):=by
 unfold ii;rw[show w.length - (i+2) - j=(w.length - (i+2) - (j+1))+1 by omega,List.range'_succ,List.filterMap_cons,hc]
theorem BI(s:Sys) (w:List Lk):dP s w=w.dropLast :: ((if 1<w.length then [⟨(w.getD 1 default).x,-1⟩ :: w.drop 2] else [])++gF s w 0):=by
 rw[OR];rfl
theorem Lc{α:Type} {L d r:List α} {c x:α} (h:L=d++c :: r):d.length<L.length/\L.getD d.length x=c/\L=(d++[c])++r/\(d++[c]).length=d.length+1:=by
 subst h;refine⟨by simp,?_,by simp,by simp⟩;rw[List.getD_eq_getElem?_getD,List.getElem?_append_right (Nat.le_refl _)];simp
theorem RE{s:Sys} {w c:List Lk} {d r:List (List Lk)} (h:dP s w=d++c :: r) (hd:∀ x∈d,ji s x=false) (hc:ji s c=true):jT s w=some c:=by
 unfold jT;rw[h,List.find?_append,List.find?_eq_none.2 (fun x hx=>by rw[hd x hx];simp)];simp[hc]
theorem OU{s:Sys} {w:List Lk} {d:List (List Lk)} (h:dP s w=d) (hd:∀ x∈d,ji s x=false):jT s w=none:=by
 unfold jT;rw[h];exact List.find?_eq_none.2 (fun x hx=>by rw[hd x hx];simp)
theorem Ld{α:Type} {p q:Prop} [Decidable p] [Decidable q] (h:p↔q) (a b:α):(if p then a else b)=if q then a else b:=by
 by_cases hp:p
 ·rw[if_pos hp,if_pos (h.1 hp)]
 ·rw[if_neg hp,if_neg fun hq=>hp (h.2 hq)]
def chQ(s:Sys) (k i:Nat):List Int:=(List.range (eS s)).map fun e=>if (partsS s).getD e 0<k\/e∈(memL (partsS s) k).take i then(choiceS s).getD e 0 else 0
theorem nh(s:Sys) (k i:Nat):(chQ s k i).length=eS s:=by simp[chQ]
theorem vg(s:Sys) (k i e:Nat) (he:e<eS s):(chQ s k i).getD e 0=if (partsS s).getD e 0<k\/e∈(memL (partsS s) k).take i then(choiceS s).getD e 0 else 0:=by simp[chQ,he]
theorem sM(s:Sys):l7 (partsS s):=by
 unfold partsS;cases nS s - 1 with
 | zero=>exact pQ _ _
 | succ k=>exact pQ _ _
theorem sN{a b:List Int} {n:Nat} (ha:a.length=n) (hb:b.length=n) (h:∀ i,i<n->a.getD i 0=b.getD i 0):a=b:=by
 refine List.ext_getElem (by omega) fun i h1 h2=>?_
 have:=h i (by omega)
 rwa [List.getD_eq_getElem?_getD,List.getD_eq_getElem?_getD,List.getElem?_eq_getElem h1,List.getElem?_eq_getElem h2]at this
theorem RF(s:Sys):chQ s 0 0=List.replicate (eS s) 0:=by
 refine sN (nh _ _ _) (by simp) fun e he=>?_
 have h1:=(l8 (sM s) e (by rw[dp];exact he)).1
 rw[vg _ _ _ _ he,if_neg (by rw[List.take_zero];rintro(h|h);· omega
                             ·cases h)]
 simp[he]
theorem RG{s:Sys} {k i:Nat} (hi:i<(memL (partsS s) k).length):chQ s k (i+1)=(chQ s k i).set ((memL (partsS s) k).getD i 0) (comB s (memL (partsS s) k)):=by
 have hm:(memL (partsS s) k).getD i 0=(memL (partsS s) k)[i]:=by simp[hi]
 obtain⟨hl,hp⟩:=jN.1 (List.getElem_mem hi);rw[<-hm]at hl hp;rw[dp]at hl;refine sN (nh _ _ _) (by rw[List.length_set,nh]) fun e he=>?_
 have ht:e∈(memL (partsS s) k).take (i+1)↔e∈(memL (partsS s) k).take i\/e=(memL (partsS s) k).getD i 0:=by rw[List.take_succ_eq_append_getElem hi,hm,List.mem_append,List.mem_singleton]
 rw[vg _ _ _ _ he];by_cases h:e=(memL (partsS s) k).getD i 0
 ·rw[if_pos (.inr (ht.2 (.inr h)))];subst h;rw[jB _ _ he,hp,List.getD_eq_getElem?_getD (l:=(chQ s k i).set _ _),List.getElem?_set_self (by rw[nh];exact hl)];rfl
 ·have h2:((chQ s k i).set ((memL (partsS s) k).getD i 0) (comB s (memL (partsS s) k))).getD e 0=(chQ s k i).getD e 0:=by
   rw[List.getD_eq_getElem?_getD,List.getElem?_set_ne (by omega),<-List.getD_eq_getElem?_getD]
  rw[h2,vg _ _ _ _ he];refine Ld ?_ _ _;rw[ht];exact⟨fun q=>by rcases q with q|q|q<;>first|exact .inl q|exact .inr q|exact absurd q h,fun q=>by rcases q with q|q;exact .inl q;exact .inr (.inl q)⟩
theorem RH(s:Sys) (k:Nat):chQ s k (memL (partsS s) k).length=chQ s (k+1) 0:=by
 refine sN (nh _ _ _) (nh _ _ _) fun e he=>?_
 rw[vg _ _ _ _ he,vg _ _ _ _ he];refine Ld ?_ _ _;rw[List.take_length,jN,dp,List.take_zero];simp only[List.not_mem_nil,or_false];constructor
 ·rintro(h|h)
  ·omega
  ·omega
 ·intro h;by_cases h2:(partsS s).getD e 0<k
  ·exact .inl h2
  ·exact .inr ⟨he,by omega⟩
theorem Ih{s:Sys} {k:Nat} (h:∀ e,e<eS s->(partsS s).getD e 0<k):chQ s k 0=choiceS s:=by
 refine sN (nh _ _ _) (by simp[choiceS]) fun e he=>?_
 rw[vg _ _ _ _ he,if_pos (.inl (h e he))]
theorem RI{s:Sys} {k:Nat} (h:(memL (partsS s) k).length=0):chQ s k 0=choiceS s:=Ih fun e he=>by
 have hn:∀ x,x<eS s->(partsS s).getD x 0≠k:=fun x hx e2=>by
  have:x∈memL (partsS s) k:=jN.2 ⟨by rw[dp];exact hx,e2⟩;rw[List.eq_nil_of_length_eq_zero h]at this;cases this
 have h1:=hn e he;by_cases h2:(partsS s).getD e 0<k
 ·exact h2
 ·obtain⟨j,hj,e3⟩:=wC (sM s) e (by rw[dp];exact he) k (by omega) (by omega);exact absurd e3 (hn j (by omega))
theorem Vi(s:Sys):chQ s (eS s) 0=choiceS s:=Ih fun e he=>by
 have h1:=l8 (sM s) e (by rw[dp];exact he);omega
def TO(h:Int × Int):Rd:=⟨⟨2,h.1,h.2,0,0,0⟩,0⟩
def ckCs:List Cs:=[⟨[0,0],[[0,0]],[]⟩,⟨[0,1],[[0,0],[1,1]],[]⟩,⟨[1,1],[[1,1]],[]⟩]
def qX(rounds:Int) (gs:List (Int × Int)):Pb:=⟨⟨2,2,2,ckCs⟩,⟨2,[gs.map fun h=>⟨TO h,0⟩]⟩,rounds⟩
def ck1:Sys:=aF (qX 1 [(1,3),(3,3)])
def ck2:Sys:=aF (qX 0 [(3,3)])
def ck3:Sys:=aF (qX 1 [(1,3),(3,2),(3,3)])
def ckW:List Lk:=[⟨0,-1⟩,⟨1,0⟩,⟨2,1⟩]
structure CkB (p:Pb):Prop where
 few:buildE p=0
 ready:readyE (aF p)=0
 size:eS (aF p)<=256
 moves:movesN p.a.states<1099511627776
theorem ck1_b:CkB (qX 1 [(1,3),(3,3)]):=⟨by decide +kernel,by decide +kernel,by decide +kernel,by decide +kernel⟩
theorem ck2_b:CkB (qX 0 [(3,3)]):=⟨by decide +kernel,by decide +kernel,by decide +kernel,by decide +kernel⟩
theorem ck3_b:CkB (qX 1 [(1,3),(3,2),(3,3)]):=⟨by decide +kernel,by decide +kernel,by decide +kernel,by decide +kernel⟩
theorem ck1_vals:valuesR ck1 3=([0,1],0):=by decide +kernel
theorem ck1_choice:choiceR ck1=([0,0,0,0,1,1],0):=by decide +kernel
theorem ck1_rule:(ruleR ck1).2=(true,0):=by decide +kernel
theorem ck2_find:findW ck2=(ckW,true,0):=by decide +kernel
theorem ck2_cert:certE ck2 ⟨1,ckW,0,0,0⟩=0:=by decide +kernel
theorem ck2_short:shortR ck2 ⟨1,ckW,0,0,0⟩=(ckW,0):=by decide +kernel
theorem ck2_not:certE ck2 ⟨1,ckW.take 2,0,0,0⟩=18:=by decide +kernel
theorem ck3_choice:choiceR ck3=(List.replicate 9 (-1),0):=by decide +kernel
theorem Fs{s:Sys} (h:readyE s=0):verifyE s=0/\agreeB s.prob.t=true:=by
 unfold readyE at h;split at h
 ·rename_i h1;exact absurd h h1
 ·split at h
  ·rename_i h1 h2;exact⟨by omega,h2⟩
  ·omega
end Go.Proofs.YtmeaoneaephjeaaGreatDoor
