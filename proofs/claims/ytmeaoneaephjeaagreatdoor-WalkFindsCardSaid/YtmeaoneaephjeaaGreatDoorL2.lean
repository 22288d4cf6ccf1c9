/-
  A part of the proof: lemmas and contracts that the parts behind it use. Each one's conditions are its own premises.
-/
import Derived.WalkKit
import Derived.ProofKit
import Derived.OpenShut
import Derived.ShutString
import Derived.ChangeOld
import Derived.Below
import Derived.SizedLaws
import Derived.Deep.Slices
import Derived.Test.YtmeaoneaephjeaaGreatDoorRows
import Derived.Test.YtmeaoneaephjeaaGreatDoorL1
set_option maxRecDepth 100000
set_option maxHeartbeats 8000000
set_option linter.unusedVariables false
set_option linter.unusedSimpArgs false
namespace Go.Proofs.YtmeaoneaephjeaaGreatDoor
def cf(a:Adv):Nat->Nat->List (List Rd)
 | 0,_=>[[]]
 | k+1,s=>(a.states.getD s []).flatMap fun m=>(cf a k m.to.toNat).map (m.r :: ·)
theorem kA(a:Adv) (k:Nat):∀ s,∀ x∈cf a k s,x.length=k:=by
 induction k with
 | zero=>intro s x hx;simp[cf]at hx;rw[hx];rfl
 | succ k ih=>
  intro s x hx;simp only[cf,List.mem_flatMap,List.mem_map]at hx;obtain⟨m,_,y,hy,rfl⟩:=hx;simp[ih _ y hy]
def qI(L:Int) (c:List Int) (n:Int) (m:Mv):Int:=min (n+c.getD m.to.toNat 0) (L+1)
def Cm(L:Int) (c:List Int) (l:List Mv):Int:=l.foldl (qI L c) 0
def AO(L:Int) (a:Adv) (c:List Int):List Int:=a.states.map (Cm L c)
def eB(L:Int) (a:Adv):Nat->List Int
 | 0=>List.replicate a.states.length 1
 | k+1=>AO L a (eB L a k)
def numberL(L:Int) (a:Adv) (k:Nat):Int:=(eB L a k).getD 0 0
theorem F1(L:Int) (a:Adv) (k:Nat):(eB L a k).length=a.states.length:=by
 cases k with
 | zero=>simp[eB]
 | succ k=>simp[eB,AO]
def Dd(L:Int) (c:List Int):Prop:=∀ x∈c,0<=x/\x<=L+1
theorem vZ{L:Int} (hL:0<=L) {c:List Int} (h:Dd L c) (i:Nat):0<=c.getD i 0/\c.getD i 0<=L+1:=by
 by_cases hi:i<c.length
 ·rw[List.getD_eq_getElem?_getD,List.getElem?_eq_getElem hi];exact h _ (List.getElem_mem hi)
 ·rw[List.getD_eq_getElem?_getD,List.getElem?_eq_none (by omega)];simp;omega
theorem IF{L:Int} (hL:0<=L) {c:List Int} (h:Dd L c) {n:Int} (hn:0<=n/\n<=L+1) (m:Mv):0<=qI L c n m/\qI L c n m<=L+1:=by
 have:=vZ hL h m.to.toNat;unfold qI;omega
theorem Sg{L:Int} (hL:0<=L) {c:List Int} (h:Dd L c) (l:List Mv):∀ n:Int,(0<=n/\n<=L+1)->0<=l.foldl (qI L c) n/\l.foldl (qI L c) n<=L+1:=by
 induction l with
 | nil=>intro n hn;exact hn
 | cons m r ih=>intro n hn;exact ih _ (IF hL h hn m)
theorem Wm{L:Int} (hL:0<=L) {c:List Int} (h:Dd L c) (l:List Mv):0<=Cm L c l/\Cm L c l<=L+1:=Sg hL h l 0 (by omega)
theorem Cn{L:Int} (hL:0<=L) (a:Adv) (k:Nat):Dd L (eB L a k):=by
 induction k with
 | zero=>intro x hx;rw[(List.mem_replicate.1 hx).2];omega
 | succ k ih=>intro x hx;obtain⟨l,_,rfl⟩:=List.mem_map.1 hx;exact Wm hL ih l
theorem Pa{L:Int} (hL:0<=L) (c:List Int) (f:Mv->Int) (l:List Mv) (hc:∀ m∈l,c.getD m.to.toNat 0=min (f m) (L+1)) (hf:∀ m∈l,0<=f m):∀ n s:Int,0<=s->n=min s (L+1) →
  l.foldl (qI L c) n=min (s+(l.map f).sum) (L+1):=by
 induction l with
 | nil=>intro n s _ hn;simp[hn]
 | cons m r ih=>
  intro n s hs hn;have h1:=hc m (by simp);have h2:=hf m (by simp);rw[List.foldl_cons,ih (fun x hx=>hc x (by simp[hx])) (fun x hx=>hf x (by simp[hx])) _ (s+f m) (by omega) ?_,List.map_cons,List.sum_cons]
  ·rw[Int.add_assoc]
  ·unfold qI;rw[h1,hn];omega
theorem K0{α β:Type} (l:List α) (f:α->List β):((l.flatMap f).length:Int)=(l.map fun x=>((f x).length:Int)).sum:=by
 induction l with
 | nil=>rfl
 | cons a r ih=>rw[List.flatMap_cons,List.length_append,List.map_cons,List.sum_cons,<-ih];omega
theorem Pc{L:Int} (hL:0<=L) (a:Adv) (pK:∀ s,s<a.states.length->∀ m∈a.states.getD s [],m.to.toNat<a.states.length) (k:Nat):∀ s,s<a.states.length->(eB L a k).getD s 0=min ((cf a k s).length:Int) (L+1):=by
 induction k with
 | zero=>
  intro s hs;simp[eB,cf,hs];omega
 | succ k ih=>
  intro s hs
  have h1:(eB L a (k+1)).getD s 0=Cm L (eB L a k) (a.states.getD s []):=by
   simp[eB,AO,hs]
  rw[h1];unfold Cm;rw[Pa hL (eB L a k) (fun m=>((cf a k m.to.toNat).length:Int)) _ (fun m hm=>ih _ (pK s hs m hm)) (fun m _=>by omega) 0 0 (by omega) (by omega)];simp only[cf];rw[K0];simp
theorem rW{L:Int} (hL:0<=L) (a:Adv) (pK:∀ s,s<a.states.length->∀ m∈a.states.getD s [],m.to.toNat<a.states.length) (h0:0<a.states.length) (k:Nat):numberL L a k=min ((cf a k 0).length:Int) (L+1):=Pc hL a pK k 0 h0
theorem ZI{a:Adv} (h:∀ s,s<a.states.length->stateE a (a.states.getD s [])=0):∀ s,s<a.states.length->∀ m∈a.states.getD s [],m.to.toNat<a.states.length:=fun s hs m hm=>by
 obtain⟨j,hj,rfl⟩:=List.mem_iff_getElem.1 hm;have h1:=h s hs;unfold stateE at h1;split at h1
 ·cases h1
 have h2:=fN h1 j hj;have h3:=(E4 h2).2;have e:(a.states.getD s []).getD j default=(a.states.getD s [])[j]:=by rw[List.getD_eq_getElem?_getD,List.getElem?_eq_getElem hj];rfl
 rw[e]at h3;omega
structure Vw where
 p:Int
 k:Int
 i:Int
 h0:Int
 h1:Int
 h2:Int
 h3:Int
 h4:Int
instance:Inhabited Vw:=⟨⟨0,0,0,0,0,0,0,0⟩⟩
instance:DecidableEq Vw:=fun a b=>decidable_of_iff (a.p=b.p/\a.k=b.k/\a.i=b.i/\a.h0=b.h0/\a.h1=b.h1/\a.h2=b.h2/\a.h3=b.h3/\a.h4=b.h4) (by cases a;cases b;simp)
structure Ex where
 c:Int
 word:List Rd
 views:List (List Int)
structure Sys where
 prob:Pb
 n:Int
 tab:List Vw
 ex:List Ex
def putV(tb:List Vw) (v:Vw):List Vw × Nat:=if v∈tb then(tb,tb.idxOf v) else(tb++[v],tb.length)
def ig(st:List Vw × List Int) (v:Vw):List Vw × List Int:=((putV st.1 v).1,st.2++[((putV st.1 v).2:Int)])
def addAll(tb:List Vw) (vs:List Vw):List Vw × List Int:=vs.foldl ig (tb,[])
theorem vF(tb:List Vw) (vs:List Vw) (k:Nat) (hk:k<vs.length):addAll tb (vs.take (k+1))=ig (addAll tb (vs.take k)) vs[k]:=by
 unfold addAll;rw[List.take_succ_eq_append_getElem hk,List.foldl_append];rfl
theorem F2(st:List Vw × List Int) (v:Vw):(ig st v).2.length=st.2.length+1/\(ig st v).1.length<=st.1.length+1:=by
 unfold ig putV;refine⟨by simp,?_⟩;split<;>simp
theorem fU(vs:List Vw):∀ st:List Vw × List Int,(vs.foldl ig st).2.length=st.2.length+vs.length/\(vs.foldl ig st).1.length<=st.1.length+vs.length:=by
 induction vs with
 | nil=>intro st;simp
 | cons v r ih=>
  intro st;have h1:=ih (ig st v);have h2:=F2 st v;simp only[List.foldl_cons,List.length_cons];omega
def eE(inp:List Int) (p:Nat):Vw:=⟨p,0,inp.getD p 0,-1,-1,-1,-1,-1⟩
def mC(n:Nat) (r:Rd) (now:List Int) (p q:Nat):Int:=if q<n/\hasB (r.g.hear p) q=true then now.getD q 0 else -1
def nextV(n k:Nat) (r:Rd) (now:List Int) (p:Nat):Vw:=⟨p,k+1,0,mC n r now p 0,mC n r now p 1,mC n r now p 2,mC n r now p 3,mC n r now p 4⟩
def v7(n:Nat) (inp:List Int) (tb:List Vw):List Vw × List Int:=addAll tb ((List.range n).map (eE inp))
def M2(n k:Nat) (r:Rd) (st:List Vw × List (List Int)):List Vw × List (List Int):=
 let a:=addAll st.1 ((List.range n).map (nextV n k r (st.2.getLastD [])))
 (a.1,st.2++[a.2])
def playTo(n:Nat) (inp:List Int) (word:List Rd) (tb:List Vw):Nat->List Vw × List (List Int)
 | 0=>let a:=v7 n inp tb;(a.1,[a.2])
 | k+1=>M2 n k (word.getD k default) (playTo n inp word tb k)
def gD(n:Nat) (inp:List Int) (word:List Rd) (tb:List Vw):List Vw × List (List Int):=playTo n inp word tb word.length
def jv(cases words:Nat):List (Nat × Nat):=(List.range cases).flatMap fun c=>(List.range words).map fun w=>(c,w)
def kD(p:Pb) (words:List (List Rd)) (st:List Vw × List Ex) (x:Nat × Nat):List Vw × List Ex:=
 let a:=gD p.t.n.toNat (p.t.cases.getD x.1 default).inp (words.getD x.2 []) st.1
 (a.1,st.2++[⟨x.1,words.getD x.2 [],a.2⟩])
def execsS(p:Pb) (words:List (List Rd)) (l:List (Nat × Nat)):List Vw × List Ex:=l.foldl (kD p words) ([],[])
def aL(p:Pb):List (List Rd):=cf p.a p.rounds.toNat 0
def aO(p:Pb):Sys:=
 let a:=execsS p (aL p) (jv p.t.cases.length (aL p).length)
 ⟨p,p.t.n,a.1,a.2⟩
def buildE(p:Pb):Int:=if probE p≠0 then probE p else if 4096<p.t.cases.length * (aL p).length then 17 else if 8192<(aO p).tab.length then 17 else 0
theorem Pd(x y:Int) (r s:List Int):ordV (x :: r) (y :: s)=if cmpI x y≠0 then cmpI x y else ordV r s:=by
 rw[ordV];unfold cmpI;grind
theorem j7(n:Nat) (f:Nat->Int):bg (n+1) f=if f 0≠0 then f 0 else bg n (fun j=>f (j+1)):=by
 induction n with
 | zero=>simp[bg]
 | succ n ih=>
  rw[bg,ih]
  conv=>rhs;rw[bg]
  grind
def Rd.list(r:Rd):List Int:=[r.g.n,r.g.h0,r.g.h1,r.g.h2,r.g.h3,r.g.h4,r.f]
theorem K4(a b:Rd):roundC a b=ordV a.list b.list:=by
 unfold Rd.list roundC fD;rw[j7,j7,j7,j7,j7];simp only[Pd,bg,Gr.hear];have h0:ordV [] []=0:=rfl;rw[h0];generalize cmpI a.g.n b.g.n=c0;generalize cmpI a.g.h0 b.g.h0=c1;generalize cmpI a.g.h1 b.g.h1=c2;generalize cmpI a.g.h2 b.g.h2=c3;generalize cmpI a.g.h3 b.g.h3=c4;generalize cmpI a.g.h4 b.g.h4=c5;generalize cmpI a.f b.f=c6
 grind
theorem M3{a b c:List Int} (h1:ordV a b<0) (h2:ordV b c<0):ordV a c<0:=by
 induction a generalizing b c with
 | nil=>
  cases b with
  | nil=>simp[ordV]at h1
  | cons y s=>
   cases c with
   | nil=>simp[ordV]at h2
   | cons z t=>simp[ordV]
 | cons x r ih=>
  cases b with
  | nil=>simp[ordV]at h1
  | cons y s=>
   cases c with
   | nil=>simp[ordV]at h2
   | cons z t=>
    unfold ordV at h1 h2 ⊢;by_cases cG:x<y
    ·by_cases X4:y<z
     ·rw[if_pos (by omega)];omega
     ·rw[if_neg X4]at h2;by_cases U6:z<y
      ·rw[if_pos U6]at h2;omega
      ·rw[if_pos (by omega)];omega
    ·rw[if_neg cG]at h1;by_cases pY:y<x
     ·rw[if_pos pY]at h1;omega
     ·rw[if_neg pY]at h1;by_cases X4:y<z
      ·rw[if_pos (by omega)];omega
      ·rw[if_neg X4]at h2;by_cases U6:z<y
       ·rw[if_pos U6]at h2;omega
       ·rw[if_neg U6]at h2;rw[if_neg (by omega),if_neg (by omega)];exact ih h1 h2
theorem ir{a:Adv} (h:advE a=0):(1<=a.states.length/\a.states.length<=256)/\(∀ s,s<a.states.length->stateE a (a.states.getD s [])=0)/\growsB a=true/\1<=a.n/\a.n<=5:=by
 unfold advE at h;by_cases h1:a.n<1\/5<a.n
 ·rw[if_pos h1]at h;omega
 ·rw[if_neg h1]at h;by_cases h2:a.states.length<1\/256<a.states.length\/4096<movesN a.states
  ·rw[if_pos h2]at h;omega
  ·rw[if_neg h2]at h;by_cases h3:bg a.states.length (fun s=>stateE a (a.states.getD s []))=0
   ·rw[if_neg (by simpa using h3)]at h;refine⟨by omega,fN h3,?_,by omega,by omega⟩;cases hg:growsB a with
    | true=>rfl
    | false=>rw[hg]at h;simp at h
   ·rw[if_pos h3]at h;exact absurd h h3
structure Pl where
 rd:Int
 pr:Int
 h0:Int
 h1:Int
 h2:Int
 h3:Int
 h4:Int
instance:DecidableEq Pl:=fun a b=>decidable_of_iff (a.rd=b.rd/\a.pr=b.pr/\a.h0=b.h0/\a.h1=b.h1/\a.h2=b.h2/\a.h3=b.h3/\a.h4=b.h4) (by cases a;cases b;simp)
def AP(word:List Rd):Int:=if word.length=0 then 0 else(word.getD (word.length - 1) default).f
def gt(c:Cs) (f:Int):List (List Int):=if f=0/\0<c.calm.length then c.calm else c.out
def iY(t:Tk) (i f:Int):Int:=
 if taskE t≠0 then taskE t else if i<0\/(t.cases.length:Int)<=i then 6 else if f<0\/2 ^ t.n.toNat<=f then 2 else 0
def iZ(t:Tk) (i f:Int):List (List Int):=if iY t i f≠0 then [] else gt (t.cases.getD i.toNat default) f
theorem Sh{α:Type} [DecidableEq α] (l m:List α) (hl:l.Pairwise (·≠·)) (h:∀ x∈l,x∈m):l.length<=m.length:=by
 induction l generalizing m with
 | nil=>simp
 | cons x r ih=>
  have hx:=h x (by simp);have h1:=ih (m.erase x) (List.pairwise_cons.1 hl).2 (fun y hy=>(List.mem_erase_of_ne (fun e=>(List.pairwise_cons.1 hl).1 y hy e.symm)).2 (h y (by simp[hy])));rw[List.length_erase_of_mem hx]at h1;have:=List.length_pos_of_mem hx;simp only[List.length_cons];omega
theorem IG(l:List (List Int)) (h:∀ i,i<l.length->unordB l i=false):∀ j i,i<j->j<l.length->ordV (l.getD i []) (l.getD j [])<0:=by
 intro j;induction j with
 | zero=>intro i hi;omega
 | succ j ih=>
  intro i hi hj;have h1:=h (j+1) hj
  have h2:ordV (l.getD j []) (l.getD (j+1) [])<0:=by
   unfold unordB at h1;rw[Nat.add_sub_cancel,decide_eq_true (by omega:0<j+1),Bool.true_and]at h1;have:=of_decide_eq_false h1;omega
  rcases Nat.lt_or_ge i j with h3|h3
  ·exact M3 (ih i h3 (by omega)) h2
  ·obtain rfl:i=j:=by omega
   exact h2
theorem Pe(l:List (List Int)) (h:∀ i,i<l.length->unordB l i=false):l.Pairwise (·≠·):=by
 rw[List.pairwise_iff_getElem];intro i j hi hj hij e;have h1:=IG l h j i hij hj;rw[show l.getD i []=l[i] by simp[hi],show l.getD j []=l[j] by simp[hj],e,tJ]at h1;omega
theorem oz{n:Nat} {f:Nat->Int} (h:bg n f=0):∀ i,i<n->f i=0:=by
 intro i hi;induction n generalizing f i with
 | zero=>omega
 | succ n ih=>
  rw[j7]at h;by_cases h0:f 0=0
  ·rw[if_neg (by simpa using h0)]at h;cases i with
   | zero=>exact h0
   | succ i=>exact ih h i (by omega)
  ·rw[if_pos h0]at h;exact absurd h h0
theorem Bc{v:List Int} {n m:Int} (h:vectorE v n m=0):(v.length:Int)=n:=by
 unfold vectorE at h;by_cases e:(v.length:Int)=n
 ·exact e
 ·rw[if_pos e]at h;omega
theorem Si{l:List (List Int)} {v:List Int} (h:hasV l v=true):v∈l:=by
 unfold hasV at h;obtain⟨i,hi,e⟩:=(lD _ _).1 h;unfold eqV at e;have:=of_decide_eq_true e;rw[<-this,show l.getD i []=l[i] by simp[hi]];exact List.getElem_mem hi
structure CaseOk (t:Tk) (c:Cs):Prop where
 inp:(c.inp.length:Int)=t.n
 out1:1<=c.out.length
 out2:c.out.length<=1024
 calm:c.calm.length<=1024
 outs:∀ v∈c.out,(v.length:Int)=t.n
 calms:∀ v∈c.calm,v∈c.out
theorem fB{t:Tk} (h:taskE t=0):(1<=t.n/\t.n<=5)/\(1<=t.ins/\t.ins<=8)/\(1<=t.outs/\t.outs<=8)/\(1<=t.cases.length/\t.cases.length<=1024)/\∀ c∈t.cases,CaseOk t c:=by
 unfold taskE at h;split at h
 ·omega
 rename_i h1;split at h
 ·omega
 rename_i h2;refine⟨by omega,by omega,by omega,by omega,fun c hc=>?_⟩;obtain⟨k,hk,rfl⟩:=List.getElem_of_mem hc;have h3:=oz h k hk;unfold eZ at h3;rw[show t.cases.getD k default=t.cases[k] by simp[hk]]at h3;split at h3
 ·omega
 rename_i h4;split at h3
 ·omega
 unfold vectorsE at h3;split at h3
 ·omega
 rename_i h5;split at h3
 ·omega
 rename_i h6;have h7:=oz (show bg _ _=0 by simpa using h6);have h8:=oz h3
 have hcal:∀ i,i<(t.cases[k]).calm.length->hasV (t.cases[k]).out ((t.cases[k]).calm.getD i [])=true/\unordB (t.cases[k]).calm i=false:=by
  intro i hi;have:=h8 i hi;unfold jf at this;split at this
  ·rename_i h9;refine⟨h9,?_⟩;cases hu:unordB (t.cases[k]).calm i
   ·rfl
   ·rw[hu]at this;simp at this
  ·omega
 have nC:∀ v∈(t.cases[k]).calm,v∈(t.cases[k]).out:=by
  intro v hv;obtain⟨i,hi,rfl⟩:=List.getElem_of_mem hv;have:=Si (hcal i hi).1
  rwa [show (t.cases[k]).calm.getD i []=(t.cases[k]).calm[i] by simp[hi]]at this
 refine⟨Bc (by simpa using h4),by omega,by omega,?_,?_,nC⟩
 ·exact Nat.le_trans (Sh _ _ (Pe _ fun i hi=>(hcal i hi).2) nC) (by omega)
 ·intro v hv;obtain⟨i,hi,rfl⟩:=List.getElem_of_mem hv;have:=h7 i hi;unfold jq at this;rw[show (t.cases[k]).out.getD i []=(t.cases[k]).out[i] by simp[hi]]at this;split at this
  ·omega
  ·rename_i h9;exact Bc (by simpa using h9)
theorem LG{t:Tk} {c:Cs} (h:CaseOk t c) (f:Int):(gt c f).length<=1024/\∀ v∈gt c f,(v.length:Int)=t.n:=by
 unfold gt;split
 ·exact⟨h.calm,fun v hv=>h.outs v (h.calms v hv)⟩
 ·exact⟨h.out2,h.outs⟩
def br(q:Nat->Nat->Bool):Nat->List Int × Int
 | 0=>([],0)
 | i+1=>let s:=br q i;if firstIx i (fun k=>q k i)<0 then(s.1++[s.2],s.2+1) else(s.1++[s.1.getD (firstIx i fun k=>q k i).toNat 0],s.2)
def iG(q:Nat->Nat->Bool) (n:Nat):List Int:=(br q n).1
theorem km(q:Nat->Nat->Bool):∀ n,(br q n).1.length=n
 | 0=>rfl
 | n+1=>by
  unfold br;dsimp only;split<;>simp[km q n]
theorem qj(q:Nat->Nat->Bool) (n:Nat):(iG q n).length=n:=km q n
theorem Bd{q r:Nat->Nat->Bool}:∀ n,(∀ i,i<n->firstIx i (fun k=>q k i)=firstIx i (fun k=>r k i))->br q n=br r n
 | 0,_=>rfl
 | n+1,h=>by
  unfold br;rw[Bd n (fun i hi=>h i (by omega)),h n (by omega)]
theorem oA{q r:Nat->Nat->Bool} {n:Nat} (h:∀ i,i<n->∀ k,k<i->q k i=r k i):iG q n=iG r n:=by
 unfold iG;rw[Bd n (fun i hi=>mT _ _ _ (h i hi))]
theorem tP(q:Nat->Nat->Bool):∀ n i,i<n->(br q (n+1)).1.getD i 0=(br q n).1.getD i 0:=fun n i hi=>by
 rw[br];have hl:=km q n;split<;>(simp only[List.getD_eq_getElem?_getD];rw[List.getElem?_append_left (by omega)])
theorem j8(q:Nat->Nat->Bool):∀ n,0<=(br q n).2/\(br q n).2<=n/\∀ x∈(br q n).1,0<=x/\x<(br q n).2
 | 0=>⟨by simp[br],by simp[br],fun x hx=>by simp[br]at hx⟩
 | n+1=>by
  obtain⟨h1,h2,h3⟩:=j8 q n;have hl:=km q n;rw[br];split
  ·refine⟨by simp;omega,by simp;omega,fun x hx=>?_⟩;rcases List.mem_append.1 hx with hx|hx
   ·have:=h3 x hx;simp;omega
   ·rw[List.mem_singleton]at hx;subst hx;simp;omega
  ·rename_i hf;refine⟨by simpa using h1,by simp;omega,fun x hx=>?_⟩;rcases List.mem_append.1 hx with hx|hx
   ·exact h3 x hx
   ·rw[List.mem_singleton]at hx;subst hx;rcases bE n (fun k=>q k n) with ⟨e,_⟩|⟨k,hk,e,_⟩
    ·omega
    ·rw[e,Int.toNat_natCast,List.getD_eq_getElem?_getD,List.getElem?_eq_getElem (by omega)];exact h3 _ (List.getElem_mem _)
def it(q:Nat->Nat->Bool):Nat->Nat->Nat->Bool
 | 0,i,k=>q i k
 | m+1,i,k=>it q m i k || (it q m i m&&it q m m k)
theorem su(q:Nat->Nat->Bool):∀ m i k,q i k=true->it q m i k=true
 | 0,_,_,h=>h
 | m+1,i,k,h=>by rw[it,su q m i k h];rfl
theorem gW(q:Nat->Nat->Bool):∀ m i j k,j<m->it q m i j=true->it q m j k=true->it q m i k=true
 | 0,_,_,_,hj,_,_=>by omega
 | m+1,i,j,k,hj,h1,h2=>by
  rw[it]at h1 h2 ⊢;simp only[Bool.or_eq_true,Bool.and_eq_true]at h1 h2 ⊢;by_cases e:j=m
  ·subst e;have h3:it q j i j=true:=by rcases h1 with h|⟨h,_⟩<;>exact h
   have h4:it q j j k=true:=by rcases h2 with h|⟨_,h⟩<;>exact h
   exact .inr ⟨h3,h4⟩
  ·have od:j<m:=by omega
   rcases h1 with h1|⟨h1,h3⟩<;>rcases h2 with h2|⟨h2,h4⟩
   ·exact .inl (gW q m i j k od h1 h2)
   ·exact .inr ⟨gW q m i j m od h1 h2,h4⟩
   ·exact .inr ⟨h1,gW q m m j k od h3 h2⟩
   ·exact .inr ⟨h1,h4⟩
theorem nq{q:Nat->Nat->Bool} (h:∀ i k,q i k=q k i):∀ m i k,it q m i k=it q m k i
 | 0,i,k=>h i k
 | m+1,i,k=>by rw[it,it,nq h m i k,nq h m i m,nq h m m k,Bool.and_comm]
theorem tU{q:Nat->Nat->Bool} {R:Nat->Nat->Prop} (h0:∀ i k,q i k=true->R i k) (h1:∀ i j k,R i j->R j k->R i k):∀ m i k,it q m i k=true->R i k
 | 0,i,k,h=>h0 i k h
 | m+1,i,k,h=>by
  rw[it]at h;simp only[Bool.or_eq_true,Bool.and_eq_true]at h;rcases h with h|⟨h2,h3⟩
  ·exact tU h0 h1 m i k h
  ·exact h1 _ _ _ (tU h0 h1 m i m h2) (tU h0 h1 m m k h3)
def dN(a b:List Int) (i k:Nat):Bool:=decide (a.getD i 0=a.getD k 0) || decide (b.getD i 0=b.getD k 0)
theorem oB(a b:List Int) (i k:Nat):dN a b i k=dN a b k i:=by
 unfold dN;rw[decide_eq_decide.2 (eq_comm (a:=a.getD i 0)),decide_eq_decide.2 (eq_comm (a:=b.getD i 0))]
theorem De(a b:List Int) (i:Nat):dN a b i i=true:=by simp[dN]
def lp(a b:List Int):List Int:=iG (fun k i=>it (dN a b) a.length k i) a.length
theorem II(a b R:List Int) (n:Nat) (hn:a.length=n) (h1:∀ i k,i<n->k<n->dN a b i k=true->R.getD i 0=R.getD k 0) (h2:∀ i,i<n->∃ j,j<n/\R.getD i 0=(j:Int)/\it (dN a b) n j i=true):iG (fun k i=>decide (R.getD k 0=R.getD i 0)) n=lp a b:=by
 unfold lp;rw[hn];refine oA fun i hi k hk=>?_
 have hs:=nq (oB a b);cases hw:it (dN a b) n k i with
 | true=>
  rw[decide_eq_true_eq]
  exact tU (q:=fun i k=>dN a b i k&&decide (i<n)&&decide (k<n)) (R:=fun i k=>R.getD i 0=R.getD k 0) (fun i k h=>by simp only[Bool.and_eq_true,decide_eq_true_eq]at h;exact h1 i k h.1.2 h.2 h.1.1) (fun i j k h h'=>h.trans h') n k i (by
   have key:∀ m x y,m<=n->x<n->y<n->it (dN a b) m x y=true->it (fun i k=>dN a b i k&&decide (i<n)&&decide (k<n)) m x y=true:=by
    intro m;induction m with
    | zero=>intro x y _ hx hy h;simp only[it,Bool.and_eq_true,decide_eq_true_eq]at h ⊢;exact⟨⟨h,hx⟩,hy⟩
    | succ m ih=>
     intro x y hm hx hy h;rw[it]at h ⊢;simp only[Bool.or_eq_true,Bool.and_eq_true]at h ⊢;rcases h with h|⟨h,h'⟩
     ·exact .inl (ih x y (by omega) hx hy h)
     ·exact .inr ⟨ih x m (by omega) hx (by omega) h,ih m y (by omega) (by omega) hy h'⟩
   exact key n k i (Nat.le_refl _) (by omega) hi hw)
 | false=>
  rw[decide_eq_false_iff_not];intro e;obtain⟨j,hj,e1,w1⟩:=h2 k (by omega);obtain⟨j',od,e2,w2⟩:=h2 i hi;have:j=j':=by omega
  subst this;rw[hs n j k]at w1;have:=gW _ n k j i hj w1 w2;rw[hw]at this;cases this
structure Par (n:Nat) (P:List Int):Prop where
 len:P.length=n
 le:∀ i,i<n->0<=P.getD i 0/\P.getD i 0<=i
def rootN(P:List Int) (i:Nat):Nat:=if (P.getD i 0).toNat<i then rootN P (P.getD i 0).toNat else i
termination_by i
theorem IJ(P:List Int) (i:Nat):rootN P i<=i:=by
 induction i using Nat.strongRecOn with
 | _ i ih=>
  rw[rootN];split
  ·rename_i h;have:=ih _ h;omega
  ·omega
theorem F3{n:Nat} {P:List Int} (h:Par n P) (i:Nat) (hi:i<n):P.getD (rootN P i) 0=rootN P i:=by
 induction i using Nat.strongRecOn with
 | _ i ih=>
  rw[rootN];split
  ·rename_i h1;exact ih _ h1 (by omega)
  ·have:=h.le i hi;omega
theorem oC{P:List Int} {i:Nat} (h:P.getD i 0=i):rootN P i=i:=by
 rw[rootN,if_neg (by omega)]
theorem nG{n:Nat} {P:List Int} (h:Par n P) (i:Nat) (hi:i<n):rootN P (P.getD i 0).toNat=rootN P i:=by
 by_cases e:(P.getD i 0).toNat<i
 ·rw[rootN.eq_1 P i,if_pos e]
 ·have h2:=h.le i hi;have:(P.getD i 0).toNat=i:=by omega
  rw[this]
theorem fO{α:Type} (l:List α) (i j:Nat) (x d:α) (hi:i<l.length):(l.set i x).getD j d=if j=i then x else l.getD j d:=by
 rw[List.getD_eq_getElem?_getD,List.getElem?_set,List.getD_eq_getElem?_getD];split
 ·rename_i e;subst e;simp
 ·rename_i e;rw[if_neg (Ne.symm e)]
theorem Pf{n:Nat} {P:List Int} (h:Par n P) (i:Nat) (hi:i<n):Par n (P.set i (P.getD (P.getD i 0).toNat 0))/\∀ j,j<n->rootN (P.set i (P.getD (P.getD i 0).toNat 0)) j=rootN P j:=by
 have hl:=h.len;have h1:=h.le i hi;have h2:=h.le (P.getD i 0).toNat (by omega);refine⟨⟨by simpa using hl,fun j hj=>?_⟩,fun j=>?_⟩
 ·rw[fO _ _ _ _ _ (by omega)];split
  ·rename_i e;subst e;omega
  ·exact h.le j hj
 ·induction j using Nat.strongRecOn with
  | _ j ih=>
   intro hj;rw[rootN.eq_1 _ j,fO _ _ _ _ _ (by omega)];by_cases e:j=i
   ·subst e;rw[if_pos rfl];split
    ·rename_i h3;rw[ih _ h3 (by omega)];have h4:=nG h (P.getD j 0).toNat (by omega);rw[h4,nG h j hj]
    ·have h5:(P.getD j 0).toNat=j:=by
      apply Classical.byContradiction;intro h5;have:=h.le (P.getD j 0).toNat (by omega);omega
     rw[oC (by omega)]
   ·rw[if_neg e];split
    ·rename_i h3;rw[ih _ h3 (by omega),nG h j hj]
    ·rw[rootN,if_neg (by assumption)]
theorem Pg{n:Nat} {P:List Int} (h:Par n P) (p q:Nat) (hp:p<n) (hq:q<n) (ep:P.getD p 0=p) (eq:P.getD q 0=q):Par n (P.set (max p q) (min p q:Nat))/\∀ j,j<n->rootN (P.set (max p q) (min p q:Nat)) j=if rootN P j=max p q then min p q else rootN P j:=by
 have hl:=h.len;refine⟨⟨by simpa using hl,fun j hj=>?_⟩,fun j=>?_⟩
 ·rw[fO _ _ _ _ _ (by omega)];split
  ·omega
  ·exact h.le j hj
 ·have em:P.getD (max p q) 0=(max p q:Nat):=by rcases Nat.le_total p q with h'|h'<;>simp only[Nat.max_eq_right h',Nat.max_eq_left h']<;>assumption
  have en:P.getD (min p q) 0=(min p q:Nat):=by rcases Nat.le_total p q with h'|h'<;>simp only[Nat.min_eq_right h',Nat.min_eq_left h']<;>assumption
  have jQ:min p q<=max p q:=by omega
  have RI:max p q<n:=by omega
  generalize max p q=hi at *;generalize min p q=lo at *;induction j using Nat.strongRecOn with
  | _ j ih=>
   intro hj;rw[rootN.eq_1 _ j,fO _ _ _ _ _ (by omega)];by_cases e:j=hi
   ·subst e;rw[if_pos rfl,oC em,if_pos rfl,Int.toNat_natCast];split
    ·rename_i h3;rw[ih lo h3 (by omega),oC en,if_neg (by omega)]
    ·omega
   ·rw[if_neg e];split
    ·rename_i h3;rw[ih _ h3 (by omega),nG h j hj]
    ·rename_i h3;have:rootN P j=j:=by rw[rootN,if_neg h3]
     rw[this,if_neg e]
def cJ(n:Nat) (L:Nat->Nat->Bool) (f:Nat):Nat->Nat->Int
 | 0,e=>if e=f then 0 else -1
 | d+1,e=>if 0<=cJ n L f d e then cJ n L f d e else if anyLt n (fun g=>decide (cJ n L f d g=d)&&L e g) then(d:Int)+1 else -1
section
variable {n : Nat} {L : Nat → Nat → Bool} {f : Nat}
theorem fV(d e:Nat):-1<=cJ n L f d e/\cJ n L f d e<=d:=by
 induction d with
 | zero=>unfold cJ;split<;>omega
 | succ d ih=>
  rw[cJ];split
  ·omega
  ·split<;>omega
theorem tV(d e:Nat) (h:0<=cJ n L f d e) (d':Nat) (hd:d<=d'):cJ n L f d' e=cJ n L f d e:=by
 induction d' with
 | zero=>have:d=0:=by omega
         subst this;rfl
 | succ d' ih=>
  by_cases e1:d=d'+1
  ·subst e1;rfl
  ·have h2:=ih (by omega);rw[cJ,h2,if_pos h]
theorem tW(d e d':Nat) (h:cJ n L f d e=(d':Int)) (hd:d'<=d):cJ n L f d' e=d':=by
 induction d with
 | zero=>have:d'=0:=by omega
         subst this;exact h
 | succ d ih=>
  by_cases e1:d'=d+1
  ·subst e1;exact h
  ·refine ih ?_ (by omega);rw[cJ]at h;split at h
   ·exact h
   ·split at h<;>omega
def E5(n:Nat) (D:Nat->Int):Nat:=((List.range n).filter fun e=>decide (0<=D e)).length
theorem F4{α:Type} (l:List α) (p q:α->Bool) (h:∀ x∈l,p x=true->q x=true) (y:α) (hy:y∈l) (h1:p y=false) (h2:q y=true):(l.filter p).length<(l.filter q).length:=by
 induction l with
 | nil=>cases hy
 | cons a r ih=>
  have jQ:(r.filter p).length<=(r.filter q).length:=by
   clear ih hy;have h':∀ x∈r,p x=true->q x=true:=fun x hx=>h x (by simp[hx])
   clear h;induction r with
   | nil=>simp
   | cons b s ih=>
    have:=ih (fun x hx=>h' x (by simp[hx]));have hb:=h' b (by simp);simp only[List.filter_cons];cases hp:p b with
    | true=>rw[hb hp];simp;omega
    | false=>cases q b<;>simp<;>omega
  rcases List.mem_cons.1 hy with rfl|hy
  ·simp only[List.filter_cons,h1,h2];simp;omega
  ·have:=ih (fun x hx=>h x (by simp[hx])) hy;have ha:=h a (by simp);simp only[List.filter_cons];cases hp:p a with
   | true=>rw[ha hp];simp;omega
   | false=>cases q a<;>simp<;>omega
theorem K5(hf:f<n) (d e:Nat) (he:e<n) (h:cJ n L f d e=d):d+1<=E5 n (cJ n L f d):=by
 induction d generalizing e with
 | zero=>
  unfold E5;have:f∈(List.range n).filter fun e=>decide (0<=cJ n L f 0 e):=by simp[hf,cJ]
  have:=List.length_pos_of_mem this;omega
 | succ d ih=>
  have h0:=h;rw[cJ]at h;split at h
  ·have:=fV (n:=n) (L:=L) (f:=f) d e;omega
  ·rename_i h1;split at h
   ·rename_i h2;obtain⟨g,hg,h3⟩:=(lD _ _).1 h2;simp only[Bool.and_eq_true,decide_eq_true_eq]at h3;have h4:=ih g hg h3.1
    have h5:E5 n (cJ n L f d)<E5 n (cJ n L f (d+1)):=by
     refine F4 _ _ _ (fun x _ hx=>?_) e (by simpa using he) (by simpa using h1) (by rw[h0];simp;omega);simp only[decide_eq_true_eq]at hx ⊢;rw[tV d x hx (d+1) (by omega)];exact hx
    omega
   ·omega
theorem IK(hf:f<n) (d e:Nat) (he:e<n) (h:cJ n L f d e=d):d<n:=by
 have h1:=K5 hf d e he h;have h2:E5 n (cJ n L f d)<=n:=by unfold E5;exact Nat.le_trans (List.length_filter_le _ _) (by simp)
 omega
end
structure Dist (n:Nat) (L:Nat->Nat->Bool) (f:Nat) (D:Nat->Int):Prop where
 zero:D f=0
 only:∀ e,e<n->D e=0->e=f
 low:∀ e,e<n->-1<=D e
 pred:∀ e,e<n->∀ d:Nat,D e=d+1->∃ g,g<n/\D g=d/\L e g=true
 next:∀ e g,e<n->g<n->0<=D g->L e g=true->0<=D e/\D e<=D g+1
theorem K6{n:Nat} {L:Nat->Nat->Bool} {f:Nat} {D E:Nat->Int} (h1:Dist n L f D) (h2:Dist n L f E):∀ e,e<n->D e=E e:=by
 have key:∀ d:Nat,∀ e,e<n->(D e=d↔E e=d):=by
  intro d;induction d using Nat.strongRecOn with
  | _ d ih=>
   have one:∀ {A B:Nat->Int},Dist n L f A->Dist n L f B->(∀ d',d'<d->∀ e,e<n->(A e=(d':Int)↔B e=d'))->∀ e,e<n->A e=d->B e=d:=by
    intro A B hA hB ih e he h
    match d,ih,h with
    | 0,_,h=>rw[hA.only e he h];exact hB.zero
    | k+1,ih,h=>
     obtain⟨g,hg,e1,e2⟩:=hA.pred e he k (by omega);have e3:=(ih k (by omega) g hg).1 e1;obtain⟨e4,e5⟩:=hB.next e g he hg (by omega) e2;by_cases e6:B e=((k+1:Nat):Int)
     ·exact e6
     ·have e7:=(ih (B e).toNat (by omega) e he).2 (by omega);omega
   exact fun e he=>⟨one h1 h2 ih e he,one h2 h1 (fun d' hd e he=>(ih d' hd e he).symm) e he⟩
 intro e he;have a:=h1.low e he;have b:=h2.low e he;by_cases h:0<=D e
 ·have:=(key (D e).toNat e he).1 (by omega);omega
 ·by_cases h':0<=E e
  ·have:=(key (E e).toNat e he).2 (by omega);omega
  ·omega
theorem Ph{n:Nat} {L:Nat->Nat->Bool} {f:Nat} (hf:f<n):Dist n L f (cJ n L f n) where
 zero:=by rw[tV 0 f (by simp[cJ]) n (by omega)];simp[cJ]
 only:=fun e he h=>by
  have:=tW n e 0 h (by omega);unfold cJ at this;split at this
  ·assumption
  ·omega
 low:=fun e _=>(fV n e).1
 pred:=fun e he d h=>by
  have hr:=fV (n:=n) (L:=L) (f:=f) n e;have h1:=tW n e (d+1) (by rw[h];rfl) (by omega);rw[cJ]at h1;split at h1
  ·have:=fV (n:=n) (L:=L) (f:=f) d e;omega
  ·split at h1
   ·rename_i h2;obtain⟨g,hg,h3⟩:=(lD _ _).1 h2;simp only[Bool.and_eq_true,decide_eq_true_eq]at h3;exact⟨g,hg,by rw[tV d g (by omega) n (by omega)];exact h3.1,h3.2⟩
   ·omega
 next:=fun e g he hg h0 hl=>by
  have hr:=fV (n:=n) (L:=L) (f:=f) n g;obtain⟨d,hd⟩:∃ d:Nat,cJ n L f n g=d:=⟨(cJ n L f n g).toNat,by omega⟩;have h1:=tW n g d hd (by omega);have h2:=IK hf d g hg h1
  have h3:0<=cJ n L f (d+1) e/\cJ n L f (d+1) e<=d+1:=by
   refine⟨?_,(fV (d+1) e).2⟩;rw[cJ];split
   ·assumption
   ·rw[if_pos ((lD _ _).2 ⟨g,hg,by simp[h1,hl]⟩)];omega
  rw[tV (d+1) e h3.1 n (by omega),hd];exact h3
def M4(n:Nat) (L:Nat->Nat->Bool) (f:Nat):List Int:=(List.range n).map (cJ n L f n)
theorem IL{α:Type} {R:α->α->Prop} {l:List α} (h:∀ a∈l,∀ b∈l,R a b):l.Pairwise R:=by
 rw[List.pairwise_iff_getElem];intro i j hi hj _;exact h _ (List.getElem_mem hi) _ (List.getElem_mem hj)
structure Bfs (n:Nat) (L:Nat->Nat->Bool) (f:Nat) (D:Nat->Int) (Q:List Nat):Prop where
 zero:D f=0
 only:∀ e,e<n->D e=0->e=f
 low:∀ e,e<n->-1<=D e
 pred:∀ e,e<n->∀ d:Nat,D e=d+1->∃ g,g<n/\D g=d/\L e g=true
 ok:∀ q∈Q,q<n/\0<=D q
 done:∀ e g,e<n->g<n->0<=D g->g∉Q->L e g=true->0<=D e/\D e<=D g+1
 asc:Q.Pairwise fun a b=>D a<=D b
 near:∀ h r,Q=h :: r->∀ e,e<n->D e<=D h+1
theorem Bfs.start{n:Nat} {L:Nat->Nat->Bool} {f:Nat} (hf:f<n):Bfs n L f (cJ n L f 0) [f] where
 zero:=by simp[cJ]
 only:=fun e he h=>by unfold cJ at h;split at h<;>first|assumption|omega
 low:=fun e _=>(fV 0 e).1
 pred:=fun e he d h=>by have:=(fV (n:=n) (L:=L) (f:=f) 0 e).2;omega
 ok:=fun q hq=>by rw[List.mem_singleton]at hq;subst hq;exact⟨hf,by simp[cJ]⟩
 done:=fun e g he hg h0 hn=>by
  unfold cJ at h0;split at h0
  ·rename_i e1;subst e1;simp at hn
  ·omega
 asc:=List.pairwise_singleton _ _
 near:=fun h r e1 e he=>by
  have:=(fV (n:=n) (L:=L) (f:=f) 0 e).2;injection e1 with e1 _
  subst e1;simp[cJ];unfold cJ at this;split<;>omega
theorem Bfs.dist{n:Nat} {L:Nat->Nat->Bool} {f:Nat} {D:Nat->Int} (h:Bfs n L f D []):Dist n L f D:=
 ⟨h.zero,h.only,h.low,h.pred,fun e g he hg h0 hl=>h.done e g he hg h0 (by simp) hl⟩
def jr(L:Nat->Nat->Bool) (D:Nat->Int) (h k e:Nat):Int:=if e<k/\D e<0/\L h e=true then D h+1 else D e
def vG(L:Nat->Nat->Bool) (D:Nat->Int) (h k:Nat):List Nat:=(List.range k).filter fun e=>decide (D e<0)&&L h e
theorem Bfs.step{n:Nat} {L:Nat->Nat->Bool} (hs:∀ e g,L e g=L g e) {f:Nat} {D:Nat->Int} {h:Nat} {r:List Nat} (b:Bfs n L f D (h :: r)):Bfs n L f (jr L D h n) (r++vG L D h n):=by
 obtain⟨hh,h0⟩:=b.ok h (by simp);have rx:∀ e,0<=D e->jr L D h n e=D e:=fun e he=>by unfold jr;rw[if_neg (by omega)]
 have FM:∀ e,e<n->D e<0->L h e=true->jr L D h n e=D h+1:=fun e he h1 h2=>by unfold jr;rw[if_pos ⟨he,h1,h2⟩]
 have gL:∀ e,D e<0->¬ (e<n/\L h e=true)->jr L D h n e=D e:=fun e h1 h2=>by unfold jr;rw[if_neg (fun h=>h2 ⟨h.1,h.2.2⟩)]
 have fY:∀ e,(jr L D h n e=D e)\/(e<n/\D e<0/\L h e=true/\jr L D h n e=D h+1):=fun e=>by
  unfold jr;split
  ·rename_i h1;exact .inr ⟨h1.1,h1.2.1,h1.2.2,rfl⟩
  ·exact .inl rfl
 have hq:∀ e,e∈vG L D h n↔e<n/\D e<0/\L h e=true:=fun e=>by simp[vG]
 have OT:=b.asc;rw[List.pairwise_cons]at OT;refine⟨by rw[rx f (by rw[b.zero];omega)];exact b.zero,fun e he h1=>?_,fun e he=>?_,fun e he d h1=>?_,fun q GX=>?_,fun e g he hg h1 h2 h3=>?_,?_,fun h' r' e1 e he=>?_⟩
 ·rcases fY e with h2|⟨_,_,_,h2⟩
  ·exact b.only e he (by omega)
  ·omega
 ·have:=b.low e he;rcases fY e with h2|⟨_,_,_,h2⟩<;>omega
 ·rcases fY e with h2|⟨_,h3,h4,h2⟩
  ·obtain⟨g,hg,h5,h6⟩:=b.pred e he d (by omega);exact⟨g,hg,by rw[rx g (by omega)];exact h5,h6⟩
  ·exact⟨h,hh,by rw[rx h h0];omega,by rw[hs];exact h4⟩
 ·rcases List.mem_append.1 GX with GX|GX
  ·obtain⟨h1,h2⟩:=b.ok q (by simp[GX]);exact⟨h1,by rw[rx q h2];exact h2⟩
  ·obtain⟨h1,h2,h3⟩:=(hq q).1 GX;exact⟨h1,by rw[FM q h1 h2 h3];omega⟩
 ·rw[List.mem_append,not_or]at h2;rcases fY g with h4|⟨h5,h6,h7,h4⟩
  ·by_cases e1:g=h
   ·subst e1;by_cases h5:0<=D e
    ·rw[rx e h5,h4];exact⟨h5,b.near g r rfl e he⟩
    ·rw[FM e he (by omega) (by rw[hs];exact h3),h4];omega
   ·have h5:0<=D g:=by omega
    obtain⟨h6,h7⟩:=b.done e g he hg h5 (by simp[e1,h2.1]) h3;rw[rx e h6,h4];exact⟨h6,h7⟩
  ·exact absurd ((hq g).2 ⟨h5,h6,h7⟩) h2.2
 ·rw[List.pairwise_append];refine⟨?_,?_,fun a ha c hc=>?_⟩
  ·exact OT.2.imp_of_mem fun {a c} ha hc hac=>by rw[rx a (b.ok a (by simp[ha])).2,rx c (b.ok c (by simp[hc])).2];exact hac
  ·refine IL fun a ha c hc=>?_
   obtain⟨a1,a2,a3⟩:=(hq a).1 ha;obtain⟨c1,c2,c3⟩:=(hq c).1 hc;rw[FM a a1 a2 a3,FM c c1 c2 c3];omega
  ·obtain⟨c1,c2,c3⟩:=(hq c).1 hc;rw[rx a (b.ok a (by simp[ha])).2,FM c c1 c2 c3];exact b.near h r rfl a (b.ok a (by simp[ha])).1
 ·have h2:D h<=jr L D h n h':=by
   have hm:h'∈r++vG L D h n:=by rw[e1];simp
   rcases List.mem_append.1 hm with hm|hm
   ·rw[rx h' (b.ok h' (by simp[hm])).2];exact OT.1 h' hm
   ·obtain⟨c1,c2,c3⟩:=(hq h').1 hm;rw[FM h' c1 c2 c3];omega
  have h3:=b.near h r rfl e he;rcases fY e with h4|⟨_,_,_,h4⟩<;>omega
theorem IM{α:Type} (l:List α) (p q:α->Bool):(l.filter fun x=>p x&&q x).length+(l.filter fun x=>p x&&!q x).length=(l.filter p).length:=by
 induction l with
 | nil=>rfl
 | cons a r ih=>simp only[List.filter_cons];cases p a<;>cases q a<;>simp<;>omega
theorem K7{n:Nat} (L:Nat->Nat->Bool) (D:Nat->Int) (h:Nat) (h0:0<=D h) (r:List Nat):(r++vG L D h n).length+((List.range n).filter fun e=>decide (jr L D h n e<0)).length<(h :: r).length+((List.range n).filter fun e=>decide (D e<0)).length:=by
 have h1:=IM (List.range n) (fun e=>decide (D e<0)) (fun e=>L h e)
 have h2:((List.range n).filter fun e=>decide (jr L D h n e<0))=(List.range n).filter fun e=>decide (D e<0)&&!L h e:=by
  refine List.filter_congr fun e he=>?_
  have he:=List.mem_range.1 he;unfold jr;by_cases hd:D e<0
  ·cases hl:L h e with
   | true=>rw[if_pos ⟨he,hd,rfl⟩,decide_eq_true hd,decide_eq_false (by omega)];rfl
   | false=>rw[if_neg (by rintro⟨_,_,h⟩;cases h),decide_eq_true hd];rfl
  ·rw[if_neg (fun h=>hd h.2.1),decide_eq_false hd];rfl
 rw[h2];have h3:(vG L D h n)=(List.range n).filter fun e=>decide (D e<0)&&L h e:=rfl
 rw[List.length_append,h3,List.length_cons];omega
def sv(R:Nat->Nat->Bool) (e:Nat):Int:=if firstIx e (R e)<0 then e else firstIx e (R e)
theorem xg(R:Nat->Nat->Bool) (e:Nat):(sv R e=e/\∀ f,f<e->R e f=false)\/∃ k,k<e/\sv R e=k/\R e k=true/\∀ f,f<k->R e f=false:=by
 unfold sv;rcases bE e (R e) with ⟨h,h1⟩|⟨k,hk,h,h1,h2⟩
 ·rw[h,if_pos (by omega)];exact .inl ⟨rfl,h1⟩
 ·rw[h,if_neg (by omega)];exact .inr ⟨k,hk,rfl,h1,h2⟩
theorem Wn{R:Nat->Nat->Bool} (hs:∀ a b,R a b=R b a) (ht:∀ a b c,R a b=true->R b c=true->R a c=true) (i k:Nat) (hk:k<i):decide (sv R k=sv R i)=R k i:=by
 rcases xg R i with ⟨e1,h1⟩|⟨a,ha,e1,h1,h2⟩<;>rcases xg R k with ⟨e2,h3⟩|⟨b,hb,e2,h3,h4⟩
 ·rw[e1,e2,decide_eq_false (by omega),hs,h1 k hk]
 ·rw[e1,e2,decide_eq_false (by omega),hs,h1 k hk]
 ·rw[e1,e2];cases hr:R k i with
  | true=>
   rw[decide_eq_true_eq];rcases Nat.lt_trichotomy k a with h|h|h
   ·rw[hs,h2 k h]at hr;cases hr
   ·rw[h]
   ·have:=h3 a h;rw[ht k i a hr h1]at this;cases this
  | false=>
   rw[decide_eq_false_iff_not];intro e;have:k=a:=by omega
   subst this;rw[hs,h1]at hr;cases hr
 ·rw[e1,e2];cases hr:R k i with
  | true=>
   rw[decide_eq_true_eq];rcases Nat.lt_trichotomy a b with h|h|h
   ·have:=h4 a h;rw[ht k i a hr h1]at this;cases this
   ·rw[h]
   ·have:=h2 b h;rw[ht i k b (by rw[hs];exact hr) h3]at this;cases this
  | false=>
   rw[decide_eq_false_iff_not];intro e;have:b=a:=by omega
   subst this;rw[ht k b i h3 (by rw[hs];exact h1)]at hr;cases hr
def lG(keys:List Int):List Int:=iG (fun k i=>decide (keys.getD k 0=keys.getD i 0)) keys.length
theorem IN(f:Nat->Int) (n:Nat):lG ((List.range n).map f)=iG (fun k i=>decide (f k=f i)) n:=by
 unfold lG;rw[List.length_map,List.length_range];refine oA fun i hi k hk=>?_
 have e:∀ j,j<n->((List.range n).map f).getD j 0=f j:=fun j hj=>by simp[hj]
 rw[e i hi,e k (by omega)]
def mD(l:List Int):Prop:=∃ N:Nat->Int,N 0=0/\∀ i,i<l.length->0<=l.getD i 0/\l.getD i 0<=N i/\N (i+1)=if l.getD i 0=N i then N i+1 else N i
theorem sw(q:Nat->Nat->Bool) (n i:Nat) (hi:i<n):(iG q n).getD i 0=(br q (i+1)).1.getD i 0:=by
 unfold iG;obtain⟨m,rfl⟩:∃ m,n=i+1+m:=⟨n - (i+1),by omega⟩;clear hi;induction m with
 | zero=>rfl
 | succ m ih=>rw[<-ih];exact tP q (i+1+m) i (by omega)
theorem rX(q:Nat->Nat->Bool) (i:Nat):(firstIx i (fun k=>q k i)=-1/\(br q (i+1)).1.getD i 0=(br q i).2/\(br q (i+1)).2=(br q i).2+1)\/∃ k,k<i/\firstIx i (fun k=>q k i)=k/\(br q (i+1)).1.getD i 0=(br q i).1.getD k 0/\(br q (i+1)).2=(br q i).2/\(br q i).1.getD k 0<(br q i).2/\0<=(br q i).1.getD k 0:=by
 have hl:=km q i;have hn:=j8 q i;rcases bE i (fun k=>q k i) with ⟨e,_⟩|⟨k,hk,e,_,_⟩
 ·refine .inl ⟨e,?_,?_⟩
  ·rw[br];rw[e,if_pos (by omega),List.getD_eq_getElem?_getD,List.getElem?_append_right (by omega),hl];simp
  ·rw[br];rw[e,if_pos (by omega)]
 ·refine .inr ⟨k,hk,e,?_,?_,?_⟩
  ·rw[br];rw[e,if_neg (by omega),List.getD_eq_getElem?_getD,List.getElem?_append_right (by omega),hl];simp
  ·rw[br];rw[e,if_neg (by omega)]
  ·have:=hn.2.2 ((br q i).1[k]'(by omega)) (List.getElem_mem _);rw[show (br q i).1.getD k 0=(br q i).1[k]'(by omega) by simp[hl,hk]];omega
theorem qk(q:Nat->Nat->Bool) (n:Nat):mD (iG q n):=by
 refine⟨fun i=>(br q i).2,rfl,fun i hi=>?_⟩;rw[qj]at hi;rw[sw q n i hi];have hn:=j8 q i;dsimp only;rcases rX q i with ⟨_,e1,e2⟩|⟨k,_,_,e1,e2,e3,e4⟩
 ·rw[e1,e2,if_pos rfl];exact⟨hn.1,Int.le_refl _,rfl⟩
 ·rw[e1,e2,if_neg (by omega)];exact⟨e4,by omega,rfl⟩
theorem xh{l:List Int} (h:mD l) (i:Nat) (hi:i<l.length) (x:Int) (h0:0<=x) (hx:x<l.getD i 0):∃ j,j<i/\l.getD j 0=x:=by
 obtain⟨N,hN,hs⟩:=h
 have key:∀ m,m<=l.length->0<=N m/\∀ x:Int,0<=x->x<N m->∃ j,j<m/\l.getD j 0=x:=by
  intro m;induction m with
  | zero=>intro _;exact⟨by omega,fun x h0 hx=>by omega⟩
  | succ m ih=>
   intro hm;obtain⟨a1,a2⟩:=ih (by omega);obtain⟨b1,b2,b3⟩:=hs m (by omega);split at b3
   ·rename_i b4;refine⟨by omega,fun x h0 hx=>?_⟩;by_cases e:x=N m
    ·exact⟨m,by omega,by rw[b4,e]⟩
    ·obtain⟨j,hj,ej⟩:=a2 x h0 (by omega);exact⟨j,by omega,ej⟩
   ·refine⟨by omega,fun x h0 hx=>?_⟩;obtain⟨j,hj,ej⟩:=a2 x h0 (by omega);exact⟨j,by omega,ej⟩
 obtain⟨b1,b2,_⟩:=hs i hi;exact(key i (by omega)).2 x h0 (by omega)
theorem mE{l:List Int} (h:mD l) (i:Nat) (hi:i<l.length):0<=l.getD i 0/\l.getD i 0<=i:=by
 obtain⟨N,hN,hs⟩:=h
 have key:∀ m,m<=l.length->N m<=m:=by
  intro m;induction m with
  | zero=>intro _;omega
  | succ m ih=>
   intro hm;have a:=ih (by omega);obtain⟨b1,b2,b3⟩:=hs m (by omega);split at b3<;>omega
 obtain⟨b1,b2,_⟩:=hs i hi;have:=key i (by omega);exact⟨b1,by omega⟩
theorem F5{q:Nat->Nat->Bool} (hr:∀ a,q a a=true) (hs:∀ a b,q a b=q b a) (n:Nat) (ht:∀ a b c,a<n->b<n->c<n->q a b=true->q b c=true->q a c=true) (i k:Nat) (hi:i<n) (hk:k<n):(iG q n).getD i 0=(iG q n).getD k 0↔q i k=true:=by
 have key:∀ m,m<=n->∀ i k,i<m->k<m->((br q m).1.getD i 0=(br q m).1.getD k 0↔q i k=true):=by
  intro m;induction m with
  | zero=>intro _ i k h;omega
  | succ m ih=>
   intro hm;have ih:=ih (by omega);have hl:=km q m;have hn:=j8 q m
   have one:∀ i,i<m->((br q (m+1)).1.getD i 0=(br q (m+1)).1.getD m 0↔q i m=true):=fun i hi=>by
    rw[tP q m i hi];rcases rX q m with ⟨e,e1,_⟩|⟨k,hk,e,e1,_⟩
    ·rw[e1];have aB:=(hn.2.2 ((br q m).1[i]'(by omega)) (List.getElem_mem _)).2;rw[show (br q m).1.getD i 0=(br q m).1[i]'(by omega) by simp[hl,hi]]
     have gL:q i m=false:=by
      rcases bE m (fun k=>q k m) with ⟨_,h⟩|⟨k,hk,e',_⟩
      ·exact h i hi
      ·omega
     rw[gL];simp;omega
    ·rw[e1]
     have BX:q k m=true:=by
      rcases bE m (fun k=>q k m) with ⟨e',_⟩|⟨k',rM,e',h,_⟩
      ·omega
      ·rw[show k=k' by omega];exact h
     rw[ih i k hi hk];exact⟨fun h=>ht i k m (by omega) (by omega) (by omega) h BX,fun h=>ht i m k (by omega) (by omega) (by omega) h (by rw[hs];exact BX)⟩
   intro i k hi hk;by_cases e1:i=m
   ·by_cases e2:k=m
    ·rw[e1,e2,hr];simp
    ·rw[e1,hs,<-one k (by omega)];exact eq_comm
   ·by_cases e2:k=m
    ·rw[e2];exact one i (by omega)
    ·rw[tP q m i (by omega),tP q m k (by omega)];exact ih i k (by omega) (by omega)
 exact key n (Nat.le_refl _) i k hi hk
def dJ(key f:Nat->Int) (k:Nat) (x:Int):Option Int:=if firstIx k (fun j=>decide (key j=x))<0 then none else some (f (firstIx k fun j=>decide (key j=x)).toNat)
theorem Df{key f:Nat->Int} {k:Nat} {x:Int}:dJ key f k x=none↔∀ j,j<k->key j≠x:=by
 unfold dJ;rcases bE k (fun j=>decide (key j=x)) with ⟨e,h⟩|⟨j,hj,e,h,_⟩
 ·rw[e,if_pos (by omega)];exact⟨fun _ j hj e=>(by have:=h j hj;rw[decide_eq_true e]at this;cases this),fun _=>rfl⟩
 ·rw[e,if_neg (by omega)];exact⟨fun h=>(by cases h),fun h'=>absurd (of_decide_eq_true h) (h' j hj)⟩
theorem rY{key f:Nat->Int} {k:Nat} {x y:Int} (h:dJ key f k x=some y):∃ j,j<k/\firstIx k (fun j=>decide (key j=x))=j/\key j=x/\f j=y:=by
 unfold dJ at h;rcases bE k (fun j=>decide (key j=x)) with ⟨e,_⟩|⟨j,hj,e,h1,_⟩
 ·rw[e,if_pos (by omega)]at h;cases h
 ·rw[e,if_neg (by omega),Int.toNat_natCast]at h;exact⟨j,hj,e,of_decide_eq_true h1,dp h⟩
theorem zj{key f:Nat->Int} {k:Nat} (h:dJ key f k (key k)=none) (y:Int):dJ key f (k+1) y=if y=key k then some (f k) else dJ key f k y:=by
 have h:=Df.1 h;by_cases e:y=key k
 ·rw[if_pos e];unfold dJ;rw[dk (k+1) k _ (by omega) (fun j hj=>by rw[decide_eq_false];rw[e];exact h j hj) (by rw[decide_eq_true e.symm]),if_neg (by omega),Int.toNat_natCast]
 ·rw[if_neg e];unfold dJ;rcases bE k (fun j=>decide (key j=y)) with ⟨e1,h1⟩|⟨j,hj,e1,h1,h2⟩
  ·rw[e1,dM (k+1) _ (fun j hj=>by by_cases ej:j=k;(subst ej;exact decide_eq_false fun e'=>e e'.symm);exact h1 j (by omega))]
  ·rw[e1,dk (k+1) j _ (by omega) h2 h1]
theorem zk{key f:Nat->Int} {k:Nat} {z:Int} (h:dJ key f k (key k)=some z) (y:Int):dJ key f (k+1) y=dJ key f k y:=by
 obtain⟨i,hi,ei,e2,_⟩:=rY h;unfold dJ;rcases bE k (fun j=>decide (key j=y)) with ⟨e1,h1⟩|⟨j,hj,e1,h1,h2⟩
 ·rw[e1,dM (k+1) _ (fun j hj=>by
   by_cases ej:j=k
   ·subst ej;have:=h1 i hi;rw[e2]at this;exact this
   ·exact h1 j (by omega))]
 ·rw[e1,dk (k+1) j _ (by omega) h2 h1]
theorem IO{q:Nat->Nat->Bool} {n k:Nat} (hk:k<n) (h:firstIx k (fun j=>q j k)<0):(iG q n).getD k 0=(br q k).2/\(br q (k+1)).2=(br q k).2+1:=by
 rw[sw q n k hk];rcases rX q k with ⟨_,e1,e2⟩|⟨j,_,e,_⟩
 ·exact⟨e1,e2⟩
 ·omega
theorem IP{q:Nat->Nat->Bool} {n k j:Nat} (hk:k<n) (h:firstIx k (fun j=>q j k)=j):(iG q n).getD k 0=(iG q n).getD j 0/\(br q (k+1)).2=(br q k).2:=by
 rcases rX q k with ⟨e,_⟩|⟨i,hi,e,e1,e2,_⟩
 ·omega
 ·obtain rfl:i=j:=by omega
  refine⟨?_,e2⟩;rw[sw q n k hk,e1,sw q n i (by omega)];have:=sw q k i hi;unfold iG at this;rw[this]
theorem IQ(a b:List Int) (m i:Nat):it (dN a b) m i i=true:=su _ m i i (De a b i)
structure Uni (a b:List Int) (n:Nat) (P:List Int):Prop where
 par:Par n P
 wr:∀ i,i<n->it (dN a b) n (rootN P i) i=true
theorem sy{P:List Int} {i n:Nat} (h:i<n):rootN P i<n:=Nat.lt_of_le_of_lt (IJ P i) h
theorem Uni.start(a b:List Int) (n:Nat):Uni a b n ((List.range n).map fun i:Nat=>(i:Int)):=by
 have h:∀ i,i<n->((List.range n).map fun i:Nat=>(i:Int)).getD i 0=i:=fun i hi=>by simp[hi]
 refine⟨⟨by simp,fun i hi=>by rw[h i hi];omega⟩,fun i hi=>?_⟩;rw[oC (h i hi)];exact IQ a b n i
theorem Uni.union{a b:List Int} {n:Nat} {P:List Int} (h:Uni a b n P) (i k:Nat) (hi:i<n) (hk:k<n) (hj:dN a b i k=true):Uni a b n (P.set (max (rootN P i) (rootN P k)) (min (rootN P i) (rootN P k):Nat))/\∀ j,j<n->rootN (P.set (max (rootN P i) (rootN P k)) (min (rootN P i) (rootN P k):Nat)) j=if rootN P j=max (rootN P i) (rootN P k) then min (rootN P i) (rootN P k) else rootN P j:=by
 have hp:=sy (P:=P) hi;have hq:=sy (P:=P) hk;obtain⟨h1,h2⟩:=Pg h.par _ _ hp hq (F3 h.par i hi) (F3 h.par k hk);refine⟨⟨h1,fun j od=>?_⟩,h2⟩;have hs:=nq (oB a b);have jc:=h.wr i hi;have AI:=h.wr k hk;have kY:=su (dN a b) n i k hj;have Mf:it (dN a b) n (rootN P i) (rootN P k)=true:=gW _ n _ i _ hi jc (gW _ n _ k _ hk kY (by rw[hs];exact AI));rw[h2 j od];split
 ·rename_i e;have hw:=h.wr j od;rw[e]at hw;rcases Nat.le_total (rootN P i) (rootN P k) with jQ|jQ
  ·rw[Nat.min_eq_left jQ];rw[Nat.max_eq_right jQ]at hw;exact gW _ n _ _ _ hq Mf hw
  ·rw[Nat.min_eq_right jQ];rw[Nat.max_eq_left jQ]at hw;exact gW _ n _ _ _ hp (by rw[hs];exact Mf) hw
 ·exact h.wr j od
def jw(n:Nat) (P P':List Int):Prop:=∀ i k,i<n->k<n->rootN P i=rootN P k->rootN P' i=rootN P' k
theorem jw.refl(n:Nat) (P:List Int):jw n P P:=fun _ _ _ _ h=>h
theorem jw.trans{n:Nat} {P Q R:List Int} (h:jw n P Q) (k:jw n Q R):jw n P R:=fun i j hi hj e=>k i j hi hj (h i j hi hj e)
theorem K8{n:Nat} {P Q:List Int} (h:∀ j,j<n->rootN Q j=rootN P j):jw n P Q:=fun i k hi hk e=>by rw[h i hi,h k hk];exact e
theorem K9{n:Nat} {P Q:List Int} {x y:Nat} (h:∀ j,j<n->rootN Q j=if rootN P j=x then y else rootN P j):jw n P Q:=fun i k hi hk e=>by rw[h i hi,h k hk,e]
def fP(l:List Int) (n m:Nat) (P:List Int):Prop:=∀ i k,i<n->k<n->i<m->k<m->l.getD i 0=l.getD k 0->rootN P i=rootN P k
theorem fP.keep{l:List Int} {n m:Nat} {P Q:List Int} (h:fP l n m P) (k:jw n P Q):fP l n m Q:=fun i j hi hj h1 h2 e=>k i j hi hj (h i j hi hj h1 h2 e)
theorem fP.join{l:List Int} {n m k:Nat} {P Q:List Int} (h:fP l n m P) (hm:m<n) (hk:k<m) (e:l.getD k 0=l.getD m 0) (hq:jw n P Q) (hr:rootN Q m=rootN Q k):fP l n (m+1) Q:=by
 have h':=h.keep hq;intro i j hi hj h1 h2 e1;by_cases ei:i=m
 ·by_cases ej:j=m
  ·rw[ei,ej]
  ·rw[ei,hr];exact h' k j (by omega) hj hk (by omega) (by rw[e,<-ei,e1])
 ·by_cases ej:j=m
  ·rw[ej,hr];exact h' i k hi (by omega) (by omega) hk (by rw[e,<-ej,e1])
  ·exact h' i j hi hj (by omega) (by omega) e1
theorem fP.fresh{l:List Int} {n m:Nat} {P:List Int} (h:fP l n m P) (hn:∀ k,k<m->l.getD k 0≠l.getD m 0):fP l n (m+1) P:=by
 intro i j hi hj h1 h2 e1;by_cases ei:i=m
 ·by_cases ej:j=m
  ·rw[ei,ej]
  ·exact absurd (by rw[<-e1,ei]) (hn j (by omega))
 ·by_cases ej:j=m
  ·exact absurd (by rw[e1,ej]) (hn i (by omega))
  ·exact h i j hi hj (by omega) (by omega) e1
theorem Sj{a b:List Int} {n:Nat} {P:List Int} (ha:a.length=n) (h:Uni a b n P) (h1:fP a n n P) (h2:fP b n n P):lG ((List.range n).map fun i=>(rootN P i:Int))=lp a b:=by
 rw[IN];have he:∀ j,j<n->((List.range n).map fun i=>(rootN P i:Int)).getD j 0=rootN P j:=fun j hj=>by simp[hj]
 rw[<-II a b ((List.range n).map fun i=>(rootN P i:Int)) n ha]
 ·refine oA fun i hi k hk=>?_
  rw[he i hi,he k (by omega)]
 ·intro i k hi hk hq;rw[he i hi,he k hk];unfold dN at hq;simp only[Bool.or_eq_true,decide_eq_true_eq]at hq;rcases hq with e|e
  ·rw[h1 i k hi hk hi hk e]
  ·rw[h2 i k hi hk hi hk e]
 ·intro i hi;exact⟨rootN P i,sy hi,he i hi,h.wr i hi⟩
structure Glu (a b:List Int) (n:Nat) (O:List Int):Prop where
 len:O.length=n
 le:∀ i,i<n->0<=O.getD i 0/\O.getD i 0<=i
 wr:∀ i,i<n->it (dN a b) n (O.getD i 0).toNat i=true
theorem Glu.start(a b:List Int) (n:Nat):Glu a b n ((List.range n).map fun i:Nat=>(i:Int)):=by
 have h:∀ i,i<n->((List.range n).map fun i:Nat=>(i:Int)).getD i 0=i:=fun i hi=>by simp[hi]
 refine⟨by simp,fun i hi=>by rw[h i hi];omega,fun i hi=>?_⟩;rw[h i hi,Int.toNat_natCast];exact IQ a b n i
def l6(O:List Int) (i k:Nat):List Int:=(O.set i (min (O.getD i 0) (O.getD k 0))).set k (min (O.getD i 0) (O.getD k 0))
theorem F6(O:List Int) (i k j:Nat) (hi:i<O.length) (hk:k<O.length):(l6 O i k).getD j 0=if j=k\/j=i then min (O.getD i 0) (O.getD k 0) else O.getD j 0:=by
 unfold l6;rw[fO _ _ _ _ _ (by simpa using hk)];by_cases e:j=k
 ·rw[if_pos e,if_pos (.inl e)]
 ·rw[if_neg e,fO _ _ _ _ _ hi];by_cases e2:j=i
  ·rw[if_pos e2,if_pos (.inr e2)]
  ·rw[if_neg e2,if_neg (by omega)]
theorem Glu.step{a b:List Int} {n:Nat} {O:List Int} (h:Glu a b n O) (i k:Nat) (hi:i<n) (hk:k<i) (hj:dN a b i k=true):Glu a b n (l6 O i k):=by
 have hl:=h.len;have hs:=nq (oB a b);have a1:=h.le i hi;have a2:=h.le k (by omega);have w1:=h.wr i hi;have w2:=h.wr k (by omega);have kY:=su (dN a b) n i k hj
 have wi:it (dN a b) n (min (O.getD i 0) (O.getD k 0)).toNat i=true:=by
  rcases Int.le_total (O.getD i 0) (O.getD k 0) with jQ|jQ
  ·rw[Int.min_eq_left jQ];exact w1
  ·rw[Int.min_eq_right jQ];exact gW _ n _ k _ (by omega) w2 (by rw[hs];exact kY)
 have wk:it (dN a b) n (min (O.getD i 0) (O.getD k 0)).toNat k=true:=gW _ n _ i _ hi wi kY;refine⟨by simp[l6,hl],fun j od=>?_,fun j od=>?_⟩
 ·rw[F6 _ _ _ _ (by omega) (by omega)];split
  ·omega
  ·exact h.le j od
 ·rw[F6 _ _ _ _ (by omega) (by omega)];split
  ·rename_i e;rcases e with rfl|rfl
   ·exact wk
   ·exact wi
  ·exact h.wr j od
def vH(O:List Int):Nat:=(O.map Int.toNat).sum
theorem Dg(O:List Int) (i:Nat) (hi:i<O.length) (x:Int):vH (O.set i x)+(O.getD i 0).toNat=vH O+x.toNat:=by
 induction O generalizing i with
 | nil=>simp at hi
 | cons y r ih=>
  cases i with
  | zero=>simp[vH];omega
  | succ i=>
   have h:=ih i (by simpa using hi);simp only[vH,List.set_cons_succ,List.map_cons,List.sum_cons,List.getD_cons_succ]at h ⊢;omega
theorem Pi{a b:List Int} {n:Nat} {O:List Int} (h:Glu a b n O) (i k:Nat) (hi:i<n) (hk:k<i) (bM:O.getD i 0≠O.getD k 0):vH (l6 O i k)<vH O:=by
 have hl:=h.len;have a1:=h.le i hi;have a2:=h.le k (by omega);have s1:=Dg O i (by omega) (min (O.getD i 0) (O.getD k 0));have s2:=Dg (O.set i (min (O.getD i 0) (O.getD k 0))) k (by simp;omega) (min (O.getD i 0) (O.getD k 0));rw[fO _ _ _ _ _ (by omega),if_neg (by omega)]at s2;unfold l6;omega
theorem Sk{a b:List Int} {n:Nat} {O:List Int} (ha:a.length=n) (h:Glu a b n O) (hd:∀ i k,i<n->k<i->dN a b i k=true->O.getD i 0=O.getD k 0):lG O=lp a b:=by
 unfold lG;rw[h.len];refine II a b O n ha (fun i k hi hk hq=>?_) fun i hi=>?_
 ·rcases Nat.lt_trichotomy i k with e|e|e
  ·exact(hd k i hk e (by rw[oB];exact hq)).symm
  ·rw[e]
  ·exact hd i k hi e hq
 ·have:=h.le i hi;exact⟨(O.getD i 0).toNat,by omega,by omega,h.wr i hi⟩
def kE(L:Int) (c acc:List Int) (sm:Nat × Mv):List Int:=acc.set sm.1 (qI L c (acc.getD sm.1 0) sm.2)
def jx(L:Int) (c:List Int) (l:List (List Mv)) (i:Nat):List Int:=((vX l).take i).foldl (kE L c) (List.replicate l.length 0)
theorem M5(L:Int) (c:List Int) (l:List (List Mv)):jx L c l 0=List.replicate l.length 0:=rfl
theorem M6(L:Int) (c:List Int) (l:List (List Mv)) (i:Nat) (h:i<movesN l):jx L c l (i+1)=kE L c (jx L c l i) (mvAt l i):=by
 unfold jx mvAt;have hi:i<(vX l).length:=by rw[yo];exact h
 rw[List.take_succ_eq_append_getElem hi,List.foldl_append,List.getD_eq_getElem?_getD,List.getElem?_eq_getElem hi];rfl
theorem Pj(L:Int) (c:List Int) (l:List (List Mv)) (i:Nat):(jx L c l i).length=l.length:=by
 unfold jx
 have key:∀ (x:List (Nat × Mv)) (acc:List Int),(x.foldl (kE L c) acc).length=acc.length:=by
  intro x;induction x with
  | nil=>intro acc;rfl
  | cons a r ih=>intro acc;rw[List.foldl_cons,ih];simp[kE]
 rw[key];simp
theorem Sl(L:Int) (c:List Int) (x:List Mv):∀ (pre rest:List Int) (z:Int),(x.map fun m=>(pre.length,m)).foldl (kE L c) (pre++z :: rest)=pre++x.foldl (qI L c) z :: rest:=by
 induction x with
 | nil=>intro pre rest z;rfl
 | cons m r ih=>
  intro pre rest z;rw[List.map_cons,List.foldl_cons,List.foldl_cons,<-ih];congr 1;simp[kE]
theorem Pk(L:Int) (c:List Int) (l:List (List Mv)):∀ (pre:List Int),(iO pre.length l).foldl (kE L c) (pre++List.replicate l.length 0)=pre++l.map (Cm L c):=by
 induction l with
 | nil=>intro pre;simp[iO]
 | cons x r ih=>
  intro pre;simp only[iO,List.foldl_append,List.length_cons,List.replicate_succ,List.map_cons];rw[Sl];have h:=ih (pre++[Cm L c x]);simp only[List.length_append,List.length_cons,List.length_nil,Nat.zero_add,List.append_assoc,List.cons_append,List.nil_append]at h;exact h
theorem Pm(L:Int) (a:Adv) (c:List Int):jx L c a.states (movesN a.states)=AO L a c:=by
 unfold jx AO;rw[<-yo,List.take_length];have:=Pk L c a.states [];simpa[vX] using this
theorem Sm{L:Int} (hL:0<=L) {c:List Int} (hc:Dd L c) (l:List (List Mv)) (i:Nat):Dd L (jx L c l i):=by
 unfold jx
 have key:∀ (x:List (Nat × Mv)) (acc:List Int),Dd L acc->Dd L (x.foldl (kE L c) acc):=by
  intro x;induction x with
  | nil=>intro acc h;exact h
  | cons m r ih=>
   intro acc h;refine ih _ fun y hy=>?_
   unfold kE at hy;rcases List.mem_or_eq_of_mem_set hy with hy|rfl
   ·exact h y hy
   ·exact IF hL hc (vZ hL h _) _
 exact key _ _ (fun y hy=>by rw[(List.mem_replicate.1 hy).2];omega)
end Go.Proofs.YtmeaoneaephjeaaGreatDoor
namespace Go.Proofs.YtmeaoneaephjeaaGreatDoor
open Go
theorem Be(a b:Nat) (ha:a<9223372036854775808) (hb:b<9223372036854775808):bits .and .i64 (a:Int) (b:Int)=((a &&& b:Nat):Int):=by
 have hx:a &&& b<2 ^ 63:=Nat.and_lt_two_pow _ (by omega)
 show IntKind.i64.wrap ((BitVec.ofInt 64 (a:Int) &&& BitVec.ofInt 64 (b:Int)).toNat:Int)=_
 rw[BitVec.toNat_and,ofInt_u64 a (by omega),ofInt_u64 b (by omega)];simp[IntKind.wrap,IntKind.bits,IntKind.signed];omega
theorem xl(a b:Nat) (ha:a<9223372036854775808) (hb:b<9223372036854775808):bits .or .i64 (a:Int) (b:Int)=((a ||| b:Nat):Int):=by
 have hx:a ||| b<2 ^ 63:=Nat.or_lt_two_pow (by omega) (by omega)
 show IntKind.i64.wrap ((BitVec.ofInt 64 (a:Int) ||| BitVec.ofInt 64 (b:Int)).toNat:Int)=_
 rw[BitVec.toNat_or,ofInt_u64 a (by omega),ofInt_u64 b (by omega)];simp[IntKind.wrap,IntKind.bits,IntKind.signed];omega
theorem IR(a:Int):bits .and .i64 a 1=a % 2:=by
 show IntKind.i64.wrap ((BitVec.ofInt 64 a &&& BitVec.ofInt 64 ((1:Nat):Int)).toNat:Int)=_
 rw[BitVec.toNat_and,ofInt_u64 1 (by omega),Nat.and_one_is_mod,BitVec.toNat_ofInt];simp[IntKind.wrap,IntKind.bits,IntKind.signed];omega
theorem tY(x:Int) (p:Nat):(bits .and .i64 (x / 2 ^ p) 1 == 0)=!hasB x p:=by
 rw[IR];unfold hasB;rcases (show x / 2 ^ p % 2=0\/x / 2 ^ p % 2=1 by omega) with h|h<;>rw[h]<;>rfl
theorem rZ(x:Int) (p:Nat):(bits .and .i64 (x / 2 ^ p) 1 == 1)=hasB x p:=by
 rw[IR];unfold hasB;rfl
theorem oD(x:Int) (h0:0<=x) (p:Nat):hasB x p=x.toNat.testBit p:=by
 obtain⟨A,rfl⟩:=Int.eq_ofNat_of_zero_le h0;unfold hasB;rw[Int.toNat_natCast,Nat.testBit_eq_decide_div_mod_eq];have:((A:Int) / 2 ^ p % 2)=((A / 2 ^ p % 2:Nat):Int):=by simp
 rw[this,Bool.eq_iff_iff];simp only[beq_iff_eq,decide_eq_true_eq];omega
theorem Hw(x y:Int) (dj:0<=x) (hx:x<32) (jl:0<=y) (hy:y<32):(bits .andNot .i64 x y != 0)=!iV x y:=by
 obtain⟨A,rfl⟩:=Int.eq_ofNat_of_zero_le dj;obtain⟨B,rfl⟩:=Int.eq_ofNat_of_zero_le jl;have hA:A<32:=by omega
 have hB:B<32:=by omega
 have key:∀ a:Fin 32,∀ b:Fin 32,(bits .andNot .i64 ((a.val:Nat):Int) ((b.val:Nat):Int) != 0)=!iV ((a.val:Nat):Int) ((b.val:Nat):Int):=by decide +kernel
 exact key ⟨A,hA⟩ ⟨B,hB⟩
end Go.Proofs.YtmeaoneaephjeaaGreatDoor
namespace Go.Proofs.YtmeaoneaephjeaaGreatDoor
open Go.ChangeShapes Go.WideShapes Go.ChangeAt Go.RowKit Go Go.Deep
section
variable {H : Type} {enc : TypeId × Value → H} {w : World}
abbrev iu(enc:TypeId × Value->H) (w:World) (fuel:Nat) (t:TypeId) (cs:List Value) (x:DataW H × List MemPlace):Prop:=DataW.trod enc Tryz.prog w 0 (fun _=>true) true fuel t cs=some x
def pJ(t:TypeId) (d:DataW H):Prop:=∀ n∈d.weights Tryz.prog t,n<=reachBytes
theorem sA{n:Int} (h:(Lit.int .i64 n).wf=true):bN n:=by
 simp[Lit.wf,IntKind.min,IntKind.max,IntKind.bits,IntKind.signed]at h;unfold bN;omega
theorem Dh{ts:List TypeId} {ds:List (DataW H)} {j:Nat} {t:TypeId} {d:DataW H} (ht:ts[j]?=some t) (hd:ds[j]?=some d) {n:Nat} (hn:n∈d.weights Tryz.prog t):n∈DataW.weightsEach Tryz.prog ts ds:=DataW.weights_mem_each ht hd n hn
theorem E6{e:TypeId} {ds:List (DataW H)} {d:DataW H} (hd:d∈ds) {n:Nat} (hn:n∈d.weights Tryz.prog e):n∈DataW.weightsAll Tryz.prog e ds:=by
 induction ds with
 | nil=>cases hd
 | cons x r ih=>
  simp only[DataW.weightsAll,List.mem_append];rcases List.mem_cons.1 hd with rfl|h
  ·exact .inl hn
  ·exact .inr (ih h)
theorem jy{fs:Array Field} {t:TypeId} {fuel:Nat} {cs:List Value} {x:DataW H × List MemPlace} (ht:Tryz.prog.underlying t=some (.struct fs)) (h:iu enc w fuel t cs x) (hz:pJ t x.1) :
  cs.length=Tryz.prog.cellsOf t/\∃ n,∀ (i:Nat) (f:Field),fs[i]?=some f->∃ y,iu enc w n f.type ((cs.drop f.offset).take (Tryz.prog.cellsOf f.type)) y/\pJ f.type y.1:=by
 obtain⟨xs,n,_,rfl,hl,hx,hf⟩:=DataW.trod_struct ht h;refine⟨hl,n,fun i f hi=>?_⟩;have aB:i<xs.length:=by have:=(Array.getElem?_eq_some_iff.1 hi).1;omega
 refine⟨xs[i],(hf i f hi).trans (List.getElem?_eq_getElem aB),fun m hm=>hz m ?_⟩;simp only[DataW.weights,ht];exact Dh (j:=i) (by simp[hi]) (by simp[aB]) hm
def qQ(enc:TypeId × Value->H) (w:World) (t:TypeId) (k:Nat):Prop:=∀ fuel cs x,iu enc w fuel t cs x->cs.length=k/\∀ j,j<k->∃ n,cs[j]?=some (.int .i64 n)/\bN n
theorem xm{t:TypeId} (ht:Tryz.prog.underlying t=some (.int .i64)):qQ enc w t 1:=fun fuel cs x h=>by
 obtain⟨n,rfl,_,hw⟩:=DataW.trod_int ht h;refine⟨rfl,fun j hj=>⟨n,?_,sA hw⟩⟩;obtain rfl:j=0:=by omega
 rfl
theorem zl{t e:TypeId} {m:Nat} (ht:Tryz.prog.underlying t=some (.array m e)) (he:Tryz.prog.underlying e=some (.int .i64)) (h1:Tryz.prog.cellsOf e=1) (hk:Tryz.prog.cellsOf t=m):qQ enc w t m:=fun fuel cs x h=>by
 obtain⟨xs,n,_,_,hl,hx,hf⟩:=DataW.trod_array ht h;refine⟨by rw[hl,hk],fun j hj=>?_⟩;have h2:=hf j hj;rw[h1,Nat.mul_one,List.getElem?_eq_getElem (by omega)]at h2;obtain⟨v,e1,_,hw⟩:=DataW.trod_int he h2;refine⟨v,?_,sA hw⟩;have h3:((cs.drop j).take 1)[0]?=cs[j]?:=by simp
 rw[<-h3,e1];rfl
theorem xn{t:TypeId} {f0 f1:Field} {k0 k1:Nat} (ht:Tryz.prog.underlying t=some (.struct #[f0,f1])) (o0:f0.offset=0) (o1:f1.offset=k0) (c0:Tryz.prog.cellsOf f0.type=k0) (c1:Tryz.prog.cellsOf f1.type=k1) (ct:Tryz.prog.cellsOf t=k0+k1)
  (h0:qQ enc w f0.type k0) (h1:qQ enc w f1.type k1):qQ enc w t (k0+k1):=fun fuel cs x h=>by
 obtain⟨xs,n,_,_,hl,hx,hf⟩:=DataW.trod_struct ht h;refine⟨by rw[hl,ct],fun j hj=>?_⟩;have g0:=hf 0 f0 rfl;have g1:=hf 1 f1 rfl;have eA:xs.length=2:=hx;rw[o0,c0,List.getElem?_eq_getElem (by omega)]at g0;rw[o1,c1,List.getElem?_eq_getElem (by omega)]at g1;by_cases oO:j<k0
 ·obtain⟨v,e,hv⟩:=(h0 _ _ _ g0).2 j oO;refine⟨v,?_,hv⟩;rw[<-e];simp[List.getElem?_take_of_lt oO]
 ·obtain⟨v,e,hv⟩:=(h1 _ _ _ g1).2 (j - k0) (by omega);refine⟨v,?_,hv⟩;rw[<-e,List.getElem?_take_of_lt (by omega),List.getElem?_drop,show k0+(j - k0)=j by omega]
def yq{α:Type} (enc:TypeId × Value->H) (w:World) (t:TypeId) (k:Nat) (R:World->Nat->Nat->α->Prop):Prop:=
 ∀ fuel cs x b off,iu enc w fuel t cs x->pJ t x.1->(∀ j,j<k->w.cell? ⟨b,off+j,none⟩=cs[j]?)->∃ a:α,R w b off a
theorem opn_int:yq enc w 3 1 gr:=fun fuel cs x b off h _ hc=>by
 obtain⟨n,rfl,_,hw⟩:=DataW.trod_int Tryz.underlying3 h;exact⟨n,(hc 0 (by omega)).trans rfl,sA hw⟩
theorem yr{a:Addr} {j:Nat} (h:a.spot=none):a.add j=⟨a.block,a.off+j,none⟩:=by
 obtain⟨b,o,s⟩:=a;simp at h;subst h;unfold Addr.add;split<;>simp_all
theorem qm{α:Type} {t e:TypeId} {k:Nat} {R:World->Nat->Nat->α->Prop} (hu:Tryz.prog.underlying t=some (.slice e)) (hk:Tryz.prog.cellsOf e=k) (fg:0<k) (gR:8<=Tryz.prog.bytesOf e) (he:yq enc w e k R)
  {fuel:Nat} {cs:List Value} {x:DataW H × List MemPlace} (h:iu enc w fuel t cs x) (hz:pJ t x.1):∃ v l,cs=[v]/\fm k R w v l:=by
 rcases open_slice hu h with ⟨rfl,_⟩|⟨a,len,cap,m,n,D,Pl,rfl,_,hl,hm,DU,rfl,hi⟩
 ·exact⟨_,[],rfl,none,0,rfl,⟨by simp,by omega,fun _=>rfl⟩,by simp,fun i x hx=>by simp at hx⟩
 ·have uK:m=cap:=by rw[DU];rfl
  subst uK
  have hw:(((List.range len).map D).length+((List.range (m - len)).map fun j=>D (len+j)).length) * Tryz.prog.bytesOf e<=reachBytes:=by
   refine hz _ ?_;simp only[DataW.weights,hu];exact List.mem_cons_self
  have AI:m * 8<=reachBytes:=by
   refine Nat.le_trans (Nat.mul_le_mul_left m gR) ?_;refine Nat.le_trans ?_ hw;rw[List.length_map,List.length_map,List.length_range,List.length_range];exact Nat.mul_le_mul_right _ (by omega)
  have hw3:m<=17592186044416:=by unfold reachBytes at AI;omega
  have hsp0:0<len->a.spot=none:=fun h0=>by
   obtain⟨cs',hc,ht⟩:=hi 0 (by omega);rw[hk]at hc;obtain⟨_,bR,iB⟩:=World.cells?_some hc;have h1:=iB 0 fg;rw[List.getElem?_eq_getElem (by omega)]at h1;have:=World.cell?_spot h1;simpa[Addr.add] using this
  have key:∀ i:Fin len,∃ y:α,a.spot=none/\R w a.block (a.off+i.1 * k) y:=fun i=>by
   obtain⟨cs',hc,ht⟩:=hi i.1 (by have:=i.2;omega);rw[hk]at hc;obtain⟨_,bR,iB⟩:=World.cells?_some hc;have hsp:=hsp0 (by have:=i.2;omega)
   have bP:pJ e (D i.1):=fun q hq=>hz q (by
    simp only[DataW.weights,hu];refine List.mem_cons_of_mem _ (List.mem_append_left _ (E6 (d:=D i.1) ?_ hq))
    exact List.mem_map.2 ⟨i.1,List.mem_range.2 i.2,rfl⟩)
   obtain⟨y,hy⟩:=he _ _ _ a.block (a.off+i.1 * k) ht bP (fun j hj=>by
    rw[<-iB j hj,yr hsp,yr rfl])
   exact⟨y,hsp,hy⟩
  refine⟨_,List.ofFn fun i=>Classical.choose (key i),rfl,some a,m,by rw[List.length_ofFn],⟨by rw[List.length_ofFn];omega,by omega,fun h=>by cases h⟩,by rw[List.length_ofFn];omega,fun i y hy=>?_⟩;have gZ:i<len:=by have:=(List.getElem?_eq_some_iff.1 hy).1;simpa using this
  have e1:y=Classical.choose (key ⟨i,gZ⟩):=by
   rw[List.getElem?_ofFn]at hy;simp[gZ]at hy;exact hy.symm
  obtain⟨hs,hr⟩:=Classical.choose_spec (key ⟨i,gZ⟩);refine⟨a.block,a.off,?_,by rw[e1];exact hr⟩;obtain⟨b,o,s⟩:=a;simp at hs;subst hs;rfl
theorem zm{α:Type} {t e:TypeId} {k:Nat} {R:World->Nat->Nat->α->Prop} (hu:Tryz.prog.underlying t=some (.slice e)) (hk:Tryz.prog.cellsOf e=k) (fg:0<k) (gR:8<=Tryz.prog.bytesOf e) (he:yq enc w e k R):yq enc w t 1 (nh k R):=fun fuel cs x b off h hz hc=>by
 obtain⟨v,l,rfl,hl⟩:=qm hu hk fg gR he h hz;exact⟨l,v,(hc 0 (by omega)).trans rfl,hl⟩
theorem IS{cs:List Value} {j:Nat} (h:j<cs.length):(cs.drop j).take 1=[cs[j]]:=by
 rw[List.drop_eq_getElem_cons h];rfl
theorem Tryz.cInt:Tryz.prog.cellsOf 3=1:=by kernel_rfl
theorem Tryz.cInts:Tryz.prog.cellsOf 38=1:=by kernel_rfl
theorem Tryz.cVecs:Tryz.prog.cellsOf 56=1:=by kernel_rfl
theorem Tryz.cCase:Tryz.prog.cellsOf 135=3:=by kernel_rfl
theorem Tryz.cGraph:Tryz.prog.cellsOf 139=6:=by kernel_rfl
theorem Tryz.cRound:Tryz.prog.cellsOf 141=7:=by kernel_rfl
theorem Tryz.cMove:Tryz.prog.cellsOf 143=8:=by kernel_rfl
theorem Tryz.cMoves:Tryz.prog.cellsOf 136=1:=by kernel_rfl
theorem opn_ints:yq enc w 38 1 zb:=zm Tryz.underlying38 Tryz.cInt (by omega) (of_decide_eq_true (by kernel_rfl)) opn_int
theorem opn_vecs:yq enc w 56 1 vV:=zm Tryz.underlying56 Tryz.cInts (by omega) (of_decide_eq_true (by kernel_rfl)) opn_ints
theorem opn_case:yq enc w 135 3 Iv:=fun fuel cs x b off h hz hc=>by
 obtain⟨hl,n,hf⟩:=jy Tryz.underlying135 h hz;rw[Tryz.cCase]at hl;obtain⟨y0,r0,z0⟩:=hf 0 _ rfl;obtain⟨y1,r1,z1⟩:=hf 1 _ rfl;obtain⟨y2,r2,z2⟩:=hf 2 _ rfl;change iu enc w n 38 ((cs.drop 0).take (Tryz.prog.cellsOf 38)) y0 at r0;change iu enc w n 56 ((cs.drop 1).take (Tryz.prog.cellsOf 56)) y1 at r1;change iu enc w n 56 ((cs.drop 2).take (Tryz.prog.cellsOf 56)) y2 at r2;rw[Tryz.cInts,IS (by omega)]at r0;rw[Tryz.cVecs,IS (by omega)]at r1 r2
 obtain⟨a0,h0⟩:=opn_ints _ _ _ b off r0 z0 (fun j hj=>by obtain rfl:j=0:=by omega
                                                         rw[hc 0 (by omega),List.getElem?_eq_getElem (by omega)];rfl)
 obtain⟨a1,h1⟩:=opn_vecs _ _ _ b (off+1) r1 z1 (fun j hj=>by obtain rfl:j=0:=by omega
                                                             rw[show off+1+0=off+1 by omega,hc 1 (by omega),List.getElem?_eq_getElem (by omega)];rfl)
 obtain⟨a2,h2⟩:=opn_vecs _ _ _ b (off+2) r2 z2 (fun j hj=>by obtain rfl:j=0:=by omega
                                                             rw[show off+2+0=off+2 by omega,hc 2 (by omega),List.getElem?_eq_getElem (by omega)];rfl)
 exact⟨⟨a0,a1,a2⟩,h0,h1,h2⟩
theorem allInt_graph:qQ enc w 139 6:=xn (k0:=1) (k1:=5) Tryz.underlying139 rfl rfl Tryz.cInt (by kernel_rfl) Tryz.cGraph (xm Tryz.underlying3) (zl Tryz.underlying137 Tryz.underlying3 Tryz.cInt (by kernel_rfl))
theorem allInt_round:qQ enc w 141 7:=xn (k0:=6) (k1:=1) Tryz.underlying141 rfl rfl Tryz.cGraph Tryz.cInt Tryz.cRound allInt_graph (xm Tryz.underlying3)
theorem allInt_move:qQ enc w 143 8:=xn (k0:=7) (k1:=1) Tryz.underlying143 rfl rfl Tryz.cRound Tryz.cInt Tryz.cMove allInt_round (xm Tryz.underlying3)
theorem opn_round:yq enc w 141 7 nE:=fun fuel cs x b off h _ hc=>by
 have ha:=(allInt_round _ _ _ h).2;obtain⟨n0,e0,i0⟩:=ha 0 (by omega);obtain⟨n1,e1,i1⟩:=ha 1 (by omega);obtain⟨n2,e2,i2⟩:=ha 2 (by omega);obtain⟨n3,e3,i3⟩:=ha 3 (by omega);obtain⟨n4,e4,i4⟩:=ha 4 (by omega);obtain⟨n5,e5,i5⟩:=ha 5 (by omega);obtain⟨n6,e6,i6⟩:=ha 6 (by omega);exact⟨⟨⟨n0,n1,n2,n3,n4,n5⟩,n6⟩,⟨(hc 0 (by omega)).trans e0,i0⟩,⟨(hc 1 (by omega)).trans e1,i1⟩,⟨(hc 2 (by omega)).trans e2,i2⟩,⟨(hc 3 (by omega)).trans e3,i3⟩,⟨(hc 4 (by omega)).trans e4,i4⟩,⟨(hc 5 (by omega)).trans e5,i5⟩,⟨(hc 6 (by omega)).trans e6,i6⟩⟩
theorem opn_move:yq enc w 143 8 C9:=fun fuel cs x b off h _ hc=>by
 have ha:=(allInt_move _ _ _ h).2;obtain⟨n0,e0,i0⟩:=ha 0 (by omega);obtain⟨n1,e1,i1⟩:=ha 1 (by omega);obtain⟨n2,e2,i2⟩:=ha 2 (by omega);obtain⟨n3,e3,i3⟩:=ha 3 (by omega);obtain⟨n4,e4,i4⟩:=ha 4 (by omega);obtain⟨n5,e5,i5⟩:=ha 5 (by omega);obtain⟨n6,e6,i6⟩:=ha 6 (by omega);obtain⟨n7,e7,i7⟩:=ha 7 (by omega);exact⟨⟨⟨⟨n0,n1,n2,n3,n4,n5⟩,n6⟩,n7⟩,⟨⟨(hc 0 (by omega)).trans e0,i0⟩,⟨(hc 1 (by omega)).trans e1,i1⟩,⟨(hc 2 (by omega)).trans e2,i2⟩,⟨(hc 3 (by omega)).trans e3,i3⟩,⟨(hc 4 (by omega)).trans e4,i4⟩,⟨(hc 5 (by omega)).trans e5,i5⟩,⟨(hc 6 (by omega)).trans e6,i6⟩⟩,(hc 7 (by omega)).trans e7,i7⟩
theorem opn_moves:yq enc w 136 1 E0:=zm Tryz.underlying136 Tryz.cMove (by omega) (of_decide_eq_true (by kernel_rfl)) opn_move
theorem ZJ{l:List Value} (h:l.length=7):∃ c0 c1 c2 c3 c4 c5 c6,l=[c0,c1,c2,c3,c4,c5,c6]:=by
 match l,h with
 | [c0,c1,c2,c3,c4,c5,c6],_=>exact⟨c0,c1,c2,c3,c4,c5,c6,rfl⟩
theorem Tryz.cProb:Tryz.prog.cellsOf 29=7:=by kernel_rfl
theorem Tryz.cTask:Tryz.prog.cellsOf 24=4:=by kernel_rfl
theorem Tryz.cAdv:Tryz.prog.cellsOf 27=2:=by kernel_rfl
theorem Tryz.cCases:Tryz.prog.cellsOf 22=1:=by kernel_rfl
theorem Tryz.cStates:Tryz.prog.cellsOf 25=1:=by kernel_rfl
theorem Pn{fuel:Nat} {c0 c1 c2 c3:Value} {x:DataW H × List MemPlace} (h:iu enc w fuel 24 [c0,c1,c2,c3] x) (hz:pJ 24 x.1) :
  ∃ (t:Tk),c0=.int .i64 t.n/\c1=.int .i64 t.ins/\c2=.int .i64 t.outs/\bS w c3 t.cases:=by
 obtain⟨_,n,hf⟩:=jy Tryz.underlying24 h hz;obtain⟨u0,s0,_⟩:=hf 0 _ rfl;obtain⟨u1,s1,_⟩:=hf 1 _ rfl;obtain⟨u2,s2,_⟩:=hf 2 _ rfl;obtain⟨u3,s3,q3⟩:=hf 3 _ rfl;change iu enc w n 3 (([c0,c1,c2,c3].drop 0).take (Tryz.prog.cellsOf 3)) u0 at s0;change iu enc w n 3 (([c0,c1,c2,c3].drop 1).take (Tryz.prog.cellsOf 3)) u1 at s1;change iu enc w n 3 (([c0,c1,c2,c3].drop 2).take (Tryz.prog.cellsOf 3)) u2 at s2;change iu enc w n 22 (([c0,c1,c2,c3].drop 3).take (Tryz.prog.cellsOf 22)) u3 at s3;change pJ 22 u3.1 at q3;rw[Tryz.cInt]at s0 s1 s2;rw[Tryz.cCases]at s3;obtain⟨m0,e0,_,_⟩:=DataW.trod_int Tryz.underlying3 s0;obtain⟨m1,e1,_,_⟩:=DataW.trod_int Tryz.underlying3 s1;obtain⟨m2,e2,_,_⟩:=DataW.trod_int Tryz.underlying3 s2;obtain⟨vc,cases,e3,g3⟩:=qm Tryz.underlying22 Tryz.cCase (by omega) (of_decide_eq_true (by kernel_rfl)) opn_case s3 q3;simp at e0 e1 e2 e3;subst e3;exact⟨⟨m0,m1,m2,cases⟩,e0,e1,e2,g3⟩
theorem Sn{fuel:Nat} {c0 c1:Value} {x:DataW H × List MemPlace} (h:iu enc w fuel 27 [c0,c1] x) (hz:pJ 27 x.1) :
  ∃ (a:Adv),c0=.int .i64 a.n/\bF w c1 a.states:=by
 obtain⟨_,n,hf⟩:=jy Tryz.underlying27 h hz;obtain⟨u0,s0,_⟩:=hf 0 _ rfl;obtain⟨u1,s1,q1⟩:=hf 1 _ rfl;change iu enc w n 3 (([c0,c1].drop 0).take (Tryz.prog.cellsOf 3)) u0 at s0;change iu enc w n 25 (([c0,c1].drop 1).take (Tryz.prog.cellsOf 25)) u1 at s1;change pJ 25 u1.1 at q1;rw[Tryz.cInt]at s0;rw[Tryz.cStates]at s1;obtain⟨m0,e0,_,_⟩:=DataW.trod_int Tryz.underlying3 s0;obtain⟨vs,states,e1,g1⟩:=qm Tryz.underlying25 Tryz.cMoves (by omega) (of_decide_eq_true (by kernel_rfl)) opn_moves s1 q1;simp at e0 e1;subst e1;exact⟨⟨m0,states⟩,e0,g1⟩
theorem Po{fuel:Nat} {cs:List Value} {x:DataW H × List MemPlace} (h:iu enc w fuel 29 cs x) (hz:pJ 29 x.1) :
  ∃ (p:Pb) (vc vs:Value),cs=[.int .i64 p.t.n,.int .i64 p.t.ins,.int .i64 p.t.outs,vc,.int .i64 p.a.n,vs,.int .i64 p.rounds]/\bS w vc p.t.cases/\bF w vs p.a.states:=by
 obtain⟨hl,n,hf⟩:=jy Tryz.underlying29 h hz;rw[Tryz.cProb]at hl;obtain⟨c0,c1,c2,c3,c4,c5,c6,rfl⟩:=ZJ hl;obtain⟨y0,r0,z0⟩:=hf 0 _ rfl;obtain⟨y1,r1,z1⟩:=hf 1 _ rfl;obtain⟨y2,r2,z2⟩:=hf 2 _ rfl;change iu enc w n 24 (([c0,c1,c2,c3,c4,c5,c6].drop 0).take (Tryz.prog.cellsOf 24)) y0 at r0;change iu enc w n 27 (([c0,c1,c2,c3,c4,c5,c6].drop 4).take (Tryz.prog.cellsOf 27)) y1 at r1;change iu enc w n 3 (([c0,c1,c2,c3,c4,c5,c6].drop 6).take (Tryz.prog.cellsOf 3)) y2 at r2;rw[Tryz.cTask]at r0;rw[Tryz.cAdv]at r1;rw[Tryz.cInt]at r2;obtain⟨t,rfl,rfl,rfl,g0⟩:=Pn r0 z0;obtain⟨a,rfl,g1⟩:=Sn r1 z1;obtain⟨m6,e6,_,_⟩:=DataW.trod_int Tryz.underlying3 r2;simp at e6;subst e6;exact⟨⟨t,a,m6⟩,c3,c5,rfl,g0,g1⟩
end
end Go.Proofs.YtmeaoneaephjeaaGreatDoor
namespace Go.Proofs.YtmeaoneaephjeaaGreatDoor
instance:Inhabited Ex:=⟨⟨0,[],[]⟩⟩
instance:DecidableEq Ex:=fun a b=>decidable_of_iff (a.c=b.c/\a.word=b.word/\a.views=b.views) (by cases a;cases b;simp)
def verifyE(s:Sys):Int:=if buildE s.prob≠0 then buildE s.prob else if s.n=(aO s.prob).n/\s.tab=(aO s.prob).tab/\s.ex=(aO s.prob).ex then 0 else 3
theorem F7{s:Sys} (h:verifyE s=0):buildE s.prob=0/\s=aO s.prob:=by
 unfold verifyE at h;split at h
 ·rename_i h1;exact absurd h h1
 rename_i h1;split at h
 ·rename_i h2;refine⟨by omega,?_⟩;obtain⟨p,n,t,e⟩:=s;obtain⟨h3,h4,h5⟩:=h2;dsimp only at h3 h4 h5 ⊢;rw[h3,h4,h5];rfl
 ·omega
def maskN(q:Nat->Bool):Nat->Nat
 | 0=>0
 | k+1=>maskN q k+if q k then 2 ^ k else 0
theorem gd(q:Nat->Bool):∀ n,maskN q n<2 ^ n
 | 0=>by simp[maskN]
 | n+1=>by
  have:=gd q n;have h2:(2:Nat) ^ (n+1)=2 ^ n+2 ^ n:=by rw[Nat.pow_succ];omega
  unfold maskN;split<;>omega
theorem dY(q:Nat->Bool):∀ n p,(maskN q n).testBit p=(decide (p<n)&&q p)
 | 0,p=>by simp[maskN]
 | n+1,p=>by
  have aB:=gd q n;rw[maskN];rcases Nat.lt_trichotomy p n with h|h|h
  ·rw[decide_eq_true (show p<n+1 by omega),Bool.true_and];have ih:=dY q n p;rw[decide_eq_true h,Bool.true_and]at ih;split
   ·rw[Nat.add_comm,Nat.testBit_two_pow_add_gt h];exact ih
   ·exact ih
  ·subst h;rw[decide_eq_true (show p<p+1 by omega),Bool.true_and];split
   ·rename_i h1;rw[Nat.add_comm,Nat.testBit_two_pow_add_eq,Nat.testBit_lt_two_pow aB,h1];rfl
   ·rename_i h1;rw[Nat.add_zero,Nat.testBit_lt_two_pow aB];simpa using h1
  ·rw[decide_eq_false (by omega),Bool.false_and];refine Nat.testBit_lt_two_pow (Nat.lt_of_lt_of_le (gd q (n+1)) (Nat.pow_le_pow_right (by omega) (by omega)))
theorem Bg{q r:Nat->Bool} {n:Nat} (h:∀ p,p<n->q p=r p):maskN q n=maskN r n:=by
 refine Nat.eq_of_testBit_eq fun p=>?_
 rw[dY,dY];by_cases hp:p<n
 ·rw[h p hp]
 ·rw[decide_eq_false hp];rfl
theorem kF(q:Nat->Bool) (n:Nat):maskN q n=0↔anyLt n q=false:=by
 rw[fA];constructor
 ·intro h k hk;have:=dY q n k;rw[h,decide_eq_true hk]at this;simpa using this.symm
 ·intro h;refine Nat.eq_of_testBit_eq fun p=>?_
  rw[dY,Nat.zero_testBit];by_cases hp:p<n
  ·rw[h p hp,Bool.and_false]
  ·rw[decide_eq_false hp];rfl
theorem Pp(q r:Nat->Bool) (n:Nat):maskN q n &&& maskN r n=maskN (fun p=>q p&&r p) n:=by
 refine Nat.eq_of_testBit_eq fun p=>?_
 rw[Nat.testBit_and,dY,dY,dY];cases decide (p<n)<;>simp
theorem So(q r:Nat->Bool) (n:Nat):maskN q n ||| maskN r n=maskN (fun p=>q p || r p) n:=by
 refine Nat.eq_of_testBit_eq fun p=>?_
 rw[Nat.testBit_or,dY,dY,dY];cases decide (p<n)<;>simp
theorem Pq{n v:Nat} (h:v<n):maskN (fun p=>decide (p=v)) n=2 ^ v:=by
 refine Nat.eq_of_testBit_eq fun p=>?_
 rw[dY,Nat.testBit_two_pow];by_cases e:p=v
 ·subst e;simp[h]
 ·rw[decide_eq_false e,decide_eq_false (show ¬ v=p by omega),Bool.and_false]
theorem M7(n:Nat):maskN (fun _=>true) n=2 ^ n - 1:=by
 refine Nat.eq_of_testBit_eq fun p=>?_
 rw[dY,Nat.testBit_two_pow_sub_one,Bool.and_true]
theorem zn{q:Nat->Bool} {k:Nat} (h:q k=true):maskN q k ||| 2 ^ k=maskN q (k+1):=by
 refine Nat.eq_of_testBit_eq fun p=>?_
 rw[Nat.testBit_or,dY,dY,Nat.testBit_two_pow];by_cases e:p=k
 ·subst e;simp[h]
 ·rw[decide_eq_false (show ¬ k=p by omega),Bool.or_false,decide_eq_decide.2 (show p<k↔p<k+1 by omega)]
theorem sa{q:Nat->Bool} {k:Nat} (h:q k=false):maskN q k=maskN q (k+1):=by rw[maskN,h];rfl
theorem jz(q:Nat->Bool) (n p:Nat):hasB (maskN q n:Nat) p=(decide (p<n)&&q p):=by
 rw[oD _ (by omega),Int.toNat_natCast,dY]
structure Lk where
 x:Int
 p:Int
instance:Inhabited Lk:=⟨⟨0,0⟩⟩
instance:DecidableEq Lk:=fun a b=>decidable_of_iff (a.x=b.x/\a.p=b.p) (by cases a;cases b;simp)
def cN(s:Sys) (e:Nat):Ex:=s.ex.getD e default
def fltS(s:Sys) (e:Nat):Int:=AP (cN s e).word
def nS(s:Sys):Nat:=s.n.toNat
def eS(s:Sys):Nat:=s.ex.length
def finS(s:Sys) (e p:Nat):Int:=((cN s e).views.getD s.prob.rounds.toNat []).getD p 0
def linkB(s:Sys) (p e f:Nat):Bool:=!hasB (fltS s e) p&&!hasB (fltS s f) p&&decide (finS s e p=finS s f p)
theorem sd(s:Sys) (p e f:Nat):linkB s p e f=linkB s p f e:=by
 unfold linkB;rw[Bool.and_comm (!hasB (fltS s e) p),decide_eq_decide.2 (eq_comm (a:=finS s e p))]
theorem vI{s:Sys} {p e f g:Nat} (h1:linkB s p e f=true) (h2:linkB s p f g=true):linkB s p e g=true:=by
 unfold linkB at *;simp only[Bool.and_eq_true,decide_eq_true_eq]at *;exact⟨⟨h1.1.1,h2.1.2⟩,h1.2.trans h2.2⟩
def byB(s:Sys) (e f:Nat):Bool:=anyLt (nS s) fun p=>linkB s p e f
def byP(s:Sys) (e f:Nat):Int:=firstIx (nS s) fun p=>linkB s p e f
theorem IT(s:Sys) (e f:Nat):byB s e f=byB s f e:=KY _ _ _ fun p _=>sd s p e f
theorem AQ{s:Sys} {e f:Nat} (h:byB s e f=true):0<=byP s e f/\byP s e f<nS s/\linkB s (byP s e f).toNat e f=true:=by
 unfold byB at h;unfold byP;rcases bE (nS s) (fun p=>linkB s p e f) with ⟨_,h1⟩|⟨k,hk,e1,h1,_⟩
 ·rw[eW _ _ h1]at h;cases h
 ·rw[e1,Int.toNat_natCast];exact⟨by omega,by omega,h1⟩
def classL(s:Sys) (p:Nat):List Int:=iG (fun k i=>linkB s p k i) (eS s)
def eC(s:Sys):Nat->List Int
 | 0=>classL s 0
 | k+1=>lp (eC s k) (classL s (k+1))
def partsS(s:Sys):List Int:=eC s (nS s - 1)
theorem jA(s:Sys) (p:Nat):(classL s p).length=eS s:=qj _ _
theorem gS(s:Sys):∀ k,(eC s k).length=eS s
 | 0=>jA s 0
 | k+1=>by rw[eC,lp,qj,gS s k]
theorem dm(s:Sys):(partsS s).length=eS s:=gS s _
def oS(s:Sys):Nat:=s.prob.t.outs.toNat
def vecE(s:Sys) (e:Nat):List (List Int):=gt (s.prob.t.cases.getD (cN s e).c.toNat default) (fltS s e)
def valB(s:Sys) (e v:Nat):Bool:=hasV (vecE s e) (List.replicate (nS s) (v:Int))
def valuesS(s:Sys) (e:Nat):List Int:=((List.range (oS s)).filter (valB s e)).map fun v:Nat=>(v:Int)
def constB(v:List Int):Bool:=!anyLt v.length fun i=>decide (v.getD i 0≠v.getD 0 0)
def agreeB(t:Tk):Bool:=!anyLt t.cases.length fun i=>anyLt (t.cases.getD i default).out.length fun j=>!constB ((t.cases.getD i default).out.getD j [])
def readyE(s:Sys):Int:=if verifyE s≠0 then verifyE s else if agreeB s.prob.t then 0 else 11
def valuesR(s:Sys) (x:Int):List Int × Int:=if readyE s≠0 then([],readyE s) else if x<0\/(eS s:Int)<=x then([],6) else(valuesS s x.toNat,0)
def memL(parts:List Int) (k:Int):List Nat:=(List.range parts.length).filter fun e=>decide (parts.getD e 0=k)
def comB(s:Sys) (l:List Nat):Int:=firstIx (oS s) fun v=>l.all fun e=>valB s e v
def choiceS(s:Sys):List Int:=(List.range (eS s)).map fun e=>comB s (memL (partsS s) ((partsS s).getD e 0))
def choiceR(s:Sys):List Int × Int:=if readyE s≠0 then([],readyE s) else(choiceS s,0)
def dV(s:Sys) (e:Nat) (out:List Int):Nat->List Int
 | 0=>out
 | p+1=>if hasB (fltS s e) p then dV s e out p else(dV s e out p).set (finS s e p).toNat ((choiceS s).getD e 0)
def dG(s:Sys):Nat->List Int
 | 0=>List.replicate s.tab.length (-1)
 | e+1=>dV s e (dG s e) (nS s)
def ruleR(s:Sys):List Int × Bool × Int:=if readyE s≠0 then([],false,readyE s) else if -1∈choiceS s then([],false,0) else(dG s (eS s),true,0)
def farL(s:Sys) (f:Nat):List Int:=M4 (eS s) (byB s) f
def gE(s:Sys) (D:List Int) (d e:Nat):Nat:=(firstIx (eS s) fun g=>decide (D.getD g 0=d)&&byB s e g).toNat
def iv(s:Sys) (D:List Int):Nat->Nat->List Lk
 | 0,_=>[]
 | d+1,e=>⟨gE s D d e,byP s e (gE s D d e)⟩ :: iv s D d (gE s D d e)
def gu(s:Sys) (e f:Nat):List Lk:=iv s (farL s f) ((farL s f).getD e 0).toNat e
def gm(s:Sys):Nat->List Nat->List Lk
 | _,[]=>[]
 | e,m :: r=>gu s e m++gm s m r
def gw(s:Sys):List Nat->List Lk
 | []=>[]
 | a :: r=>⟨a,-1⟩ :: gm s a r
def cA(l:List Lk):List Nat:=l.map fun y=>y.x.toNat
def cY(s:Sys) (l:List Lk):Bool:=decide (comB s (cA l)<0)
def AR(s:Sys) (l:List Lk):Nat:=if firstIx l.length (fun i=>cY s (l.take (i+1)))<0 then l.length else(firstIx l.length fun i=>cY s (l.take (i+1))).toNat+1
def lH(s:Sys) (l:List Lk):List Lk:=l.take (AR s l)
def j9(s:Sys):Int:=firstIx (eS s) fun e=>decide ((choiceS s).getD e 0<0)
def kR(s:Sys):List Lk:=lH s (gw s (memL (partsS s) ((partsS s).getD (j9 s).toNat 0)))
def findW(s:Sys):List Lk × Bool × Int:=
 if readyE s≠0 then([],false,readyE s) else if j9 s<0 then([],false,0) else if 4096<(kR s).length then([],false,17) else(kR s,true,0)
structure Ct where
 kind:Int
 walk:List Lk
 nv:Nat
 nl:Nat
 np:Nat
def gF(s:Sys) (w:List Lk) (i:Nat):Int:=
 if (w.getD i default).x<0\/(eS s:Int)<=(w.getD i default).x then 6
 else if i=0 then(if (w.getD i default).p≠-1 then 3 else 0)
 else if (w.getD i default).p<0\/(nS s:Int)<=(w.getD i default).p then 2
 else if linkB s (w.getD i default).p.toNat (w.getD (i - 1) default).x.toNat (w.getD i default).x.toNat then 0 else 18
def walkE(s:Sys) (w:List Lk):Int:=if w.length=0 then 16 else if 4096<w.length then 5 else bg w.length (gF s w)
def AS(s:Sys) (c:Ct):Int:=
 if c.kind≠1 then 1 else if 0<c.nv\/0<c.nl\/0<c.np then 3
 else if walkE s c.walk≠0 then walkE s c.walk else if cY s c.walk then 0 else 18
def certE(s:Sys) (c:Ct):Int:=if readyE s≠0 then readyE s else AS s c
def xo(s:Sys) (w:List Lk) (i k:Nat):Option (List Lk):=
 if byB s (w.getD i default).x.toNat (w.getD k default).x.toNat then some (w.take (i+1)++⟨(w.getD k default).x,byP s (w.getD i default).x.toNat (w.getD k default).x.toNat⟩ :: w.drop (k+1)) else none
def Ij(s:Sys) (w:List Lk) (i:Nat):List (List Lk):=(List.range (w.length - (i+2))).filterMap fun j=>xo s w i (w.length - 1 - j)
def dO(s:Sys) (w:List Lk):List (List Lk):=
 w.dropLast :: ((if 1<w.length then [⟨(w.getD 1 default).x,-1⟩ :: w.drop 2] else [])++(List.range w.length).flatMap (Ij s w))
def jg(s:Sys) (w:List Lk):Bool:=decide (0<w.length)&&cY s w
def jV(s:Sys) (w:List Lk):Option (List Lk):=(dO s w).find? (jg s)
def mF(s:Sys):Nat->List Lk->List Lk
 | 0,w=>w
 | k+1,w=>match jV s w with|some c=>mF s k c|none=>w
def i8(s:Sys) (w:List Lk):List Lk:=mF s w.length w
def shortR(s:Sys) (c:Ct):List Lk × Int:=if certE s c≠0 then([],certE s c) else(i8 s c.walk,0)
structure SysOk (s:Sys):Prop where
 prob:probE s.prob=0
 n:1<=nS s/\nS s<=5/\s.n=nS s/\s.prob.t.n=nS s
 outs:1<=oS s/\oS s<=8/\s.prob.t.outs=oS s
 rounds:0<=s.prob.rounds/\s.prob.rounds<=6
 count:eS s<=4096
 tab:s.tab.length<=8192
 cas:∀ e,e<eS s->0<=(cN s e).c/\(cN s e).c.toNat<s.prob.t.cases.length
 word:∀ e,e<eS s->(cN s e).word.length=s.prob.rounds.toNat
 flt:∀ e,e<eS s->0<=fltS s e/\fltS s e<2 ^ nS s
 views:∀ e,e<eS s->(cN s e).views.length=s.prob.rounds.toNat+1/\∀ row∈(cN s e).views,row.length=nS s/\∀ z∈row,0<=z/\z<(s.tab.length:Int)
theorem Xu(tb:List Vw) (v:Vw):tb.length<=(putV tb v).1.length/\(putV tb v).2<(putV tb v).1.length:=by
 unfold putV;split
 ·rename_i h;exact⟨Nat.le_refl _,List.idxOf_lt_length_of_mem h⟩
 ·simp
theorem F8(vs:List Vw):∀ st:List Vw × List Int,(∀ z∈st.2,0<=z/\z<(st.1.length:Int))->st.1.length<=(vs.foldl ig st).1.length/\∀ z∈(vs.foldl ig st).2,0<=z/\z<((vs.foldl ig st).1.length:Int):=by
 induction vs with
 | nil=>intro st h;exact⟨Nat.le_refl _,h⟩
 | cons v r ih=>
  intro st h;have hp:=Xu st.1 v
  have h2:=ih (ig st v) (by
   intro z hz
   show 0<=z/\z<((putV st.1 v).1.length:Int)
   rcases List.mem_append.1 hz with hz|hz
   ·have:=h z hz;omega
   ·rw[List.mem_singleton]at hz;subst hz;omega)
  exact⟨Nat.le_trans hp.1 h2.1,h2.2⟩
theorem LH(n:Nat) (inp:List Int) (word:List Rd) (tb:List Vw):∀ k,tb.length<=(playTo n inp word tb k).1.length/\(playTo n inp word tb k).2.length=k+1/\∀ row∈(playTo n inp word tb k).2,row.length=n/\∀ z∈row,0<=z/\z<((playTo n inp word tb k).1.length:Int)
 | 0=>by
  have h:=F8 ((List.range n).map (eE inp)) (tb,[]) (fun z hz=>by simp at hz);have hl:=(fU ((List.range n).map (eE inp)) (tb,[])).1;refine⟨h.1,rfl,fun row hr=>?_⟩;have e:row=(addAll tb ((List.range n).map (eE inp))).2:=by simpa[playTo,v7] using hr
  subst e;exact⟨by simpa[addAll] using hl,h.2⟩
 | k+1=>by
  obtain⟨h1,h2,h3⟩:=LH n inp word tb k;have h:=F8 ((List.range n).map (nextV n k (word.getD k default) ((playTo n inp word tb k).2.getLastD []))) ((playTo n inp word tb k).1,[]) (fun z hz=>by simp at hz);have hl:=(fU ((List.range n).map (nextV n k (word.getD k default) ((playTo n inp word tb k).2.getLastD []))) ((playTo n inp word tb k).1,[])).1;have e1:(playTo n inp word tb (k+1)).1=(addAll (playTo n inp word tb k).1 ((List.range n).map (nextV n k (word.getD k default) ((playTo n inp word tb k).2.getLastD [])))).1:=rfl;have e2:(playTo n inp word tb (k+1)).2=(playTo n inp word tb k).2++[(addAll (playTo n inp word tb k).1 ((List.range n).map (nextV n k (word.getD k default) ((playTo n inp word tb k).2.getLastD [])))).2]:=rfl;have h0:(playTo n inp word tb k).1.length<=(playTo n inp word tb (k+1)).1.length:=by rw[e1];exact h.1
  refine⟨by omega,by rw[e2,List.length_append,h2];rfl,fun row hr=>?_⟩;rw[e2]at hr;rcases List.mem_append.1 hr with hr|hr
  ·obtain⟨h4,h5⟩:=h3 row hr;exact⟨h4,fun z hz=>by have:=h5 z hz;omega⟩
  ·rw[List.mem_singleton]at hr;subst hr;rw[e1];exact⟨by simpa[addAll] using hl,h.2⟩
def Ik(p:Pb) (words:List (List Rd)) (st:List Vw × List Ex):Prop:=
 ∀ x∈st.2,(∃ c:Nat,x.c=c/\c<p.t.cases.length)/\x.word∈words/\x.views.length=x.word.length+1/\∀ row∈x.views,row.length=p.t.n.toNat/\∀ z∈row,0<=z/\z<(st.1.length:Int)
theorem M8(p:Pb) (words:List (List Rd)) (st:List Vw × List Ex) (x:Nat × Nat) (h1:x.1<p.t.cases.length) (h2:x.2<words.length) (h:Ik p words st):Ik p words (kD p words st x):=by
 obtain⟨k1,k2,k3⟩:=LH p.t.n.toNat (p.t.cases.getD x.1 default).inp (words.getD x.2 []) st.1 (words.getD x.2 []).length;intro y hy;rcases List.mem_append.1 hy with hy|hy
 ·obtain⟨a1,a2,a3,a4⟩:=h y hy;refine⟨a1,a2,a3,fun row hr=>⟨(a4 row hr).1,fun z hz=>?_⟩⟩;have:=(a4 row hr).2 z hz
  show 0<=z/\z<((gD p.t.n.toNat (p.t.cases.getD x.1 default).inp (words.getD x.2 []) st.1).1.length:Int)
  unfold gD;omega
 ·rw[List.mem_singleton]at hy;subst hy;refine⟨⟨x.1,rfl,h1⟩,?_,k2,k3⟩
  show words.getD x.2 []∈words
  rw[show words.getD x.2 []=words[x.2] by simp[h2]];exact List.getElem_mem h2
theorem Pr(p:Pb) (words:List (List Rd)) (l:List (Nat × Nat)):∀ st,(∀ x∈l,x.1<p.t.cases.length/\x.2<words.length)->Ik p words st->Ik p words (l.foldl (kD p words) st):=by
 induction l with
 | nil=>intro st _ h;exact h
 | cons a r ih=>intro st hl h;exact ih _ (fun x hx=>hl x (by simp[hx])) (M8 p words st a (hl a (by simp)).1 (hl a (by simp)).2 h)
theorem zp(p:Pb) (words:List (List Rd)) (l:List (Nat × Nat)):∀ st:List Vw × List Ex,(l.foldl (kD p words) st).2.length=st.2.length+l.length:=by
 induction l with
 | nil=>intro st;rfl
 | cons a r ih=>
  intro st;rw[List.foldl_cons,ih];simp[kD];omega
theorem Sp{c n:Nat} {x:Nat × Nat} (h:x∈jv c n):x.1<c/\x.2<n:=by
 unfold jv at h;obtain⟨i,hi,hx⟩:=List.mem_flatMap.1 h;obtain⟨j,hj,rfl⟩:=List.mem_map.1 hx;exact⟨List.mem_range.1 hi,List.mem_range.1 hj⟩
theorem zs(c n:Nat):(jv c n).length=c * n:=by
 unfold jv;induction c with
 | zero=>simp
 | succ c ih=>rw[List.range_succ,List.flatMap_append,List.length_append,ih,Nat.succ_mul];simp
theorem Sq{r:Rd} (h:roundE r=0):0<=r.f/\r.f<2 ^ r.g.n.toNat:=by
 unfold roundE at h;split at h
 ·rename_i h1;exact absurd h h1
 unfold ky at h;split at h
 ·rename_i h1;exact absurd h h1
 split at h
 ·omega
 rename_i h1;refine⟨by omega,?_⟩;have h2:r.f / 2 ^ r.g.n.toNat=0:=by omega
 have h3:(0:Int)<2 ^ r.g.n.toNat:=Int.pow_pos (by decide);have h4:=Int.emod_add_mul_ediv r.f (2 ^ r.g.n.toNat);rw[h2,Int.mul_zero,Int.add_zero]at h4;rw[<-h4];exact Int.emod_lt_of_pos _ h3
theorem Sr{a:Adv} (h:∀ s,s<a.states.length->stateE a (a.states.getD s [])=0) (k:Nat):∀ s,∀ x∈cf a k s,∀ r∈x,0<=r.f/\r.f<2 ^ a.n.toNat:=by
 induction k with
 | zero=>intro s x hx r hr;simp[cf]at hx;subst hx;simp at hr
 | succ k ih=>
  intro s x hx r hr;simp only[cf,List.mem_flatMap,List.mem_map]at hx;obtain⟨m,hm,y,hy,rfl⟩:=hx;rcases List.mem_cons.1 hr with rfl|hr
  ·by_cases hs:s<a.states.length
   ·obtain⟨j,hj,rfl⟩:=List.getElem_of_mem hm;have h1:=h s hs;unfold stateE at h1;rw[if_neg (by omega)]at h1;have h2:=fN h1 j hj;unfold dX at h2;rw[show (a.states.getD s []).getD j default=(a.states.getD s [])[j] by rw[List.getD_eq_getElem?_getD,List.getElem?_eq_getElem hj];rfl]at h2;split at h2
    ·rename_i h3;exact absurd h2 h3
    rename_i h3;split at h2
    ·omega
    rename_i h4;have h5:=Sq (r:=(a.states.getD s [])[j].r) (by simpa using h3);rw[show (a.states.getD s [])[j].r.g.n=a.n by simpa using h4]at h5;exact h5
   ·rw[List.getD_eq_getElem?_getD,List.getElem?_eq_none (by omega)]at hm;simp at hm
  ·exact ih _ y hy r hr
theorem sp{p:Pb} (h:probE p=0):taskE p.t=0/\advE p.a=0/\p.t.n=p.a.n/\0<=p.rounds/\p.rounds<=6:=by
 unfold probE at h;split at h
 ·rename_i h1;exact absurd h h1
 split at h
 ·rename_i h1 h2;exact absurd h h2
 split at h
 ·omega
 split at h
 ·omega
 exact⟨by omega,by omega,by omega,by omega,by omega⟩
theorem jh{s:Sys} (hv:verifyE s=0):SysOk s:=by
 obtain⟨p,hb,rfl⟩:∃ p,buildE p=0/\s=aO p:=⟨s.prob,F7 hv⟩;clear hv;unfold buildE at hb;split at hb
 ·rename_i h;exact absurd hb h
 rename_i hp;have hp:probE p=0:=by omega
 split at hb
 ·omega
 rename_i hm;split at hb
 ·omega
 rename_i ht;obtain⟨nP,Ko,fj,sS,rl⟩:=sp hp;obtain⟨hn,_,ho,_,_⟩:=fB nP;obtain⟨_,eF,_,_⟩:=ir Ko;have hE:=Pr p (aL p) (jv p.t.cases.length (aL p).length) ([],[]) (fun x hx=>Sp hx) (fun x hx=>by simp at hx);have hL:=zp p (aL p) (jv p.t.cases.length (aL p).length) ([],[]);rw[zs]at hL
 have iB:∀ e,e<eS (aO p)->cN (aO p) e∈(execsS p (aL p) (jv p.t.cases.length (aL p).length)).2:=fun e he=>by
  unfold cN;have Va:e<(aO p).ex.length:=he;rw[show (aO p).ex.getD e default=(aO p).ex[e] by rw[List.getD_eq_getElem?_getD,List.getElem?_eq_getElem Va];rfl];exact List.getElem_mem Va
 have J6:∀ e,e<eS (aO p)->(cN (aO p) e).word.length=p.rounds.toNat:=fun e he=>kA _ _ _ _ (hE _ (iB e he)).2.1
 have GM:nS (aO p)=p.t.n.toNat:=rfl;refine⟨hp,⟨by rw[GM];omega,by rw[GM];omega,by rw[GM];show p.t.n=_;omega,by rw[GM];show p.t.n=_;omega⟩,⟨?_,?_,?_⟩,⟨sS,rl⟩,?_,by omega,fun e he=>?_,J6,fun e he=>?_,fun e he=>?_⟩
 ·show 1<=p.t.outs.toNat;omega
 ·show p.t.outs.toNat<=8;omega
 ·show p.t.outs=(p.t.outs.toNat:Int);omega
 ·show (execsS p (aL p) (jv p.t.cases.length (aL p).length)).2.length<=4096
  unfold execsS;rw[hL];simp;omega
 ·obtain⟨⟨c,e1,e2⟩,_⟩:=hE _ (iB e he);rw[e1];exact⟨by omega,by rw[Int.toNat_natCast];exact e2⟩
 ·have h1:=(hE _ (iB e he)).2.1;unfold fltS AP;rw[GM,fj];split
  ·exact⟨by omega,Int.pow_pos (by decide)⟩
  ·rename_i h2;have h3:(cN (aO p) e).word.length - 1<(cN (aO p) e).word.length:=by omega
   rw[show (cN (aO p) e).word.getD ((cN (aO p) e).word.length - 1) default=(cN (aO p) e).word[(cN (aO p) e).word.length - 1] by rw[List.getD_eq_getElem?_getD,List.getElem?_eq_getElem h3];rfl];exact Sr eF _ _ _ h1 _ (List.getElem_mem h3)
 ·obtain⟨_,_,h3,h4⟩:=hE _ (iB e he);exact⟨by rw[h3,J6 e he];rfl,h4⟩
theorem Ss{t:Tk} (h:taskE t=0) {c:Cs} (hc:c∈t.cases):c.out≠[]/\(∀ v∈c.calm,v∈c.out)/\∀ v∈c.out,(v.length:Int)=t.n/\∀ x∈v,0<=x/\x<t.outs:=by
 have hk:=(fB h).2.2.2.2 c hc;refine⟨fun e=>by have:=hk.out1;rw[e]at this;simp at this,hk.calms,fun v hv=>⟨hk.outs v hv,?_⟩⟩;obtain⟨k,rM,rfl⟩:=List.getElem_of_mem hc;unfold taskE at h;split at h
 ·omega
 split at h
 ·omega
 have h3:=fN h k rM;unfold eZ at h3;rw[show t.cases.getD k default=t.cases[k] by simp[rM]]at h3;split at h3
 ·omega
 split at h3
 ·omega
 unfold vectorsE at h3;split at h3
 ·omega
 split at h3
 ·omega
 rename_i h6;have h7:=fN (show bg _ _=0 by simpa using h6);obtain⟨i,hi,rfl⟩:=List.getElem_of_mem hv;have h8:=h7 i hi;unfold jq at h8;rw[show (t.cases[k]).out.getD i []=(t.cases[k]).out[i] by simp[hi]]at h8;split at h8
 ·omega
 rename_i h9;have h9:vectorE (t.cases[k]).out[i] t.n t.outs=0:=by simpa using h9
 unfold vectorE at h9;split at h9
 ·omega
 split at h9
 ·omega
 rename_i B1;have VH:=(fA _ _).1 ((Bool.not_eq_true _).mp B1);intro x hx;obtain⟨j,hj,rfl⟩:=List.getElem_of_mem hx;have MQ:=VH j hj;rw[show (t.cases[k]).out[i].getD j 0=(t.cases[k]).out[i][j] by simp[hj]]at MQ;simp at MQ;omega
theorem zu{s:Sys} (h:SysOk s) {e:Nat} (he:e<eS s):vecE s e≠[]/\∀ v∈vecE s e,v.length=nS s/\(∀ x∈v,0<=x/\x<(oS s:Int))/\∃ i j,i<s.prob.t.cases.length/\j<(s.prob.t.cases.getD i default).out.length/\v=(s.prob.t.cases.getD i default).out.getD j []:=by
 obtain⟨ht,_⟩:=sp h.prob;have hc:=(h.cas e he).2
 have hm:s.prob.t.cases.getD (cN s e).c.toNat default∈s.prob.t.cases:=by
  rw[show s.prob.t.cases.getD (cN s e).c.toNat default=s.prob.t.cases[(cN s e).c.toNat] by simp[hc]];exact List.getElem_mem hc
 obtain⟨h1,h2,h3⟩:=Ss ht hm
 have h4:∀ v∈vecE s e,v∈(s.prob.t.cases.getD (cN s e).c.toNat default).out:=fun v hv=>by
  unfold vecE gt at hv;split at hv
  ·exact h2 v hv
  ·exact hv
 refine⟨?_,fun v hv=>?_⟩
 ·unfold vecE gt;split
  ·rename_i h5;intro h6;rw[h6]at h5;simp at h5
  ·exact h1
 ·obtain⟨h5,h6⟩:=h3 v (h4 v hv);have hn:=h.n;have ho:=h.outs;obtain⟨j,hj,e⟩:=List.getElem_of_mem (h4 v hv);exact⟨by omega,fun x hx=>by have:=h6 x hx;omega,_,j,hc,hj,by rw[<-e];exact(List.getElem_eq_getD []).trans rfl⟩
theorem E7(s:Sys) (e v:Nat):valB s e v=true↔List.replicate (nS s) (v:Int)∈vecE s e:=by
 unfold valB hasV;rw[lD];constructor
 ·rintro⟨k,hk,h⟩;have:=of_decide_eq_true h;rw[show (vecE s e).getD k []=(vecE s e)[k] by simp[hk]]at this;rw[<-this];exact List.getElem_mem hk
 ·intro h;obtain⟨k,hk,e⟩:=List.getElem_of_mem h;exact⟨k,hk,decide_eq_true (by rw[<-e];simp[hk])⟩
theorem Ps{s:Sys} (h:SysOk s) {e v:Nat} (he:e<eS s) (hv:valB s e v=true):v<oS s:=by
 have h1:=((zu h he).2 _ ((E7 s e v).1 hv)).2.1 v (by have:=h.n;rw[List.mem_replicate];exact⟨by omega,rfl⟩);omega
theorem F9{v:List Int} (h:constB v=true):v=List.replicate v.length (v.getD 0 0):=by
 unfold constB at h;have h1:=(fA _ _).1 ((Bool.not_eq_true' _).mp h);rw[List.eq_replicate_iff];refine⟨rfl,fun x hx=>?_⟩;obtain⟨j,hj,rfl⟩:=List.getElem_of_mem hx;have:=h1 j hj;rw[show v.getD j 0=v[j] by simp[hj]]at this;simpa using this
theorem nH(t:Tk):agreeB t=true↔∀ i,i<t.cases.length->∀ j,j<(t.cases.getD i default).out.length->constB ((t.cases.getD i default).out.getD j [])=true:=by
 unfold agreeB;rw[Bool.not_eq_true',fA];constructor
 ·intro h i hi j hj;have:=(fA _ _).1 (h i hi) j hj;simpa using this
 ·intro h i hi;rw[fA];intro j hj;rw[h i hi j hj];rfl
theorem Pt{s:Sys} (h:SysOk s) (ha:agreeB s.prob.t=true) {e:Nat} (he:e<eS s):∃ v,v<oS s/\valB s e v=true:=by
 obtain⟨h1,h2⟩:=zu h he;obtain⟨v,r,hv⟩:=List.exists_cons_of_ne_nil h1;obtain⟨h3,h4,i,j,hi,hj,h5⟩:=h2 v (by rw[hv];simp);have hc:=(nH _).1 ha i hi j hj;rw[<-h5]at hc;have hn:=h.n;have h6:=F9 hc;have h7:=h4 (v.getD 0 0) (by rw[show v.getD 0 0=v[0]'(by omega) by simp[show 0<v.length by omega]];exact List.getElem_mem _);refine⟨(v.getD 0 0).toNat,by omega,(E7 s e _).2 ?_⟩;rw[show (((v.getD 0 0).toNat:Nat):Int)=v.getD 0 0 by omega,<-h3,<-h6,hv];simp
def il(s:Sys) (e:Nat):Nat:=maskN (valB s e) 8
def xp(s:Sys) (l:List Nat) (v:Nat):Bool:=l.all fun e=>valB s e v
def comM(s:Sys) (l:List Nat):Nat:=maskN (xp s l) 8
theorem Co(s:Sys):comM s []=255:=by
 unfold comM;rw[show xp s []=fun _=>true from rfl,M7]
theorem F'(s:Sys) (l:List Nat) (e:Nat):comM s (l++[e])=comM s l &&& il s e:=by
 unfold comM il;rw[Pp];congr 1
 funext v
 simp[xp]
theorem Bh{n m:Nat} (q:Nat->Bool) (h:n<=m) (hq:∀ v,n<=v->v<m->q v=false):firstIx m q=firstIx n q:=by
 rcases bE n q with ⟨e,h1⟩|⟨k,hk,e,h1,h2⟩
 ·rw[e];refine dM _ _ fun j hj=>?_
  by_cases wI:j<n
  ·exact h1 j wI
  ·exact hq j (by omega) hj
 ·rw[e];exact dk m k q (by omega) h2 h1
theorem LI{s:Sys} (h:SysOk s) {l:List Nat} (hl:∀ e∈l,e<eS s):comB s l=firstIx 8 (xp s l):=by
 have ho:=h.outs;unfold comB;rcases l with _|⟨a,r⟩
 ·rw[dk (oS s) 0 _ (by omega) (fun j hj=>by omega) rfl,dk 8 0 _ (by omega) (fun j hj=>by omega) rfl]
 ·refine(Bh _ ho.2.1 fun v hv _=>?_).symm;cases hq:xp s (a :: r) v with
  | false=>exact hq
  | true=>
   unfold xp at hq;rw[List.all_eq_true]at hq;have:=Ps h (hl a (by simp)) (hq a (by simp));omega
theorem Pu{s:Sys} (h:SysOk s) {l:List Nat} (hl:∀ e∈l,e<eS s):comB s l<0↔comM s l=0:=by
 rw[LI h hl];unfold comM;rw[kF,<-qG];simp
theorem M9(s:Sys) (l:List Nat):-1<=comB s l/\comB s l<oS s\/oS s=0:=by
 unfold comB;rcases bE (oS s) (fun v=>l.all fun e=>valB s e v) with ⟨e,_⟩|⟨k,hk,e,_⟩<;>omega
theorem Pv(s:Sys) (l:List Nat):comB s l<0↔∀ v,v<oS s->∃ e∈l,valB s e v=false:=by
 unfold comB;constructor
 ·intro h v hv;rcases bE (oS s) (fun v=>l.all fun e=>valB s e v) with ⟨_,h1⟩|⟨k,hk,e,_⟩
  ·have:=h1 v hv;rw[List.all_eq_false]at this;obtain⟨e,he,h2⟩:=this;exact⟨e,he,by simpa using h2⟩
  ·omega
 ·intro h;rw[dM]
  ·omega
  ·intro j hj;obtain⟨e,he,h2⟩:=h j hj;rw[List.all_eq_false];exact⟨e,he,by simp[h2]⟩
theorem nr(s:Sys) (f:Nat):(farL s f).length=eS s:=by simp[farL,M4]
theorem nJ(s:Sys) (f e:Nat) (he:e<eS s):(farL s f).getD e 0=cJ (eS s) (byB s) f (eS s) e:=by
 simp[farL,M4,he]
theorem lI{s:Sys} {f:Nat} (hf:f<eS s):Dist (eS s) (byB s) f fun e=>(farL s f).getD e 0:=by
 have h:=Ph (L:=byB s) hf;refine⟨by rw[nJ s f f hf];exact h.zero,fun e he h1=>?_,fun e he=>?_,fun e he d h1=>?_,fun e g he hg h1 h2=>?_⟩
 ·rw[nJ s f e he]at h1;exact h.only e he h1
 ·rw[nJ s f e he];exact h.low e he
 ·rw[nJ s f e he]at h1;obtain⟨g,hg,h2,h3⟩:=h.pred e he d h1;exact⟨g,hg,by rw[nJ s f g hg];exact h2,h3⟩
 ·rw[nJ s f g hg]at h1 ⊢;rw[nJ s f e he];exact h.next e g he hg h1 h2
theorem v8{s:Sys} {f:Nat} (hf:f<eS s) (e:Nat) (he:e<eS s):(farL s f).getD e 0<eS s:=by
 rw[nJ s f e he];have hr:=fV (n:=eS s) (L:=byB s) (f:=f) (eS s) e;by_cases h0:0<=cJ (eS s) (byB s) f (eS s) e
 ·have h1:=tW (n:=eS s) (L:=byB s) (f:=f) (eS s) e (cJ (eS s) (byB s) f (eS s) e).toNat (by omega) (by omega);have:=IK hf _ e he h1;omega
 ·omega
theorem xr{s:Sys} {f:Nat} (hf:f<eS s) {e d:Nat} (he:e<eS s) (h:(farL s f).getD e 0=d+1):gE s (farL s f) d e<eS s/\(farL s f).getD (gE s (farL s f) d e) 0=d/\byB s e (gE s (farL s f) d e)=true/\firstIx (eS s) (fun g=>decide ((farL s f).getD g 0=d)&&byB s e g)=(gE s (farL s f) d e:Nat):=by
 obtain⟨g,hg,h1,h2⟩:=(lI hf).pred e he d h;unfold gE;rcases bE (eS s) (fun g=>decide ((farL s f).getD g 0=d)&&byB s e g) with ⟨_,h3⟩|⟨k,hk,e1,h3,_⟩
 ·have h4:=h3 g hg;rw[decide_eq_true h1,h2]at h4;cases h4
 ·rw[e1,Int.toNat_natCast];simp only[Bool.and_eq_true,decide_eq_true_eq]at h3;exact⟨hk,h3.1,h3.2,rfl⟩
def chainB(s:Sys):Nat->List Lk->Prop
 | _,[]=>True
 | e,y :: r=>0<=y.x/\y.x.toNat<eS s/\0<=y.p/\y.p<nS s/\linkB s y.p.toNat e y.x.toNat=true/\chainB s y.x.toNat r
def kG(e:Nat):List Lk->Nat
 | []=>e
 | y :: r=>kG y.x.toNat r
theorem zw{s:Sys}:∀ (l:List Lk) (e:Nat) (m:List Lk),chainB s e l->chainB s (kG e l) m->chainB s e (l++m)
 | [],_,_,_,h=>h
 | _ :: r,_,m,⟨h1,h2,h3,h4,h5,h6⟩,h=>⟨h1,h2,h3,h4,h5,zw r _ m h6 h⟩
theorem end_app:∀ (l:List Lk) (e:Nat) (m:List Lk),kG e (l++m)=kG (kG e l) m
 | [],_,_=>rfl
 | _ :: r,_,m=>end_app r _ m
theorem tZ{s:Sys} {f:Nat} (hf:f<eS s):∀ (d e:Nat),e<eS s->(farL s f).getD e 0=d->chainB s e (iv s (farL s f) d e)/\kG e (iv s (farL s f) d e)=f/\(iv s (farL s f) d e).length=d
 | 0,e,he,h=>⟨trivial,(lI hf).only e he h,rfl⟩
 | d+1,e,he,h=>by
  obtain⟨h1,h2,h3,_⟩:=xr hf he (by rw[h];rfl);obtain⟨h4,h5,h6⟩:=AQ h3;obtain⟨h7,h8,h9⟩:=tZ hf d _ h1 h2;refine⟨⟨by dsimp only;omega,by dsimp only;rw[Int.toNat_natCast];exact h1,h4,h5,?_,?_⟩,?_,?_⟩
  ·dsimp only;rw[Int.toNat_natCast];exact h6
  ·dsimp only;rw[Int.toNat_natCast];exact h7
  ·show kG (gE s (farL s f) d e:Int).toNat _=f
   rw[Int.toNat_natCast];exact h8
  ·show (iv s (farL s f) d (gE s (farL s f) d e)).length+1=d+1
   rw[h9]
def E8(s:Sys) (e f:Nat):Prop:=0<=(farL s f).getD e 0
theorem E9{s:Sys} {e f:Nat} (he:e<eS s) (hf:f<eS s) (h:E8 s e f):chainB s e (gu s e f)/\kG e (gu s e f)=f/\(gu s e f).length<eS s:=by
 have h1:=v8 hf e he;obtain⟨h2,h3,h4⟩:=tZ hf ((farL s f).getD e 0).toNat e he (by unfold E8 at h;omega);exact⟨h2,h3,by unfold gu;rw[h4];omega⟩
theorem end_mem:∀ (l:List Lk) (e:Nat),kG e l∈e :: cA l
 | [],e=>by simp[kG]
 | y :: r,e=>by
  have h:=end_mem r y.x.toNat
  show kG y.x.toNat r∈e :: (y.x.toNat :: cA r)
  exact List.mem_cons_of_mem _ h
theorem xx(l m:List Lk):cA (l++m)=cA l++cA m:=by simp[cA]
theorem LK{s:Sys}:∀ (l:List Nat) (e:Nat),e<eS s->(∀ m∈l,m<eS s)->(∀ a∈e :: l,∀ b∈e :: l,E8 s a b)->chainB s e (gm s e l)/\(∀ m∈l,m∈e :: cA (gm s e l))/\(gm s e l).length<=l.length * (eS s - 1)
 | [],e,_,_,_=>⟨trivial,fun m hm=>by simp at hm,by simp[gm]⟩
 | m :: r,e,he,hl,hn=>by
  have hm:=hl m (by simp);obtain⟨h1,h2,h3⟩:=E9 he hm (hn e (by simp) m (by simp));obtain⟨h4,h5,h6⟩:=LK r m hm (fun x hx=>hl x (by simp[hx])) (fun a ha b hb=>hn a (List.mem_cons_of_mem _ ha) b (List.mem_cons_of_mem _ hb));have RK:=end_mem (gu s e m) e;rw[h2]at RK
  have hme2:m∈e :: cA (gm s e (m :: r)):=by
   show m∈e :: cA (gu s e m++gm s m r)
   rw[xx];rcases List.mem_cons.1 RK with h|h
   ·rw[h];simp
   ·exact List.mem_cons_of_mem _ (List.mem_append_left _ h)
  refine⟨zw _ _ _ h1 (by rw[h2];exact h4),fun x hx=>?_,?_⟩
  ·rcases List.mem_cons.1 hx with rfl|hx
   ·exact hme2
   ·rcases List.mem_cons.1 (h5 x hx) with rfl|h
    ·exact hme2
    ·show x∈e :: cA (gu s e m++gm s m r)
     rw[xx];exact List.mem_cons_of_mem _ (List.mem_append_right _ h)
  ·show (gu s e m++gm s m r).length<=(r.length+1) * (eS s - 1)
   rw[List.length_append,Nat.succ_mul];omega
theorem IU{q:Nat->Nat->Bool} (hs:∀ a b,q a b=q b a) (ht:∀ a b c,q a b=true->q b c=true->q a c=true) (n i k:Nat) (hi:i<n) (hk:k<n):(iG q n).getD i 0=(iG q n).getD k 0↔i=k\/q i k=true:=by
 have e:iG q n=iG (fun a b=>decide (a=b) || q a b) n:=oA fun i _ k hk=>by rw[decide_eq_false (by omega)];rfl
 rw[e,F5 (q:=fun a b=>decide (a=b) || q a b) (fun a=>by simp) (fun a b=>by rw[hs,decide_eq_decide.2 (eq_comm (a:=a))]) n (fun a b c _ _ _ h1 h2=>by
  simp only[Bool.or_eq_true,decide_eq_true_eq]at h1 h2 ⊢;rcases h1 with rfl|h1
  ·exact h2
  ·rcases h2 with rfl|h2
   ·exact .inr h1
   ·exact .inr (ht a b c h1 h2)) i k hi hk]
 simp
theorem Bi{s:Sys} (h:SysOk s) {R:Nat->Nat->Prop} (hr:∀ a,R a a) (h0:∀ p a b,p<nS s->a<eS s->b<eS s->linkB s p a b=true->R a b) (h1:∀ a b c,R a b->R b c->R a c):∀ m,m<nS s->∀ i k,i<eS s->k<eS s->(eC s m).getD i 0=(eC s m).getD k 0->R i k
 | 0,hm,i,k,hi,hk,e=>by
  rcases (IU (sd s 0) (fun a b c=>vI) (eS s) i k hi hk).1 e with rfl|e
  ·exact hr i
  ·exact h0 0 i k hm hi hk e
 | m+1,hm,i,k,hi,hk,e=>by
  have hl:=gS s m;unfold eC lp at e;rw[hl]at e;have cH:=nq (oB (eC s m) (classL s (m+1)));rw[F5 (fun a=>su _ _ a a (De _ _ a)) (fun a b=>cH _ a b) (eS s) (fun a b c _ hb _ h2 h3=>gW _ _ a b c hb h2 h3) i k hi hk]at e
  have key:∀ m' x y,m'<=eS s->x<eS s->y<eS s->it (dN (eC s m) (classL s (m+1))) m' x y=true->R x y:=by
   intro m';induction m' with
   | zero=>
    intro x y _ hx hy h2;unfold it dN at h2;simp only[Bool.or_eq_true,decide_eq_true_eq]at h2;rcases h2 with h2|h2
    ·exact Bi h hr h0 h1 m (by omega) x y hx hy h2
    ·rcases (IU (sd s (m+1)) (fun a b c=>vI) (eS s) x y hx hy).1 h2 with rfl|h2
     ·exact hr x
     ·exact h0 (m+1) x y hm hx hy h2
   | succ m' ih=>
    intro x y hm' hx hy h2;rw[it]at h2;simp only[Bool.or_eq_true,Bool.and_eq_true]at h2;rcases h2 with h2|⟨h2,h3⟩
    ·exact ih x y (by omega) hx hy h2
    ·exact h1 _ _ _ (ih x m' (by omega) hx (by omega) h2) (ih m' y (by omega) (by omega) hy h3)
  exact key _ i k (Nat.le_refl _) hi hk e
theorem xy{s:Sys} (h:SysOk s) (i k:Nat) (hi:i<eS s) (hk:k<eS s) (e:(partsS s).getD i 0=(partsS s).getD k 0):E8 s i k:=by
 have hn:=h.n
 have hR:=Bi h (R:=fun a b=>∀ c,c<eS s->(0<=(farL s c).getD a 0↔0<=(farL s c).getD b 0)) (fun a c _=>Iff.rfl) (fun p a b hp ha hb hl c hc=>by
  have hd:=lI hc;have gR:byB s a b=true:=dW _ p _ hp hl
  exact⟨fun h1=>(hd.next b a hb ha h1 (by rw[IT];exact gR)).1,fun h1=>(hd.next a b ha hb h1 gR).1⟩) (fun a b c h1 h2 x hx=>(h1 x hx).trans (h2 x hx)) (nS s - 1) (by omega) i k hi hk e
 unfold E8;rw[hR k hk];have:=(lI hk).zero;omega
theorem kH{parts:List Int} {k:Int} {e:Nat}:e∈memL parts k↔e<parts.length/\parts.getD e 0=k:=by simp[memL]
theorem Pw{s:Sys} (h:SysOk s) (k:Int) (a:Nat) (r:List Nat) (e:memL (partsS s) k=a :: r):a<eS s/\chainB s a (gm s a r)/\(∀ m∈a :: r,m∈cA (gw s (a :: r)))/\(gw s (a :: r)).length<=1+r.length * (eS s - 1)/\r.length<eS s:=by
 have hm:∀ m∈a :: r,m<eS s/\(partsS s).getD m 0=k:=fun m hm=>by
  rw[<-e,kH,dm]at hm;exact hm
 have ha:=(hm a (by simp)).1;obtain⟨h1,h2,h3⟩:=LK r a ha (fun m h=>(hm m (by simp[h])).1) (fun x hx y hy=>xy h x y (hm x hx).1 (hm y hy).1 (by rw[(hm x hx).2,(hm y hy).2]));refine⟨ha,h1,fun m h4=>?_,?_,?_⟩
 ·have ev:cA (gw s (a :: r))=a :: cA (gm s a r):=by simp[cA,gw]
  rw[ev];rcases List.mem_cons.1 h4 with rfl|h4
  ·simp
  ·exact h2 m h4
 ·simp only[gw,List.length_cons];omega
 ·have h4:=congrArg List.length e
  have h5:(memL (partsS s) k).length<=eS s:=by
   exact Nat.le_trans (List.length_filter_le _ _) (by rw[List.length_range,dm];exact Nat.le_refl _)
  rw[List.length_cons]at h4;omega
theorem Bj(s:Sys) (p:Lk) (l:List Lk) (i:Nat):gF s (p :: l) (i+2)=gF s l (i+1):=by
 unfold gF;simp only[List.getD_cons_succ,Nat.add_sub_cancel,show i+2 - 1=i+1 by omega];rw[if_neg (show ¬ (i+2=0) by omega),if_neg (show ¬ (i+1=0) by omega)]
theorem Px(s:Sys) (p y:Lk) (r:List Lk):gF s (p :: y :: r) 1=0↔0<=y.x/\y.x.toNat<eS s/\0<=y.p/\y.p<nS s/\linkB s y.p.toNat p.x.toNat y.x.toNat=true:=by
 unfold gF;rw[show (p :: y :: r).getD 1 default=y from rfl,show (p :: y :: r).getD (1 - 1) default=p from rfl,if_neg (show ¬ (1=0) by omega)];constructor
 ·intro h;split at h
  ·omega
  split at h
  ·omega
  split at h
  ·rename_i h3;exact⟨by omega,by omega,by omega,by omega,h3⟩
  ·omega
 ·rintro⟨h1,h2,h3,h4,h5⟩;rw[if_neg (by omega),if_neg (by omega),if_pos h5]
theorem ud(s:Sys):∀ (l:List Lk) (p:Lk),chainB s p.x.toNat l↔∀ i,i<l.length->gF s (p :: l) (i+1)=0
 | [],p=>⟨fun _ i hi=>by simp at hi,fun _=>trivial⟩
 | y :: r,p=>by
  have ih:=ud s r y;have h1:=Px s p y r;constructor
  ·rintro⟨a1,a2,a3,a4,a5,a6⟩ i hi;cases i with
   | zero=>exact h1.2 ⟨a1,a2,a3,a4,a5⟩
   | succ i=>rw[Bj];exact ih.1 a6 i (by simpa using hi)
  ·intro h;obtain⟨a1,a2,a3,a4,a5⟩:=h1.1 (h 0 (by simp));exact⟨a1,a2,a3,a4,a5,ih.2 fun i hi=>by rw[<-Bj s p];exact h (i+1) (by simpa using hi)⟩
theorem qn(s:Sys) (w:List Lk):walkE s w=0↔∃ a:Nat,∃ r,w=⟨a,-1⟩ :: r/\a<eS s/\chainB s a r/\w.length<=4096:=by
 constructor
 ·intro h;unfold walkE at h;split at h
  ·omega
  rename_i h1;split at h
  ·omega
  rename_i h2;have h3:=fN h
  match w,h1,h2,h3 with
  | y :: r,_,h2,h3=>
   have h4:=h3 0 (by simp);unfold gF at h4;rw[List.getD_cons_zero]at h4;split at h4
   ·omega
   rename_i h5;rw[if_pos rfl]at h4;split at h4
   ·omega
   rename_i h6;refine⟨y.x.toNat,r,?_,by omega,(ud s r y).2 fun i hi=>h3 (i+1) (by simpa using hi),by omega⟩;obtain⟨x,p⟩:=y;dsimp only at h5 h6 ⊢;rw[show p=-1 by omega,show ((x.toNat:Nat):Int)=x by omega]
 ·rintro⟨a,r,rfl,h1,h2,h3⟩;unfold walkE;rw[if_neg (by simp),if_neg (by omega),cV];intro j hj;cases j with
  | zero=>
   unfold gF;rw[List.getD_cons_zero,if_neg (by dsimp only;omega),if_pos rfl,if_neg (by simp)]
  | succ j=>exact(ud s r ⟨a,-1⟩).1 (by dsimp only;rw[Int.toNat_natCast];exact h2) j (by simpa using hj)
theorem xz{s:Sys}:∀ (l:List Lk) (e i:Nat),chainB s e l->chainB s e (l.take i)
 | [],_,i,_=>by simp[chainB]
 | y :: r,e,0,_=>trivial
 | y :: r,e,i+1,⟨h1,h2,h3,h4,h5,h6⟩=>⟨h1,h2,h3,h4,h5,xz r _ i h6⟩
theorem Di{s:Sys}:∀ (l:List Lk) (e i:Nat),chainB s e l->chainB s (kG e (l.take i)) (l.drop i)
 | [],_,i,_=>by simp[chainB]
 | y :: r,e,0,h=>h
 | y :: r,e,i+1,⟨_,_,_,_,_,h6⟩=>Di r _ i h6
theorem end_at:∀ (l:List Lk) (a:Nat) (i:Nat),i<=l.length->kG a (l.take i)=(((⟨a,-1⟩:Lk) :: l).getD i default).x.toNat
 | l,a,0,_=>by simp[kG]
 | [],a,i+1,h=>by simp at h
 | y :: r,a,i+1,h=>by
  have ih:=end_at r y.x.toNat i (by simpa using h);rw[List.getD_cons_succ,List.take_succ_cons]
  show kG y.x.toNat (r.take i)=_
  rw[ih];cases i with
  | zero=>simp;omega
  | succ i=>rw[List.getD_cons_succ,List.getD_cons_succ]
structure Less (s:Sys) (w c:List Lk):Prop where
 walk:walkE s w=0->walkE s c=0
 len:c.length<w.length
 vis:∀ e∈cA c,e∈cA w
theorem Py(w:List Lk) (i:Nat) (hi:i<w.length):(w.getD i default).x.toNat∈cA w:=by
 unfold cA;rw[show w.getD i default=w[i] by simp[hi]];exact List.mem_map_of_mem (List.getElem_mem hi)
theorem xA{w c:List Lk} (h:∀ y∈c,y∈w):∀ e∈cA c,e∈cA w:=fun e he=>by
 unfold cA at he ⊢;obtain⟨y,hy,rfl⟩:=List.mem_map.1 he;exact List.mem_map_of_mem (h y hy)
theorem Ga{s:Sys} {w c:List Lk} (hc:c∈dO s w) (h0:0<c.length):Less s w c:=by
 unfold dO at hc;rcases List.mem_cons.1 hc with rfl|hc
 ·have hl:w.dropLast.length=w.length - 1:=List.length_dropLast;refine⟨fun h=>?_,by omega,xA fun y hy=>(List.dropLast_sublist w).subset hy⟩;obtain⟨a,r,rfl,h1,h2,h3⟩:=(qn s w).1 h;rw[List.length_cons]at hl h3;have hr:r≠[]:=fun e=>by rw[e]at hl;simp at hl;rw[e]at h0;simp at h0
  refine(qn s _).2 ⟨a,r.dropLast,List.dropLast_cons_of_ne_nil hr,h1,?_,by rw[hl];omega⟩;rw[List.dropLast_eq_take];exact xz _ _ _ h2
 rcases List.mem_append.1 hc with hc|hc
 ·split at hc
  ·rename_i h4;rw[List.mem_singleton]at hc
   match w,h4 with
   | y :: z :: r,h4=>
    have hc:c=⟨z.x,-1⟩ :: r:=by rw[hc];rfl
    subst hc;refine⟨fun h=>?_,by simp,?_⟩
    ·obtain⟨a,r',e,h1,h2,h3⟩:=(qn s _).1 h;injection e with e1 e2
     subst e2;obtain⟨a1,a2,_,_,_,a6⟩:=h2;exact(qn s _).2 ⟨z.x.toNat,r,by rw[show ((z.x.toNat:Nat):Int)=z.x by omega],a2,a6,by simp at h3 ⊢;omega⟩
    ·intro e he;simp only[cA,List.map_cons,List.mem_cons]at he ⊢;exact .inr he
  ·simp at hc
 ·obtain⟨i,hi,hc⟩:=List.mem_flatMap.1 hc;obtain⟨j,hj,hc⟩:=List.mem_filterMap.1 hc;have hi:=List.mem_range.1 hi;have hj:=List.mem_range.1 hj;have yZ:w.length - 1 - j<w.length:=by omega
  have kY:i+2<=w.length - 1 - j:=by omega
  generalize w.length - 1 - j=k at hc yZ kY;clear hj;unfold xo at hc;split at hc
  ·rename_i gR;injection hc with hc
   subst hc;refine⟨fun h=>?_,by simp;omega,fun e he=>?_⟩
   ·obtain⟨a,r,rfl,h1,h2,h3⟩:=(qn s w).1 h;obtain⟨b1,b2,b3⟩:=AQ gR;have gk:k<=r.length:=by simp at yZ;omega
    have Se:i<=r.length:=by omega
    have e1:=end_at r a i Se;have e2:=end_at r a k gk
    have dj:0<=(((⟨a,-1⟩:Lk) :: r).getD k default).x/\(((⟨a,-1⟩:Lk) :: r).getD k default).x.toNat<eS s:=by
     obtain⟨k',rfl⟩:∃ k',k=k'+1:=⟨k - 1,by omega⟩;have h4:=(ud s r ⟨a,-1⟩).1 (by dsimp only;rw[Int.toNat_natCast];exact h2) k' (by omega);unfold gF at h4;split at h4
     ·omega
     ·omega
    refine(qn s _).2 ⟨a,r.take i++⟨(((⟨a,-1⟩:Lk) :: r).getD k default).x,byP s (((⟨a,-1⟩:Lk) :: r).getD i default).x.toNat (((⟨a,-1⟩:Lk) :: r).getD k default).x.toNat⟩ :: r.drop k,rfl,h1,?_,by simp at h3 yZ ⊢;omega⟩;refine zw _ _ _ (xz _ _ _ h2) ⟨dj.1,dj.2,b1,b2,?_,?_⟩
    ·rw[e1];exact b3
    ·have h5:=Di r a k h2;rw[e2]at h5;exact h5
   ·unfold cA at he;rw[List.map_append,List.map_cons]at he;rcases List.mem_append.1 he with he|he
    ·exact xA (c:=w.take (i+1)) (fun y hy=>List.mem_of_mem_take hy) e he
    ·rcases List.mem_cons.1 he with rfl|he
     ·exact Py w k yZ
     ·exact xA (c:=w.drop (k+1)) (fun y hy=>List.mem_of_mem_drop hy) e he
  ·cases hc
theorem uf{s:Sys} {w c:List Lk} (h:jV s w=some c):c∈dO s w/\0<c.length/\cY s c=true/\Less s w c:=by
 have h1:=List.mem_of_find?_eq_some h;have h2:=List.find?_some h;unfold jg at h2;simp only[Bool.and_eq_true,decide_eq_true_eq]at h2;exact⟨h1,h2.1,h2.2,Ga h1 h2.1⟩
theorem Bk(s:Sys):∀ (k:Nat) (w:List Lk),w.length<=k->mF s (k+1) w=mF s k w
 | 0,w,h=>by
  show (match jV s w with|some c=>mF s 0 c|none=>w)=w
  cases hn:jV s w with
  | none=>rfl
  | some c=>have:=(uf hn).2.2.2.len;omega
 | k+1,w,h=>by
  show (match jV s w with|some c=>mF s (k+1) c|none=>w)=match jV s w with|some c=>mF s k c|none=>w
  cases hn:jV s w with
  | none=>rfl
  | some c=>exact Bk s k c (by have:=(uf hn).2.2.2.len;omega)
theorem Pz(s:Sys) (w:List Lk) (k:Nat) (h:w.length<=k):mF s k w=i8 s w:=by
 obtain⟨d,rfl⟩:∃ d,k=w.length+d:=⟨k - w.length,by omega⟩;clear h;induction d with
 | zero=>rfl
 | succ d ih=>rw[<-ih];exact Bk s (w.length+d) w (by omega)
theorem M'{s:Sys} {w:List Lk} (h:jV s w=none):i8 s w=w:=by
 unfold i8;cases w.length with
 | zero=>rfl
 | succ k=>rw[mF,h]
theorem Na{s:Sys} {w c:List Lk} (h:jV s w=some c):i8 s w=i8 s c:=by
 have hl:=(uf h).2.2.2.len;unfold i8;obtain⟨k,hk⟩:∃ k,w.length=k+1:=⟨w.length - 1,by omega⟩;rw[hk,mF,h];exact Pz s c k (by omega)
theorem xB(s:Sys) (w:List Lk) (i:Nat):gF s w i=0↔0<=(w.getD i default).x/\(w.getD i default).x.toNat<eS s/\(i=0->(w.getD i default).p=-1)/\(0<i->0<=(w.getD i default).p/\(w.getD i default).p<nS s/\linkB s (w.getD i default).p.toNat (w.getD (i - 1) default).x.toNat (w.getD i default).x.toNat=true):=by
 unfold gF;generalize w.getD i default=y;generalize w.getD (i - 1) default=z;constructor
 ·intro h;split at h
  ·omega
  split at h
  ·split at h
   ·omega
   ·exact⟨by omega,by omega,fun _=>by omega,fun h'=>by omega⟩
  ·split at h
   ·omega
   split at h
   ·rename_i h1;exact⟨by omega,by omega,fun h'=>by omega,fun _=>⟨by omega,by omega,h1⟩⟩
   ·omega
 ·rintro⟨h1,h2,h3,h4⟩;rw[if_neg (by omega)];split
  ·rename_i h5;rw[if_neg (by have:=h3 h5;omega)]
  ·rename_i h5;obtain⟨h6,h7,h8⟩:=h4 (by omega);rw[if_neg (by omega),if_pos h8]
theorem se(s:Sys) (w:List Lk):walkE s w=0↔0<w.length/\w.length<=4096/\∀ i,i<w.length->gF s w i=0:=by
 unfold walkE;constructor
 ·intro h;split at h
  ·omega
  split at h
  ·omega
  ·exact⟨by omega,by omega,fN h⟩
 ·rintro⟨h1,h2,h3⟩;rw[if_neg (by omega),if_neg (by omega),cV _ _ h3]
theorem sf(s:Sys) (e:Nat) (he:e<eS s):(choiceS s).getD e 0=comB s (memL (partsS s) ((partsS s).getD e 0)):=by simp[choiceS,he]
def Cp(s:Sys):List Lk->List Lk->List Lk
 | pre,[]=>pre
 | pre,y :: r=>if cY s (pre++[y]) then pre++[y] else Cp s (pre++[y]) r
theorem St(s:Sys) (pre:List Lk):Cp s pre []=pre:=rfl
theorem zx(s:Sys) (pre:List Lk) (y:Lk) (r:List Lk):Cp s pre (y :: r)=if cY s (pre++[y]) then pre++[y] else Cp s (pre++[y]) r:=rfl
theorem LL(s:Sys):∀ (l pre:List Lk),(∀ i,i<pre.length->cY s (pre.take (i+1))=false)->lH s (pre++l)=Cp s pre l
 | [],pre,h=>by
  rw[List.append_nil,St];unfold lH AR
  have h1:firstIx pre.length (fun i=>cY s (pre.take (i+1)))=-1:=by
   rcases bE pre.length (fun i=>cY s (pre.take (i+1))) with ⟨e,_⟩|⟨k,hk,_,h2,_⟩
   ·exact e
   ·rw[h k hk]at h2;cases h2
  rw[h1,if_pos (by omega),List.take_length]
 | y :: r,pre,h=>by
  have ht:∀ i,i<pre.length->(pre++y :: r).take (i+1)=pre.take (i+1):=fun i hi=>by rw[List.take_append_of_le_length (by omega)]
  have hy:(pre++y :: r).take (pre.length+1)=pre++[y]:=by
   rw[List.take_append,List.take_of_length_le (by omega)];simp
  rw[zx];by_cases hc:cY s (pre++[y])=true
  ·rw[if_pos hc];unfold lH AR
   have h1:firstIx (pre++y :: r).length (fun i=>cY s ((pre++y :: r).take (i+1)))=pre.length:=
    dk _ pre.length _ (by simp) (fun j hj=>by rw[ht j hj];exact h j hj) (by rw[hy];exact hc)
   rw[h1,if_neg (by omega),Int.toNat_natCast,hy]
  ·rw[if_neg hc,<-LL s r (pre++[y]) (fun i hi=>?_),List.append_assoc]
   ·rfl
   ·rw[List.length_append,List.length_singleton]at hi;by_cases e:i=pre.length
    ·subst e;rw[List.take_of_length_le (by simp)];simpa using hc
    ·rw[List.take_append_of_le_length (by omega)];exact h i (by omega)
theorem PC{s:Sys} (hs:SysOk s) (ha:agreeB s.prob.t=true) {a:Nat} {r:List Nat} (YC:a<eS s):lH s (gw s (a :: r))=Cp s [⟨a,-1⟩] (gm s a r):=by
 show lH s ([⟨a,-1⟩]++gm s a r)=_
 refine LL s _ _ fun i hi=>?_
 obtain rfl:i=0:=by simp at hi;omega
 show cY s [⟨a,-1⟩]=false
 unfold cY;refine decide_eq_false fun aB=>?_
 have h1:=(Pv s _).1 aB;obtain⟨v,jF,kr⟩:=Pt hs ha YC;obtain⟨e,he,h2⟩:=h1 v jF;have:e=a:=by simpa[cA] using he
 rw[this,kr]at h2;cases h2
def ii(s:Sys) (w:List Lk) (i j:Nat):List (List Lk):=(List.range' j (w.length - (i+2) - j)).filterMap fun j=>xo s w i (w.length - 1 - j)
def gG(s:Sys) (w:List Lk) (i:Nat):List (List Lk):=(List.range' i (w.length - i)).flatMap (Ij s w)
theorem PD(s:Sys) (w:List Lk):gG s w 0=(List.range w.length).flatMap (Ij s w):=by
 unfold gG;rw[List.range_eq_range',Nat.sub_zero]
theorem PE(s:Sys) (w:List Lk):gG s w w.length=[]:=by
 unfold gG;rw[Nat.sub_self];rfl
theorem Nb(s:Sys) (w:List Lk) (i:Nat) (hi:i<w.length):gG s w i=ii s w i 0++gG s w (i+1):=by
 unfold gG ii;rw[show w.length - i=(w.length - (i+1))+1 by omega,List.range'_succ,List.flatMap_cons,Nat.sub_zero];unfold Ij;rw[List.range_eq_range']
theorem PF(s:Sys) (w:List Lk) (i j:Nat) (h:w.length<=i+2+j):ii s w i j=[]:=by
 unfold ii;rw[show w.length - (i+2) - j=0 by omega];rfl
theorem Nc(s:Sys) (w:List Lk) (i j:Nat) (h:i+2+j<w.length) {c:List Lk} (hc:xo s w i (w.length - 1 - j)=some c):ii s w i j=c :: ii s w i (j+1):=by
 unfold ii;rw[show w.length - (i+2) - j=(w.length - (i+2) - (j+1))+1 by omega,List.range'_succ,List.filterMap_cons,hc]
theorem Nd(s:Sys) (w:List Lk) (i j:Nat) (h:i+2+j<w.length) (hc:xo s w i (w.length - 1 - j)=none):ii s w i j=ii s w i (j+1):=by
 unfold ii;rw[show w.length - (i+2) - j=(w.length - (i+2) - (j+1))+1 by omega,List.range'_succ,List.filterMap_cons,hc]
theorem Cq(s:Sys) (w:List Lk):dO s w=w.dropLast :: ((if 1<w.length then [⟨(w.getD 1 default).x,-1⟩ :: w.drop 2] else [])++gG s w 0):=by
 rw[PD];rfl
theorem LM{α:Type} {L d r:List α} {c x:α} (h:L=d++c :: r):d.length<L.length/\L.getD d.length x=c/\L=(d++[c])++r/\(d++[c]).length=d.length+1:=by
 subst h;refine⟨by simp,?_,by simp,by simp⟩;rw[List.getD_eq_getElem?_getD,List.getElem?_append_right (Nat.le_refl _)];simp
theorem Su{s:Sys} {w c:List Lk} {d r:List (List Lk)} (h:dO s w=d++c :: r) (hd:∀ x∈d,jg s x=false) (hc:jg s c=true):jV s w=some c:=by
 unfold jV;rw[h,List.find?_append,List.find?_eq_none.2 (fun x hx=>by rw[hd x hx];simp)];simp[hc]
theorem PG{s:Sys} {w:List Lk} {d:List (List Lk)} (h:dO s w=d) (hd:∀ x∈d,jg s x=false):jV s w=none:=by
 unfold jV;rw[h];exact List.find?_eq_none.2 (fun x hx=>by rw[hd x hx];simp)
theorem LN{α:Type} {p q:Prop} [Decidable p] [Decidable q] (h:p↔q) (a b:α):(if p then a else b)=if q then a else b:=by
 by_cases hp:p
 ·rw[if_pos hp,if_pos (h.1 hp)]
 ·rw[if_neg hp,if_neg fun hq=>hp (h.2 hq)]
def chQ(s:Sys) (k i:Nat):List Int:=(List.range (eS s)).map fun e=>if (partsS s).getD e 0<k\/e∈(memL (partsS s) k).take i then(choiceS s).getD e 0 else 0
theorem nK(s:Sys) (k i:Nat):(chQ s k i).length=eS s:=by simp[chQ]
theorem wc(s:Sys) (k i e:Nat) (he:e<eS s):(chQ s k i).getD e 0=if (partsS s).getD e 0<k\/e∈(memL (partsS s) k).take i then(choiceS s).getD e 0 else 0:=by simp[chQ,he]
theorem ug(s:Sys):mD (partsS s):=by
 unfold partsS;cases nS s - 1 with
 | zero=>exact qk _ _
 | succ k=>exact qk _ _
theorem uh{a b:List Int} {n:Nat} (ha:a.length=n) (hb:b.length=n) (h:∀ i,i<n->a.getD i 0=b.getD i 0):a=b:=by
 refine List.ext_getElem (by omega) fun i h1 h2=>?_
 have:=h i (by omega)
 rwa [List.getD_eq_getElem?_getD,List.getD_eq_getElem?_getD,List.getElem?_eq_getElem h1,List.getElem?_eq_getElem h2]at this
theorem Sv(s:Sys):chQ s 0 0=List.replicate (eS s) 0:=by
 refine uh (nK _ _ _) (by simp) fun e he=>?_
 have h1:=(mE (ug s) e (by rw[dm];exact he)).1
 rw[wc _ _ _ _ he,if_neg (by rw[List.take_zero];rintro(h|h);· omega
                             ·cases h)]
 simp[he]
theorem Sw{s:Sys} {k i:Nat} (hi:i<(memL (partsS s) k).length):chQ s k (i+1)=(chQ s k i).set ((memL (partsS s) k).getD i 0) (comB s (memL (partsS s) k)):=by
 have hm:(memL (partsS s) k).getD i 0=(memL (partsS s) k)[i]:=by simp[hi]
 obtain⟨hl,hp⟩:=kH.1 (List.getElem_mem hi);rw[<-hm]at hl hp;rw[dm]at hl;refine uh (nK _ _ _) (by rw[List.length_set,nK]) fun e he=>?_
 have ht:e∈(memL (partsS s) k).take (i+1)↔e∈(memL (partsS s) k).take i\/e=(memL (partsS s) k).getD i 0:=by rw[List.take_succ_eq_append_getElem hi,hm,List.mem_append,List.mem_singleton]
 rw[wc _ _ _ _ he];by_cases h:e=(memL (partsS s) k).getD i 0
 ·rw[if_pos (.inr (ht.2 (.inr h)))];subst h;rw[sf _ _ he,hp,List.getD_eq_getElem?_getD (l:=(chQ s k i).set _ _),List.getElem?_set_self (by rw[nK];exact hl)];rfl
 ·have h2:((chQ s k i).set ((memL (partsS s) k).getD i 0) (comB s (memL (partsS s) k))).getD e 0=(chQ s k i).getD e 0:=by
   rw[List.getD_eq_getElem?_getD,List.getElem?_set_ne (by omega),<-List.getD_eq_getElem?_getD]
  rw[h2,wc _ _ _ _ he];refine LN ?_ _ _;rw[ht];exact⟨fun q=>by rcases q with q|q|q<;>first|exact .inl q|exact .inr q|exact absurd q h,fun q=>by rcases q with q|q;exact .inl q;exact .inr (.inl q)⟩
theorem Sx(s:Sys) (k:Nat):chQ s k (memL (partsS s) k).length=chQ s (k+1) 0:=by
 refine uh (nK _ _ _) (nK _ _ _) fun e he=>?_
 rw[wc _ _ _ _ he,wc _ _ _ _ he];refine LN ?_ _ _;rw[List.take_length,kH,dm,List.take_zero];simp only[List.not_mem_nil,or_false];constructor
 ·rintro(h|h)
  ·omega
  ·omega
 ·intro h;by_cases h2:(partsS s).getD e 0<k
  ·exact .inl h2
  ·exact .inr ⟨he,by omega⟩
theorem IV{s:Sys} {k:Nat} (h:∀ e,e<eS s->(partsS s).getD e 0<k):chQ s k 0=choiceS s:=by
 refine uh (nK _ _ _) (by simp[choiceS]) fun e he=>?_
 rw[wc _ _ _ _ he,if_pos (.inl (h e he))]
theorem Sy{s:Sys} {k:Nat} (h:(memL (partsS s) k).length=0):chQ s k 0=choiceS s:=IV fun e he=>by
 have hn:∀ x,x<eS s->(partsS s).getD x 0≠k:=fun x hx e2=>by
  have:x∈memL (partsS s) k:=kH.2 ⟨by rw[dm];exact hx,e2⟩;rw[List.eq_nil_of_length_eq_zero h]at this;cases this
 have h1:=hn e he;by_cases h2:(partsS s).getD e 0<k
 ·exact h2
 ·obtain⟨j,hj,e3⟩:=xh (ug s) e (by rw[dm];exact he) k (by omega) (by omega);exact absurd e3 (hn j (by omega))
theorem Wo(s:Sys):chQ s (eS s) 0=choiceS s:=IV fun e he=>by
 have h1:=mE (ug s) e (by rw[dm];exact he);omega
end Go.Proofs.YtmeaoneaephjeaaGreatDoor
