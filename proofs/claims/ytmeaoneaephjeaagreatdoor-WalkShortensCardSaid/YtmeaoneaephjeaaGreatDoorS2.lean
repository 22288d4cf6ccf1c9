/-
  A part of the proof: lemmas and contracts that the parts behind it use. Each one's conditions are its own premises.
-/
import Derived.WalkKit
import Derived.Test.YtmeaoneaephjeaaGreatDoorProg
import Derived.Test.YtmeaoneaephjeaaGreatDoorS1
set_option maxRecDepth 100000
set_option maxHeartbeats 8000000
set_option linter.unusedVariables false
set_option linter.unusedSimpArgs false
namespace Go.Proofs.YtmeaoneaephjeaaGreatDoor
def bY(a:Adv):Nat->Nat->List (List Rd)
 | 0,_=>[[]]
 | k+1,s=>(a.states.getD s []).flatMap fun m=>(bY a k m.to.toNat).map (m.r :: ·)
theorem kg(a:Adv) (k:Nat):∀ s,∀ x∈bY a k s,x.length=k:=by
 induction k with
 | zero=>intro s x hx;simp[bY]at hx;rw[hx];rfl
 | succ k ih=>
  intro s x hx;simp only[bY,List.mem_flatMap,List.mem_map]at hx;obtain⟨m,_,y,hy,rfl⟩:=hx;simp[ih _ y hy]
def pP(L:Int) (c:List Int) (n:Int) (m:Mv):Int:=min (n+c.getD m.to.toNat 0) (L+1)
def A0(L:Int) (c:List Int) (l:List Mv):Int:=l.foldl (pP L c) 0
def zp(L:Int) (a:Adv) (c:List Int):List Int:=a.states.map (A0 L c)
def eh(L:Int) (a:Adv):Nat->List Int
 | 0=>List.replicate a.states.length 1
 | k+1=>zp L a (eh L a k)
def numberL(L:Int) (a:Adv) (k:Nat):Int:=(eh L a k).getD 0 0
theorem EJ(L:Int) (a:Adv) (k:Nat):(eh L a k).length=a.states.length:=by
 cases k with
 | zero=>simp[eh]
 | succ k=>simp[eh,zp]
def BM(L:Int) (c:List Int):Prop:=∀ x∈c,0<=x/\x<=L+1
theorem uB{L:Int} (hL:0<=L) {c:List Int} (h:BM L c) (i:Nat):0<=c.getD i 0/\c.getD i 0<=L+1:=by
 by_cases hi:i<c.length
 ·rw[List.getD_eq_getElem?_getD,List.getElem?_eq_getElem hi];exact h _ (List.getElem_mem hi)
 ·rw[List.getD_eq_getElem?_getD,List.getElem?_eq_none (by omega)];simp;omega
theorem GX{L:Int} (hL:0<=L) {c:List Int} (h:BM L c) {n:Int} (hn:0<=n/\n<=L+1) (m:Mv):0<=pP L c n m/\pP L c n m<=L+1:=by
 have:=uB hL h m.to.toNat;unfold pP;omega
theorem QT{L:Int} (hL:0<=L) {c:List Int} (h:BM L c) (l:List Mv):∀ n:Int,(0<=n/\n<=L+1)->0<=l.foldl (pP L c) n/\l.foldl (pP L c) n<=L+1:=by
 induction l with
 | nil=>intro n hn;exact hn
 | cons m r ih=>intro n hn;exact ih _ (GX hL h hn m)
theorem UK{L:Int} (hL:0<=L) {c:List Int} (h:BM L c) (l:List Mv):0<=A0 L c l/\A0 L c l<=L+1:=QT hL h l 0 (by omega)
theorem A1{L:Int} (hL:0<=L) (a:Adv) (k:Nat):BM L (eh L a k):=by
 induction k with
 | zero=>intro x hx;rw[(List.mem_replicate.1 hx).2];omega
 | succ k ih=>intro x hx;obtain⟨l,_,rfl⟩:=List.mem_map.1 hx;exact UK hL ih l
theorem N1{L:Int} (hL:0<=L) (c:List Int) (f:Mv->Int) (l:List Mv) (hc:∀ m∈l,c.getD m.to.toNat 0=min (f m) (L+1)) (hf:∀ m∈l,0<=f m):∀ n s:Int,0<=s->n=min s (L+1) →
  l.foldl (pP L c) n=min (s+(l.map f).sum) (L+1):=by
 induction l with
 | nil=>intro n s _ hn;simp[hn]
 | cons m r ih=>
  intro n s hs hn;have h1:=hc m (by simp);have h2:=hf m (by simp);rw[List.foldl_cons,ih (fun x hx=>hc x (by simp[hx])) (fun x hx=>hf x (by simp[hx])) _ (s+f m) (by omega) ?_,List.map_cons,List.sum_cons]
  ·rw[Int.add_assoc]
  ·unfold pP;rw[h1,hn];omega
theorem JW{α β:Type} (l:List α) (f:α->List β):((l.flatMap f).length:Int)=(l.map fun x=>((f x).length:Int)).sum:=by
 induction l with
 | nil=>rfl
 | cons a r ih=>rw[List.flatMap_cons,List.length_append,List.map_cons,List.sum_cons,<-ih];omega
theorem N2{L:Int} (hL:0<=L) (a:Adv) (oM:∀ s,s<a.states.length->∀ m∈a.states.getD s [],m.to.toNat<a.states.length) (k:Nat):∀ s,s<a.states.length->(eh L a k).getD s 0=min ((bY a k s).length:Int) (L+1):=by
 induction k with
 | zero=>
  intro s hs;simp[eh,bY,hs];omega
 | succ k ih=>
  intro s hs
  have h1:(eh L a (k+1)).getD s 0=A0 L (eh L a k) (a.states.getD s []):=by
   simp[eh,zp,hs]
  rw[h1];unfold A0;rw[N1 hL (eh L a k) (fun m=>((bY a k m.to.toNat).length:Int)) _ (fun m hm=>ih _ (oM s hs m hm)) (fun m _=>by omega) 0 0 (by omega) (by omega)];simp only[bY];rw[JW];simp
theorem q6{L:Int} (hL:0<=L) (a:Adv) (oM:∀ s,s<a.states.length->∀ m∈a.states.getD s [],m.to.toNat<a.states.length) (h0:0<a.states.length) (k:Nat):numberL L a k=min ((bY a k 0).length:Int) (L+1):=N2 hL a oM k 0 h0
theorem Yd{a:Adv} (h:∀ s,s<a.states.length->stateE a (a.states.getD s [])=0):∀ s,s<a.states.length->∀ m∈a.states.getD s [],m.to.toNat<a.states.length:=fun s hs m hm=>by
 obtain⟨j,hj,rfl⟩:=List.mem_iff_getElem.1 hm;have h1:=h s hs;unfold stateE at h1;split at h1
 ·cases h1
 have h2:=fB h1 j hj;have h3:=(DC h2).2;have e:(a.states.getD s []).getD j default=(a.states.getD s [])[j]:=by rw[List.getD_eq_getElem?_getD,List.getElem?_eq_getElem hj];rfl
 rw[e]at h3;omega
structure Vw where
 p:Int
 k:Int
 i:Int
 h0:Int
 h1:Int
 h2:Int
 h3:Int
 h4:Int
instance:Inhabited Vw:=⟨⟨0,0,0,0,0,0,0,0⟩⟩
instance:DecidableEq Vw:=fun a b=>decidable_of_iff (a.p=b.p/\a.k=b.k/\a.i=b.i/\a.h0=b.h0/\a.h1=b.h1/\a.h2=b.h2/\a.h3=b.h3/\a.h4=b.h4) (by cases a;cases b;simp)
structure Ex where
 c:Int
 word:List Rd
 views:List (List Int)
structure Sys where
 prob:Pb
 n:Int
 tab:List Vw
 ex:List Ex
def putV(tb:List Vw) (v:Vw):List Vw × Nat:=if v∈tb then(tb,tb.idxOf v) else(tb++[v],tb.length)
def gY(st:List Vw × List Int) (v:Vw):List Vw × List Int:=((putV st.1 v).1,st.2++[((putV st.1 v).2:Int)])
def addAll(tb:List Vw) (vs:List Vw):List Vw × List Int:=vs.foldl gY (tb,[])
theorem tW(tb:List Vw) (vs:List Vw) (k:Nat) (hk:k<vs.length):addAll tb (vs.take (k+1))=gY (addAll tb (vs.take k)) vs[k]:=by
 unfold addAll;rw[List.take_succ_eq_append_getElem hk,List.foldl_append];rfl
theorem EK(st:List Vw × List Int) (v:Vw):(gY st v).2.length=st.2.length+1/\(gY st v).1.length<=st.1.length+1:=by
 unfold gY putV;refine⟨by simp,?_⟩;split<;>simp
theorem fI(vs:List Vw):∀ st:List Vw × List Int,(vs.foldl gY st).2.length=st.2.length+vs.length/\(vs.foldl gY st).1.length<=st.1.length+vs.length:=by
 induction vs with
 | nil=>intro st;simp
 | cons v r ih=>
  intro st;have h1:=ih (gY st v);have h2:=EK st v;simp only[List.foldl_cons,List.length_cons];omega
def eA(inp:List Int) (p:Nat):Vw:=⟨p,0,inp.getD p 0,-1,-1,-1,-1,-1⟩
def lY(n:Nat) (r:Rd) (now:List Int) (p q:Nat):Int:=if q<n/\hasB (r.g.hear p) q=true then now.getD q 0 else -1
def nextV(n k:Nat) (r:Rd) (now:List Int) (p:Nat):Vw:=⟨p,k+1,0,lY n r now p 0,lY n r now p 1,lY n r now p 2,lY n r now p 3,lY n r now p 4⟩
def uC(n:Nat) (inp:List Int) (tb:List Vw):List Vw × List Int:=addAll tb ((List.range n).map (eA inp))
def LY(n k:Nat) (r:Rd) (st:List Vw × List (List Int)):List Vw × List (List Int):=
 let a:=addAll st.1 ((List.range n).map (nextV n k r (st.2.getLastD [])))
 (a.1,st.2++[a.2])
def playTo(n:Nat) (inp:List Int) (word:List Rd) (tb:List Vw):Nat->List Vw × List (List Int)
 | 0=>let a:=uC n inp tb;(a.1,[a.2])
 | k+1=>LY n k (word.getD k default) (playTo n inp word tb k)
def gu(n:Nat) (inp:List Int) (word:List Rd) (tb:List Vw):List Vw × List (List Int):=playTo n inp word tb word.length
def jn(cases words:Nat):List (Nat × Nat):=(List.range cases).flatMap fun c=>(List.range words).map fun w=>(c,w)
def kh(p:Pb) (words:List (List Rd)) (st:List Vw × List Ex) (x:Nat × Nat):List Vw × List Ex:=
 let a:=gu p.t.n.toNat (p.t.cases.getD x.1 default).inp (words.getD x.2 []) st.1
 (a.1,st.2++[⟨x.1,words.getD x.2 [],a.2⟩])
def execsS(p:Pb) (words:List (List Rd)) (l:List (Nat × Nat)):List Vw × List Ex:=l.foldl (kh p words) ([],[])
def aP(p:Pb):List (List Rd):=bY p.a p.rounds.toNat 0
def aN(p:Pb):Sys:=
 let a:=execsS p (aP p) (jn p.t.cases.length (aP p).length)
 ⟨p,p.t.n,a.1,a.2⟩
def buildE(p:Pb):Int:=if probE p≠0 then probE p else if 4096<p.t.cases.length * (aP p).length then 17 else if 8192<(aN p).tab.length then 17 else 0
theorem N3(x y:Int) (r s:List Int):ordV (x :: r) (y :: s)=if cmpI x y≠0 then cmpI x y else ordV r s:=by
 rw[ordV];unfold cmpI;grind
theorem jM(n:Nat) (f:Nat->Int):bm (n+1) f=if f 0≠0 then f 0 else bm n (fun j=>f (j+1)):=by
 induction n with
 | zero=>simp[bm]
 | succ n ih=>
  rw[bm,ih]
  conv=>rhs;rw[bm]
  grind
def Rd.list(r:Rd):List Int:=[r.g.n,r.g.h0,r.g.h1,r.g.h2,r.g.h3,r.g.h4,r.f]
theorem JX(a b:Rd):roundC a b=ordV a.list b.list:=by
 unfold Rd.list roundC fp;rw[jM,jM,jM,jM,jM];simp only[N3,bm,Gr.hear];have h0:ordV [] []=0:=rfl;rw[h0];generalize cmpI a.g.n b.g.n=c0;generalize cmpI a.g.h0 b.g.h0=c1;generalize cmpI a.g.h1 b.g.h1=c2;generalize cmpI a.g.h2 b.g.h2=c3;generalize cmpI a.g.h3 b.g.h3=c4;generalize cmpI a.g.h4 b.g.h4=c5;generalize cmpI a.f b.f=c6
 grind
theorem LZ{a b c:List Int} (h1:ordV a b<0) (h2:ordV b c<0):ordV a c<0:=by
 induction a generalizing b c with
 | nil=>
  cases b with
  | nil=>simp[ordV]at h1
  | cons y s=>
   cases c with
   | nil=>simp[ordV]at h2
   | cons z t=>simp[ordV]
 | cons x r ih=>
  cases b with
  | nil=>simp[ordV]at h1
  | cons y s=>
   cases c with
   | nil=>simp[ordV]at h2
   | cons z t=>
    unfold ordV at h1 h2 ⊢;by_cases cC:x<y
    ·by_cases XN:y<z
     ·rw[if_pos (by omega)];omega
     ·rw[if_neg XN]at h2;by_cases Tv:z<y
      ·rw[if_pos Tv]at h2;omega
      ·rw[if_pos (by omega)];omega
    ·rw[if_neg cC]at h1;by_cases oP:y<x
     ·rw[if_pos oP]at h1;omega
     ·rw[if_neg oP]at h1;by_cases XN:y<z
      ·rw[if_pos (by omega)];omega
      ·rw[if_neg XN]at h2;by_cases Tv:z<y
       ·rw[if_pos Tv]at h2;omega
       ·rw[if_neg Tv]at h2;rw[if_neg (by omega),if_neg (by omega)];exact ih h1 h2
theorem ik{a:Adv} (h:advE a=0):(1<=a.states.length/\a.states.length<=256)/\(∀ s,s<a.states.length->stateE a (a.states.getD s [])=0)/\growsB a=true/\1<=a.n/\a.n<=5:=by
 unfold advE at h;by_cases h1:a.n<1\/5<a.n
 ·rw[if_pos h1]at h;omega
 ·rw[if_neg h1]at h;by_cases h2:a.states.length<1\/256<a.states.length\/4096<movesN a.states
  ·rw[if_pos h2]at h;omega
  ·rw[if_neg h2]at h;by_cases h3:bm a.states.length (fun s=>stateE a (a.states.getD s []))=0
   ·rw[if_neg (by simpa using h3)]at h;refine⟨by omega,fB h3,?_,by omega,by omega⟩;cases hg:growsB a with
    | true=>rfl
    | false=>rw[hg]at h;simp at h
   ·rw[if_pos h3]at h;exact absurd h h3
structure Pl where
 rd:Int
 pr:Int
 h0:Int
 h1:Int
 h2:Int
 h3:Int
 h4:Int
instance:DecidableEq Pl:=fun a b=>decidable_of_iff (a.rd=b.rd/\a.pr=b.pr/\a.h0=b.h0/\a.h1=b.h1/\a.h2=b.h2/\a.h3=b.h3/\a.h4=b.h4) (by cases a;cases b;simp)
def zs(word:List Rd):Int:=if word.length=0 then 0 else(word.getD (word.length - 1) default).f
def gg(c:Cs) (f:Int):List (List Int):=if f=0/\0<c.calm.length then c.calm else c.out
def iU(t:Tk) (i f:Int):Int:=
 if taskE t≠0 then taskE t else if i<0\/(t.cases.length:Int)<=i then 6 else if f<0\/2 ^ t.n.toNat<=f then 2 else 0
def iV(t:Tk) (i f:Int):List (List Int):=if iU t i f≠0 then [] else gg (t.cases.getD i.toNat default) f
theorem QU{α:Type} [DecidableEq α] (l m:List α) (hl:l.Pairwise (·≠·)) (h:∀ x∈l,x∈m):l.length<=m.length:=by
 induction l generalizing m with
 | nil=>simp
 | cons x r ih=>
  have hx:=h x (by simp);have h1:=ih (m.erase x) (List.pairwise_cons.1 hl).2 (fun y hy=>(List.mem_erase_of_ne (fun e=>(List.pairwise_cons.1 hl).1 y hy e.symm)).2 (h y (by simp[hy])));rw[List.length_erase_of_mem hx]at h1;have:=List.length_pos_of_mem hx;simp only[List.length_cons];omega
theorem GY(l:List (List Int)) (h:∀ i,i<l.length->unordB l i=false):∀ j i,i<j->j<l.length->ordV (l.getD i []) (l.getD j [])<0:=by
 intro j;induction j with
 | zero=>intro i hi;omega
 | succ j ih=>
  intro i hi hj;have h1:=h (j+1) hj
  have h2:ordV (l.getD j []) (l.getD (j+1) [])<0:=by
   unfold unordB at h1;rw[Nat.add_sub_cancel,decide_eq_true (by omega:0<j+1),Bool.true_and]at h1;have:=of_decide_eq_false h1;omega
  rcases Nat.lt_or_ge i j with h3|h3
  ·exact LZ (ih i h3 (by omega)) h2
  ·obtain rfl:i=j:=by omega
   exact h2
theorem N4(l:List (List Int)) (h:∀ i,i<l.length->unordB l i=false):l.Pairwise (·≠·):=by
 rw[List.pairwise_iff_getElem];intro i j hi hj hij e;have h1:=GY l h j i hij hj;rw[show l.getD i []=l[i] by simp[hi],show l.getD j []=l[j] by simp[hj],e,sf]at h1;omega
theorem nz{n:Nat} {f:Nat->Int} (h:bm n f=0):∀ i,i<n->f i=0:=by
 intro i hi;induction n generalizing f i with
 | zero=>omega
 | succ n ih=>
  rw[jM]at h;by_cases h0:f 0=0
  ·rw[if_neg (by simpa using h0)]at h;cases i with
   | zero=>exact h0
   | succ i=>exact ih h i (by omega)
  ·rw[if_pos h0]at h;exact absurd h h0
theorem zT{v:List Int} {n m:Int} (h:vectorE v n m=0):(v.length:Int)=n:=by
 unfold vectorE at h;by_cases e:(v.length:Int)=n
 ·exact e
 ·rw[if_pos e]at h;omega
theorem QV{l:List (List Int)} {v:List Int} (h:hasV l v=true):v∈l:=by
 unfold hasV at h;obtain⟨i,hi,e⟩:=(la _ _).1 h;unfold eqV at e;have:=of_decide_eq_true e;rw[<-this,show l.getD i []=l[i] by simp[hi]];exact List.getElem_mem hi
structure CaseOk (t:Tk) (c:Cs):Prop where
 inp:(c.inp.length:Int)=t.n
 out1:1<=c.out.length
 out2:c.out.length<=1024
 calm:c.calm.length<=1024
 outs:∀ v∈c.out,(v.length:Int)=t.n
 calms:∀ v∈c.calm,v∈c.out
theorem fm{t:Tk} (h:taskE t=0):(1<=t.n/\t.n<=5)/\(1<=t.ins/\t.ins<=8)/\(1<=t.outs/\t.outs<=8)/\(1<=t.cases.length/\t.cases.length<=1024)/\∀ c∈t.cases,CaseOk t c:=by
 unfold taskE at h;split at h
 ·omega
 rename_i h1;split at h
 ·omega
 rename_i h2;refine⟨by omega,by omega,by omega,by omega,fun c hc=>?_⟩;obtain⟨k,hk,rfl⟩:=List.getElem_of_mem hc;have h3:=nz h k hk;unfold eY at h3;rw[show t.cases.getD k default=t.cases[k] by simp[hk]]at h3;split at h3
 ·omega
 rename_i h4;split at h3
 ·omega
 unfold vectorsE at h3;split at h3
 ·omega
 rename_i h5;split at h3
 ·omega
 rename_i h6;have h7:=nz (show bm _ _=0 by simpa using h6);have h8:=nz h3
 have hcal:∀ i,i<(t.cases[k]).calm.length->hasV (t.cases[k]).out ((t.cases[k]).calm.getD i [])=true/\unordB (t.cases[k]).calm i=false:=by
  intro i hi;have:=h8 i hi;unfold i8 at this;split at this
  ·rename_i h9;refine⟨h9,?_⟩;cases hu:unordB (t.cases[k]).calm i
   ·rfl
   ·rw[hu]at this;simp at this
  ·omega
 have kO:∀ v∈(t.cases[k]).calm,v∈(t.cases[k]).out:=by
  intro v hv;obtain⟨i,hi,rfl⟩:=List.getElem_of_mem hv;have:=QV (hcal i hi).1
  rwa [show (t.cases[k]).calm.getD i []=(t.cases[k]).calm[i] by simp[hi]]at this
 refine⟨zT (by simpa using h4),by omega,by omega,?_,?_,kO⟩
 ·exact Nat.le_trans (QU _ _ (N4 _ fun i hi=>(hcal i hi).2) kO) (by omega)
 ·intro v hv;obtain⟨i,hi,rfl⟩:=List.getElem_of_mem hv;have:=h7 i hi;unfold jh at this;rw[show (t.cases[k]).out.getD i []=(t.cases[k]).out[i] by simp[hi]]at this;split at this
  ·omega
  ·rename_i h9;exact zT (by simpa using h9)
theorem Kx{t:Tk} {c:Cs} (h:CaseOk t c) (f:Int):(gg c f).length<=1024/\∀ v∈gg c f,(v.length:Int)=t.n:=by
 unfold gg;split
 ·exact⟨h.calm,fun v hv=>h.outs v (h.calms v hv)⟩
 ·exact⟨h.out2,h.outs⟩
def br(q:Nat->Nat->Bool):Nat->List Int × Int
 | 0=>([],0)
 | i+1=>let s:=br q i;if firstIx i (fun k=>q k i)<0 then(s.1++[s.2],s.2+1) else(s.1++[s.1.getD (firstIx i fun k=>q k i).toNat 0],s.2)
def iw(q:Nat->Nat->Bool) (n:Nat):List Int:=(br q n).1
theorem jY(q:Nat->Nat->Bool):∀ n,(br q n).1.length=n
 | 0=>rfl
 | n+1=>by
  unfold br;dsimp only;split<;>simp[jY q n]
theorem pC(q:Nat->Nat->Bool) (n:Nat):(iw q n).length=n:=jY q n
theorem zU{q r:Nat->Nat->Bool}:∀ n,(∀ i,i<n->firstIx i (fun k=>q k i)=firstIx i (fun k=>r k i))->br q n=br r n
 | 0,_=>rfl
 | n+1,h=>by
  unfold br;rw[zU n (fun i hi=>h i (by omega)),h n (by omega)]
theorem nA{q r:Nat->Nat->Bool} {n:Nat} (h:∀ i,i<n->∀ k,k<i->q k i=r k i):iw q n=iw r n:=by
 unfold iw;rw[zU n (fun i hi=>mq _ _ _ (h i hi))]
theorem sh(q:Nat->Nat->Bool):∀ n i,i<n->(br q (n+1)).1.getD i 0=(br q n).1.getD i 0:=fun n i hi=>by
 rw[br];have hl:=jY q n;split<;>(simp only[List.getD_eq_getElem?_getD];rw[List.getElem?_append_left (by omega)])
theorem jN(q:Nat->Nat->Bool):∀ n,0<=(br q n).2/\(br q n).2<=n/\∀ x∈(br q n).1,0<=x/\x<(br q n).2
 | 0=>⟨by simp[br],by simp[br],fun x hx=>by simp[br]at hx⟩
 | n+1=>by
  obtain⟨h1,h2,h3⟩:=jN q n;have hl:=jY q n;rw[br];split
  ·refine⟨by simp;omega,by simp;omega,fun x hx=>?_⟩;rcases List.mem_append.1 hx with hx|hx
   ·have:=h3 x hx;simp;omega
   ·rw[List.mem_singleton]at hx;subst hx;simp;omega
  ·rename_i hf;refine⟨by simpa using h1,by simp;omega,fun x hx=>?_⟩;rcases List.mem_append.1 hx with hx|hx
   ·exact h3 x hx
   ·rw[List.mem_singleton]at hx;subst hx;rcases bH n (fun k=>q k n) with ⟨e,_⟩|⟨k,hk,e,_⟩
    ·omega
    ·rw[e,Int.toNat_natCast,List.getD_eq_getElem?_getD,List.getElem?_eq_getElem (by omega)];exact h3 _ (List.getElem_mem _)
def il(q:Nat->Nat->Bool):Nat->Nat->Nat->Bool
 | 0,i,k=>q i k
 | m+1,i,k=>il q m i k || (il q m i m&&il q m m k)
theorem rt(q:Nat->Nat->Bool):∀ m i k,q i k=true->il q m i k=true
 | 0,_,_,h=>h
 | m+1,i,k,h=>by rw[il,rt q m i k h];rfl
theorem gT(q:Nat->Nat->Bool):∀ m i j k,j<m->il q m i j=true->il q m j k=true->il q m i k=true
 | 0,_,_,_,hj,_,_=>by omega
 | m+1,i,j,k,hj,h1,h2=>by
  rw[il]at h1 h2 ⊢;simp only[Bool.or_eq_true,Bool.and_eq_true]at h1 h2 ⊢;by_cases e:j=m
  ·subst e;have h3:il q j i j=true:=by rcases h1 with h|⟨h,_⟩<;>exact h
   have h4:il q j j k=true:=by rcases h2 with h|⟨_,h⟩<;>exact h
   exact .inr ⟨h3,h4⟩
  ·have m7:j<m:=by omega
   rcases h1 with h1|⟨h1,h3⟩<;>rcases h2 with h2|⟨h2,h4⟩
   ·exact .inl (gT q m i j k m7 h1 h2)
   ·exact .inr ⟨gT q m i j m m7 h1 h2,h4⟩
   ·exact .inr ⟨h1,gT q m m j k m7 h3 h2⟩
   ·exact .inr ⟨h1,h4⟩
theorem mG{q:Nat->Nat->Bool} (h:∀ i k,q i k=q k i):∀ m i k,il q m i k=il q m k i
 | 0,i,k=>h i k
 | m+1,i,k=>by rw[il,il,mG h m i k,mG h m i m,mG h m m k,Bool.and_comm]
theorem si{q:Nat->Nat->Bool} {R:Nat->Nat->Prop} (h0:∀ i k,q i k=true->R i k) (h1:∀ i j k,R i j->R j k->R i k):∀ m i k,il q m i k=true->R i k
 | 0,i,k,h=>h0 i k h
 | m+1,i,k,h=>by
  rw[il]at h;simp only[Bool.or_eq_true,Bool.and_eq_true]at h;rcases h with h|⟨h2,h3⟩
  ·exact si h0 h1 m i k h
  ·exact h1 _ _ _ (si h0 h1 m i m h2) (si h0 h1 m m k h3)
def dM(a b:List Int) (i k:Nat):Bool:=decide (a.getD i 0=a.getD k 0) || decide (b.getD i 0=b.getD k 0)
theorem nB(a b:List Int) (i k:Nat):dM a b i k=dM a b k i:=by
 unfold dM;rw[decide_eq_decide.2 (eq_comm (a:=a.getD i 0)),decide_eq_decide.2 (eq_comm (a:=b.getD i 0))]
theorem BN(a b:List Int) (i:Nat):dM a b i i=true:=by simp[dM]
def kQ(a b:List Int):List Int:=iw (fun k i=>il (dM a b) a.length k i) a.length
theorem GZ(a b R:List Int) (n:Nat) (hn:a.length=n) (h1:∀ i k,i<n->k<n->dM a b i k=true->R.getD i 0=R.getD k 0) (h2:∀ i,i<n->∃ j,j<n/\R.getD i 0=(j:Int)/\il (dM a b) n j i=true):iw (fun k i=>decide (R.getD k 0=R.getD i 0)) n=kQ a b:=by
 unfold kQ;rw[hn];refine nA fun i hi k hk=>?_
 have hs:=mG (nB a b);cases hw:il (dM a b) n k i with
 | true=>
  rw[decide_eq_true_eq]
  exact si (q:=fun i k=>dM a b i k&&decide (i<n)&&decide (k<n)) (R:=fun i k=>R.getD i 0=R.getD k 0) (fun i k h=>by simp only[Bool.and_eq_true,decide_eq_true_eq]at h;exact h1 i k h.1.2 h.2 h.1.1) (fun i j k h h'=>h.trans h') n k i (by
   have key:∀ m x y,m<=n->x<n->y<n->il (dM a b) m x y=true->il (fun i k=>dM a b i k&&decide (i<n)&&decide (k<n)) m x y=true:=by
    intro m;induction m with
    | zero=>intro x y _ hx hy h;simp only[il,Bool.and_eq_true,decide_eq_true_eq]at h ⊢;exact⟨⟨h,hx⟩,hy⟩
    | succ m ih=>
     intro x y hm hx hy h;rw[il]at h ⊢;simp only[Bool.or_eq_true,Bool.and_eq_true]at h ⊢;rcases h with h|⟨h,h'⟩
     ·exact .inl (ih x y (by omega) hx hy h)
     ·exact .inr ⟨ih x m (by omega) hx (by omega) h,ih m y (by omega) (by omega) hy h'⟩
   exact key n k i (Nat.le_refl _) (by omega) hi hw)
 | false=>
  rw[decide_eq_false_iff_not];intro e;obtain⟨j,hj,e1,w1⟩:=h2 k (by omega);obtain⟨j',m7,e2,w2⟩:=h2 i hi;have:j=j':=by omega
  subst this;rw[hs n j k]at w1;have:=gT _ n k j i hj w1 w2;rw[hw]at this;cases this
structure Par (n:Nat) (P:List Int):Prop where
 len:P.length=n
 le:∀ i,i<n->0<=P.getD i 0/\P.getD i 0<=i
def rootN(P:List Int) (i:Nat):Nat:=if (P.getD i 0).toNat<i then rootN P (P.getD i 0).toNat else i
termination_by i
theorem G0(P:List Int) (i:Nat):rootN P i<=i:=by
 induction i using Nat.strongRecOn with
 | _ i ih=>
  rw[rootN];split
  ·rename_i h;have:=ih _ h;omega
  ·omega
theorem EN{n:Nat} {P:List Int} (h:Par n P) (i:Nat) (hi:i<n):P.getD (rootN P i) 0=rootN P i:=by
 induction i using Nat.strongRecOn with
 | _ i ih=>
  rw[rootN];split
  ·rename_i h1;exact ih _ h1 (by omega)
  ·have:=h.le i hi;omega
theorem nC{P:List Int} {i:Nat} (h:P.getD i 0=i):rootN P i=i:=by
 rw[rootN,if_neg (by omega)]
theorem mR{n:Nat} {P:List Int} (h:Par n P) (i:Nat) (hi:i<n):rootN P (P.getD i 0).toNat=rootN P i:=by
 by_cases e:(P.getD i 0).toNat<i
 ·rw[rootN.eq_1 P i,if_pos e]
 ·have h2:=h.le i hi;have:(P.getD i 0).toNat=i:=by omega
  rw[this]
theorem fD{α:Type} (l:List α) (i j:Nat) (x d:α) (hi:i<l.length):(l.set i x).getD j d=if j=i then x else l.getD j d:=by
 rw[List.getD_eq_getElem?_getD,List.getElem?_set,List.getD_eq_getElem?_getD];split
 ·rename_i e;subst e;simp
 ·rename_i e;rw[if_neg (Ne.symm e)]
theorem N5{n:Nat} {P:List Int} (h:Par n P) (i:Nat) (hi:i<n):Par n (P.set i (P.getD (P.getD i 0).toNat 0))/\∀ j,j<n->rootN (P.set i (P.getD (P.getD i 0).toNat 0)) j=rootN P j:=by
 have hl:=h.len;have h1:=h.le i hi;have h2:=h.le (P.getD i 0).toNat (by omega);refine⟨⟨by simpa using hl,fun j hj=>?_⟩,fun j=>?_⟩
 ·rw[fD _ _ _ _ _ (by omega)];split
  ·rename_i e;subst e;omega
  ·exact h.le j hj
 ·induction j using Nat.strongRecOn with
  | _ j ih=>
   intro hj;rw[rootN.eq_1 _ j,fD _ _ _ _ _ (by omega)];by_cases e:j=i
   ·subst e;rw[if_pos rfl];split
    ·rename_i h3;rw[ih _ h3 (by omega)];have h4:=mR h (P.getD j 0).toNat (by omega);rw[h4,mR h j hj]
    ·have h5:(P.getD j 0).toNat=j:=by
      apply Classical.byContradiction;intro h5;have:=h.le (P.getD j 0).toNat (by omega);omega
     rw[nC (by omega)]
   ·rw[if_neg e];split
    ·rename_i h3;rw[ih _ h3 (by omega),mR h j hj]
    ·rw[rootN,if_neg (by assumption)]
theorem N6{n:Nat} {P:List Int} (h:Par n P) (p q:Nat) (hp:p<n) (hq:q<n) (ep:P.getD p 0=p) (eq:P.getD q 0=q):Par n (P.set (max p q) (min p q:Nat))/\∀ j,j<n->rootN (P.set (max p q) (min p q:Nat)) j=if rootN P j=max p q then min p q else rootN P j:=by
 have hl:=h.len;refine⟨⟨by simpa using hl,fun j hj=>?_⟩,fun j=>?_⟩
 ·rw[fD _ _ _ _ _ (by omega)];split
  ·omega
  ·exact h.le j hj
 ·have em:P.getD (max p q) 0=(max p q:Nat):=by rcases Nat.le_total p q with h'|h'<;>simp only[Nat.max_eq_right h',Nat.max_eq_left h']<;>assumption
  have en:P.getD (min p q) 0=(min p q:Nat):=by rcases Nat.le_total p q with h'|h'<;>simp only[Nat.min_eq_right h',Nat.min_eq_left h']<;>assumption
  have k8:min p q<=max p q:=by omega
  have Qe:max p q<n:=by omega
  generalize max p q=hi at *;generalize min p q=lo at *;induction j using Nat.strongRecOn with
  | _ j ih=>
   intro hj;rw[rootN.eq_1 _ j,fD _ _ _ _ _ (by omega)];by_cases e:j=hi
   ·subst e;rw[if_pos rfl,nC em,if_pos rfl,Int.toNat_natCast];split
    ·rename_i h3;rw[ih lo h3 (by omega),nC en,if_neg (by omega)]
    ·omega
   ·rw[if_neg e];split
    ·rename_i h3;rw[ih _ h3 (by omega),mR h j hj]
    ·rename_i h3;have:rootN P j=j:=by rw[rootN,if_neg h3]
     rw[this,if_neg e]
def dR(n:Nat) (L:Nat->Nat->Bool) (f:Nat):Nat->Nat->Int
 | 0,e=>if e=f then 0 else -1
 | d+1,e=>if 0<=dR n L f d e then dR n L f d e else if anyLt n (fun g=>decide (dR n L f d g=d)&&L e g) then(d:Int)+1 else -1
section
variable {n : Nat} {L : Nat → Nat → Bool} {f : Nat}
theorem gN(d e:Nat):-1<=dR n L f d e/\dR n L f d e<=d:=by
 induction d with
 | zero=>unfold dR;split<;>omega
 | succ d ih=>
  rw[dR];split
  ·omega
  ·split<;>omega
theorem sk(d e:Nat) (h:0<=dR n L f d e) (d':Nat) (hd:d<=d'):dR n L f d' e=dR n L f d e:=by
 induction d' with
 | zero=>have:d=0:=by omega
         subst this;rfl
 | succ d' ih=>
  by_cases e1:d=d'+1
  ·subst e1;rfl
  ·have h2:=ih (by omega);rw[dR,h2,if_pos h]
theorem so(d e d':Nat) (h:dR n L f d e=(d':Int)) (hd:d'<=d):dR n L f d' e=d':=by
 induction d with
 | zero=>have:d'=0:=by omega
         subst this;exact h
 | succ d ih=>
  by_cases e1:d'=d+1
  ·subst e1;exact h
  ·refine ih ?_ (by omega);rw[dR]at h;split at h
   ·exact h
   ·split at h<;>omega
def DD(n:Nat) (D:Nat->Int):Nat:=((List.range n).filter fun e=>decide (0<=D e)).length
theorem EO{α:Type} (l:List α) (p q:α->Bool) (h:∀ x∈l,p x=true->q x=true) (y:α) (hy:y∈l) (h1:p y=false) (h2:q y=true):(l.filter p).length<(l.filter q).length:=by
 induction l with
 | nil=>cases hy
 | cons a r ih=>
  have k8:(r.filter p).length<=(r.filter q).length:=by
   clear ih hy;have h':∀ x∈r,p x=true->q x=true:=fun x hx=>h x (by simp[hx])
   clear h;induction r with
   | nil=>simp
   | cons b s ih=>
    have:=ih (fun x hx=>h' x (by simp[hx]));have hb:=h' b (by simp);simp only[List.filter_cons];cases hp:p b with
    | true=>rw[hb hp];simp;omega
    | false=>cases q b<;>simp<;>omega
  rcases List.mem_cons.1 hy with rfl|hy
  ·simp only[List.filter_cons,h1,h2];simp;omega
  ·have:=ih (fun x hx=>h x (by simp[hx])) hy;have ha:=h a (by simp);simp only[List.filter_cons];cases hp:p a with
   | true=>rw[ha hp];simp;omega
   | false=>cases q a<;>simp<;>omega
theorem JY(hf:f<n) (d e:Nat) (he:e<n) (h:dR n L f d e=d):d+1<=DD n (dR n L f d):=by
 induction d generalizing e with
 | zero=>
  unfold DD;have:f∈(List.range n).filter fun e=>decide (0<=dR n L f 0 e):=by simp[hf,dR]
  have:=List.length_pos_of_mem this;omega
 | succ d ih=>
  have h0:=h;rw[dR]at h;split at h
  ·have:=gN (n:=n) (L:=L) (f:=f) d e;omega
  ·rename_i h1;split at h
   ·rename_i h2;obtain⟨g,hg,h3⟩:=(la _ _).1 h2;simp only[Bool.and_eq_true,decide_eq_true_eq]at h3;have h4:=ih g hg h3.1
    have h5:DD n (dR n L f d)<DD n (dR n L f (d+1)):=by
     refine EO _ _ _ (fun x _ hx=>?_) e (by simpa using he) (by simpa using h1) (by rw[h0];simp;omega);simp only[decide_eq_true_eq]at hx ⊢;rw[sk d x hx (d+1) (by omega)];exact hx
    omega
   ·omega
theorem G7(hf:f<n) (d e:Nat) (he:e<n) (h:dR n L f d e=d):d<n:=by
 have h1:=JY hf d e he h;have h2:DD n (dR n L f d)<=n:=by unfold DD;exact Nat.le_trans (List.length_filter_le _ _) (by simp)
 omega
end
structure Dist (n:Nat) (L:Nat->Nat->Bool) (f:Nat) (D:Nat->Int):Prop where
 zero:D f=0
 only:∀ e,e<n->D e=0->e=f
 low:∀ e,e<n->-1<=D e
 pred:∀ e,e<n->∀ d:Nat,D e=d+1->∃ g,g<n/\D g=d/\L e g=true
 next:∀ e g,e<n->g<n->0<=D g->L e g=true->0<=D e/\D e<=D g+1
theorem JZ{n:Nat} {L:Nat->Nat->Bool} {f:Nat} {D E:Nat->Int} (h1:Dist n L f D) (h2:Dist n L f E):∀ e,e<n->D e=E e:=by
 have key:∀ d:Nat,∀ e,e<n->(D e=d↔E e=d):=by
  intro d;induction d using Nat.strongRecOn with
  | _ d ih=>
   have one:∀ {A B:Nat->Int},Dist n L f A->Dist n L f B->(∀ d',d'<d->∀ e,e<n->(A e=(d':Int)↔B e=d'))->∀ e,e<n->A e=d->B e=d:=by
    intro A B hA hB ih e he h
    match d,ih,h with
    | 0,_,h=>rw[hA.only e he h];exact hB.zero
    | k+1,ih,h=>
     obtain⟨g,hg,e1,e2⟩:=hA.pred e he k (by omega);have e3:=(ih k (by omega) g hg).1 e1;obtain⟨e4,e5⟩:=hB.next e g he hg (by omega) e2;by_cases e6:B e=((k+1:Nat):Int)
     ·exact e6
     ·have e7:=(ih (B e).toNat (by omega) e he).2 (by omega);omega
   exact fun e he=>⟨one h1 h2 ih e he,one h2 h1 (fun d' hd e he=>(ih d' hd e he).symm) e he⟩
 intro e he;have a:=h1.low e he;have b:=h2.low e he;by_cases h:0<=D e
 ·have:=(key (D e).toNat e he).1 (by omega);omega
 ·by_cases h':0<=E e
  ·have:=(key (E e).toNat e he).2 (by omega);omega
  ·omega
theorem N7{n:Nat} {L:Nat->Nat->Bool} {f:Nat} (hf:f<n):Dist n L f (dR n L f n) where
 zero:=by rw[sk 0 f (by simp[dR]) n (by omega)];simp[dR]
 only:=fun e he h=>by
  have:=so n e 0 h (by omega);unfold dR at this;split at this
  ·assumption
  ·omega
 low:=fun e _=>(gN n e).1
 pred:=fun e he d h=>by
  have hr:=gN (n:=n) (L:=L) (f:=f) n e;have h1:=so n e (d+1) (by rw[h];rfl) (by omega);rw[dR]at h1;split at h1
  ·have:=gN (n:=n) (L:=L) (f:=f) d e;omega
  ·split at h1
   ·rename_i h2;obtain⟨g,hg,h3⟩:=(la _ _).1 h2;simp only[Bool.and_eq_true,decide_eq_true_eq]at h3;exact⟨g,hg,by rw[sk d g (by omega) n (by omega)];exact h3.1,h3.2⟩
   ·omega
 next:=fun e g he hg h0 hl=>by
  have hr:=gN (n:=n) (L:=L) (f:=f) n g;obtain⟨d,hd⟩:∃ d:Nat,dR n L f n g=d:=⟨(dR n L f n g).toNat,by omega⟩;have h1:=so n g d hd (by omega);have h2:=G7 hf d g hg h1
  have h3:0<=dR n L f (d+1) e/\dR n L f (d+1) e<=d+1:=by
   refine⟨?_,(gN (d+1) e).2⟩;rw[dR];split
   ·assumption
   ·rw[if_pos ((la _ _).2 ⟨g,hg,by simp[h1,hl]⟩)];omega
  rw[sk (d+1) e h3.1 n (by omega),hd];exact h3
def QW(n:Nat) (L:Nat->Nat->Bool) (f:Nat):List Int:=(List.range n).map (dR n L f n)
theorem G8{α:Type} {R:α->α->Prop} {l:List α} (h:∀ a∈l,∀ b∈l,R a b):l.Pairwise R:=by
 rw[List.pairwise_iff_getElem];intro i j hi hj _;exact h _ (List.getElem_mem hi) _ (List.getElem_mem hj)
structure Bfs (n:Nat) (L:Nat->Nat->Bool) (f:Nat) (D:Nat->Int) (Q:List Nat):Prop where
 zero:D f=0
 only:∀ e,e<n->D e=0->e=f
 low:∀ e,e<n->-1<=D e
 pred:∀ e,e<n->∀ d:Nat,D e=d+1->∃ g,g<n/\D g=d/\L e g=true
 ok:∀ q∈Q,q<n/\0<=D q
 done:∀ e g,e<n->g<n->0<=D g->g∉Q->L e g=true->0<=D e/\D e<=D g+1
 asc:Q.Pairwise fun a b=>D a<=D b
 near:∀ h r,Q=h :: r->∀ e,e<n->D e<=D h+1
theorem Bfs.start{n:Nat} {L:Nat->Nat->Bool} {f:Nat} (hf:f<n):Bfs n L f (dR n L f 0) [f] where
 zero:=by simp[dR]
 only:=fun e he h=>by unfold dR at h;split at h<;>first|assumption|omega
 low:=fun e _=>(gN 0 e).1
 pred:=fun e he d h=>by have:=(gN (n:=n) (L:=L) (f:=f) 0 e).2;omega
 ok:=fun q hq=>by rw[List.mem_singleton]at hq;subst hq;exact⟨hf,by simp[dR]⟩
 done:=fun e g he hg h0 hn=>by
  unfold dR at h0;split at h0
  ·rename_i e1;subst e1;simp at hn
  ·omega
 asc:=List.pairwise_singleton _ _
 near:=fun h r e1 e he=>by
  have:=(gN (n:=n) (L:=L) (f:=f) 0 e).2;injection e1 with e1 _
  subst e1;simp[dR];unfold dR at this;split<;>omega
theorem Bfs.dist{n:Nat} {L:Nat->Nat->Bool} {f:Nat} {D:Nat->Int} (h:Bfs n L f D []):Dist n L f D:=
 ⟨h.zero,h.only,h.low,h.pred,fun e g he hg h0 hl=>h.done e g he hg h0 (by simp) hl⟩
def ji(L:Nat->Nat->Bool) (D:Nat->Int) (h k e:Nat):Int:=if e<k/\D e<0/\L h e=true then D h+1 else D e
def tY(L:Nat->Nat->Bool) (D:Nat->Int) (h k:Nat):List Nat:=(List.range k).filter fun e=>decide (D e<0)&&L h e
theorem Bfs.step{n:Nat} {L:Nat->Nat->Bool} (hs:∀ e g,L e g=L g e) {f:Nat} {D:Nat->Int} {h:Nat} {r:List Nat} (b:Bfs n L f D (h :: r)):Bfs n L f (ji L D h n) (r++tY L D h n):=by
 obtain⟨hh,h0⟩:=b.ok h (by simp);have qJ:∀ e,0<=D e->ji L D h n e=D e:=fun e he=>by unfold ji;rw[if_neg (by omega)]
 have Eo:∀ e,e<n->D e<0->L h e=true->ji L D h n e=D h+1:=fun e he h1 h2=>by unfold ji;rw[if_pos ⟨he,h1,h2⟩]
 have jw:∀ e,D e<0->¬ (e<n/\L h e=true)->ji L D h n e=D e:=fun e h1 h2=>by unfold ji;rw[if_neg (fun h=>h2 ⟨h.1,h.2.2⟩)]
 have fK:∀ e,(ji L D h n e=D e)\/(e<n/\D e<0/\L h e=true/\ji L D h n e=D h+1):=fun e=>by
  unfold ji;split
  ·rename_i h1;exact .inr ⟨h1.1,h1.2.1,h1.2.2,rfl⟩
  ·exact .inl rfl
 have hq:∀ e,e∈tY L D h n↔e<n/\D e<0/\L h e=true:=fun e=>by simp[tY]
 have NP:=b.asc;rw[List.pairwise_cons]at NP;refine⟨by rw[qJ f (by rw[b.zero];omega)];exact b.zero,fun e he h1=>?_,fun e he=>?_,fun e he d h1=>?_,fun q F0=>?_,fun e g he hg h1 h2 h3=>?_,?_,fun h' r' e1 e he=>?_⟩
 ·rcases fK e with h2|⟨_,_,_,h2⟩
  ·exact b.only e he (by omega)
  ·omega
 ·have:=b.low e he;rcases fK e with h2|⟨_,_,_,h2⟩<;>omega
 ·rcases fK e with h2|⟨_,h3,h4,h2⟩
  ·obtain⟨g,hg,h5,h6⟩:=b.pred e he d (by omega);exact⟨g,hg,by rw[qJ g (by omega)];exact h5,h6⟩
  ·exact⟨h,hh,by rw[qJ h h0];omega,by rw[hs];exact h4⟩
 ·rcases List.mem_append.1 F0 with F0|F0
  ·obtain⟨h1,h2⟩:=b.ok q (by simp[F0]);exact⟨h1,by rw[qJ q h2];exact h2⟩
  ·obtain⟨h1,h2,h3⟩:=(hq q).1 F0;exact⟨h1,by rw[Eo q h1 h2 h3];omega⟩
 ·rw[List.mem_append,not_or]at h2;rcases fK g with h4|⟨h5,h6,h7,h4⟩
  ·by_cases e1:g=h
   ·subst e1;by_cases h5:0<=D e
    ·rw[qJ e h5,h4];exact⟨h5,b.near g r rfl e he⟩
    ·rw[Eo e he (by omega) (by rw[hs];exact h3),h4];omega
   ·have h5:0<=D g:=by omega
    obtain⟨h6,h7⟩:=b.done e g he hg h5 (by simp[e1,h2.1]) h3;rw[qJ e h6,h4];exact⟨h6,h7⟩
  ·exact absurd ((hq g).2 ⟨h5,h6,h7⟩) h2.2
 ·rw[List.pairwise_append];refine⟨?_,?_,fun a ha c hc=>?_⟩
  ·exact NP.2.imp_of_mem fun {a c} ha hc hac=>by rw[qJ a (b.ok a (by simp[ha])).2,qJ c (b.ok c (by simp[hc])).2];exact hac
  ·refine G8 fun a ha c hc=>?_
   obtain⟨a1,a2,a3⟩:=(hq a).1 ha;obtain⟨c1,c2,c3⟩:=(hq c).1 hc;rw[Eo a a1 a2 a3,Eo c c1 c2 c3];omega
  ·obtain⟨c1,c2,c3⟩:=(hq c).1 hc;rw[qJ a (b.ok a (by simp[ha])).2,Eo c c1 c2 c3];exact b.near h r rfl a (b.ok a (by simp[ha])).1
 ·have h2:D h<=ji L D h n h':=by
   have hm:h'∈r++tY L D h n:=by rw[e1];simp
   rcases List.mem_append.1 hm with hm|hm
   ·rw[qJ h' (b.ok h' (by simp[hm])).2];exact NP.1 h' hm
   ·obtain⟨c1,c2,c3⟩:=(hq h').1 hm;rw[Eo h' c1 c2 c3];omega
  have h3:=b.near h r rfl e he;rcases fK e with h4|⟨_,_,_,h4⟩<;>omega
theorem G9{α:Type} (l:List α) (p q:α->Bool):(l.filter fun x=>p x&&q x).length+(l.filter fun x=>p x&&!q x).length=(l.filter p).length:=by
 induction l with
 | nil=>rfl
 | cons a r ih=>simp only[List.filter_cons];cases p a<;>cases q a<;>simp<;>omega
theorem J0{n:Nat} (L:Nat->Nat->Bool) (D:Nat->Int) (h:Nat) (h0:0<=D h) (r:List Nat):(r++tY L D h n).length+((List.range n).filter fun e=>decide (ji L D h n e<0)).length<(h :: r).length+((List.range n).filter fun e=>decide (D e<0)).length:=by
 have h1:=G9 (List.range n) (fun e=>decide (D e<0)) (fun e=>L h e)
 have h2:((List.range n).filter fun e=>decide (ji L D h n e<0))=(List.range n).filter fun e=>decide (D e<0)&&!L h e:=by
  refine List.filter_congr fun e he=>?_
  have he:=List.mem_range.1 he;unfold ji;by_cases hd:D e<0
  ·cases hl:L h e with
   | true=>rw[if_pos ⟨he,hd,rfl⟩,decide_eq_true hd,decide_eq_false (by omega)];rfl
   | false=>rw[if_neg (by rintro⟨_,_,h⟩;cases h),decide_eq_true hd];rfl
  ·rw[if_neg (fun h=>hd h.2.1),decide_eq_false hd];rfl
 rw[h2];have h3:(tY L D h n)=(List.range n).filter fun e=>decide (D e<0)&&L h e:=rfl
 rw[List.length_append,h3,List.length_cons];omega
def ru(R:Nat->Nat->Bool) (e:Nat):Int:=if firstIx e (R e)<0 then e else firstIx e (R e)
theorem vN(R:Nat->Nat->Bool) (e:Nat):(ru R e=e/\∀ f,f<e->R e f=false)\/∃ k,k<e/\ru R e=k/\R e k=true/\∀ f,f<k->R e f=false:=by
 unfold ru;rcases bH e (R e) with ⟨h,h1⟩|⟨k,hk,h,h1,h2⟩
 ·rw[h,if_pos (by omega)];exact .inl ⟨rfl,h1⟩
 ·rw[h,if_neg (by omega)];exact .inr ⟨k,hk,rfl,h1,h2⟩
theorem UL{R:Nat->Nat->Bool} (hs:∀ a b,R a b=R b a) (ht:∀ a b c,R a b=true->R b c=true->R a c=true) (i k:Nat) (hk:k<i):decide (ru R k=ru R i)=R k i:=by
 rcases vN R i with ⟨e1,h1⟩|⟨a,ha,e1,h1,h2⟩<;>rcases vN R k with ⟨e2,h3⟩|⟨b,hb,e2,h3,h4⟩
 ·rw[e1,e2,decide_eq_false (by omega),hs,h1 k hk]
 ·rw[e1,e2,decide_eq_false (by omega),hs,h1 k hk]
 ·rw[e1,e2];cases hr:R k i with
  | true=>
   rw[decide_eq_true_eq];rcases Nat.lt_trichotomy k a with h|h|h
   ·rw[hs,h2 k h]at hr;cases hr
   ·rw[h]
   ·have:=h3 a h;rw[ht k i a hr h1]at this;cases this
  | false=>
   rw[decide_eq_false_iff_not];intro e;have:k=a:=by omega
   subst this;rw[hs,h1]at hr;cases hr
 ·rw[e1,e2];cases hr:R k i with
  | true=>
   rw[decide_eq_true_eq];rcases Nat.lt_trichotomy a b with h|h|h
   ·have:=h4 a h;rw[ht k i a hr h1]at this;cases this
   ·rw[h]
   ·have:=h2 b h;rw[ht i k b (by rw[hs];exact hr) h3]at this;cases this
  | false=>
   rw[decide_eq_false_iff_not];intro e;have:b=a:=by omega
   subst this;rw[ht k b i h3 (by rw[hs];exact h1)]at hr;cases hr
def lg(keys:List Int):List Int:=iw (fun k i=>decide (keys.getD k 0=keys.getD i 0)) keys.length
theorem G'(f:Nat->Int) (n:Nat):lg ((List.range n).map f)=iw (fun k i=>decide (f k=f i)) n:=by
 unfold lg;rw[List.length_map,List.length_range];refine nA fun i hi k hk=>?_
 have e:∀ j,j<n->((List.range n).map f).getD j 0=f j:=fun j hj=>by simp[hj]
 rw[e i hi,e k (by omega)]
def lZ(l:List Int):Prop:=∃ N:Nat->Int,N 0=0/\∀ i,i<l.length->0<=l.getD i 0/\l.getD i 0<=N i/\N (i+1)=if l.getD i 0=N i then N i+1 else N i
theorem rx(q:Nat->Nat->Bool) (n i:Nat) (hi:i<n):(iw q n).getD i 0=(br q (i+1)).1.getD i 0:=by
 unfold iw;obtain⟨m,rfl⟩:∃ m,n=i+1+m:=⟨n - (i+1),by omega⟩;clear hi;induction m with
 | zero=>rfl
 | succ m ih=>rw[<-ih];exact sh q (i+1+m) i (by omega)
theorem q7(q:Nat->Nat->Bool) (i:Nat):(firstIx i (fun k=>q k i)=-1/\(br q (i+1)).1.getD i 0=(br q i).2/\(br q (i+1)).2=(br q i).2+1)\/∃ k,k<i/\firstIx i (fun k=>q k i)=k/\(br q (i+1)).1.getD i 0=(br q i).1.getD k 0/\(br q (i+1)).2=(br q i).2/\(br q i).1.getD k 0<(br q i).2/\0<=(br q i).1.getD k 0:=by
 have hl:=jY q i;have hn:=jN q i;rcases bH i (fun k=>q k i) with ⟨e,_⟩|⟨k,hk,e,_,_⟩
 ·refine .inl ⟨e,?_,?_⟩
  ·rw[br];rw[e,if_pos (by omega),List.getD_eq_getElem?_getD,List.getElem?_append_right (by omega),hl];simp
  ·rw[br];rw[e,if_pos (by omega)]
 ·refine .inr ⟨k,hk,e,?_,?_,?_⟩
  ·rw[br];rw[e,if_neg (by omega),List.getD_eq_getElem?_getD,List.getElem?_append_right (by omega),hl];simp
  ·rw[br];rw[e,if_neg (by omega)]
  ·have:=hn.2.2 ((br q i).1[k]'(by omega)) (List.getElem_mem _);rw[show (br q i).1.getD k 0=(br q i).1[k]'(by omega) by simp[hl,hk]];omega
theorem pD(q:Nat->Nat->Bool) (n:Nat):lZ (iw q n):=by
 refine⟨fun i=>(br q i).2,rfl,fun i hi=>?_⟩;rw[pC]at hi;rw[rx q n i hi];have hn:=jN q i;dsimp only;rcases q7 q i with ⟨_,e1,e2⟩|⟨k,_,_,e1,e2,e3,e4⟩
 ·rw[e1,e2,if_pos rfl];exact⟨hn.1,Int.le_refl _,rfl⟩
 ·rw[e1,e2,if_neg (by omega)];exact⟨e4,by omega,rfl⟩
theorem vO{l:List Int} (h:lZ l) (i:Nat) (hi:i<l.length) (x:Int) (h0:0<=x) (hx:x<l.getD i 0):∃ j,j<i/\l.getD j 0=x:=by
 obtain⟨N,hN,hs⟩:=h
 have key:∀ m,m<=l.length->0<=N m/\∀ x:Int,0<=x->x<N m->∃ j,j<m/\l.getD j 0=x:=by
  intro m;induction m with
  | zero=>intro _;exact⟨by omega,fun x h0 hx=>by omega⟩
  | succ m ih=>
   intro hm;obtain⟨a1,a2⟩:=ih (by omega);obtain⟨b1,b2,b3⟩:=hs m (by omega);split at b3
   ·rename_i b4;refine⟨by omega,fun x h0 hx=>?_⟩;by_cases e:x=N m
    ·exact⟨m,by omega,by rw[b4,e]⟩
    ·obtain⟨j,hj,ej⟩:=a2 x h0 (by omega);exact⟨j,by omega,ej⟩
   ·refine⟨by omega,fun x h0 hx=>?_⟩;obtain⟨j,hj,ej⟩:=a2 x h0 (by omega);exact⟨j,by omega,ej⟩
 obtain⟨b1,b2,_⟩:=hs i hi;exact(key i (by omega)).2 x h0 (by omega)
theorem l3{l:List Int} (h:lZ l) (i:Nat) (hi:i<l.length):0<=l.getD i 0/\l.getD i 0<=i:=by
 obtain⟨N,hN,hs⟩:=h
 have key:∀ m,m<=l.length->N m<=m:=by
  intro m;induction m with
  | zero=>intro _;omega
  | succ m ih=>
   intro hm;have a:=ih (by omega);obtain⟨b1,b2,b3⟩:=hs m (by omega);split at b3<;>omega
 obtain⟨b1,b2,_⟩:=hs i hi;have:=key i (by omega);exact⟨b1,by omega⟩
theorem EP{q:Nat->Nat->Bool} (hr:∀ a,q a a=true) (hs:∀ a b,q a b=q b a) (n:Nat) (ht:∀ a b c,a<n->b<n->c<n->q a b=true->q b c=true->q a c=true) (i k:Nat) (hi:i<n) (hk:k<n):(iw q n).getD i 0=(iw q n).getD k 0↔q i k=true:=by
 have key:∀ m,m<=n->∀ i k,i<m->k<m->((br q m).1.getD i 0=(br q m).1.getD k 0↔q i k=true):=by
  intro m;induction m with
  | zero=>intro _ i k h;omega
  | succ m ih=>
   intro hm;have ih:=ih (by omega);have hl:=jY q m;have hn:=jN q m
   have one:∀ i,i<m->((br q (m+1)).1.getD i 0=(br q (m+1)).1.getD m 0↔q i m=true):=fun i hi=>by
    rw[sh q m i hi];rcases q7 q m with ⟨e,e1,_⟩|⟨k,hk,e,e1,_⟩
    ·rw[e1];have aB:=(hn.2.2 ((br q m).1[i]'(by omega)) (List.getElem_mem _)).2;rw[show (br q m).1.getD i 0=(br q m).1[i]'(by omega) by simp[hl,hi]]
     have jw:q i m=false:=by
      rcases bH m (fun k=>q k m) with ⟨_,h⟩|⟨k,hk,e',_⟩
      ·exact h i hi
      ·omega
     rw[jw];simp;omega
    ·rw[e1]
     have AK:q k m=true:=by
      rcases bH m (fun k=>q k m) with ⟨e',_⟩|⟨k',qS,e',h,_⟩
      ·omega
      ·rw[show k=k' by omega];exact h
     rw[ih i k hi hk];exact⟨fun h=>ht i k m (by omega) (by omega) (by omega) h AK,fun h=>ht i m k (by omega) (by omega) (by omega) h (by rw[hs];exact AK)⟩
   intro i k hi hk;by_cases e1:i=m
   ·by_cases e2:k=m
    ·rw[e1,e2,hr];simp
    ·rw[e1,hs,<-one k (by omega)];exact eq_comm
   ·by_cases e2:k=m
    ·rw[e2];exact one i (by omega)
    ·rw[sh q m i (by omega),sh q m k (by omega)];exact ih i k (by omega) (by omega)
 exact key n (Nat.le_refl _) i k hi hk
def dI(key f:Nat->Int) (k:Nat) (x:Int):Option Int:=if firstIx k (fun j=>decide (key j=x))<0 then none else some (f (firstIx k fun j=>decide (key j=x)).toNat)
theorem BO{key f:Nat->Int} {k:Nat} {x:Int}:dI key f k x=none↔∀ j,j<k->key j≠x:=by
 unfold dI;rcases bH k (fun j=>decide (key j=x)) with ⟨e,h⟩|⟨j,hj,e,h,_⟩
 ·rw[e,if_pos (by omega)];exact⟨fun _ j hj e=>(by have:=h j hj;rw[decide_eq_true e]at this;cases this),fun _=>rfl⟩
 ·rw[e,if_neg (by omega)];exact⟨fun h=>(by cases h),fun h'=>absurd (of_decide_eq_true h) (h' j hj)⟩
theorem q8{key f:Nat->Int} {k:Nat} {x y:Int} (h:dI key f k x=some y):∃ j,j<k/\firstIx k (fun j=>decide (key j=x))=j/\key j=x/\f j=y:=by
 unfold dI at h;rcases bH k (fun j=>decide (key j=x)) with ⟨e,_⟩|⟨j,hj,e,h1,_⟩
 ·rw[e,if_pos (by omega)]at h;cases h
 ·rw[e,if_neg (by omega),Int.toNat_natCast]at h;exact⟨j,hj,e,of_decide_eq_true h1,dE h⟩
theorem xG{key f:Nat->Int} {k:Nat} (h:dI key f k (key k)=none) (y:Int):dI key f (k+1) y=if y=key k then some (f k) else dI key f k y:=by
 have h:=BO.1 h;by_cases e:y=key k
 ·rw[if_pos e];unfold dI;rw[dq (k+1) k _ (by omega) (fun j hj=>by rw[decide_eq_false];rw[e];exact h j hj) (by rw[decide_eq_true e.symm]),if_neg (by omega),Int.toNat_natCast]
 ·rw[if_neg e];unfold dI;rcases bH k (fun j=>decide (key j=y)) with ⟨e1,h1⟩|⟨j,hj,e1,h1,h2⟩
  ·rw[e1,dA (k+1) _ (fun j hj=>by by_cases ej:j=k;(subst ej;exact decide_eq_false fun e'=>e e'.symm);exact h1 j (by omega))]
  ·rw[e1,dq (k+1) j _ (by omega) h2 h1]
theorem xH{key f:Nat->Int} {k:Nat} {z:Int} (h:dI key f k (key k)=some z) (y:Int):dI key f (k+1) y=dI key f k y:=by
 obtain⟨i,hi,ei,e2,_⟩:=q8 h;unfold dI;rcases bH k (fun j=>decide (key j=y)) with ⟨e1,h1⟩|⟨j,hj,e1,h1,h2⟩
 ·rw[e1,dA (k+1) _ (fun j hj=>by
   by_cases ej:j=k
   ·subst ej;have:=h1 i hi;rw[e2]at this;exact this
   ·exact h1 j (by omega))]
 ·rw[e1,dq (k+1) j _ (by omega) h2 h1]
theorem Ha{q:Nat->Nat->Bool} {n k:Nat} (hk:k<n) (h:firstIx k (fun j=>q j k)<0):(iw q n).getD k 0=(br q k).2/\(br q (k+1)).2=(br q k).2+1:=by
 rw[rx q n k hk];rcases q7 q k with ⟨_,e1,e2⟩|⟨j,_,e,_⟩
 ·exact⟨e1,e2⟩
 ·omega
theorem Hb{q:Nat->Nat->Bool} {n k j:Nat} (hk:k<n) (h:firstIx k (fun j=>q j k)=j):(iw q n).getD k 0=(iw q n).getD j 0/\(br q (k+1)).2=(br q k).2:=by
 rcases q7 q k with ⟨e,_⟩|⟨i,hi,e,e1,e2,_⟩
 ·omega
 ·obtain rfl:i=j:=by omega
  refine⟨?_,e2⟩;rw[rx q n k hk,e1,rx q n i (by omega)];have:=rx q k i hi;unfold iw at this;rw[this]
theorem Hc(a b:List Int) (m i:Nat):il (dM a b) m i i=true:=rt _ m i i (BN a b i)
structure Uni (a b:List Int) (n:Nat) (P:List Int):Prop where
 par:Par n P
 wr:∀ i,i<n->il (dM a b) n (rootN P i) i=true
theorem ry{P:List Int} {i n:Nat} (h:i<n):rootN P i<n:=Nat.lt_of_le_of_lt (G0 P i) h
theorem Uni.start(a b:List Int) (n:Nat):Uni a b n ((List.range n).map fun i:Nat=>(i:Int)):=by
 have h:∀ i,i<n->((List.range n).map fun i:Nat=>(i:Int)).getD i 0=i:=fun i hi=>by simp[hi]
 refine⟨⟨by simp,fun i hi=>by rw[h i hi];omega⟩,fun i hi=>?_⟩;rw[nC (h i hi)];exact Hc a b n i
theorem Uni.union{a b:List Int} {n:Nat} {P:List Int} (h:Uni a b n P) (i k:Nat) (hi:i<n) (hk:k<n) (hj:dM a b i k=true):Uni a b n (P.set (max (rootN P i) (rootN P k)) (min (rootN P i) (rootN P k):Nat))/\∀ j,j<n->rootN (P.set (max (rootN P i) (rootN P k)) (min (rootN P i) (rootN P k):Nat)) j=if rootN P j=max (rootN P i) (rootN P k) then min (rootN P i) (rootN P k) else rootN P j:=by
 have hp:=ry (P:=P) hi;have hq:=ry (P:=P) hk;obtain⟨h1,h2⟩:=N6 h.par _ _ hp hq (EN h.par i hi) (EN h.par k hk);refine⟨⟨h1,fun j m7=>?_⟩,h2⟩;have hs:=mG (nB a b);have jB:=h.wr i hi;have yR:=h.wr k hk;have kI:=rt (dM a b) n i k hj;have Li:il (dM a b) n (rootN P i) (rootN P k)=true:=gT _ n _ i _ hi jB (gT _ n _ k _ hk kI (by rw[hs];exact yR));rw[h2 j m7];split
 ·rename_i e;have hw:=h.wr j m7;rw[e]at hw;rcases Nat.le_total (rootN P i) (rootN P k) with k8|k8
  ·rw[Nat.min_eq_left k8];rw[Nat.max_eq_right k8]at hw;exact gT _ n _ _ _ hq Li hw
  ·rw[Nat.min_eq_right k8];rw[Nat.max_eq_left k8]at hw;exact gT _ n _ _ _ hp (by rw[hs];exact Li) hw
 ·exact h.wr j m7
def jo(n:Nat) (P P':List Int):Prop:=∀ i k,i<n->k<n->rootN P i=rootN P k->rootN P' i=rootN P' k
theorem jo.refl(n:Nat) (P:List Int):jo n P P:=fun _ _ _ _ h=>h
theorem jo.trans{n:Nat} {P Q R:List Int} (h:jo n P Q) (k:jo n Q R):jo n P R:=fun i j hi hj e=>k i j hi hj (h i j hi hj e)
theorem J1{n:Nat} {P Q:List Int} (h:∀ j,j<n->rootN Q j=rootN P j):jo n P Q:=fun i k hi hk e=>by rw[h i hi,h k hk];exact e
theorem J2{n:Nat} {P Q:List Int} {x y:Nat} (h:∀ j,j<n->rootN Q j=if rootN P j=x then y else rootN P j):jo n P Q:=fun i k hi hk e=>by rw[h i hi,h k hk,e]
def fE(l:List Int) (n m:Nat) (P:List Int):Prop:=∀ i k,i<n->k<n->i<m->k<m->l.getD i 0=l.getD k 0->rootN P i=rootN P k
theorem fE.keep{l:List Int} {n m:Nat} {P Q:List Int} (h:fE l n m P) (k:jo n P Q):fE l n m Q:=fun i j hi hj h1 h2 e=>k i j hi hj (h i j hi hj h1 h2 e)
theorem fE.join{l:List Int} {n m k:Nat} {P Q:List Int} (h:fE l n m P) (hm:m<n) (hk:k<m) (e:l.getD k 0=l.getD m 0) (hq:jo n P Q) (hr:rootN Q m=rootN Q k):fE l n (m+1) Q:=by
 have h':=h.keep hq;intro i j hi hj h1 h2 e1;by_cases ei:i=m
 ·by_cases ej:j=m
  ·rw[ei,ej]
  ·rw[ei,hr];exact h' k j (by omega) hj hk (by omega) (by rw[e,<-ei,e1])
 ·by_cases ej:j=m
  ·rw[ej,hr];exact h' i k hi (by omega) (by omega) hk (by rw[e,<-ej,e1])
  ·exact h' i j hi hj (by omega) (by omega) e1
theorem fE.fresh{l:List Int} {n m:Nat} {P:List Int} (h:fE l n m P) (hn:∀ k,k<m->l.getD k 0≠l.getD m 0):fE l n (m+1) P:=by
 intro i j hi hj h1 h2 e1;by_cases ei:i=m
 ·by_cases ej:j=m
  ·rw[ei,ej]
  ·exact absurd (by rw[<-e1,ei]) (hn j (by omega))
 ·by_cases ej:j=m
  ·exact absurd (by rw[e1,ej]) (hn i (by omega))
  ·exact h i j hi hj (by omega) (by omega) e1
theorem QX{a b:List Int} {n:Nat} {P:List Int} (ha:a.length=n) (h:Uni a b n P) (h1:fE a n n P) (h2:fE b n n P):lg ((List.range n).map fun i=>(rootN P i:Int))=kQ a b:=by
 rw[G'];have he:∀ j,j<n->((List.range n).map fun i=>(rootN P i:Int)).getD j 0=rootN P j:=fun j hj=>by simp[hj]
 rw[<-GZ a b ((List.range n).map fun i=>(rootN P i:Int)) n ha]
 ·refine nA fun i hi k hk=>?_
  rw[he i hi,he k (by omega)]
 ·intro i k hi hk hq;rw[he i hi,he k hk];unfold dM at hq;simp only[Bool.or_eq_true,decide_eq_true_eq]at hq;rcases hq with e|e
  ·rw[h1 i k hi hk hi hk e]
  ·rw[h2 i k hi hk hi hk e]
 ·intro i hi;exact⟨rootN P i,ry hi,he i hi,h.wr i hi⟩
structure Glu (a b:List Int) (n:Nat) (O:List Int):Prop where
 len:O.length=n
 le:∀ i,i<n->0<=O.getD i 0/\O.getD i 0<=i
 wr:∀ i,i<n->il (dM a b) n (O.getD i 0).toNat i=true
theorem Glu.start(a b:List Int) (n:Nat):Glu a b n ((List.range n).map fun i:Nat=>(i:Int)):=by
 have h:∀ i,i<n->((List.range n).map fun i:Nat=>(i:Int)).getD i 0=i:=fun i hi=>by simp[hi]
 refine⟨by simp,fun i hi=>by rw[h i hi];omega,fun i hi=>?_⟩;rw[h i hi,Int.toNat_natCast];exact Hc a b n i
def lF(O:List Int) (i k:Nat):List Int:=(O.set i (min (O.getD i 0) (O.getD k 0))).set k (min (O.getD i 0) (O.getD k 0))
theorem EQ(O:List Int) (i k j:Nat) (hi:i<O.length) (hk:k<O.length):(lF O i k).getD j 0=if j=k\/j=i then min (O.getD i 0) (O.getD k 0) else O.getD j 0:=by
 unfold lF;rw[fD _ _ _ _ _ (by simpa using hk)];by_cases e:j=k
 ·rw[if_pos e,if_pos (.inl e)]
 ·rw[if_neg e,fD _ _ _ _ _ hi];by_cases e2:j=i
  ·rw[if_pos e2,if_pos (.inr e2)]
  ·rw[if_neg e2,if_neg (by omega)]
theorem Glu.step{a b:List Int} {n:Nat} {O:List Int} (h:Glu a b n O) (i k:Nat) (hi:i<n) (hk:k<i) (hj:dM a b i k=true):Glu a b n (lF O i k):=by
 have hl:=h.len;have hs:=mG (nB a b);have a1:=h.le i hi;have a2:=h.le k (by omega);have w1:=h.wr i hi;have w2:=h.wr k (by omega);have kI:=rt (dM a b) n i k hj
 have wi:il (dM a b) n (min (O.getD i 0) (O.getD k 0)).toNat i=true:=by
  rcases Int.le_total (O.getD i 0) (O.getD k 0) with k8|k8
  ·rw[Int.min_eq_left k8];exact w1
  ·rw[Int.min_eq_right k8];exact gT _ n _ k _ (by omega) w2 (by rw[hs];exact kI)
 have wk:il (dM a b) n (min (O.getD i 0) (O.getD k 0)).toNat k=true:=gT _ n _ i _ hi wi kI;refine⟨by simp[lF,hl],fun j m7=>?_,fun j m7=>?_⟩
 ·rw[EQ _ _ _ _ (by omega) (by omega)];split
  ·omega
  ·exact h.le j m7
 ·rw[EQ _ _ _ _ (by omega) (by omega)];split
  ·rename_i e;rcases e with rfl|rfl
   ·exact wk
   ·exact wi
  ·exact h.wr j m7
def tZ(O:List Int):Nat:=(O.map Int.toNat).sum
theorem BP(O:List Int) (i:Nat) (hi:i<O.length) (x:Int):tZ (O.set i x)+(O.getD i 0).toNat=tZ O+x.toNat:=by
 induction O generalizing i with
 | nil=>simp at hi
 | cons y r ih=>
  cases i with
  | zero=>simp[tZ];omega
  | succ i=>
   have h:=ih i (by simpa using hi);simp only[tZ,List.set_cons_succ,List.map_cons,List.sum_cons,List.getD_cons_succ]at h ⊢;omega
theorem N8{a b:List Int} {n:Nat} {O:List Int} (h:Glu a b n O) (i k:Nat) (hi:i<n) (hk:k<i) (bR:O.getD i 0≠O.getD k 0):tZ (lF O i k)<tZ O:=by
 have hl:=h.len;have a1:=h.le i hi;have a2:=h.le k (by omega);have s1:=BP O i (by omega) (min (O.getD i 0) (O.getD k 0));have s2:=BP (O.set i (min (O.getD i 0) (O.getD k 0))) k (by simp;omega) (min (O.getD i 0) (O.getD k 0));rw[fD _ _ _ _ _ (by omega),if_neg (by omega)]at s2;unfold lF;omega
theorem QY{a b:List Int} {n:Nat} {O:List Int} (ha:a.length=n) (h:Glu a b n O) (hd:∀ i k,i<n->k<i->dM a b i k=true->O.getD i 0=O.getD k 0):lg O=kQ a b:=by
 unfold lg;rw[h.len];refine GZ a b O n ha (fun i k hi hk hq=>?_) fun i hi=>?_
 ·rcases Nat.lt_trichotomy i k with e|e|e
  ·exact(hd k i hk e (by rw[nB];exact hq)).symm
  ·rw[e]
  ·exact hd i k hi e hq
 ·have:=h.le i hi;exact⟨(O.getD i 0).toNat,by omega,by omega,h.wr i hi⟩
def ki(L:Int) (c acc:List Int) (sm:Nat × Mv):List Int:=acc.set sm.1 (pP L c (acc.getD sm.1 0) sm.2)
def jp(L:Int) (c:List Int) (l:List (List Mv)) (i:Nat):List Int:=((uz l).take i).foldl (ki L c) (List.replicate l.length 0)
theorem L0(L:Int) (c:List Int) (l:List (List Mv)):jp L c l 0=List.replicate l.length 0:=rfl
theorem L1(L:Int) (c:List Int) (l:List (List Mv)) (i:Nat) (h:i<movesN l):jp L c l (i+1)=ki L c (jp L c l i) (mvAt l i):=by
 unfold jp mvAt;have hi:i<(uz l).length:=by rw[wN];exact h
 rw[List.take_succ_eq_append_getElem hi,List.foldl_append,List.getD_eq_getElem?_getD,List.getElem?_eq_getElem hi];rfl
theorem N9(L:Int) (c:List Int) (l:List (List Mv)) (i:Nat):(jp L c l i).length=l.length:=by
 unfold jp
 have key:∀ (x:List (Nat × Mv)) (acc:List Int),(x.foldl (ki L c) acc).length=acc.length:=by
  intro x;induction x with
  | nil=>intro acc;rfl
  | cons a r ih=>intro acc;rw[List.foldl_cons,ih];simp[ki]
 rw[key];simp
theorem QZ(L:Int) (c:List Int) (x:List Mv):∀ (pre rest:List Int) (z:Int),(x.map fun m=>(pre.length,m)).foldl (ki L c) (pre++z :: rest)=pre++x.foldl (pP L c) z :: rest:=by
 induction x with
 | nil=>intro pre rest z;rfl
 | cons m r ih=>
  intro pre rest z;rw[List.map_cons,List.foldl_cons,List.foldl_cons,<-ih];congr 1;simp[ki]
theorem N'(L:Int) (c:List Int) (l:List (List Mv)):∀ (pre:List Int),(iI pre.length l).foldl (ki L c) (pre++List.replicate l.length 0)=pre++l.map (A0 L c):=by
 induction l with
 | nil=>intro pre;simp[iI]
 | cons x r ih=>
  intro pre;simp only[iI,List.foldl_append,List.length_cons,List.replicate_succ,List.map_cons];rw[QZ];have h:=ih (pre++[A0 L c x]);simp only[List.length_append,List.length_cons,List.length_nil,Nat.zero_add,List.append_assoc,List.cons_append,List.nil_append]at h;exact h
theorem Oa(L:Int) (a:Adv) (c:List Int):jp L c a.states (movesN a.states)=zp L a c:=by
 unfold jp zp;rw[<-wN,List.take_length];have:=N' L c a.states [];simpa[uz] using this
theorem Q0{L:Int} (hL:0<=L) {c:List Int} (hc:BM L c) (l:List (List Mv)) (i:Nat):BM L (jp L c l i):=by
 unfold jp
 have key:∀ (x:List (Nat × Mv)) (acc:List Int),BM L acc->BM L (x.foldl (ki L c) acc):=by
  intro x;induction x with
  | nil=>intro acc h;exact h
  | cons m r ih=>
   intro acc h;refine ih _ fun y hy=>?_
   unfold ki at hy;rcases List.mem_or_eq_of_mem_set hy with hy|rfl
   ·exact h y hy
   ·exact GX hL hc (uB hL h _) _
 exact key _ _ (fun y hy=>by rw[(List.mem_replicate.1 hy).2];omega)
end Go.Proofs.YtmeaoneaephjeaaGreatDoor
namespace Go.Proofs.YtmeaoneaephjeaaGreatDoor
open Go
theorem zV(a b:Nat) (ha:a<9223372036854775808) (hb:b<9223372036854775808):bits .and .i64 (a:Int) (b:Int)=((a &&& b:Nat):Int):=by
 have hx:a &&& b<2 ^ 63:=Nat.and_lt_two_pow _ (by omega)
 show IntKind.i64.wrap ((BitVec.ofInt 64 (a:Int) &&& BitVec.ofInt 64 (b:Int)).toNat:Int)=_
 rw[BitVec.toNat_and,ofInt_u64 a (by omega),ofInt_u64 b (by omega)];simp[IntKind.wrap,IntKind.bits,IntKind.signed];omega
theorem vP(a b:Nat) (ha:a<9223372036854775808) (hb:b<9223372036854775808):bits .or .i64 (a:Int) (b:Int)=((a ||| b:Nat):Int):=by
 have hx:a ||| b<2 ^ 63:=Nat.or_lt_two_pow (by omega) (by omega)
 show IntKind.i64.wrap ((BitVec.ofInt 64 (a:Int) ||| BitVec.ofInt 64 (b:Int)).toNat:Int)=_
 rw[BitVec.toNat_or,ofInt_u64 a (by omega),ofInt_u64 b (by omega)];simp[IntKind.wrap,IntKind.bits,IntKind.signed];omega
theorem Hd(a:Int):bits .and .i64 a 1=a % 2:=by
 show IntKind.i64.wrap ((BitVec.ofInt 64 a &&& BitVec.ofInt 64 ((1:Nat):Int)).toNat:Int)=_
 rw[BitVec.toNat_and,ofInt_u64 1 (by omega),Nat.and_one_is_mod,BitVec.toNat_ofInt];simp[IntKind.wrap,IntKind.bits,IntKind.signed];omega
theorem sp(x:Int) (p:Nat):(bits .and .i64 (x / 2 ^ p) 1 == 0)=!hasB x p:=by
 rw[Hd];unfold hasB;rcases (show x / 2 ^ p % 2=0\/x / 2 ^ p % 2=1 by omega) with h|h<;>rw[h]<;>rfl
theorem ra(x:Int) (p:Nat):(bits .and .i64 (x / 2 ^ p) 1 == 1)=hasB x p:=by
 rw[Hd];unfold hasB;rfl
theorem nD(x:Int) (h0:0<=x) (p:Nat):hasB x p=x.toNat.testBit p:=by
 obtain⟨A,rfl⟩:=Int.eq_ofNat_of_zero_le h0;unfold hasB;rw[Int.toNat_natCast,Nat.testBit_eq_decide_div_mod_eq];have:((A:Int) / 2 ^ p % 2)=((A / 2 ^ p % 2:Nat):Int):=by simp
 rw[this,Bool.eq_iff_iff];simp only[beq_iff_eq,decide_eq_true_eq];omega
theorem Gj(x y:Int) (dp:0<=x) (hx:x<32) (je:0<=y) (hy:y<32):(bits .andNot .i64 x y != 0)=!iR x y:=by
 obtain⟨A,rfl⟩:=Int.eq_ofNat_of_zero_le dp;obtain⟨B,rfl⟩:=Int.eq_ofNat_of_zero_le je;have hA:A<32:=by omega
 have hB:B<32:=by omega
 have key:∀ a:Fin 32,∀ b:Fin 32,(bits .andNot .i64 ((a.val:Nat):Int) ((b.val:Nat):Int) != 0)=!iR ((a.val:Nat):Int) ((b.val:Nat):Int):=by decide +kernel
 exact key ⟨A,hA⟩ ⟨B,hB⟩
end Go.Proofs.YtmeaoneaephjeaaGreatDoor
namespace Go.Proofs.YtmeaoneaephjeaaGreatDoor
instance:Inhabited Ex:=⟨⟨0,[],[]⟩⟩
instance:DecidableEq Ex:=fun a b=>decidable_of_iff (a.c=b.c/\a.word=b.word/\a.views=b.views) (by cases a;cases b;simp)
def verifyE(s:Sys):Int:=if buildE s.prob≠0 then buildE s.prob else if s.n=(aN s.prob).n/\s.tab=(aN s.prob).tab/\s.ex=(aN s.prob).ex then 0 else 3
theorem ER{s:Sys} (h:verifyE s=0):buildE s.prob=0/\s=aN s.prob:=by
 unfold verifyE at h;split at h
 ·rename_i h1;exact absurd h h1
 rename_i h1;split at h
 ·rename_i h2;refine⟨by omega,?_⟩;obtain⟨p,n,t,e⟩:=s;obtain⟨h3,h4,h5⟩:=h2;dsimp only at h3 h4 h5 ⊢;rw[h3,h4,h5];rfl
 ·omega
def maskN(q:Nat->Bool):Nat->Nat
 | 0=>0
 | k+1=>maskN q k+if q k then 2 ^ k else 0
theorem ic(q:Nat->Bool):∀ n,maskN q n<2 ^ n
 | 0=>by simp[maskN]
 | n+1=>by
  have:=ic q n;have h2:(2:Nat) ^ (n+1)=2 ^ n+2 ^ n:=by rw[Nat.pow_succ];omega
  unfold maskN;split<;>omega
theorem dX(q:Nat->Bool):∀ n p,(maskN q n).testBit p=(decide (p<n)&&q p)
 | 0,p=>by simp[maskN]
 | n+1,p=>by
  have aB:=ic q n;rw[maskN];rcases Nat.lt_trichotomy p n with h|h|h
  ·rw[decide_eq_true (show p<n+1 by omega),Bool.true_and];have ih:=dX q n p;rw[decide_eq_true h,Bool.true_and]at ih;split
   ·rw[Nat.add_comm,Nat.testBit_two_pow_add_gt h];exact ih
   ·exact ih
  ·subst h;rw[decide_eq_true (show p<p+1 by omega),Bool.true_and];split
   ·rename_i h1;rw[Nat.add_comm,Nat.testBit_two_pow_add_eq,Nat.testBit_lt_two_pow aB,h1];rfl
   ·rename_i h1;rw[Nat.add_zero,Nat.testBit_lt_two_pow aB];simpa using h1
  ·rw[decide_eq_false (by omega),Bool.false_and];refine Nat.testBit_lt_two_pow (Nat.lt_of_lt_of_le (ic q (n+1)) (Nat.pow_le_pow_right (by omega) (by omega)))
theorem zW{q r:Nat->Bool} {n:Nat} (h:∀ p,p<n->q p=r p):maskN q n=maskN r n:=by
 refine Nat.eq_of_testBit_eq fun p=>?_
 rw[dX,dX];by_cases hp:p<n
 ·rw[h p hp]
 ·rw[decide_eq_false hp];rfl
theorem nE(q:Nat->Bool) (n:Nat):maskN q n=0↔anyLt n q=false:=by
 rw[fO];constructor
 ·intro h k hk;have:=dX q n k;rw[h,decide_eq_true hk]at this;simpa using this.symm
 ·intro h;refine Nat.eq_of_testBit_eq fun p=>?_
  rw[dX,Nat.zero_testBit];by_cases hp:p<n
  ·rw[h p hp,Bool.and_false]
  ·rw[decide_eq_false hp];rfl
theorem Ob(q r:Nat->Bool) (n:Nat):maskN q n &&& maskN r n=maskN (fun p=>q p&&r p) n:=by
 refine Nat.eq_of_testBit_eq fun p=>?_
 rw[Nat.testBit_and,dX,dX,dX];cases decide (p<n)<;>simp
theorem Q4(q r:Nat->Bool) (n:Nat):maskN q n ||| maskN r n=maskN (fun p=>q p || r p) n:=by
 refine Nat.eq_of_testBit_eq fun p=>?_
 rw[Nat.testBit_or,dX,dX,dX];cases decide (p<n)<;>simp
theorem Oc{n v:Nat} (h:v<n):maskN (fun p=>decide (p=v)) n=2 ^ v:=by
 refine Nat.eq_of_testBit_eq fun p=>?_
 rw[dX,Nat.testBit_two_pow];by_cases e:p=v
 ·subst e;simp[h]
 ·rw[decide_eq_false e,decide_eq_false (show ¬ v=p by omega),Bool.and_false]
theorem L2(n:Nat):maskN (fun _=>true) n=2 ^ n - 1:=by
 refine Nat.eq_of_testBit_eq fun p=>?_
 rw[dX,Nat.testBit_two_pow_sub_one,Bool.and_true]
theorem xI{q:Nat->Bool} {k:Nat} (h:q k=true):maskN q k ||| 2 ^ k=maskN q (k+1):=by
 refine Nat.eq_of_testBit_eq fun p=>?_
 rw[Nat.testBit_or,dX,dX,Nat.testBit_two_pow];by_cases e:p=k
 ·subst e;simp[h]
 ·rw[decide_eq_false (show ¬ k=p by omega),Bool.or_false,decide_eq_decide.2 (show p<k↔p<k+1 by omega)]
theorem vQ{q:Nat->Bool} {k:Nat} (h:q k=false):maskN q k=maskN q (k+1):=by rw[maskN,h];rfl
theorem mS(q:Nat->Bool) (n p:Nat):hasB (maskN q n:Nat) p=(decide (p<n)&&q p):=by
 rw[nD _ (by omega),Int.toNat_natCast,dX]
structure Lk where
 x:Int
 p:Int
instance:Inhabited Lk:=⟨⟨0,0⟩⟩
instance:DecidableEq Lk:=fun a b=>decidable_of_iff (a.x=b.x/\a.p=b.p) (by cases a;cases b;simp)
def cM(s:Sys) (e:Nat):Ex:=s.ex.getD e default
def fltS(s:Sys) (e:Nat):Int:=zs (cM s e).word
def nS(s:Sys):Nat:=s.n.toNat
def eS(s:Sys):Nat:=s.ex.length
def finS(s:Sys) (e p:Nat):Int:=((cM s e).views.getD s.prob.rounds.toNat []).getD p 0
def linkB(s:Sys) (p e f:Nat):Bool:=!hasB (fltS s e) p&&!hasB (fltS s f) p&&decide (finS s e p=finS s f p)
theorem rc(s:Sys) (p e f:Nat):linkB s p e f=linkB s p f e:=by
 unfold linkB;rw[Bool.and_comm (!hasB (fltS s e) p),decide_eq_decide.2 (eq_comm (a:=finS s e p))]
theorem ud{s:Sys} {p e f g:Nat} (h1:linkB s p e f=true) (h2:linkB s p f g=true):linkB s p e g=true:=by
 unfold linkB at *;simp only[Bool.and_eq_true,decide_eq_true_eq]at *;exact⟨⟨h1.1.1,h2.1.2⟩,h1.2.trans h2.2⟩
def eU(s:Sys) (e f:Nat):Bool:=anyLt (nS s) fun p=>linkB s p e f
def byP(s:Sys) (e f:Nat):Int:=firstIx (nS s) fun p=>linkB s p e f
theorem He(s:Sys) (e f:Nat):eU s e f=eU s f e:=JU _ _ _ fun p _=>rc s p e f
theorem DE{s:Sys} {e f:Nat} (h:eU s e f=true):0<=byP s e f/\byP s e f<nS s/\linkB s (byP s e f).toNat e f=true:=by
 unfold eU at h;unfold byP;rcases bH (nS s) (fun p=>linkB s p e f) with ⟨_,h1⟩|⟨k,hk,e1,h1,_⟩
 ·rw[eR _ _ h1]at h;cases h
 ·rw[e1,Int.toNat_natCast];exact⟨by omega,by omega,h1⟩
def classL(s:Sys) (p:Nat):List Int:=iw (fun k i=>linkB s p k i) (eS s)
def eo(s:Sys):Nat->List Int
 | 0=>classL s 0
 | k+1=>kQ (eo s k) (classL s (k+1))
def partsS(s:Sys):List Int:=eo s (nS s - 1)
theorem jq(s:Sys) (p:Nat):(classL s p).length=eS s:=pC _ _
theorem gO(s:Sys):∀ k,(eo s k).length=eS s
 | 0=>jq s 0
 | k+1=>by rw[eo,kQ,pC,gO s k]
theorem dN(s:Sys):(partsS s).length=eS s:=gO s _
def oS(s:Sys):Nat:=s.prob.t.outs.toNat
def vecE(s:Sys) (e:Nat):List (List Int):=gg (s.prob.t.cases.getD (cM s e).c.toNat default) (fltS s e)
def valB(s:Sys) (e v:Nat):Bool:=hasV (vecE s e) (List.replicate (nS s) (v:Int))
def valuesS(s:Sys) (e:Nat):List Int:=((List.range (oS s)).filter (valB s e)).map fun v:Nat=>(v:Int)
def constB(v:List Int):Bool:=!anyLt v.length fun i=>decide (v.getD i 0≠v.getD 0 0)
def agreeB(t:Tk):Bool:=!anyLt t.cases.length fun i=>anyLt (t.cases.getD i default).out.length fun j=>!constB ((t.cases.getD i default).out.getD j [])
def readyE(s:Sys):Int:=if verifyE s≠0 then verifyE s else if agreeB s.prob.t then 0 else 11
def valuesR(s:Sys) (x:Int):List Int × Int:=if readyE s≠0 then([],readyE s) else if x<0\/(eS s:Int)<=x then([],6) else(valuesS s x.toNat,0)
def memL(parts:List Int) (k:Int):List Nat:=(List.range parts.length).filter fun e=>decide (parts.getD e 0=k)
def comB(s:Sys) (l:List Nat):Int:=firstIx (oS s) fun v=>l.all fun e=>valB s e v
def choiceS(s:Sys):List Int:=(List.range (eS s)).map fun e=>comB s (memL (partsS s) ((partsS s).getD e 0))
def choiceR(s:Sys):List Int × Int:=if readyE s≠0 then([],readyE s) else(choiceS s,0)
def gq(s:Sys) (e:Nat) (out:List Int):Nat->List Int
 | 0=>out
 | p+1=>if hasB (fltS s e) p then gq s e out p else(gq s e out p).set (finS s e p).toNat ((choiceS s).getD e 0)
def fR(s:Sys):Nat->List Int
 | 0=>List.replicate s.tab.length (-1)
 | e+1=>gq s e (fR s e) (nS s)
def ruleR(s:Sys):List Int × Bool × Int:=if readyE s≠0 then([],false,readyE s) else if -1∈choiceS s then([],false,0) else(fR s (eS s),true,0)
def db(s:Sys) (f:Nat):List Int:=QW (eS s) (eU s) f
def gP(s:Sys) (D:List Int) (d e:Nat):Nat:=(firstIx (eS s) fun g=>decide (D.getD g 0=d)&&eU s e g).toNat
def ky(s:Sys) (D:List Int):Nat->Nat->List Lk
 | 0,_=>[]
 | d+1,e=>⟨gP s D d e,byP s e (gP s D d e)⟩ :: ky s D d (gP s D d e)
def kj(s:Sys) (e f:Nat):List Lk:=ky s (db s f) ((db s f).getD e 0).toNat e
def kR(s:Sys):Nat->List Nat->List Lk
 | _,[]=>[]
 | e,m :: r=>kj s e m++kR s m r
def gG(s:Sys):List Nat->List Lk
 | []=>[]
 | a :: r=>⟨a,-1⟩ :: kR s a r
def cJ(l:List Lk):List Nat:=l.map fun y=>y.x.toNat
def cW(s:Sys) (l:List Lk):Bool:=decide (comB s (cJ l)<0)
def rf(s:Sys) (l:List Lk):Nat:=if firstIx l.length (fun i=>cW s (l.take (i+1)))<0 then l.length else(firstIx l.length fun i=>cW s (l.take (i+1))).toNat+1
def nF(s:Sys) (l:List Lk):List Lk:=l.take (rf s l)
def lQ(s:Sys):Int:=firstIx (eS s) fun e=>decide ((choiceS s).getD e 0<0)
def kA(s:Sys):List Lk:=nF s (gG s (memL (partsS s) ((partsS s).getD (lQ s).toNat 0)))
def findW(s:Sys):List Lk × Bool × Int:=
 if readyE s≠0 then([],false,readyE s) else if lQ s<0 then([],false,0) else if 4096<(kA s).length then([],false,17) else(kA s,true,0)
structure Ct where
 kind:Int
 walk:List Lk
 nv:Nat
 nl:Nat
 np:Nat
def gw(s:Sys) (w:List Lk) (i:Nat):Int:=
 if (w.getD i default).x<0\/(eS s:Int)<=(w.getD i default).x then 6
 else if i=0 then(if (w.getD i default).p≠-1 then 3 else 0)
 else if (w.getD i default).p<0\/(nS s:Int)<=(w.getD i default).p then 2
 else if linkB s (w.getD i default).p.toNat (w.getD (i - 1) default).x.toNat (w.getD i default).x.toNat then 0 else 18
def walkE(s:Sys) (w:List Lk):Int:=if w.length=0 then 16 else if 4096<w.length then 5 else bm w.length (gw s w)
def vR(s:Sys) (c:Ct):Int:=
 if c.kind≠1 then 1 else if 0<c.nv\/0<c.nl\/0<c.np then 3
 else if walkE s c.walk≠0 then walkE s c.walk else if cW s c.walk then 0 else 18
def certE(s:Sys) (c:Ct):Int:=if readyE s≠0 then readyE s else vR s c
def vS(s:Sys) (w:List Lk) (i k:Nat):Option (List Lk):=
 if eU s (w.getD i default).x.toNat (w.getD k default).x.toNat then some (w.take (i+1)++⟨(w.getD k default).x,byP s (w.getD i default).x.toNat (w.getD k default).x.toNat⟩ :: w.drop (k+1)) else none
def GB(s:Sys) (w:List Lk) (i:Nat):List (List Lk):=(List.range (w.length - (i+2))).filterMap fun j=>vS s w i (w.length - 1 - j)
def dz(s:Sys) (w:List Lk):List (List Lk):=
 w.dropLast :: ((if 1<w.length then [⟨(w.getD 1 default).x,-1⟩ :: w.drop 2] else [])++(List.range w.length).flatMap (GB s w))
def iy(s:Sys) (w:List Lk):Bool:=decide (0<w.length)&&cW s w
def iz(s:Sys) (w:List Lk):Option (List Lk):=(dz s w).find? (iy s)
def shortN(s:Sys):Nat->List Lk->List Lk
 | 0,w=>w
 | k+1,w=>match iz s w with|some c=>shortN s k c|none=>w
def gB(s:Sys) (w:List Lk):List Lk:=shortN s w.length w
def shortR(s:Sys) (c:Ct):List Lk × Int:=if certE s c≠0 then([],certE s c) else(gB s c.walk,0)
structure SysOk (s:Sys):Prop where
 prob:probE s.prob=0
 n:1<=nS s/\nS s<=5/\s.n=nS s/\s.prob.t.n=nS s
 outs:1<=oS s/\oS s<=8/\s.prob.t.outs=oS s
 rounds:0<=s.prob.rounds/\s.prob.rounds<=6
 count:eS s<=4096
 tab:s.tab.length<=8192
 cas:∀ e,e<eS s->0<=(cM s e).c/\(cM s e).c.toNat<s.prob.t.cases.length
 word:∀ e,e<eS s->(cM s e).word.length=s.prob.rounds.toNat
 flt:∀ e,e<eS s->0<=fltS s e/\fltS s e<2 ^ nS s
 views:∀ e,e<eS s->(cM s e).views.length=s.prob.rounds.toNat+1/\∀ row∈(cM s e).views,row.length=nS s/\∀ z∈row,0<=z/\z<(s.tab.length:Int)
theorem VJ(tb:List Vw) (v:Vw):tb.length<=(putV tb v).1.length/\(putV tb v).2<(putV tb v).1.length:=by
 unfold putV;split
 ·rename_i h;exact⟨Nat.le_refl _,List.idxOf_lt_length_of_mem h⟩
 ·simp
theorem ES(vs:List Vw):∀ st:List Vw × List Int,(∀ z∈st.2,0<=z/\z<(st.1.length:Int))->st.1.length<=(vs.foldl gY st).1.length/\∀ z∈(vs.foldl gY st).2,0<=z/\z<((vs.foldl gY st).1.length:Int):=by
 induction vs with
 | nil=>intro st h;exact⟨Nat.le_refl _,h⟩
 | cons v r ih=>
  intro st h;have hp:=VJ st.1 v
  have h2:=ih (gY st v) (by
   intro z hz
   show 0<=z/\z<((putV st.1 v).1.length:Int)
   rcases List.mem_append.1 hz with hz|hz
   ·have:=h z hz;omega
   ·rw[List.mem_singleton]at hz;subst hz;omega)
  exact⟨Nat.le_trans hp.1 h2.1,h2.2⟩
theorem Ky(n:Nat) (inp:List Int) (word:List Rd) (tb:List Vw):∀ k,tb.length<=(playTo n inp word tb k).1.length/\(playTo n inp word tb k).2.length=k+1/\∀ row∈(playTo n inp word tb k).2,row.length=n/\∀ z∈row,0<=z/\z<((playTo n inp word tb k).1.length:Int)
 | 0=>by
  have h:=ES ((List.range n).map (eA inp)) (tb,[]) (fun z hz=>by simp at hz);have hl:=(fI ((List.range n).map (eA inp)) (tb,[])).1;refine⟨h.1,rfl,fun row hr=>?_⟩;have e:row=(addAll tb ((List.range n).map (eA inp))).2:=by simpa[playTo,uC] using hr
  subst e;exact⟨by simpa[addAll] using hl,h.2⟩
 | k+1=>by
  obtain⟨h1,h2,h3⟩:=Ky n inp word tb k;have h:=ES ((List.range n).map (nextV n k (word.getD k default) ((playTo n inp word tb k).2.getLastD []))) ((playTo n inp word tb k).1,[]) (fun z hz=>by simp at hz);have hl:=(fI ((List.range n).map (nextV n k (word.getD k default) ((playTo n inp word tb k).2.getLastD []))) ((playTo n inp word tb k).1,[])).1;have e1:(playTo n inp word tb (k+1)).1=(addAll (playTo n inp word tb k).1 ((List.range n).map (nextV n k (word.getD k default) ((playTo n inp word tb k).2.getLastD [])))).1:=rfl;have e2:(playTo n inp word tb (k+1)).2=(playTo n inp word tb k).2++[(addAll (playTo n inp word tb k).1 ((List.range n).map (nextV n k (word.getD k default) ((playTo n inp word tb k).2.getLastD [])))).2]:=rfl;have h0:(playTo n inp word tb k).1.length<=(playTo n inp word tb (k+1)).1.length:=by rw[e1];exact h.1
  refine⟨by omega,by rw[e2,List.length_append,h2];rfl,fun row hr=>?_⟩;rw[e2]at hr;rcases List.mem_append.1 hr with hr|hr
  ·obtain⟨h4,h5⟩:=h3 row hr;exact⟨h4,fun z hz=>by have:=h5 z hz;omega⟩
  ·rw[List.mem_singleton]at hr;subst hr;rw[e1];exact⟨by simpa[addAll] using hl,h.2⟩
def GD(p:Pb) (words:List (List Rd)) (st:List Vw × List Ex):Prop:=
 ∀ x∈st.2,(∃ c:Nat,x.c=c/\c<p.t.cases.length)/\x.word∈words/\x.views.length=x.word.length+1/\∀ row∈x.views,row.length=p.t.n.toNat/\∀ z∈row,0<=z/\z<(st.1.length:Int)
theorem L3(p:Pb) (words:List (List Rd)) (st:List Vw × List Ex) (x:Nat × Nat) (h1:x.1<p.t.cases.length) (h2:x.2<words.length) (h:GD p words st):GD p words (kh p words st x):=by
 obtain⟨k1,k2,k3⟩:=Ky p.t.n.toNat (p.t.cases.getD x.1 default).inp (words.getD x.2 []) st.1 (words.getD x.2 []).length;intro y hy;rcases List.mem_append.1 hy with hy|hy
 ·obtain⟨a1,a2,a3,a4⟩:=h y hy;refine⟨a1,a2,a3,fun row hr=>⟨(a4 row hr).1,fun z hz=>?_⟩⟩;have:=(a4 row hr).2 z hz
  show 0<=z/\z<((gu p.t.n.toNat (p.t.cases.getD x.1 default).inp (words.getD x.2 []) st.1).1.length:Int)
  unfold gu;omega
 ·rw[List.mem_singleton]at hy;subst hy;refine⟨⟨x.1,rfl,h1⟩,?_,k2,k3⟩
  show words.getD x.2 []∈words
  rw[show words.getD x.2 []=words[x.2] by simp[h2]];exact List.getElem_mem h2
theorem Od(p:Pb) (words:List (List Rd)) (l:List (Nat × Nat)):∀ st,(∀ x∈l,x.1<p.t.cases.length/\x.2<words.length)->GD p words st->GD p words (l.foldl (kh p words) st):=by
 induction l with
 | nil=>intro st _ h;exact h
 | cons a r ih=>intro st hl h;exact ih _ (fun x hx=>hl x (by simp[hx])) (L3 p words st a (hl a (by simp)).1 (hl a (by simp)).2 h)
theorem rz(p:Pb) (words:List (List Rd)) (l:List (Nat × Nat)):∀ st:List Vw × List Ex,(l.foldl (kh p words) st).2.length=st.2.length+l.length:=by
 induction l with
 | nil=>intro st;rfl
 | cons a r ih=>
  intro st;rw[List.foldl_cons,ih];simp[kh];omega
theorem Q5{c n:Nat} {x:Nat × Nat} (h:x∈jn c n):x.1<c/\x.2<n:=by
 unfold jn at h;obtain⟨i,hi,hx⟩:=List.mem_flatMap.1 h;obtain⟨j,hj,rfl⟩:=List.mem_map.1 hx;exact⟨List.mem_range.1 hi,List.mem_range.1 hj⟩
theorem xJ(c n:Nat):(jn c n).length=c * n:=by
 unfold jn;induction c with
 | zero=>simp
 | succ c ih=>rw[List.range_succ,List.flatMap_append,List.length_append,ih,Nat.succ_mul];simp
theorem Q6{r:Rd} (h:roundE r=0):0<=r.f/\r.f<2 ^ r.g.n.toNat:=by
 unfold roundE at h;split at h
 ·rename_i h1;exact absurd h h1
 unfold kb at h;split at h
 ·rename_i h1;exact absurd h h1
 split at h
 ·omega
 rename_i h1;refine⟨by omega,?_⟩;have h2:r.f / 2 ^ r.g.n.toNat=0:=by omega
 have h3:(0:Int)<2 ^ r.g.n.toNat:=Int.pow_pos (by decide);have h4:=Int.emod_add_mul_ediv r.f (2 ^ r.g.n.toNat);rw[h2,Int.mul_zero,Int.add_zero]at h4;rw[<-h4];exact Int.emod_lt_of_pos _ h3
theorem Q7{a:Adv} (h:∀ s,s<a.states.length->stateE a (a.states.getD s [])=0) (k:Nat):∀ s,∀ x∈bY a k s,∀ r∈x,0<=r.f/\r.f<2 ^ a.n.toNat:=by
 induction k with
 | zero=>intro s x hx r hr;simp[bY]at hx;subst hx;simp at hr
 | succ k ih=>
  intro s x hx r hr;simp only[bY,List.mem_flatMap,List.mem_map]at hx;obtain⟨m,hm,y,hy,rfl⟩:=hx;rcases List.mem_cons.1 hr with rfl|hr
  ·by_cases hs:s<a.states.length
   ·obtain⟨j,hj,rfl⟩:=List.getElem_of_mem hm;have h1:=h s hs;unfold stateE at h1;rw[if_neg (by omega)]at h1;have h2:=fB h1 j hj;unfold dW at h2;rw[show (a.states.getD s []).getD j default=(a.states.getD s [])[j] by rw[List.getD_eq_getElem?_getD,List.getElem?_eq_getElem hj];rfl]at h2;split at h2
    ·rename_i h3;exact absurd h2 h3
    rename_i h3;split at h2
    ·omega
    rename_i h4;have h5:=Q6 (r:=(a.states.getD s [])[j].r) (by simpa using h3);rw[show (a.states.getD s [])[j].r.g.n=a.n by simpa using h4]at h5;exact h5
   ·rw[List.getD_eq_getElem?_getD,List.getElem?_eq_none (by omega)]at hm;simp at hm
  ·exact ih _ y hy r hr
theorem ro{p:Pb} (h:probE p=0):taskE p.t=0/\advE p.a=0/\p.t.n=p.a.n/\0<=p.rounds/\p.rounds<=6:=by
 unfold probE at h;split at h
 ·rename_i h1;exact absurd h h1
 split at h
 ·rename_i h1 h2;exact absurd h h2
 split at h
 ·omega
 split at h
 ·omega
 exact⟨by omega,by omega,by omega,by omega,by omega⟩
theorem ja{s:Sys} (hv:verifyE s=0):SysOk s:=by
 obtain⟨p,hb,rfl⟩:∃ p,buildE p=0/\s=aN p:=⟨s.prob,ER hv⟩;clear hv;unfold buildE at hb;split at hb
 ·rename_i h;exact absurd hb h
 rename_i hp;have hp:probE p=0:=by omega
 split at hb
 ·omega
 rename_i hm;split at hb
 ·omega
 rename_i ht;obtain⟨nj,Je,fw,rO,qi⟩:=ro hp;obtain⟨hn,_,ho,_,_⟩:=fm nj;obtain⟨_,dS,_,_⟩:=ik Je;have hE:=Od p (aP p) (jn p.t.cases.length (aP p).length) ([],[]) (fun x hx=>Q5 hx) (fun x hx=>by simp at hx);have hL:=rz p (aP p) (jn p.t.cases.length (aP p).length) ([],[]);rw[xJ]at hL
 have CD:∀ e,e<eS (aN p)->cM (aN p) e∈(execsS p (aP p) (jn p.t.cases.length (aP p).length)).2:=fun e he=>by
  unfold cM;have TA:e<(aN p).ex.length:=he;rw[show (aN p).ex.getD e default=(aN p).ex[e] by rw[List.getD_eq_getElem?_getD,List.getElem?_eq_getElem TA];rfl];exact List.getElem_mem TA
 have Jq:∀ e,e<eS (aN p)->(cM (aN p) e).word.length=p.rounds.toNat:=fun e he=>kg _ _ _ _ (hE _ (CD e he)).2.1
 have Gc:nS (aN p)=p.t.n.toNat:=rfl;refine⟨hp,⟨by rw[Gc];omega,by rw[Gc];omega,by rw[Gc];show p.t.n=_;omega,by rw[Gc];show p.t.n=_;omega⟩,⟨?_,?_,?_⟩,⟨rO,qi⟩,?_,by omega,fun e he=>?_,Jq,fun e he=>?_,fun e he=>?_⟩
 ·show 1<=p.t.outs.toNat;omega
 ·show p.t.outs.toNat<=8;omega
 ·show p.t.outs=(p.t.outs.toNat:Int);omega
 ·show (execsS p (aP p) (jn p.t.cases.length (aP p).length)).2.length<=4096
  unfold execsS;rw[hL];simp;omega
 ·obtain⟨⟨c,e1,e2⟩,_⟩:=hE _ (CD e he);rw[e1];exact⟨by omega,by rw[Int.toNat_natCast];exact e2⟩
 ·have h1:=(hE _ (CD e he)).2.1;unfold fltS zs;rw[Gc,fw];split
  ·exact⟨by omega,Int.pow_pos (by decide)⟩
  ·rename_i h2;have h3:(cM (aN p) e).word.length - 1<(cM (aN p) e).word.length:=by omega
   rw[show (cM (aN p) e).word.getD ((cM (aN p) e).word.length - 1) default=(cM (aN p) e).word[(cM (aN p) e).word.length - 1] by rw[List.getD_eq_getElem?_getD,List.getElem?_eq_getElem h3];rfl];exact Q7 dS _ _ _ h1 _ (List.getElem_mem h3)
 ·obtain⟨_,_,h3,h4⟩:=hE _ (CD e he);exact⟨by rw[h3,Jq e he];rfl,h4⟩
theorem Q8{t:Tk} (h:taskE t=0) {c:Cs} (hc:c∈t.cases):c.out≠[]/\(∀ v∈c.calm,v∈c.out)/\∀ v∈c.out,(v.length:Int)=t.n/\∀ x∈v,0<=x/\x<t.outs:=by
 have hk:=(fm h).2.2.2.2 c hc;refine⟨fun e=>by have:=hk.out1;rw[e]at this;simp at this,hk.calms,fun v hv=>⟨hk.outs v hv,?_⟩⟩;obtain⟨k,qS,rfl⟩:=List.getElem_of_mem hc;unfold taskE at h;split at h
 ·omega
 split at h
 ·omega
 have h3:=fB h k qS;unfold eY at h3;rw[show t.cases.getD k default=t.cases[k] by simp[qS]]at h3;split at h3
 ·omega
 split at h3
 ·omega
 unfold vectorsE at h3;split at h3
 ·omega
 split at h3
 ·omega
 rename_i h6;have h7:=fB (show bm _ _=0 by simpa using h6);obtain⟨i,hi,rfl⟩:=List.getElem_of_mem hv;have h8:=h7 i hi;unfold jh at h8;rw[show (t.cases[k]).out.getD i []=(t.cases[k]).out[i] by simp[hi]]at h8;split at h8
 ·omega
 rename_i h9;have h9:vectorE (t.cases[k]).out[i] t.n t.outs=0:=by simpa using h9
 unfold vectorE at h9;split at h9
 ·omega
 split at h9
 ·omega
 rename_i FY;have PP:=(fO _ _).1 ((Bool.not_eq_true _).mp FY);intro x hx;obtain⟨j,hj,rfl⟩:=List.getElem_of_mem hx;have Ut:=PP j hj;rw[show (t.cases[k]).out[i].getD j 0=(t.cases[k]).out[i][j] by simp[hj]]at Ut;simp at Ut;omega
theorem BQ{s:Sys} (h:SysOk s) {e:Nat} (he:e<eS s):vecE s e≠[]/\∀ v∈vecE s e,v.length=nS s/\(∀ x∈v,0<=x/\x<(oS s:Int))/\∃ i j,i<s.prob.t.cases.length/\j<(s.prob.t.cases.getD i default).out.length/\v=(s.prob.t.cases.getD i default).out.getD j []:=by
 obtain⟨ht,_⟩:=ro h.prob;have hc:=(h.cas e he).2
 have hm:s.prob.t.cases.getD (cM s e).c.toNat default∈s.prob.t.cases:=by
  rw[show s.prob.t.cases.getD (cM s e).c.toNat default=s.prob.t.cases[(cM s e).c.toNat] by simp[hc]];exact List.getElem_mem hc
 obtain⟨h1,h2,h3⟩:=Q8 ht hm
 have h4:∀ v∈vecE s e,v∈(s.prob.t.cases.getD (cM s e).c.toNat default).out:=fun v hv=>by
  unfold vecE gg at hv;split at hv
  ·exact h2 v hv
  ·exact hv
 refine⟨?_,fun v hv=>?_⟩
 ·unfold vecE gg;split
  ·rename_i h5;intro h6;rw[h6]at h5;simp at h5
  ·exact h1
 ·obtain⟨h5,h6⟩:=h3 v (h4 v hv);have hn:=h.n;have ho:=h.outs;obtain⟨j,hj,e⟩:=List.getElem_of_mem (h4 v hv);exact⟨by omega,fun x hx=>by have:=h6 x hx;omega,_,j,hc,hj,by rw[<-e];exact(List.getElem_eq_getD []).trans rfl⟩
theorem Kz(s:Sys) (e v:Nat):valB s e v=true↔List.replicate (nS s) (v:Int)∈vecE s e:=by
 unfold valB hasV;rw[la];constructor
 ·rintro⟨k,hk,h⟩;have:=of_decide_eq_true h;rw[show (vecE s e).getD k []=(vecE s e)[k] by simp[hk]]at this;rw[<-this];exact List.getElem_mem hk
 ·intro h;obtain⟨k,hk,e⟩:=List.getElem_of_mem h;exact⟨k,hk,decide_eq_true (by rw[<-e];simp[hk])⟩
theorem Oe{s:Sys} (h:SysOk s) {e v:Nat} (he:e<eS s) (hv:valB s e v=true):v<oS s:=by
 have h1:=((BQ h he).2 _ ((Kz s e v).1 hv)).2.1 v (by have:=h.n;rw[List.mem_replicate];exact⟨by omega,rfl⟩);omega
theorem Of{v:List Int} (h:constB v=true):v=List.replicate v.length (v.getD 0 0):=by
 unfold constB at h;have h1:=(fO _ _).1 ((Bool.not_eq_true' _).mp h);rw[List.eq_replicate_iff];refine⟨rfl,fun x hx=>?_⟩;obtain⟨j,hj,rfl⟩:=List.getElem_of_mem hx;have:=h1 j hj;rw[show v.getD j 0=v[j] by simp[hj]]at this;simpa using this
theorem pY(t:Tk):agreeB t=true↔∀ i,i<t.cases.length->∀ j,j<(t.cases.getD i default).out.length->constB ((t.cases.getD i default).out.getD j [])=true:=by
 unfold agreeB;rw[Bool.not_eq_true',fO];constructor
 ·intro h i hi j hj;have:=(fO _ _).1 (h i hi) j hj;simpa using this
 ·intro h i hi;rw[fO];intro j hj;rw[h i hi j hj];rfl
def ie(s:Sys) (e:Nat):Nat:=maskN (valB s e) 8
def vT(s:Sys) (l:List Nat) (v:Nat):Bool:=l.all fun e=>valB s e v
def comM(s:Sys) (l:List Nat):Nat:=maskN (vT s l) 8
theorem A2(s:Sys):comM s []=255:=by
 unfold comM;rw[show vT s []=fun _=>true from rfl,L2]
theorem EZ(s:Sys) (l:List Nat) (e:Nat):comM s (l++[e])=comM s l &&& ie s e:=by
 unfold comM ie;rw[Ob];congr 1
 funext v
 simp[vT]
theorem zX{n m:Nat} (q:Nat->Bool) (h:n<=m) (hq:∀ v,n<=v->v<m->q v=false):firstIx m q=firstIx n q:=by
 rcases bH n q with ⟨e,h1⟩|⟨k,hk,e,h1,h2⟩
 ·rw[e];refine dA _ _ fun j hj=>?_
  by_cases vH:j<n
  ·exact h1 j vH
  ·exact hq j (by omega) hj
 ·rw[e];exact dq m k q (by omega) h2 h1
theorem KA{s:Sys} (h:SysOk s) {l:List Nat} (hl:∀ e∈l,e<eS s):comB s l=firstIx 8 (vT s l):=by
 have ho:=h.outs;unfold comB;rcases l with _|⟨a,r⟩
 ·rw[dq (oS s) 0 _ (by omega) (fun j hj=>by omega) rfl,dq 8 0 _ (by omega) (fun j hj=>by omega) rfl]
 ·refine(zX _ ho.2.1 fun v hv _=>?_).symm;cases hq:vT s (a :: r) v with
  | false=>exact hq
  | true=>
   unfold vT at hq;rw[List.all_eq_true]at hq;have:=Oe h (hl a (by simp)) (hq a (by simp));omega
theorem Og{s:Sys} (h:SysOk s) {l:List Nat} (hl:∀ e∈l,e<eS s):comB s l<0↔comM s l=0:=by
 rw[KA h hl];unfold comM;rw[nE,<-lV];simp
theorem L4(s:Sys) (l:List Nat):-1<=comB s l/\comB s l<oS s\/oS s=0:=by
 unfold comB;rcases bH (oS s) (fun v=>l.all fun e=>valB s e v) with ⟨e,_⟩|⟨k,hk,e,_⟩<;>omega
theorem Oh(s:Sys) (l:List Nat):comB s l<0↔∀ v,v<oS s->∃ e∈l,valB s e v=false:=by
 unfold comB;constructor
 ·intro h v hv;rcases bH (oS s) (fun v=>l.all fun e=>valB s e v) with ⟨_,h1⟩|⟨k,hk,e,_⟩
  ·have:=h1 v hv;rw[List.all_eq_false]at this;obtain⟨e,he,h2⟩:=this;exact⟨e,he,by simpa using h2⟩
  ·omega
 ·intro h;rw[dA]
  ·omega
  ·intro j hj;obtain⟨e,he,h2⟩:=h j hj;rw[List.all_eq_false];exact⟨e,he,by simp[h2]⟩
theorem Oi(s:Sys) {l m:List Nat} (h:∀ e∈l,e∈m) (hl:comB s l<0):comB s m<0:=by
 rw[Oh]at hl ⊢;intro v hv;obtain⟨e,he,h1⟩:=hl v hv;exact⟨e,h e he,h1⟩
theorem vU(s:Sys) (f:Nat):(db s f).length=eS s:=by simp[db,QW]
theorem mT(s:Sys) (f e:Nat) (he:e<eS s):(db s f).getD e 0=dR (eS s) (eU s) f (eS s) e:=by
 simp[db,QW,he]
theorem lh{s:Sys} {f:Nat} (hf:f<eS s):Dist (eS s) (eU s) f fun e=>(db s f).getD e 0:=by
 have h:=N7 (L:=eU s) hf;refine⟨by rw[mT s f f hf];exact h.zero,fun e he h1=>?_,fun e he=>?_,fun e he d h1=>?_,fun e g he hg h1 h2=>?_⟩
 ·rw[mT s f e he]at h1;exact h.only e he h1
 ·rw[mT s f e he];exact h.low e he
 ·rw[mT s f e he]at h1;obtain⟨g,hg,h2,h3⟩:=h.pred e he d h1;exact⟨g,hg,by rw[mT s f g hg];exact h2,h3⟩
 ·rw[mT s f g hg]at h1 ⊢;rw[mT s f e he];exact h.next e g he hg h1 h2
theorem DF{s:Sys} {f:Nat} (hf:f<eS s) (e:Nat) (he:e<eS s):(db s f).getD e 0<eS s:=by
 rw[mT s f e he];have hr:=gN (n:=eS s) (L:=eU s) (f:=f) (eS s) e;by_cases h0:0<=dR (eS s) (eU s) f (eS s) e
 ·have h1:=so (n:=eS s) (L:=eU s) (f:=f) (eS s) e (dR (eS s) (eU s) f (eS s) e).toNat (by omega) (by omega);have:=G7 hf _ e he h1;omega
 ·omega
theorem A3{s:Sys} {f:Nat} (hf:f<eS s) {e d:Nat} (he:e<eS s) (h:(db s f).getD e 0=d+1):gP s (db s f) d e<eS s/\(db s f).getD (gP s (db s f) d e) 0=d/\eU s e (gP s (db s f) d e)=true/\firstIx (eS s) (fun g=>decide ((db s f).getD g 0=d)&&eU s e g)=(gP s (db s f) d e:Nat):=by
 obtain⟨g,hg,h1,h2⟩:=(lh hf).pred e he d h;unfold gP;rcases bH (eS s) (fun g=>decide ((db s f).getD g 0=d)&&eU s e g) with ⟨_,h3⟩|⟨k,hk,e1,h3,_⟩
 ·have h4:=h3 g hg;rw[decide_eq_true h1,h2]at h4;cases h4
 ·rw[e1,Int.toNat_natCast];simp only[Bool.and_eq_true,decide_eq_true_eq]at h3;exact⟨hk,h3.1,h3.2,rfl⟩
def chainB(s:Sys):Nat->List Lk->Prop
 | _,[]=>True
 | e,y :: r=>0<=y.x/\y.x.toNat<eS s/\0<=y.p/\y.p<nS s/\linkB s y.p.toNat e y.x.toNat=true/\chainB s y.x.toNat r
def qE(e:Nat):List Lk->Nat
 | []=>e
 | y :: r=>qE y.x.toNat r
theorem xK{s:Sys}:∀ (l:List Lk) (e:Nat) (m:List Lk),chainB s e l->chainB s (qE e l) m->chainB s e (l++m)
 | [],_,_,_,h=>h
 | _ :: r,_,m,⟨h1,h2,h3,h4,h5,h6⟩,h=>⟨h1,h2,h3,h4,h5,xK r _ m h6 h⟩
theorem xL{s:Sys} {f:Nat} (hf:f<eS s):∀ (d e:Nat),e<eS s->(db s f).getD e 0=d->chainB s e (ky s (db s f) d e)/\qE e (ky s (db s f) d e)=f/\(ky s (db s f) d e).length=d
 | 0,e,he,h=>⟨trivial,(lh hf).only e he h,rfl⟩
 | d+1,e,he,h=>by
  obtain⟨h1,h2,h3,_⟩:=A3 hf he (by rw[h];rfl);obtain⟨h4,h5,h6⟩:=DE h3;obtain⟨h7,h8,h9⟩:=xL hf d _ h1 h2;refine⟨⟨by dsimp only;omega,by dsimp only;rw[Int.toNat_natCast];exact h1,h4,h5,?_,?_⟩,?_,?_⟩
  ·dsimp only;rw[Int.toNat_natCast];exact h6
  ·dsimp only;rw[Int.toNat_natCast];exact h7
  ·show qE (gP s (db s f) d e:Int).toNat _=f
   rw[Int.toNat_natCast];exact h8
  ·show (ky s (db s f) d (gP s (db s f) d e)).length+1=d+1
   rw[h9]
def Hf(s:Sys) (e f:Nat):Prop:=0<=(db s f).getD e 0
theorem KB{s:Sys} {e f:Nat} (he:e<eS s) (hf:f<eS s) (h:Hf s e f):chainB s e (kj s e f)/\qE e (kj s e f)=f/\(kj s e f).length<eS s:=by
 have h1:=DF hf e he;obtain⟨h2,h3,h4⟩:=xL hf ((db s f).getD e 0).toNat e he (by unfold Hf at h;omega);exact⟨h2,h3,by unfold kj;rw[h4];omega⟩
theorem end_mem:∀ (l:List Lk) (e:Nat),qE e l∈e :: cJ l
 | [],e=>by simp[qE]
 | y :: r,e=>by
  have h:=end_mem r y.x.toNat
  show qE y.x.toNat r∈e :: (y.x.toNat :: cJ r)
  exact List.mem_cons_of_mem _ h
theorem vV(l m:List Lk):cJ (l++m)=cJ l++cJ m:=by simp[cJ]
theorem KC{s:Sys}:∀ (l:List Nat) (e:Nat),e<eS s->(∀ m∈l,m<eS s)->(∀ a∈e :: l,∀ b∈e :: l,Hf s a b)->chainB s e (kR s e l)/\(∀ m∈l,m∈e :: cJ (kR s e l))/\(kR s e l).length<=l.length * (eS s - 1)
 | [],e,_,_,_=>⟨trivial,fun m hm=>by simp at hm,by simp[kR]⟩
 | m :: r,e,he,hl,hn=>by
  have hm:=hl m (by simp);obtain⟨h1,h2,h3⟩:=KB he hm (hn e (by simp) m (by simp));obtain⟨h4,h5,h6⟩:=KC r m hm (fun x hx=>hl x (by simp[hx])) (fun a ha b hb=>hn a (List.mem_cons_of_mem _ ha) b (List.mem_cons_of_mem _ hb));have QG:=end_mem (kj s e m) e;rw[h2]at QG
  have hme2:m∈e :: cJ (kR s e (m :: r)):=by
   show m∈e :: cJ (kj s e m++kR s m r)
   rw[vV];rcases List.mem_cons.1 QG with h|h
   ·rw[h];simp
   ·exact List.mem_cons_of_mem _ (List.mem_append_left _ h)
  refine⟨xK _ _ _ h1 (by rw[h2];exact h4),fun x hx=>?_,?_⟩
  ·rcases List.mem_cons.1 hx with rfl|hx
   ·exact hme2
   ·rcases List.mem_cons.1 (h5 x hx) with rfl|h
    ·exact hme2
    ·show x∈e :: cJ (kj s e m++kR s m r)
     rw[vV];exact List.mem_cons_of_mem _ (List.mem_append_right _ h)
  ·show (kj s e m++kR s m r).length<=(r.length+1) * (eS s - 1)
   rw[List.length_append,Nat.succ_mul];omega
theorem Hg{q:Nat->Nat->Bool} (hs:∀ a b,q a b=q b a) (ht:∀ a b c,q a b=true->q b c=true->q a c=true) (n i k:Nat) (hi:i<n) (hk:k<n):(iw q n).getD i 0=(iw q n).getD k 0↔i=k\/q i k=true:=by
 have e:iw q n=iw (fun a b=>decide (a=b) || q a b) n:=nA fun i _ k hk=>by rw[decide_eq_false (by omega)];rfl
 rw[e,EP (q:=fun a b=>decide (a=b) || q a b) (fun a=>by simp) (fun a b=>by rw[hs,decide_eq_decide.2 (eq_comm (a:=a))]) n (fun a b c _ _ _ h1 h2=>by
  simp only[Bool.or_eq_true,decide_eq_true_eq]at h1 h2 ⊢;rcases h1 with rfl|h1
  ·exact h2
  ·rcases h2 with rfl|h2
   ·exact .inr h1
   ·exact .inr (ht a b c h1 h2)) i k hi hk]
 simp
theorem zY{s:Sys} (h:SysOk s) {R:Nat->Nat->Prop} (hr:∀ a,R a a) (h0:∀ p a b,p<nS s->a<eS s->b<eS s->linkB s p a b=true->R a b) (h1:∀ a b c,R a b->R b c->R a c):∀ m,m<nS s->∀ i k,i<eS s->k<eS s->(eo s m).getD i 0=(eo s m).getD k 0->R i k
 | 0,hm,i,k,hi,hk,e=>by
  rcases (Hg (rc s 0) (fun a b c=>ud) (eS s) i k hi hk).1 e with rfl|e
  ·exact hr i
  ·exact h0 0 i k hm hi hk e
 | m+1,hm,i,k,hi,hk,e=>by
  have hl:=gO s m;unfold eo kQ at e;rw[hl]at e;have dC:=mG (nB (eo s m) (classL s (m+1)));rw[EP (fun a=>rt _ _ a a (BN _ _ a)) (fun a b=>dC _ a b) (eS s) (fun a b c _ hb _ h2 h3=>gT _ _ a b c hb h2 h3) i k hi hk]at e
  have key:∀ m' x y,m'<=eS s->x<eS s->y<eS s->il (dM (eo s m) (classL s (m+1))) m' x y=true->R x y:=by
   intro m';induction m' with
   | zero=>
    intro x y _ hx hy h2;unfold il dM at h2;simp only[Bool.or_eq_true,decide_eq_true_eq]at h2;rcases h2 with h2|h2
    ·exact zY h hr h0 h1 m (by omega) x y hx hy h2
    ·rcases (Hg (rc s (m+1)) (fun a b c=>ud) (eS s) x y hx hy).1 h2 with rfl|h2
     ·exact hr x
     ·exact h0 (m+1) x y hm hx hy h2
   | succ m' ih=>
    intro x y hm' hx hy h2;rw[il]at h2;simp only[Bool.or_eq_true,Bool.and_eq_true]at h2;rcases h2 with h2|⟨h2,h3⟩
    ·exact ih x y (by omega) hx hy h2
    ·exact h1 _ _ _ (ih x m' (by omega) hx (by omega) h2) (ih m' y (by omega) (by omega) hy h3)
  exact key _ i k (Nat.le_refl _) hi hk e
theorem BR{s:Sys} (h:SysOk s) (i k:Nat) (hi:i<eS s) (hk:k<eS s) (e:(partsS s).getD i 0=(partsS s).getD k 0):Hf s i k:=by
 have hn:=h.n
 have hR:=zY h (R:=fun a b=>∀ c,c<eS s->(0<=(db s c).getD a 0↔0<=(db s c).getD b 0)) (fun a c _=>Iff.rfl) (fun p a b hp ha hb hl c hc=>by
  have hd:=lh hc;have gM:eU s a b=true:=dV _ p _ hp hl
  exact⟨fun h1=>(hd.next b a hb ha h1 (by rw[He];exact gM)).1,fun h1=>(hd.next a b ha hb h1 gM).1⟩) (fun a b c h1 h2 x hx=>(h1 x hx).trans (h2 x hx)) (nS s - 1) (by omega) i k hi hk e
 unfold Hf;rw[hR k hk];have:=(lh hk).zero;omega
theorem li{parts:List Int} {k:Int} {e:Nat}:e∈memL parts k↔e<parts.length/\parts.getD e 0=k:=by simp[memL]
theorem Oj{s:Sys} (h:SysOk s) (k:Int) (a:Nat) (r:List Nat) (e:memL (partsS s) k=a :: r):a<eS s/\chainB s a (kR s a r)/\(∀ m∈a :: r,m∈cJ (gG s (a :: r)))/\(gG s (a :: r)).length<=1+r.length * (eS s - 1)/\r.length<eS s:=by
 have hm:∀ m∈a :: r,m<eS s/\(partsS s).getD m 0=k:=fun m hm=>by
  rw[<-e,li,dN]at hm;exact hm
 have ha:=(hm a (by simp)).1;obtain⟨h1,h2,h3⟩:=KC r a ha (fun m h=>(hm m (by simp[h])).1) (fun x hx y hy=>BR h x y (hm x hx).1 (hm y hy).1 (by rw[(hm x hx).2,(hm y hy).2]));refine⟨ha,h1,fun m h4=>?_,?_,?_⟩
 ·have ev:cJ (gG s (a :: r))=a :: cJ (kR s a r):=by simp[cJ,gG]
  rw[ev];rcases List.mem_cons.1 h4 with rfl|h4
  ·simp
  ·exact h2 m h4
 ·simp only[gG,List.length_cons];omega
 ·have h4:=congrArg List.length e
  have h5:(memL (partsS s) k).length<=eS s:=by
   exact Nat.le_trans (List.length_filter_le _ _) (by rw[List.length_range,dN];exact Nat.le_refl _)
  rw[List.length_cons]at h4;omega
theorem zZ(s:Sys) (p:Lk) (l:List Lk) (i:Nat):gw s (p :: l) (i+2)=gw s l (i+1):=by
 unfold gw;simp only[List.getD_cons_succ,Nat.add_sub_cancel,show i+2 - 1=i+1 by omega];rw[if_neg (show ¬ (i+2=0) by omega),if_neg (show ¬ (i+1=0) by omega)]
theorem Ok(s:Sys) (p y:Lk) (r:List Lk):gw s (p :: y :: r) 1=0↔0<=y.x/\y.x.toNat<eS s/\0<=y.p/\y.p<nS s/\linkB s y.p.toNat p.x.toNat y.x.toNat=true:=by
 unfold gw;rw[show (p :: y :: r).getD 1 default=y from rfl,show (p :: y :: r).getD (1 - 1) default=p from rfl,if_neg (show ¬ (1=0) by omega)];constructor
 ·intro h;split at h
  ·omega
  split at h
  ·omega
  split at h
  ·rename_i h3;exact⟨by omega,by omega,by omega,by omega,h3⟩
  ·omega
 ·rintro⟨h1,h2,h3,h4,h5⟩;rw[if_neg (by omega),if_neg (by omega),if_pos h5]
theorem sr(s:Sys):∀ (l:List Lk) (p:Lk),chainB s p.x.toNat l↔∀ i,i<l.length->gw s (p :: l) (i+1)=0
 | [],p=>⟨fun _ i hi=>by simp at hi,fun _=>trivial⟩
 | y :: r,p=>by
  have ih:=sr s r y;have h1:=Ok s p y r;constructor
  ·rintro⟨a1,a2,a3,a4,a5,a6⟩ i hi;cases i with
   | zero=>exact h1.2 ⟨a1,a2,a3,a4,a5⟩
   | succ i=>rw[zZ];exact ih.1 a6 i (by simpa using hi)
  ·intro h;obtain⟨a1,a2,a3,a4,a5⟩:=h1.1 (h 0 (by simp));exact⟨a1,a2,a3,a4,a5,ih.2 fun i hi=>by rw[<-zZ s p];exact h (i+1) (by simpa using hi)⟩
theorem lj(s:Sys) (w:List Lk):walkE s w=0↔∃ a:Nat,∃ r,w=⟨a,-1⟩ :: r/\a<eS s/\chainB s a r/\w.length<=4096:=by
 constructor
 ·intro h;unfold walkE at h;split at h
  ·omega
  rename_i h1;split at h
  ·omega
  rename_i h2;have h3:=fB h
  match w,h1,h2,h3 with
  | y :: r,_,h2,h3=>
   have h4:=h3 0 (by simp);unfold gw at h4;rw[List.getD_cons_zero]at h4;split at h4
   ·omega
   rename_i h5;rw[if_pos rfl]at h4;split at h4
   ·omega
   rename_i h6;refine⟨y.x.toNat,r,?_,by omega,(sr s r y).2 fun i hi=>h3 (i+1) (by simpa using hi),by omega⟩;obtain⟨x,p⟩:=y;dsimp only at h5 h6 ⊢;rw[show p=-1 by omega,show ((x.toNat:Nat):Int)=x by omega]
 ·rintro⟨a,r,rfl,h1,h2,h3⟩;unfold walkE;rw[if_neg (by simp),if_neg (by omega),cU];intro j hj;cases j with
  | zero=>
   unfold gw;rw[List.getD_cons_zero,if_neg (by dsimp only;omega),if_pos rfl,if_neg (by simp)]
  | succ j=>exact(sr s r ⟨a,-1⟩).1 (by dsimp only;rw[Int.toNat_natCast];exact h2) j (by simpa using hj)
theorem rg{s:Sys}:∀ (l:List Lk) (e i:Nat),chainB s e l->chainB s e (l.take i)
 | [],_,i,_=>by simp[chainB]
 | y :: r,e,0,_=>trivial
 | y :: r,e,i+1,⟨h1,h2,h3,h4,h5,h6⟩=>⟨h1,h2,h3,h4,h5,rg r _ i h6⟩
theorem BS{s:Sys}:∀ (l:List Lk) (e i:Nat),chainB s e l->chainB s (qE e (l.take i)) (l.drop i)
 | [],_,i,_=>by simp[chainB]
 | y :: r,e,0,h=>h
 | y :: r,e,i+1,⟨_,_,_,_,_,h6⟩=>BS r _ i h6
theorem end_at:∀ (l:List Lk) (a:Nat) (i:Nat),i<=l.length->qE a (l.take i)=(((⟨a,-1⟩:Lk) :: l).getD i default).x.toNat
 | l,a,0,_=>by simp[qE]
 | [],a,i+1,h=>by simp at h
 | y :: r,a,i+1,h=>by
  have ih:=end_at r y.x.toNat i (by simpa using h);rw[List.getD_cons_succ,List.take_succ_cons]
  show qE y.x.toNat (r.take i)=_
  rw[ih];cases i with
  | zero=>simp;omega
  | succ i=>rw[List.getD_cons_succ,List.getD_cons_succ]
structure Less (s:Sys) (w c:List Lk):Prop where
 walk:walkE s w=0->walkE s c=0
 len:c.length<w.length
 vis:∀ e∈cJ c,e∈cJ w
theorem Ol(w:List Lk) (i:Nat) (hi:i<w.length):(w.getD i default).x.toNat∈cJ w:=by
 unfold cJ;rw[show w.getD i default=w[i] by simp[hi]];exact List.mem_map_of_mem (List.getElem_mem hi)
theorem vW{w c:List Lk} (h:∀ y∈c,y∈w):∀ e∈cJ c,e∈cJ w:=fun e he=>by
 unfold cJ at he ⊢;obtain⟨y,hy,rfl⟩:=List.mem_map.1 he;exact List.mem_map_of_mem (h y hy)
theorem E0{s:Sys} {w c:List Lk} (hc:c∈dz s w) (h0:0<c.length):Less s w c:=by
 unfold dz at hc;rcases List.mem_cons.1 hc with rfl|hc
 ·have hl:w.dropLast.length=w.length - 1:=List.length_dropLast;refine⟨fun h=>?_,by omega,vW fun y hy=>(List.dropLast_sublist w).subset hy⟩;obtain⟨a,r,rfl,h1,h2,h3⟩:=(lj s w).1 h;rw[List.length_cons]at hl h3;have hr:r≠[]:=fun e=>by rw[e]at hl;simp at hl;rw[e]at h0;simp at h0
  refine(lj s _).2 ⟨a,r.dropLast,List.dropLast_cons_of_ne_nil hr,h1,?_,by rw[hl];omega⟩;rw[List.dropLast_eq_take];exact rg _ _ _ h2
 rcases List.mem_append.1 hc with hc|hc
 ·split at hc
  ·rename_i h4;rw[List.mem_singleton]at hc
   match w,h4 with
   | y :: z :: r,h4=>
    have hc:c=⟨z.x,-1⟩ :: r:=by rw[hc];rfl
    subst hc;refine⟨fun h=>?_,by simp,?_⟩
    ·obtain⟨a,r',e,h1,h2,h3⟩:=(lj s _).1 h;injection e with e1 e2
     subst e2;obtain⟨a1,a2,_,_,_,a6⟩:=h2;exact(lj s _).2 ⟨z.x.toNat,r,by rw[show ((z.x.toNat:Nat):Int)=z.x by omega],a2,a6,by simp at h3 ⊢;omega⟩
    ·intro e he;simp only[cJ,List.map_cons,List.mem_cons]at he ⊢;exact .inr he
  ·simp at hc
 ·obtain⟨i,hi,hc⟩:=List.mem_flatMap.1 hc;obtain⟨j,hj,hc⟩:=List.mem_filterMap.1 hc;have hi:=List.mem_range.1 hi;have hj:=List.mem_range.1 hj;have CS:w.length - 1 - j<w.length:=by omega
  have kI:i+2<=w.length - 1 - j:=by omega
  generalize w.length - 1 - j=k at hc CS kI;clear hj;unfold vS at hc;split at hc
  ·rename_i gM;injection hc with hc
   subst hc;refine⟨fun h=>?_,by simp;omega,fun e he=>?_⟩
   ·obtain⟨a,r,rfl,h1,h2,h3⟩:=(lj s w).1 h;obtain⟨b1,b2,b3⟩:=DE gM;have fS:k<=r.length:=by simp at CS;omega
    have Qx:i<=r.length:=by omega
    have e1:=end_at r a i Qx;have e2:=end_at r a k fS
    have dp:0<=(((⟨a,-1⟩:Lk) :: r).getD k default).x/\(((⟨a,-1⟩:Lk) :: r).getD k default).x.toNat<eS s:=by
     obtain⟨k',rfl⟩:∃ k',k=k'+1:=⟨k - 1,by omega⟩;have h4:=(sr s r ⟨a,-1⟩).1 (by dsimp only;rw[Int.toNat_natCast];exact h2) k' (by omega);unfold gw at h4;split at h4
     ·omega
     ·omega
    refine(lj s _).2 ⟨a,r.take i++⟨(((⟨a,-1⟩:Lk) :: r).getD k default).x,byP s (((⟨a,-1⟩:Lk) :: r).getD i default).x.toNat (((⟨a,-1⟩:Lk) :: r).getD k default).x.toNat⟩ :: r.drop k,rfl,h1,?_,by simp at h3 CS ⊢;omega⟩;refine xK _ _ _ (rg _ _ _ h2) ⟨dp.1,dp.2,b1,b2,?_,?_⟩
    ·rw[e1];exact b3
    ·have h5:=BS r a k h2;rw[e2]at h5;exact h5
   ·unfold cJ at he;rw[List.map_append,List.map_cons]at he;rcases List.mem_append.1 he with he|he
    ·exact vW (c:=w.take (i+1)) (fun y hy=>List.mem_of_mem_take hy) e he
    ·rcases List.mem_cons.1 he with rfl|he
     ·exact Ol w k CS
     ·exact vW (c:=w.drop (k+1)) (fun y hy=>List.mem_of_mem_drop hy) e he
  ·cases hc
theorem pZ{s:Sys} {w c:List Lk} (h:iz s w=some c):c∈dz s w/\0<c.length/\cW s c=true/\Less s w c:=by
 have h1:=List.mem_of_find?_eq_some h;have h2:=List.find?_some h;unfold iy at h2;simp only[Bool.and_eq_true,decide_eq_true_eq]at h2;exact⟨h1,h2.1,h2.2,E0 h1 h2.1⟩
theorem z5(s:Sys):∀ (k:Nat) (w:List Lk),w.length<=k->shortN s (k+1) w=shortN s k w
 | 0,w,h=>by
  show (match iz s w with|some c=>shortN s 0 c|none=>w)=w
  cases hn:iz s w with
  | none=>rfl
  | some c=>have:=(pZ hn).2.2.2.len;omega
 | k+1,w,h=>by
  show (match iz s w with|some c=>shortN s (k+1) c|none=>w)=match iz s w with|some c=>shortN s k c|none=>w
  cases hn:iz s w with
  | none=>rfl
  | some c=>exact z5 s k c (by have:=(pZ hn).2.2.2.len;omega)
theorem Om(s:Sys) (w:List Lk) (k:Nat) (h:w.length<=k):shortN s k w=gB s w:=by
 obtain⟨d,rfl⟩:∃ d,k=w.length+d:=⟨k - w.length,by omega⟩;clear h;induction d with
 | zero=>rfl
 | succ d ih=>rw[<-ih];exact z5 s (w.length+d) w (by omega)
theorem BT{s:Sys} {w:List Lk} (h:iz s w=none):gB s w=w:=by
 unfold gB;cases w.length with
 | zero=>rfl
 | succ k=>rw[shortN,h]
theorem L5{s:Sys} {w c:List Lk} (h:iz s w=some c):gB s w=gB s c:=by
 have hl:=(pZ h).2.2.2.len;unfold gB;obtain⟨k,hk⟩:∃ k,w.length=k+1:=⟨w.length - 1,by omega⟩;rw[hk,shortN,h];exact Om s c k (by omega)
structure Shrt (s:Sys) (w d:List Lk):Prop where
 walk:walkE s d=0
 contra:cW s d=true
 len:d.length<=w.length
 vis:∀ e∈cJ d,e∈cJ w
 none:iz s d=none
theorem Hh{s:Sys}:∀ (k:Nat) (w:List Lk),w.length<=k->walkE s w=0->cW s w=true->Shrt s w (shortN s k w)
 | 0,w,h,h1,_=>by
  obtain⟨a,r,rfl,_⟩:=(lj s w).1 h1;simp at h
 | k+1,w,h,h1,h2=>by
  rw[shortN];cases hn:iz s w with
  | none=>exact⟨h1,h2,Nat.le_refl _,fun e he=>he,hn⟩
  | some c=>
   obtain⟨_,h3,h4,h5⟩:=pZ hn;have ih:=Hh k c (by have:=h5.len;omega) (h5.walk h1) h4;have:=h5.len;exact⟨ih.walk,ih.contra,by have:=ih.len;show (shortN s k c).length<=w.length;omega,fun e he=>h5.vis e (ih.vis e he),ih.none⟩
theorem On{s:Sys} {w:List Lk} (h:iz s w=none):∀ c∈dz s w,0<c.length->cW s c=false:=fun c hc h0=>by
 have h1:=List.find?_eq_none.1 h c hc;unfold iy at h1;rw[decide_eq_true h0,Bool.true_and]at h1;simpa using h1
theorem rh(s:Sys) (w:List Lk) (i:Nat):gw s w i=0↔0<=(w.getD i default).x/\(w.getD i default).x.toNat<eS s/\(i=0->(w.getD i default).p=-1)/\(0<i->0<=(w.getD i default).p/\(w.getD i default).p<nS s/\linkB s (w.getD i default).p.toNat (w.getD (i - 1) default).x.toNat (w.getD i default).x.toNat=true):=by
 unfold gw;generalize w.getD i default=y;generalize w.getD (i - 1) default=z;constructor
 ·intro h;split at h
  ·omega
  split at h
  ·split at h
   ·omega
   ·exact⟨by omega,by omega,fun _=>by omega,fun h'=>by omega⟩
  ·split at h
   ·omega
   split at h
   ·rename_i h1;exact⟨by omega,by omega,fun h'=>by omega,fun _=>⟨by omega,by omega,h1⟩⟩
   ·omega
 ·rintro⟨h1,h2,h3,h4⟩;rw[if_neg (by omega)];split
  ·rename_i h5;rw[if_neg (by have:=h3 h5;omega)]
  ·rename_i h5;obtain⟨h6,h7,h8⟩:=h4 (by omega);rw[if_neg (by omega),if_pos h8]
theorem nG(s:Sys) (w:List Lk):walkE s w=0↔0<w.length/\w.length<=4096/\∀ i,i<w.length->gw s w i=0:=by
 unfold walkE;constructor
 ·intro h;split at h
  ·omega
  split at h
  ·omega
  ·exact⟨by omega,by omega,fB h⟩
 ·rintro⟨h1,h2,h3⟩;rw[if_neg (by omega),if_neg (by omega),cU _ _ h3]
theorem VK{s:Sys} {l:List Lk} (h0:0<l.length) (h:cW s l=true):cW s (nF s l)=true/\0<rf s l/\rf s l<=l.length:=by
 unfold nF rf;rcases bH l.length (fun i=>cW s (l.take (i+1))) with ⟨e,h1⟩|⟨k,hk,e,h1,_⟩
 ·have:=h1 (l.length - 1) (by omega);rw[show l.length - 1+1=l.length by omega,List.take_length,h]at this;cases this
 ·rw[e,if_neg (by omega),Int.toNat_natCast];exact⟨h1,by omega,by omega⟩
theorem nH(s:Sys) (e:Nat) (he:e<eS s):(choiceS s).getD e 0=comB s (memL (partsS s) ((partsS s).getD e 0)):=by simp[choiceS,he]
theorem Ra{s:Sys} (h:SysOk s) (hb:¬ lQ s<0):cW s (kA s)=true/\(kA s).length<=1+(eS s - 1) * (eS s - 1)/\((kA s).length<=4096->walkE s (kA s)=0):=by
 unfold lQ at hb;rcases bH (eS s) (fun e=>decide ((choiceS s).getD e 0<0)) with ⟨e,_⟩|⟨k,hk,e,h1,_⟩
 ·omega
 have eb:lQ s=k:=e;unfold kA;rw[eb,Int.toNat_natCast];rw[decide_eq_true_eq,nH s k hk]at h1;have kO:k∈memL (partsS s) ((partsS s).getD k 0):=li.2 ⟨by rw[dN];exact hk,rfl⟩;cases hl:memL (partsS s) ((partsS s).getD k 0) with
 | nil=>rw[hl]at kO;simp at kO
 | cons a r=>
  obtain⟨w1,w2,w3,w4,w5⟩:=Oj h _ a r hl;have h0:0<(gG s (a :: r)).length:=by simp[gG]
  have hc:cW s (gG s (a :: r))=true:=by
   unfold cW;rw[hl]at h1;exact decide_eq_true (Oi s w3 h1)
  obtain⟨c1,c2,c3⟩:=VK h0 hc;refine⟨c1,?_,fun h5=>?_⟩
  ·have:(nF s (gG s (a :: r))).length=rf s (gG s (a :: r)):=by unfold nF;rw[List.length_take];omega
   have h6:r.length * (eS s - 1)<=(eS s - 1) * (eS s - 1):=Nat.mul_le_mul_right _ (by omega);omega
  ·obtain⟨j,hj⟩:∃ j,rf s (gG s (a :: r))=j+1:=⟨_,(Nat.succ_pred_eq_of_pos c2).symm⟩;have e1:nF s (gG s (a :: r))=⟨a,-1⟩ :: (kR s a r).take j:=by unfold nF;rw[hj];rfl
   rw[e1]at h5 ⊢;exact(lj s _).2 ⟨a,_,rfl,w1,rg _ _ _ w2,h5⟩
def gZ(s:Sys) (w:List Lk) (i j:Nat):List (List Lk):=(List.range' j (w.length - (i+2) - j)).filterMap fun j=>vS s w i (w.length - 1 - j)
def gx(s:Sys) (w:List Lk) (i:Nat):List (List Lk):=(List.range' i (w.length - i)).flatMap (GB s w)
theorem Oo(s:Sys) (w:List Lk):gx s w 0=(List.range w.length).flatMap (GB s w):=by
 unfold gx;rw[List.range_eq_range',Nat.sub_zero]
theorem Oq(s:Sys) (w:List Lk):gx s w w.length=[]:=by
 unfold gx;rw[Nat.sub_self];rfl
theorem L6(s:Sys) (w:List Lk) (i:Nat) (hi:i<w.length):gx s w i=gZ s w i 0++gx s w (i+1):=by
 unfold gx gZ;rw[show w.length - i=(w.length - (i+1))+1 by omega,List.range'_succ,List.flatMap_cons,Nat.sub_zero];unfold GB;rw[List.range_eq_range']
theorem Or(s:Sys) (w:List Lk) (i j:Nat) (h:w.length<=i+2+j):gZ s w i j=[]:=by
 unfold gZ;rw[show w.length - (i+2) - j=0 by omega];rfl
theorem L7(s:Sys) (w:List Lk) (i j:Nat) (h:i+2+j<w.length) {c:List Lk} (hc:vS s w i (w.length - 1 - j)=some c):gZ s w i j=c :: gZ s w i (j+1):=by
 unfold gZ;rw[show w.length - (i+2) - j=(w.length - (i+2) - (j+1))+1 by omega,List.range'_succ,List.filterMap_cons,hc]
theorem L8(s:Sys) (w:List Lk) (i j:Nat) (h:i+2+j<w.length) (hc:vS s w i (w.length - 1 - j)=none):gZ s w i j=gZ s w i (j+1):=by
 unfold gZ;rw[show w.length - (i+2) - j=(w.length - (i+2) - (j+1))+1 by omega,List.range'_succ,List.filterMap_cons,hc]
theorem A4(s:Sys) (w:List Lk):dz s w=w.dropLast :: ((if 1<w.length then [⟨(w.getD 1 default).x,-1⟩ :: w.drop 2] else [])++gx s w 0):=by
 rw[Oo];rfl
theorem KD{α:Type} {L d r:List α} {c x:α} (h:L=d++c :: r):d.length<L.length/\L.getD d.length x=c/\L=(d++[c])++r/\(d++[c]).length=d.length+1:=by
 subst h;refine⟨by simp,?_,by simp,by simp⟩;rw[List.getD_eq_getElem?_getD,List.getElem?_append_right (Nat.le_refl _)];simp
theorem Rb{s:Sys} {w c:List Lk} {d r:List (List Lk)} (h:dz s w=d++c :: r) (hd:∀ x∈d,iy s x=false) (hc:iy s c=true):iz s w=some c:=by
 unfold iz;rw[h,List.find?_append,List.find?_eq_none.2 (fun x hx=>by rw[hd x hx];simp)];simp[hc]
theorem Ot{s:Sys} {w:List Lk} {d:List (List Lk)} (h:dz s w=d) (hd:∀ x∈d,iy s x=false):iz s w=none:=by
 unfold iz;rw[h];exact List.find?_eq_none.2 (fun x hx=>by rw[hd x hx];simp)
theorem KE{α:Type} {p q:Prop} [Decidable p] [Decidable q] (h:p↔q) (a b:α):(if p then a else b)=if q then a else b:=by
 by_cases hp:p
 ·rw[if_pos hp,if_pos (h.1 hp)]
 ·rw[if_neg hp,if_neg fun hq=>hp (h.2 hq)]
def chQ(s:Sys) (k i:Nat):List Int:=(List.range (eS s)).map fun e=>if (partsS s).getD e 0<k\/e∈(memL (partsS s) k).take i then(choiceS s).getD e 0 else 0
theorem mU(s:Sys) (k i:Nat):(chQ s k i).length=eS s:=by simp[chQ]
theorem uD(s:Sys) (k i e:Nat) (he:e<eS s):(chQ s k i).getD e 0=if (partsS s).getD e 0<k\/e∈(memL (partsS s) k).take i then(choiceS s).getD e 0 else 0:=by simp[chQ,he]
theorem ss(s:Sys):lZ (partsS s):=by
 unfold partsS;cases nS s - 1 with
 | zero=>exact pD _ _
 | succ k=>exact pD _ _
theorem su{a b:List Int} {n:Nat} (ha:a.length=n) (hb:b.length=n) (h:∀ i,i<n->a.getD i 0=b.getD i 0):a=b:=by
 refine List.ext_getElem (by omega) fun i h1 h2=>?_
 have:=h i (by omega)
 rwa [List.getD_eq_getElem?_getD,List.getD_eq_getElem?_getD,List.getElem?_eq_getElem h1,List.getElem?_eq_getElem h2]at this
theorem Rc(s:Sys):chQ s 0 0=List.replicate (eS s) 0:=by
 refine su (mU _ _ _) (by simp) fun e he=>?_
 have h1:=(l3 (ss s) e (by rw[dN];exact he)).1
 rw[uD _ _ _ _ he,if_neg (by rw[List.take_zero];rintro(h|h);· omega
                             ·cases h)]
 simp[he]
theorem Re{s:Sys} {k i:Nat} (hi:i<(memL (partsS s) k).length):chQ s k (i+1)=(chQ s k i).set ((memL (partsS s) k).getD i 0) (comB s (memL (partsS s) k)):=by
 have hm:(memL (partsS s) k).getD i 0=(memL (partsS s) k)[i]:=by simp[hi]
 obtain⟨hl,hp⟩:=li.1 (List.getElem_mem hi);rw[<-hm]at hl hp;rw[dN]at hl;refine su (mU _ _ _) (by rw[List.length_set,mU]) fun e he=>?_
 have ht:e∈(memL (partsS s) k).take (i+1)↔e∈(memL (partsS s) k).take i\/e=(memL (partsS s) k).getD i 0:=by rw[List.take_succ_eq_append_getElem hi,hm,List.mem_append,List.mem_singleton]
 rw[uD _ _ _ _ he];by_cases h:e=(memL (partsS s) k).getD i 0
 ·rw[if_pos (.inr (ht.2 (.inr h)))];subst h;rw[nH _ _ he,hp,List.getD_eq_getElem?_getD (l:=(chQ s k i).set _ _),List.getElem?_set_self (by rw[mU];exact hl)];rfl
 ·have h2:((chQ s k i).set ((memL (partsS s) k).getD i 0) (comB s (memL (partsS s) k))).getD e 0=(chQ s k i).getD e 0:=by
   rw[List.getD_eq_getElem?_getD,List.getElem?_set_ne (by omega),<-List.getD_eq_getElem?_getD]
  rw[h2,uD _ _ _ _ he];refine KE ?_ _ _;rw[ht];exact⟨fun q=>by rcases q with q|q|q<;>first|exact .inl q|exact .inr q|exact absurd q h,fun q=>by rcases q with q|q;exact .inl q;exact .inr (.inl q)⟩
theorem Rf(s:Sys) (k:Nat):chQ s k (memL (partsS s) k).length=chQ s (k+1) 0:=by
 refine su (mU _ _ _) (mU _ _ _) fun e he=>?_
 rw[uD _ _ _ _ he,uD _ _ _ _ he];refine KE ?_ _ _;rw[List.take_length,li,dN,List.take_zero];simp only[List.not_mem_nil,or_false];constructor
 ·rintro(h|h)
  ·omega
  ·omega
 ·intro h;by_cases h2:(partsS s).getD e 0<k
  ·exact .inl h2
  ·exact .inr ⟨he,by omega⟩
theorem Hi{s:Sys} {k:Nat} (h:∀ e,e<eS s->(partsS s).getD e 0<k):chQ s k 0=choiceS s:=by
 refine su (mU _ _ _) (by simp[choiceS]) fun e he=>?_
 rw[uD _ _ _ _ he,if_pos (.inl (h e he))]
theorem Rg{s:Sys} {k:Nat} (h:(memL (partsS s) k).length=0):chQ s k 0=choiceS s:=Hi fun e he=>by
 have hn:∀ x,x<eS s->(partsS s).getD x 0≠k:=fun x hx e2=>by
  have:x∈memL (partsS s) k:=li.2 ⟨by rw[dN];exact hx,e2⟩;rw[List.eq_nil_of_length_eq_zero h]at this;cases this
 have h1:=hn e he;by_cases h2:(partsS s).getD e 0<k
 ·exact h2
 ·obtain⟨j,hj,e3⟩:=vO (ss s) e (by rw[dN];exact he) k (by omega) (by omega);exact absurd e3 (hn j (by omega))
theorem UM(s:Sys):chQ s (eS s) 0=choiceS s:=Hi fun e he=>by
 have h1:=l3 (ss s) e (by rw[dN];exact he);omega
def Tg(h:Int × Int):Rd:=⟨⟨2,h.1,h.2,0,0,0⟩,0⟩
def ckCs:List Cs:=[⟨[0,0],[[0,0]],[]⟩,⟨[0,1],[[0,0],[1,1]],[]⟩,⟨[1,1],[[1,1]],[]⟩]
def qL(rounds:Int) (gs:List (Int × Int)):Pb:=⟨⟨2,2,2,ckCs⟩,⟨2,[gs.map fun h=>⟨Tg h,0⟩]⟩,rounds⟩
def ck1:Sys:=aN (qL 1 [(1,3),(3,3)])
def ck2:Sys:=aN (qL 0 [(3,3)])
def ck3:Sys:=aN (qL 1 [(1,3),(3,2),(3,3)])
def ckW:List Lk:=[⟨0,-1⟩,⟨1,0⟩,⟨2,1⟩]
structure CkB (p:Pb):Prop where
 few:buildE p=0
 ready:readyE (aN p)=0
 size:eS (aN p)<=256
 moves:movesN p.a.states<1099511627776
theorem ck1_b:CkB (qL 1 [(1,3),(3,3)]):=⟨by decide +kernel,by decide +kernel,by decide +kernel,by decide +kernel⟩
theorem ck2_b:CkB (qL 0 [(3,3)]):=⟨by decide +kernel,by decide +kernel,by decide +kernel,by decide +kernel⟩
theorem ck3_b:CkB (qL 1 [(1,3),(3,2),(3,3)]):=⟨by decide +kernel,by decide +kernel,by decide +kernel,by decide +kernel⟩
theorem ck1_vals:valuesR ck1 3=([0,1],0):=by decide +kernel
theorem ck1_choice:choiceR ck1=([0,0,0,0,1,1],0):=by decide +kernel
theorem ck1_rule:(ruleR ck1).2=(true,0):=by decide +kernel
theorem ck2_find:findW ck2=(ckW,true,0):=by decide +kernel
theorem ck2_cert:certE ck2 ⟨1,ckW,0,0,0⟩=0:=by decide +kernel
theorem ck2_short:shortR ck2 ⟨1,ckW,0,0,0⟩=(ckW,0):=by decide +kernel
theorem ck2_not:certE ck2 ⟨1,ckW.take 2,0,0,0⟩=18:=by decide +kernel
theorem ck3_choice:choiceR ck3=(List.replicate 9 (-1),0):=by decide +kernel
theorem Ou{s:Sys} (h:readyE s=0):verifyE s=0/\agreeB s.prob.t=true:=by
 unfold readyE at h;split at h
 ·rename_i h1;exact absurd h h1
 ·split at h
  ·rename_i h1 h2;exact⟨by omega,h2⟩
  ·omega
theorem L9{s:Sys} (h:readyE s=0) (hE:eS s<=60):∃ ls fb,findW s=(ls,fb,0)/\(fb=true->walkE s ls=0/\cW s ls=true/\ls.length<=3482):=by
 unfold findW;rw[if_neg (by omega)];by_cases hb:lQ s<0
 ·rw[if_pos hb];exact⟨[],false,rfl,fun h=>by cases h⟩
 ·rw[if_neg hb];obtain⟨h1,h2,h3⟩:=Ra (ja (Ou h).1) hb;have h4:(eS s - 1) * (eS s - 1)<=59 * 59:=Nat.mul_le_mul (by omega) (by omega);rw[if_neg (by omega)];exact⟨kA s,true,rfl,fun _=>⟨h3 (by omega),h1,by omega⟩⟩
theorem Hj{s:Sys} (h:readyE s=0) (l:List Lk):certE s ⟨1,l,0,0,0⟩=if walkE s l≠0 then walkE s l else if cW s l then 0 else 18:=by
 unfold certE vR;rw[if_neg (by omega),if_neg (by simp),if_neg (by simp)]
theorem KF{s:Sys} (h:readyE s=0) {l:List Lk} (h1:walkE s l=0) (h2:cW s l=true):certE s ⟨1,l,0,0,0⟩=0:=by
 rw[Hj h,if_neg (by omega),if_pos h2]
theorem A5{s:Sys} {l:List Lk} (h:walkE s l=0):0<l.length/\∀ y∈l,0<=y.x/\y.x.toNat<eS s/\-1<=y.p/\y.p<nS s:=by
 obtain⟨h0,_,h1⟩:=(nG s l).1 h;refine⟨h0,fun y hy=>?_⟩;obtain⟨i,hi,rfl⟩:=List.getElem_of_mem hy;obtain⟨h2,h3,h4,h5⟩:=(rh s l i).1 (h1 i hi);rw[show l.getD i default=l[i] by simp[hi]]at h2 h3 h4 h5;refine⟨h2,h3,?_⟩;rcases Nat.eq_zero_or_pos i with h6|h6
 ·have:=h4 h6;omega
 ·have:=h5 h6;omega
end Go.Proofs.YtmeaoneaephjeaaGreatDoor
namespace Go.Proofs.YtmeaoneaephjeaaGreatDoor
open Go.RowKit Go
theorem E3(n:Int) (w:World) :
  Calls Tryz.prog 226 #[.int .i64 n] w fun e w'=>e=.returned (.int .i64 (iS n))/\w=w':=by
 go_enter Tryz.func226,Tryz.ntmps226
 go_wp2
 all_goals go_ret;exact⟨aG (by unfold iS;first|rw[if_pos (by omega)]|rw[if_neg (by omega)]),rfl⟩
theorem A6(n x:Int) (w:World) :
  Calls Tryz.prog 223 #[.int .i64 n,.int .i64 x] w fun e w'=>e=.returned (.int .i64 (kb n x))/\w=w':=by
 by_cases hn:n<1\/5<n
 ·have hp:iS n=1:=by unfold iS;rw[if_pos hn]
  have hc:=E3 n w;rw[hp]at hc;have H:=aa hp;clear hp
  go_enter Tryz.func223,Tryz.ntmps223
  go_wp2_with (go_at_call 226;refine hc.mono ?_;rintro e w' ⟨rfl,rfl⟩)
  go_ret;exact⟨aG (by unfold kb;rw[H.o];rfl),rfl⟩
 ·have hp:iS n=0:=by unfold iS;rw[if_neg hn]
  have hc:=E3 n w;rw[hp]at hc;have H:=aa hp;clear hp;have h1:1<=n:=by omega
  have h2:n<=5:=by omega
  clear hn
  go_enter Tryz.func223,Tryz.ntmps223
  go_wp2_with (go_at_call 226;refine hc.mono ?_;rintro e w' ⟨rfl,rfl⟩)
  all_goals
   go_ret
   refine⟨aG ?_,rfl⟩
   go_light
   unfold kb;rw[H.o]
   grind
theorem L'(g:Gr) (k:Nat) (hk:k<5) (w:World):(Instr.index 137 (.agg #[.int .i64 g.h0,.int .i64 g.h1,.int .i64 g.h2,.int .i64 g.h3,.int .i64 g.h4]) (.int .i64 k)).run Tryz.prog w=.ok (.int .i64 (g.hear k)) w:=by
 have:k=0\/k=1\/k=2\/k=3\/k=4:=by omega
 rcases this with h|h|h|h|h<;>(subst h;with_reducible refine Eq.trans ?_ (Eq.refl _);kernel_rfl)
theorem Rh(n:Int) (w:World) (h1:1<=n) (h2:n<=5) :
  Calls Tryz.prog 225 #[.int .i64 n] w fun e w'=>e=.returned (.int .i64 (2 ^ n.toNat - 1))/\w=w':=by
 have:n=1\/n=2\/n=3\/n=4\/n=5:=by omega
 rcases this with rfl|rfl|rfl|rfl|rfl
 all_goals
  go_enter Tryz.func225,Tryz.ntmps225
  go_wp2
  go_ret
  exact⟨rfl,rfl⟩
theorem DG(g:Gr) (w:World) :
  Calls Tryz.prog 222 #[g.v] w fun e w'=>e=.returned (.int .i64 (gS g))/\Below w.heap.size w w':=by
 obtain⟨n,h0,h1,h2,h3,h4⟩:=g;by_cases hn:n<1\/5<n
 ·have H:am (gS ⟨n,h0,h1,h2,h3,h4⟩=2):=by unfold gS;rw[if_pos hn];rfl
  rcases hn with hn|hn
  ·go_enter Tryz.func222,Tryz.ntmps222
   go_wp2
   go_ret;exact⟨aG H.o.symm,by go_grown⟩
  ·have yN:¬ n<1:=by omega
   go_enter Tryz.func222,Tryz.ntmps222
   go_wp2
   go_ret;exact⟨aG H.o.symm,by go_grown⟩
 have jZ:1<=n:=by omega
 have n':n<=5:=by omega
 have HE:am (gS ⟨n,h0,h1,h2,h3,h4⟩=bm 5 fun p=>mr n (Gr.hear ⟨n,h0,h1,h2,h3,h4⟩ p) p):=by unfold gS;rw[if_neg hn];rfl
 clear hn
 go_enter Tryz.func222,Tryz.ntmps222
 go_wp2
 go_loop [15] (fun i=>∃ k:Nat,k<=5/\i=.int .i64 k/\∀ j,j<k->mr n (Gr.hear ⟨n,h0,h1,h2,h3,h4⟩ j) j=0) (fun i=>5 - (intOf i).toNat)
 ·exact⟨0,by omega,rfl,by simp⟩
 ·
  obtain⟨k,hk,rfl,aU⟩:=hrel;have H:=aa aU;clear aU;by_cases aB:k<5
  ·have hx:=L' ⟨n,h0,h1,h2,h3,h4⟩ k aB;have hEx:∃ x,x=Gr.hear ⟨n,h0,h1,h2,h3,h4⟩ k:=⟨_,rfl⟩;obtain⟨x,lA⟩:=hEx;rw[<-lA]at hx;have HX:=aa lA;clear lA;have gJ:=sp x k
   go_wp2_with (go_at_call 225;refine(Rh _ _ (by omega) (by omega)).mono ?_;rintro e w' ⟨rfl,rfl⟩)
   all_goals first
    | (go_ret
       refine⟨aG ?_,by go_grown⟩
       rw[HE.o]
       go_light
       refine bV k _ aB H.o ?_ (by decide)
       rw[<-HX.o]
       unfold mr
       grind)
    | (go_round
       ·
        refine⟨k+1,by omega,by go_num,aV H.o ?_⟩
        go_light
        rw[<-HX.o]
        unfold mr
        grind
       ·simp[intOf];omega)
  ·go_wp2
   go_ret;exact⟨aG (by rw[HE.o,cU];intro j hj;exact H.o j (by omega)),by go_grown⟩
theorem zu(a b:Int) (w:World) :
  Calls Tryz.prog 203 #[.int .i64 a,.int .i64 b] w fun e w'=>e=.returned (.int .i64 (cmpI a b))/\w=w':=by
 go_enter Tryz.func203,Tryz.ntmps203
 go_wp2
 all_goals
  go_ret
  refine⟨aG ?_,rfl⟩
  go_light
  unfold cmpI
  grind
end Go.Proofs.YtmeaoneaephjeaaGreatDoor
