/-
  A part of the proof: lemmas and contracts that the parts behind it use. Each one's conditions are its own premises.
-/
import Derived.Test.YtiocdkdkndpgkaaGreatN11
set_option maxRecDepth 100000
set_option maxHeartbeats 8000000
set_option linter.unusedVariables false
set_option linter.unusedSimpArgs false
namespace Go.Proofs.YtiocdkdkndpgkaaGreat
open Go.RowKit Go
attribute [local simp] bu bv
theorem C7(f:Int) (q:Nat):decide (bits .and .i64 (f / 2 ^ q) 1=1)=bX f q:=by
 have:=qn f q;cases h:bX f q<;>rw[h]at this<;>simpa using this
theorem sN(r:Int) (t:Tr):∀ q,0<=gw r t q
 | 0=>by simp[gw]
 | q+1=>by have:=sN r t q;rw[gw];omega
theorem PN(n:Nat) (r:Int) (t:Tr) (hr:0<=r/\r<=6) (hn5:n<=5) (hl:n<=t.times.length):FC Tryz.prog 43 [iD n,iD r,oM t] (iD (timeS n r t)):=by
 refine an Tryz.func43 rfl rfl rfl Tryz.call43 [] [4] rfl 5 (fun hb w0 G0=>?_);simp at hb;obtain⟨-,FL,-⟩:=hb;unfold timeS
 have hfw:∀ h:0<t.word.length,t.word[t.word.length - 1].f=faultyS t.word:=fun h=>by
  unfold faultyS;rw[if_neg (by omega),aj default (by omega)]
 have Fv:t.word.length=0->faultyS t.word=0:=fun h=>by unfold faultyS;rw[if_pos h]
 have eU:∀ q,wt r t q=if bX (faultyS t.word) q then 0 else if t.times.getD q 0<0 then r+1 else t.times.getD q 0:=fun q=>rfl
 obtain⟨f,hf⟩:∃ f,f=faultyS t.word:=⟨_,rfl⟩;rw[<-hf]at hfw Fv;simp only[<-hf]at eU;clear hf;simp
 (refine Bz.split (fun h=>?_) (fun h=>?_)<;>(try simp only[decide_eq_true_eq,decide_eq_false_iff_not,Bool.not_eq_true',Bool.not_eq_false',beq_iff_eq,bne_iff_ne,beq_eq_false_iff_ne,bne_eq_false_iff_eq,Bool.not_not,Bool.and_eq_true,Bool.or_eq_true,Bool.and_eq_false_iff,Bool.or_eq_false_iff]at h))
 ·have h1:t.word.length - 1<t.word.length:=by omega
  have h2:=hfw h;simp[h,h1]
  repeat refine vg ?_
  rw[h2];refine vk ?_;simp;refine am [1,5,7,23] [] (fun q:Nat=>[(24,.d (iD q)),(8,.d (iD (gw r t q)))]) (fun _=>[]) (fun q=>n - q) (fun q=>q<=n) 0 (by omega) (by simp[gw]) (fun q hq=>?_);simp
  (refine Bz.split (fun h3=>?_) (fun h3=>?_)<;>(try simp only[decide_eq_true_eq,decide_eq_false_iff_not,Bool.not_eq_true',Bool.not_eq_false',beq_iff_eq,bne_iff_ne,beq_eq_false_iff_ne,bne_eq_false_iff_eq,Bool.not_not,Bool.and_eq_true,Bool.or_eq_true,Bool.and_eq_false_iff,Bool.or_eq_false_iff]at h3))
  ·have dY:q<t.times.length:=by omega
   have bU:gw r t (q+1)=max (gw r t q) (wt r t q):=rfl;have ht0:=sN r t q;have hB:decide (bits .and .i64 (f / 2 ^ q) 1=1)=bX f q:=C7 f q;rw[eU q,aj 0 dY,<-hB]at bU;simp[h3]
   repeat refine vg ?_
   refine cw (decide (bits .and .i64 (f / 2 ^ q) 1=1)) (fun d=>?_) (fun d=>?_)
   ·rw[d,if_neg (by decide)]at bU;simp[d,dY];refine cw (decide (t.times[q]<0)) (fun e=>?_) (fun e=>?_)
    ·have he:=of_decide_eq_false e;rw[if_neg he]at bU;simp[e,dY];exact vg (ar.of (q+1) [] (by simp[bU];try omega))
    ·have he:=of_decide_eq_true e;rw[if_pos he]at bU;simp[e]
     repeat refine vg ?_
     exact ar.of (q+1) [] (by simp[bU];try omega)
   ·rw[d,if_pos rfl]at bU;simp[d];exact vg (ar.of (q+1) [] (by simp[bU];omega))
  ·have e:q=n:=by omega
   subst e;simp
 ·have h2:=Fv (by omega);subst h2;simp;refine vk ?_;simp;refine am [1,5,7,23] [] (fun q:Nat=>[(24,.d (iD q)),(8,.d (iD (gw r t q)))]) (fun _=>[]) (fun q=>n - q) (fun q=>q<=n) 0 (by omega) (by simp[gw]) (fun q hq=>?_);simp
  (refine Bz.split (fun h3=>?_) (fun h3=>?_)<;>(try simp only[decide_eq_true_eq,decide_eq_false_iff_not,Bool.not_eq_true',Bool.not_eq_false',beq_iff_eq,bne_iff_ne,beq_eq_false_iff_ne,bne_eq_false_iff_eq,Bool.not_not,Bool.and_eq_true,Bool.or_eq_true,Bool.and_eq_false_iff,Bool.or_eq_false_iff]at h3))
  ·have dY:q<t.times.length:=by omega
   have bU:gw r t (q+1)=max (gw r t q) (wt r t q):=rfl;have ht0:=sN r t q;have hz:bX 0 q=false:=by unfold bX;simp
   rw[eU q,aj 0 dY,hz,if_neg (by decide)]at bU;simp[h3]
   repeat refine vg ?_
   have hd0:decide (bits .and .i64 0 1=1)=false:=by rw[vn];rfl
   simp[hd0,dY];refine cw (decide (t.times[q]<0)) (fun e=>?_) (fun e=>?_)
   ·have he:=of_decide_eq_false e;rw[if_neg he]at bU;simp[e,dY];exact vg (ar.of (q+1) [] (by simp[bU];try omega))
   ·have he:=of_decide_eq_true e;rw[if_pos he]at bU;simp[e]
    repeat refine vg ?_
    exact ar.of (q+1) [] (by simp[bU];try omega)
  ·have e:q=n:=by omega
   subst e;simp
abbrev uK(v:Vw):List D:=[iD v.p,iD v.k,iD v.i,iD v.h0,iD v.h1,iD v.h2,iD v.h3,iD v.h4]
abbrev N4(x:Ex):List D:=[iD x.c,bK x.word,ez x.views]
abbrev vT(s:Sys) (n:Int):List D:=[iD s.prob.t.n,iD s.prob.t.ins,iD s.prob.t.outs,ja s.prob.t.cases,iD s.prob.a.n,gQ s.prob.a.states,iD s.prob.rounds,iD n,.fz 8 (s.tab.map uK),.fz 3 (s.ex.map N4)]
theorem KP(s:Sys) (n:Int) (hc:∀ x∈s.ex,0<=x.c/\x.c<s.prob.t.cases.length):SQ Tryz.prog 94 [.fp 10 [vT s n] 0 0] (s.ex.map fun x=>[.agg [aT (s.prob.t.cases.getD x.c.toNat default).inp,bK x.word]]):=by
 refine qN 4 (fun hb=>?_) Tryz.call94;simp at hb;refine qJ Tryz.func94 rfl rfl rfl Tryz.call94 [] [] rfl (fun w0 G0 yl J hR=>vs ?_);simp;refine dM [0,1,6,7] [] (fun k:Nat=>[(8,.d (iD k))]) (fun _=>[]) (fun k=>k+1) (fun k=>s.ex.length - k) (fun k=>k<=s.ex.length) 0 (by omega) (by simp) (fun k hk=>?_);simp
 (refine Bz.split (fun h=>?_) (fun h=>?_)<;>(try simp only[decide_eq_true_eq,decide_eq_false_iff_not,Bool.not_eq_true',Bool.not_eq_false',beq_iff_eq,bne_iff_ne,beq_eq_false_iff_ne,bne_eq_false_iff_eq,Bool.not_not,Bool.and_eq_true,Bool.or_eq_true,Bool.and_eq_false_iff,Bool.or_eq_false_iff]at h))
 ·obtain⟨h1,h2⟩:=hc s.ex[k] (List.getElem_mem h);have h3:s.ex[k].c.toNat<s.prob.t.cases.length:=by omega
  simp[h];refine aO 13 ?_;simp[h3,h];refine vg ?_;refine zs k hR (by simp[h,h3]) rfl ?_ ?_
  ·simp;exact vg (ar.of (k+1) [] (by simp))
  ·simp
 ·have e:k=s.ex.length:=by omega
  subst e;simp
theorem C8(s:Sys) (n:Int):FC Tryz.prog 42 [.agg (vT s n)] (.fn (.func 94) [] [.fp 10 [vT s n] 0 0]):=by
 refine an Tryz.func42 rfl rfl rfl Tryz.call42 [] [] rfl 1 (fun hb w0 G0=>?_);simp
theorem KQ(p:Pb) (hc:p.t.cases.length<=1048576) (hi:∀ c∈p.t.cases,c.inp.length<=549755813888/\(c.out.length<=549755813888/\∀ v∈c.out,v.length<=549755813888)/\c.calm.length<=549755813888/\∀ v∈c.calm,v.length<=549755813888) (hs:p.a.states.length<=1048576/\∀ l∈p.a.states,l.length<=549755813888) :
  FC Tryz.prog 83 [eI p] (eI p):=by
 refine an Tryz.func83 rfl rfl rfl Tryz.call83 [1] [7,13] rfl 1 (fun hb w0 G0=>?_);clear hb;simp;refine Ck (M3 p.t.cases (by omega)) ?_;simp;refine am [1,2,15,16] [0,1,2] (fun k:Nat=>[(17,.d (iD k))]) (fun _=>[]) (fun k=>p.t.cases.length - k) (fun k=>k<=p.t.cases.length) 0 (by omega) (by simp) (fun k hk=>?_);simp
 (refine Bz.split (fun h=>?_) (fun h=>?_)<;>(try simp only[decide_eq_true_eq,decide_eq_false_iff_not,Bool.not_eq_true',Bool.not_eq_false',beq_iff_eq,bne_iff_ne,beq_eq_false_iff_ne,bne_eq_false_iff_eq,Bool.not_not,Bool.and_eq_true,Bool.or_eq_true,Bool.and_eq_false_iff,Bool.or_eq_false_iff]at h))
 ·obtain⟨q1,⟨q2,q3⟩,q4,q5⟩:=hi p.t.cases[k] (List.getElem_mem h);have iz:(p.t.cases.map sA).set k (sA p.t.cases[k])=p.t.cases.map sA:=by rw[<-List.map_set,List.set_getElem_self]
  simp[h];refine iL [0,2,3] 15 [0,0,3,0,0,3,0,0,3,0,0,3,0,0,3,2] ?_;simp[h];refine bL (mn _ q1) ?_;simp;refine bL (sH _ q2 q3) ?_;simp;refine bL (sH _ q4 q5) ?_;simp[h];exact vg (ar.of (k+1) [0,1,2] (by simp;exact iz))
 simp;refine vk ?_;simp;refine Ck (M4 p.a.states (by omega)) ?_;simp;refine am [1,2,46,47] [0,1,2,3] (fun k:Nat=>[(48,.d (iD k))]) (fun _=>[]) (fun k=>p.a.states.length - k) (fun k=>k<=p.a.states.length) 0 (by omega) (by simp) (fun k hk=>?_);simp
 (refine Bz.split (fun h=>?_) (fun h=>?_)<;>(try simp only[decide_eq_true_eq,decide_eq_false_iff_not,Bool.not_eq_true',Bool.not_eq_false',beq_iff_eq,bne_iff_ne,beq_eq_false_iff_ne,bne_eq_false_iff_eq,Bool.not_not,Bool.and_eq_true,Bool.or_eq_true,Bool.and_eq_false_iff,Bool.or_eq_false_iff]at h))
 ·have q1:=hs.2 p.a.states[k] (List.getElem_mem h)
  have iz:(p.a.states.map fun x=>[kV x]).set k [kV p.a.states[k]]=p.a.states.map fun x=>[kV x]:=by
   have:=List.map_set (f:=fun x=>[kV x]) (l:=p.a.states) (i:=k) (a:=p.a.states[k]);rw[<-this,List.set_getElem_self]
  simp[h];refine iL [0,3] 7 [0,0,3,0,0,0,3,2] ?_;simp[h];refine bL (M6 _ q1) ?_;simp[h];exact vg (ar.of (k+1) [0,1,2,3] (by simp;exact iz))
 simp;refine fj 2 94 3 (p.t.cases.map sA) (by simp) (by simp;omega) ?_;refine fj 3 184 1 (p.a.states.map fun x=>[kV x]) (by simp) (by simp;omega) ?_;refine vk ?_;simp
theorem KS(p:Pb) (W:List (List Rd)):SQ Tryz.prog 145 [.fp 7 [[iD p.t.n,iD p.t.ins,iD p.t.outs,ja p.t.cases,iD p.a.n,gQ p.a.states,iD p.rounds]] 0 0,.fp 1 [[N3 W]] 0 0] ((dU p.t.cases.length W.length).map fun x=>[iD x.1,bK (W.getD x.2 [])]):=by
 refine qN 4 (fun hb=>?_) Tryz.call145;simp at hb;refine qJ Tryz.func145 rfl rfl rfl Tryz.call145 [] [] rfl (fun w0 G0 yl J hR=>vs ?_);simp;refine dM [0,1,2,9,10] [] (fun k:Nat=>[(11,.d (iD k))]) (fun _=>[]) (fun k=>k * W.length+1) (fun k=>p.t.cases.length - k) (fun k=>k<=p.t.cases.length) 0 (by omega) (by simp) (fun c hc=>?_);simp
 (refine Bz.split (fun h=>?_) (fun h=>?_)<;>(try simp only[decide_eq_true_eq,decide_eq_false_iff_not,Bool.not_eq_true',Bool.not_eq_false',beq_iff_eq,bne_iff_ne,beq_eq_false_iff_ne,bne_eq_false_iff_eq,Bool.not_not,Bool.and_eq_true,Bool.or_eq_true,Bool.and_eq_false_iff,Bool.or_eq_false_iff]at h))
 ·simp[h];refine dM [0,1,2,4,9,10,11,14,15] [] (fun k:Nat=>[(16,.d (iD k))]) (fun _=>[]) (fun k=>c * W.length+k+1) (fun k=>W.length - k) (fun k=>k<=W.length) 0 (by omega) (by simp) (fun k hk=>?_);simp
  (refine Bz.split (fun h1=>?_) (fun h1=>?_)<;>(try simp only[decide_eq_true_eq,decide_eq_false_iff_not,Bool.not_eq_true',Bool.not_eq_false',beq_iff_eq,bne_iff_ne,beq_eq_false_iff_ne,bne_eq_false_iff_eq,Bool.not_not,Bool.and_eq_true,Bool.or_eq_true,Bool.and_eq_false_iff,Bool.or_eq_false_iff]at h1))
  ·have eU:=LW c k h h1;simp[h1];refine zs (c * W.length+k) hR (by rw[List.getElem?_map,eU];simp[h1]) rfl ?_ ?_
   ·simp;exact vg (ar.of (k+1) [] (by simp;omega))
   ·simp
  ·have e:k=W.length:=by omega
   subst e;simp;exact vg (ar.of (c+1) [] (by simp[Nat.add_mul]))
 ·have e:c=p.t.cases.length:=by omega
  subst e;simp[II]
theorem Nq(p:Pb) (W:List (List Rd)):FC Tryz.prog 84 [eI p,N3 W] (.fn (.func 145) [] [.fp 7 [[iD p.t.n,iD p.t.ins,iD p.t.outs,ja p.t.cases,iD p.a.n,gQ p.a.states,iD p.rounds]] 0 0,.fp 1 [[N3 W]] 0 0]):=by
 refine an Tryz.func84 rfl rfl rfl Tryz.call84 [] [] rfl 1 (fun hb w0 G0=>?_);simp
def mH(k q:Nat):Int:=if q<k then -1 else 0
theorem silence_fn:FC Tryz.prog 147 [] (.agg [iD (-1),iD (-1),iD (-1),iD (-1),iD (-1)]):=by
 refine an Tryz.func147 rfl rfl rfl Tryz.call147 [] [] rfl 1 (fun hb w0 G0=>?_);simp;refine am [0,1] [0] (fun k:Nat=>[(3,.d (iD k))]) (fun k=>[(1,some (.box 105 [.d (iD (mH k 0)),.d (iD (mH k 1)),.d (iD (mH k 2)),.d (iD (mH k 3)),.d (iD (mH k 4))]))]) (fun k=>5 - k) (fun k=>k<=5) 0 (by omega) (by simp[mH]) (fun k hk=>?_);rcases (by omega:k=0\/k=1\/k=2\/k=3\/k=4\/k=5) with e|e|e|e|e|e<;>subst e
 ·simp;exact ar.of 1 [0,1] (by simp[mH]) (by omega)
 ·simp;exact ar.of 2 [0,1] (by simp[mH]) (by omega)
 ·simp;exact ar.of 3 [0,1] (by simp[mH]) (by omega)
 ·simp;exact ar.of 4 [0,1] (by simp[mH]) (by omega)
 ·simp;exact ar.of 5 [0,1] (by simp[mH]) (by omega)
 ·simp[mH]
theorem kw(a b:Int):FC Tryz.prog 39 [iD a,iD b] (mJ (cM a b)):=by
 refine an Tryz.func39 rfl rfl rfl Tryz.call39 [] [] rfl 1 (fun hb w0 G0=>?_);simp[cM]
theorem xz(a b:Py):FC Tryz.prog 20 [gy a,gy b] (bD (decide (a=b))):=by
 refine an Tryz.func20 rfl rfl rfl Tryz.call20 [] [] rfl 3 (fun hb w0 G0=>?_);simp at hb;have hO:=iy a.inp b.inp;have hz:ordV a.inp b.inp=0↔a.inp=b.inp:=jZ _ _;have kB:(a=b)↔(a.inp=b.inp/\a.word=b.word):=by obtain⟨a1,a2⟩:=a;obtain⟨b1,b2⟩:=b;simp
 have hdec:decide (a=b)=(decide (a.inp=b.inp)&&decide (a.word=b.word)):=by rw[<-Bool.decide_and];exact decide_eq_decide.2 kB
 rw[hdec];by_cases h0:ordV a.inp b.inp=0
 ·rw[h0]at hO;rw[decide_eq_true (hz.1 h0),Bool.true_and];by_cases h1:a.word.length=b.word.length
  ·have d1:decide ((a.word.length:Int)=(b.word.length:Int))=true:=decide_eq_true (by omega);simp;refine ap hO ?_;simp[d1];refine am [2,3] [] (fun k:Nat=>[(5,.d (iD k))]) (fun _=>[]) (fun k=>a.word.length - k) (fun k=>k<=a.word.length/\a.word.take k=b.word.take k) 0 (by simp) (by simp) (fun k hk=>?_);obtain⟨hk,hj⟩:=hk;simp
   (refine Bz.split (fun h=>?_) (fun h=>?_)<;>(try simp only[decide_eq_true_eq,decide_eq_false_iff_not,Bool.not_eq_true',Bool.not_eq_false',beq_iff_eq,bne_iff_ne,beq_eq_false_iff_ne,bne_eq_false_iff_eq,Bool.not_not,Bool.and_eq_true,Bool.or_eq_true,Bool.and_eq_false_iff,Bool.or_eq_false_iff]at h))<;>simp[h]
   ·have h2:k<b.word.length:=by omega
    refine aO 10 ?_;simp[h,h2];refine sE _ _ (decide (a.word[k]=b.word[k])) rfl rfl (fun w=>eZ 9996 a.word[k] b.word[k] w) ?_;simp
    (refine Bz.split (fun h3=>?_) (fun h3=>?_)<;>(try simp only[decide_eq_true_eq,decide_eq_false_iff_not,Bool.not_eq_true',Bool.not_eq_false',beq_iff_eq,bne_iff_ne,beq_eq_false_iff_ne,bne_eq_false_iff_eq,Bool.not_not,Bool.and_eq_true,Bool.or_eq_true,Bool.and_eq_false_iff,Bool.or_eq_false_iff]at h3))<;>simp
    ·intro e;exact h3 (by simp[e])
    ·refine vg (ar.of (k+1) [] (by simp) ⟨⟨h,?_⟩,by omega⟩);rw[List.take_succ_eq_append_getElem h,List.take_succ_eq_append_getElem h2,hj,h3]
   ·have e:k=a.word.length:=by omega
    subst e;rw[List.take_length,h1,List.take_length]at hj;exact hj
  ·have d1:decide ((a.word.length:Int)=(b.word.length:Int))=false:=decide_eq_false (by omega);rw[decide_eq_false (fun e=>h1 (by rw[e]))];simp;refine ap hO ?_;simp[d1]
 ·have d0:decide (ordV a.inp b.inp=0)=false:=decide_eq_false h0;rw[decide_eq_false (fun e=>h0 (hz.2 e)),Bool.false_and];simp;refine ap hO ?_;simp[d0]
theorem KT(a b:Py):FC Tryz.prog 40 [gy a,gy b] (bD (decide (a=b))):=by
 refine an Tryz.func40 rfl rfl rfl Tryz.call40 [] [] rfl 1 (fun hb w0 G0=>?_);simp;refine ap (xz a b) ?_;simp
theorem Nr(a b:Py):FC Tryz.prog 19 [gy a,gy b] (bD (decide (a=b))):=by
 refine an Tryz.func19 rfl rfl rfl Tryz.call19 [] [] rfl 1 (fun hb w0 G0=>?_);simp;refine ap (xz a b) ?_;simp
theorem KU(a b:List Py) (g:FuncId) (hp:∀ x y,FC Tryz.prog g [gy x,gy y] (bD (decide (x=y)))):FC Tryz.prog 18 [.fz 2 (a.map ry),.fz 2 (b.map ry),.fn (.func g) [] []] (bD (decide (a=b))):=by
 refine an Tryz.func18 rfl rfl rfl Tryz.call18 [] [] rfl 2 (fun hb w0 G0=>?_);simp at hb;simp
 (refine Bz.split (fun h0=>?_) (fun h0=>?_)<;>(try simp only[decide_eq_true_eq,decide_eq_false_iff_not,Bool.not_eq_true',Bool.not_eq_false',beq_iff_eq,bne_iff_ne,beq_eq_false_iff_ne,bne_eq_false_iff_eq,Bool.not_not,Bool.and_eq_true,Bool.or_eq_true,Bool.and_eq_false_iff,Bool.or_eq_false_iff]at h0))<;>simp[h0]
 ·rintro rfl;simp at h0
 have h0:a.length=b.length:=by omega
 refine am [0,1,2,15,16] [] (fun k:Nat=>[(17,.d (iD k))]) (fun _=>[]) (fun k=>a.length - k) (fun k=>k<=a.length/\a.take k=b.take k) 0 (by simp) (by simp[h0]) (fun k hk=>?_);obtain⟨hk,hj⟩:=hk;simp
 (refine Bz.split (fun h=>?_) (fun h=>?_)<;>(try simp only[decide_eq_true_eq,decide_eq_false_iff_not,Bool.not_eq_true',Bool.not_eq_false',beq_iff_eq,bne_iff_ne,beq_eq_false_iff_ne,bne_eq_false_iff_eq,Bool.not_not,Bool.and_eq_true,Bool.or_eq_true,Bool.and_eq_false_iff,Bool.or_eq_false_iff]at h))<;>simp[h]
 ·have h1:k<b.length:=by omega
  have ha:k<a.length:=by omega
  have Ar:=hp a[k] b[k];simp[h1,ha];refine ap Ar ?_;simp
  (refine Bz.split (fun h2=>?_) (fun h2=>?_)<;>(try simp only[decide_eq_true_eq,decide_eq_false_iff_not,Bool.not_eq_true',Bool.not_eq_false',beq_iff_eq,bne_iff_ne,beq_eq_false_iff_ne,bne_eq_false_iff_eq,Bool.not_not,Bool.and_eq_true,Bool.or_eq_true,Bool.and_eq_false_iff,Bool.or_eq_false_iff]at h2))<;>simp
  ·rintro rfl;exact h2 rfl
  ·refine vg (ar.of (k+1) [] (by simp) ⟨⟨ha,?_⟩,by omega⟩);rw[List.take_succ_eq_append_getElem ha,List.take_succ_eq_append_getElem h1,hj,h2]
 ·have e:k=a.length:=by omega
  subst e;rw[List.take_length,h0,List.take_length]at hj;simp[hj]
abbrev nlD:D:=.v (.slice none 0 0)
def exPD:D:=.agg [iD 2,iD 2,iD 2,.fz 3 (exCs.map fun c=>[aT c.inp,ez c.out,nlD]),iD 2,gQ [exMv],iD 1]
def exMD:D:=.agg [iD 2,iD 1,iD 2,iD 2,ez exM8.first,.fz 1 [[.fz 1 [[.fz 1 [[nlD],[aT [0,1]]]],[.fz 1 [[aT [0,1]],[nlD]]]]]],CE exM8.steps,xm exM8.out]
abbrev exSy:D:=.fz 1 [[.fz 1 [[.fz 1 [[nlD],[aT [0,1]]]],[.fz 1 [[aT [0,1]],[nlD]]]]]]
theorem xs_len:∀ p,p<2->∀ a,a<3->∀ b,b<3->(pI p++(rV p a++wA p a b)).length<=100:=by decide
theorem example0_fn:FC Tryz.prog 36 [] (.tup [exPD,exMD]):=by
 refine an Tryz.func36 rfl rfl rfl Tryz.call36 [] [4,10,26] rfl 1 (fun hb w0 G0=>?_);simp;refine iL [] 0 [0,0,0,0,0,0,0,0,0,0,0,0,0,0,0,0,2,2] ?_;simp;refine ml 4 188 8 (by simp) ?_;refine vk ?_;simp;have Ae:exMv=exH.map fun x=>⟨cM x.1 x.2,0⟩:=rfl
 have FY:exH.length=3:=rfl;refine am [0,1,3,35] [0,1,2] (fun k:Nat=>[(36,.d (iD k)),(4,.sl 3 k),(34,.d (.fz 2 (exH.map fun x=>[iD x.1,iD x.2])))]) (fun k=>[(3,some (.row 188 8 ((exMv.take k).map Fc)))]) (fun k=>3 - k) (fun k=>k<=3) 0 (by omega) (by simp[exH]) (fun k hk=>?_);simp
 (refine Bz.split (fun h=>?_) (fun h=>?_)<;>(try simp only[decide_eq_true_eq,decide_eq_false_iff_not,Bool.not_eq_true',Bool.not_eq_false',beq_iff_eq,bne_iff_ne,beq_eq_false_iff_ne,bne_eq_false_iff_eq,Bool.not_not,Bool.and_eq_true,Bool.or_eq_true,Bool.and_eq_false_iff,Bool.or_eq_false_iff]at h))
 ·have mv:k<exH.length:=by omega
  have hx:exMv[k]?=some ⟨cM exH[k].1 exH[k].2,0⟩:=by rw[Ae];simp[mv]
  have Ag:min k exMv.length=k:=by rw[Ae];simp;omega
  simp[mv,Ag];refine ap (kw exH[k].1 exH[k].2) ?_;simp[cM]
  repeat refine vg ?_
  refine ar.of (k+1) [0,1,2,5] ?_ ⟨by omega,by omega⟩;simp;refine⟨by omega,kv _ _ _ ?_⟩;rw[List.getElem?_map,hx];rfl
 have e:k=3:=by omega
 subst e;simp;refine fj 3 188 8 (exMv.map Fc) (by simp[exMv]) (by simp[exMv]) ?_;refine nt 4 6 149 8 _ _ (by simp;exact⟨rfl,rfl⟩) rfl ?_;refine vk ?_;simp[show exMv.length=3 from rfl];refine am [0,1,3,4,7] [0,1,2] (fun p:Nat=>[(67,.d (iD p))]) (fun p=>[(4,some (.box 35 [.d (iD 2),.d (iD 1),.d (iD 2),.d (iD 2),.d (ez exM8.first),.d exSy,.sl 5 (pI p).length,.d (xm exM8.out)])),(5,some (.row 149 8 ((pI p).map J3)))]) (fun p=>2 - p) (fun p=>p<=2) 0 (by omega) (by simp[exM8,exSy,pI]) (fun p hp=>?_);simp
 (refine Bz.split (fun h=>?_) (fun h=>?_)<;>(try simp only[decide_eq_true_eq,decide_eq_false_iff_not,Bool.not_eq_true',Bool.not_eq_false',beq_iff_eq,bne_iff_ne,beq_eq_false_iff_ne,bne_eq_false_iff_eq,Bool.not_not,Bool.and_eq_true,Bool.or_eq_true,Bool.and_eq_false_iff,Bool.or_eq_false_iff]at h))
 ·have h2:p<2:=by omega
  simp;refine am [0,1,3,4,7,8,67] [0,1,2] (fun a:Nat=>[(9,.d (iD ((a:Int) - 1)))]) (fun a=>[(4,some (.box 35 [.d (iD 2),.d (iD 1),.d (iD 2),.d (iD 2),.d (ez exM8.first),.d exSy,.sl 5 (pI p++rV p a).length,.d (xm exM8.out)])),(5,some (.row 149 8 ((pI p++rV p a).map J3)))]) (fun a=>3 - a) (fun a=>a<=3) 0 (by omega) (by simp[rV]) (fun a ha=>?_);simp
  (refine Bz.split (fun h3=>?_) (fun h3=>?_)<;>(try simp only[decide_eq_true_eq,decide_eq_false_iff_not,Bool.not_eq_true',Bool.not_eq_false',beq_iff_eq,bne_iff_ne,beq_eq_false_iff_ne,bne_eq_false_iff_eq,Bool.not_not,Bool.and_eq_true,Bool.or_eq_true,Bool.and_eq_false_iff,Bool.or_eq_false_iff]at h3))
  ·simp;refine am [0,1,3,4,7,8,9,67] [0,1,2] (fun b:Nat=>[(10,.d (iD ((b:Int) - 1)))]) (fun b=>[(4,some (.box 35 [.d (iD 2),.d (iD 1),.d (iD 2),.d (iD 2),.d (ez exM8.first),.d exSy,.sl 5 (pI p++(rV p a++wA p a b)).length,.d (xm exM8.out)])),(5,some (.row 149 8 ((pI p++(rV p a++wA p a b)).map J3)))]) (fun b=>3 - b) (fun b=>b<=3) 0 (by omega) (by simp[wA]) (fun b hb=>?_);simp
   (refine Bz.split (fun h4=>?_) (fun h4=>?_)<;>(try simp only[decide_eq_true_eq,decide_eq_false_iff_not,Bool.not_eq_true',Bool.not_eq_false',beq_iff_eq,bne_iff_ne,beq_eq_false_iff_ne,bne_eq_false_iff_eq,Bool.not_not,Bool.and_eq_true,Bool.or_eq_true,Bool.and_eq_false_iff,Bool.or_eq_false_iff]at h4))
   ·have Aa:=LT p a b;have rD:PV p a b=if (if p=0 then(a:Int) - 1 else(b:Int) - 1)<0 then [] else [EV p ((a:Int) - 1) ((b:Int) - 1)]:=rfl
    have bi:=xs_len p h2 a (by omega) b (by omega);simp at bi;simp
    repeat refine vg ?_
    refine(Classical.em (p=0)).elim (fun e=>?_) (fun e=>?_)
    ·have e0:(p=0)=True:=eq_true e;rw[if_pos e]at rD;simp[e0]
     (refine Bz.split (fun h5=>?_) (fun h5=>?_)<;>(try simp only[decide_eq_true_eq,decide_eq_false_iff_not,Bool.not_eq_true',Bool.not_eq_false',beq_iff_eq,bne_iff_ne,beq_eq_false_iff_ne,bne_eq_false_iff_eq,Bool.not_not,Bool.and_eq_true,Bool.or_eq_true,Bool.and_eq_false_iff,Bool.or_eq_false_iff]at h5))
     ·rw[if_pos h5]at rD;simp
      repeat refine vg ?_
      refine ar.of (b+1) [0,1,2,3,4,5] ?_ ⟨by omega,by omega⟩;simp[Aa,rD]
     ·rw[if_neg h5]at rD;simp
      repeat refine vg ?_
      (refine Bz.split (fun h6=>?_) (fun h6=>?_)<;>(try simp only[decide_eq_true_eq,decide_eq_false_iff_not,Bool.not_eq_true',Bool.not_eq_false',beq_iff_eq,bne_iff_ne,beq_eq_false_iff_ne,bne_eq_false_iff_eq,Bool.not_not,Bool.and_eq_true,Bool.or_eq_true,Bool.and_eq_false_iff,Bool.or_eq_false_iff]at h6))
      ·have h7:min ((a:Int) - 1) ((b:Int) - 1)<0:=by split at h6<;>omega
       simp
       repeat refine vg ?_
       refine ar.of (b+1) [0,1,2,3,4,7] ?_ ⟨by omega,by omega⟩;simp[Aa,rD,EV,h7];exact⟨by omega,by split<;>omega⟩
      ·have h7:¬ min ((a:Int) - 1) ((b:Int) - 1)<0:=by split at h6<;>omega
       simp
       repeat refine vg ?_
       refine ar.of (b+1) [0,1,2,3,4,7] ?_ ⟨by omega,by omega⟩;simp[Aa,rD,EV,h7];exact⟨by omega,by split<;>omega⟩
    ·have e0:(p=0)=False:=eq_false e;have e1:(p - 1=0)=True:=eq_true (by omega);rw[if_neg e]at rD;simp[e0,e1]
     (refine Bz.split (fun h5=>?_) (fun h5=>?_)<;>(try simp only[decide_eq_true_eq,decide_eq_false_iff_not,Bool.not_eq_true',Bool.not_eq_false',beq_iff_eq,bne_iff_ne,beq_eq_false_iff_ne,bne_eq_false_iff_eq,Bool.not_not,Bool.and_eq_true,Bool.or_eq_true,Bool.and_eq_false_iff,Bool.or_eq_false_iff]at h5))
     ·rw[if_pos h5]at rD;simp
      repeat refine vg ?_
      refine ar.of (b+1) [0,1,2,3,4,5] ?_ ⟨by omega,by omega⟩;simp[Aa,rD]
     ·rw[if_neg h5]at rD;simp
      repeat refine vg ?_
      (refine Bz.split (fun h6=>?_) (fun h6=>?_)<;>(try simp only[decide_eq_true_eq,decide_eq_false_iff_not,Bool.not_eq_true',Bool.not_eq_false',beq_iff_eq,bne_iff_ne,beq_eq_false_iff_ne,bne_eq_false_iff_eq,Bool.not_not,Bool.and_eq_true,Bool.or_eq_true,Bool.and_eq_false_iff,Bool.or_eq_false_iff]at h6))
      ·have h7:min ((a:Int) - 1) ((b:Int) - 1)<0:=by split at h6<;>omega
       simp
       repeat refine vg ?_
       refine ar.of (b+1) [0,1,2,3,4,7] ?_ ⟨by omega,by omega⟩;simp[Aa,rD,EV,h7];exact⟨by omega,by split<;>omega⟩
      ·have h7:¬ min ((a:Int) - 1) ((b:Int) - 1)<0:=by split at h6<;>omega
       simp
       repeat refine vg ?_
       refine ar.of (b+1) [0,1,2,3,4,7] ?_ ⟨by omega,by omega⟩;simp[Aa,rD,EV,h7];exact⟨by omega,by split<;>omega⟩
   ·have e:b=3:=by omega
    subst e;have hsP:=LU p a;simp;refine vg ?_;refine ar.of (a+1) [0,1,2,3,4,5] ?_ ⟨by omega,by omega⟩;simp[hsP]
  ·have e:a=3:=by omega
   subst e;have hsN:=LV p;simp;refine vg ?_;refine ar.of (p+1) [0,1,2,3,4,5] ?_ ⟨by omega,by omega⟩;simp[hsN]
 ·have e:p=2:=by omega
  subst e;simp;refine fj 5 149 8 ((pI 2).map J3) (by simp) (by decide) ?_;refine vk ?_;simp;refine iL [2,4] 8 [3,0,0,0,0,3,2,2] ?_;simp[exPD,exMD,exCs,exM8]
end Go.Proofs.YtiocdkdkndpgkaaGreat
namespace Go.Proofs.YtiocdkdkndpgkaaGreat
open Go.RowKit Go
theorem example_fn:FC Tryz.prog 36 [] (.tup [eI exP8,eT exM8]):=
 example0_fn.dq (by simp[dq,dqL,dqR,exPD,exMD,exP8,exM8,exCs,dqR_refl])
end Go.Proofs.YtiocdkdkndpgkaaGreat
namespace Go.Proofs.YtiocdkdkndpgkaaGreat
open Go.RowKit Go
attribute [local simp] bu bv
theorem FR.arg{P:Program} {f:FuncId} {args args':List D} {p:D->Prop} (h:FR P f args p) (hd:dqL args' args):FR P f args' p:=by
 have hL:=dqL_le _ _ hd;refine⟨h.1,fun G us w h1 h2 h3=>h.2 G us w h1 (by rw[h2,hL.1]) fun i y hy=>?_⟩;obtain⟨x,q1,q2⟩:=hL.2 i y hy;exact q2.1 _ _ (h3 i x q1)
def pU(x:Py):Bool:=decide ((x.inp.length:Int)<=60)&&decide ((x.word.length:Int)<=20)
theorem Ns(p:Pb) (m:Mac) (l:List Py):FR Tryz.prog 9 [eI p,eT m,.fz 2 (l.map ry)] (fun r=>∃ b:Bool,r=bD b/\(b=true->qT p=true/\∀ x∈l,pU x=true)):=by
 refine xa Tryz.func9 rfl rfl rfl Tryz.call9 [] [] rfl 1 (fun hb w0 G0=>?_);simp at hb;have hF:=J9 p m;simp;refine am [3,4,9,10] [] (fun k:Nat=>[(11,.d (iD k))]) (fun _=>[]) (fun k=>l.length - k) (fun k=>k<=l.length/\∀ x∈l.take k,pU x=true) 0 ⟨by omega,by simp⟩ (by simp) (fun k hk=>?_);obtain⟨hk,hj⟩:=hk;simp
 (refine Bz.split (fun h=>?_) (fun h=>?_)<;>(try simp only[decide_eq_true_eq,decide_eq_false_iff_not,Bool.not_eq_true',Bool.not_eq_false',beq_iff_eq,bne_iff_ne,beq_eq_false_iff_ne,bne_eq_false_iff_eq,Bool.not_not,Bool.and_eq_true,Bool.or_eq_true,Bool.and_eq_false_iff,Bool.or_eq_false_iff]at h))
 ·have hP:=G9 l[k];have hs:pU l[k]=(decide ((l[k].inp.length:Int)<=60)&&decide ((l[k].word.length:Int)<=20)):=rfl;rw[<-hs]at hP;clear hs;simp[h];refine ap hP ?_;refine cw (pU l[k]) (fun e=>?_) (fun e=>?_)
  ·simp[e]
  ·simp[e];refine vg (ar.of (k+1) [] (by simp) ⟨⟨by omega,fun x hx=>?_⟩,by omega⟩);rw[List.take_succ_eq_append_getElem h]at hx;rcases List.mem_append.1 hx with hx|hx
   ·exact hj x hx
   ·simp at hx;subst hx;exact e
 ·have e:k=l.length:=by omega
  subst e;rw[List.take_length]at hj;simp;refine Jo hF (fun r hr=>Exists.elim hr fun b bo=>?_);rw[bo.1];simp;cases b
  ·exact .inl rfl
  ·exact .inr ⟨rfl,bo.2 rfl,hj⟩
end Go.Proofs.YtiocdkdkndpgkaaGreat
namespace Go.Proofs.YtiocdkdkndpgkaaGreat
open Go.RowKit Go Go.Shelf
attribute [local go_sem] Oper.semAt_some
theorem PO(d:Nat) (a b:Vw) (w:World):(Op.equalIn (d+3) 239 a.v b.v).run Tryz.prog w=.ok (decide (a=b)) w:=by
 have hS:Tryz.prog.underlying 239=some (.struct (Tryz.prog.fieldsOf 239)):=by kernel_rfl
 have hp:Tryz.prog.stoodInHeld 239=false:=by kernel_rfl
 rw[run_equalIn_struct w (d+2) 239 _ _ hS hp];have ag:=Tryz.isAgg3;have ah:=Tryz.isAgg105;have zh:=Tryz.sizeOf105;have u3:=Tryz.underlying3;simp only[Program.fieldsOf,Tryz.underlying239];simp[Op.eqFields,part,ag,ah,zh,run_equalIn_int w (d+1) 3 _ .i64 _ _ u3,qo d];obtain⟨n,k,j,h0,h1,h2,h3,h4⟩:=a;obtain⟨m,l,i,g0,g1,g2,g3,g4⟩:=b;by_cases hn:n=m
 case neg=>simp[hn]
 by_cases hk:k=l
 case neg=>simp[hn,hk]
 by_cases hj:j=i
 case neg=>simp[hn,hk,hj]
 by_cases hh:h0=g0/\h1=g1/\h2=g2/\h3=g3/\h4=g4<;>simp[hn,hk,hj,hh]
theorem kit_vw:KeyKit Tryz.prog 239 Vw.v:=
 ⟨fun a b w=>PO 9997 a b w,fun em a w=>by kernel_rfl,⟨_,Tryz.underlying239⟩⟩
end Go.Proofs.YtiocdkdkndpgkaaGreat
namespace Go.Proofs.YtiocdkdkndpgkaaGreat
open Go.RowKit Go
attribute [local simp] bu bv
def kg(tb:List Vw):List (Vw × D):=tb.zipIdx.map fun x=>(x.1,iD (x.2:Nat))
theorem KV(tb:List Vw) (v:Vw):kg (tb++[v])=kg tb++[(v,iD (tb.length:Nat))]:=by
 unfold kg;rw[List.zipIdx_append,List.map_append];simp
theorem z5(v:Vw):∀ (tb:List Vw) (k:Nat),((tb.zipIdx k).map fun x=>(x.1,iD (x.2:Nat))).find? (fun p=>decide (v=p.1))=if v∈tb then some (v,iD ((k+tb.idxOf v:Nat))) else none
 | [],k=>by simp
 | u :: tb,k=>by
  rw[List.zipIdx_cons,List.map_cons,List.find?_cons];by_cases e:v=u
  ·subst e;simp
  ·have h:=z5 v tb (k+1);have e2:(u == v)=false:=by simpa using fun q:u=v=>e q.symm
   rw[show decide (v=u)=false from decide_eq_false e,h];by_cases hm:v∈tb
   ·rw[if_pos hm,if_pos (by simp[hm]),List.idxOf_cons,e2];simp only[cond_false];rw[show k+1+List.idxOf v tb=k+(List.idxOf v tb+1) by omega]
   ·rw[if_neg hm,if_neg (by simp[hm,e])]
theorem C9(tb:List Vw) (v:Vw):cI (kg tb) v=if v∈tb then some (iD (tb.idxOf v:Nat)) else none:=by
 unfold cI kg;have h:=z5 v tb 0;rw[Nat.zero_add]at h;rw[h];split<;>rfl
def kz(n:Int) (tb:List Vw):List Blk:=[.box 169 [.d (iD n),.sl 1 tb.length,.mp 2],.row 239 8 (tb.map uK),.map (cR Vw.v (kg tb))]
def lp(n:Int) (tb:List Vw):List (Option Blk):=[some (.box 169 [.d (iD n),.sl 3 tb.length,.mp 2]),none,some (.map (cR Vw.v (kg tb))),some (.row 239 8 (tb.map uK))]
theorem KX(n:Int) (tb:List Vw) (v:Vw) (hl:tb.length<=1048576):OC Tryz.prog 146 [.ptr 0 0 0,.d (.agg (uK v))] (kz n tb) (iD (rQ tb v).2) (lp n (rQ tb v).1):=by
 refine xh Tryz.func146 rfl rfl rfl Tryz.call146 [] [] rfl [0,2] (by simp[kz]) (by simp[lp,kz]) (by simp[lp,kz]) (fun w0 G0 E J pr fr yc=>?_);simp[kz,lp];refine aO 11 ?_;simp;refine R2 kit_vw Tryz.underlying167 (z:=.int .i64 0) (fun w=>by kernel_rfl) 2 (kg tb) v (by simp) (by simp) (by simp) ?_;rw[C9];by_cases hv:v∈tb
 ·have hp:rQ tb v=(tb,tb.idxOf v):=if_pos hv;rw[if_pos hv,hp];simp;refine WR.of [0,7,2,1] ?_ rfl;simp
 ·have hp:rQ tb v=(tb++[v],tb.length):=if_neg hv;have hg:cI (kg tb) v=none:=by rw[C9,if_neg hv]
  rw[if_neg hv,hp];simp;refine aO 6 ?_;simp;refine pN kit_vw Tryz.underlying167 2 (kg tb) v (by simp) (by simp) (by simp) (by simp;rfl) hg ?_;simp;refine iL [] 0 [0,0,0,0,1,0,0,2] ?_;simp;refine vg (WR.of [0,1,2,3] ?_ rfl);simp[KV]
def kZ(l:List Int) (n:Nat):List (List D):=l.map (fun x=>[iD x])++List.replicate (n - l.length) [iD 0]
theorem Da{l:List Int} {n:Nat} (h:l.length<=n):(kZ l n).length=n:=by unfold kZ;simp;omega
theorem Db(n:Nat):kZ [] n=List.replicate n [iD 0]:=by simp[kZ]
theorem z6{l:List Int} {n:Nat} (h:l.length=n):kZ l n=l.map fun x=>[iD x]:=by subst h;simp[kZ]
theorem z7(l:List Int) (n k:Nat) (h:k<(kZ l n).length):(kZ l n)[k].tail=[]:=by
 have h1:∀ r∈kZ l n,r.tail=[]:=by
  intro r hr;rcases List.mem_append.1 hr with q|q
  ·obtain⟨x,-,rfl⟩:=List.mem_map.1 q;rfl
  ·rw[(List.mem_replicate.1 q).2];rfl
 exact h1 _ (List.getElem_mem h)
theorem Dc{l:List Int} {n k:Nat} (hk:l.length=k) (h:k<n) (x:Int):(kZ l n).set k [iD x]=kZ (l++[x]) n:=by
 subst hk;unfold kZ;rw[List.set_append_right _ _ (by simp),List.length_map,Nat.sub_self,show n - l.length=(n - (l.length+1))+1 by omega,List.replicate_succ,List.set_cons_zero];simp
theorem z8(tb:List Vw) (f:Nat->Vw) (n k:Nat) (hk:k<n):b7 tb (((List.range n).map f).take (k+1))=iC (b7 tb (((List.range n).map f).take k)) (f k):=by
 rw[DR _ _ k (by simpa using hk)];simp
theorem l8(tb:List Vw) (vs:List Vw):(b7 tb vs).2.length=vs.length/\(b7 tb vs).1.length<=tb.length+vs.length:=by
 have:=F6 vs (tb,[]);unfold b7;simpa using this
theorem uL(n:Nat) (inp:List Int) (word:List Rd) (tb:List Vw) (hn:n<=5):∀ j,(playTo n inp word tb j).2.length=j+1/\((playTo n inp word tb j).2.getLastD []).length=n/\(playTo n inp word tb j).1.length<=tb.length+5 * (j+1)
 | 0=>by
  have h:=l8 tb ((List.range n).map (fE inp));simp only[List.length_map,List.length_range]at h;rw[playTo];unfold Bc;refine⟨rfl,?_,by have:=h.2;dsimp only;omega⟩
  show ([(b7 tb ((List.range n).map (fE inp))).2].getLastD []).length=n
  simpa using h.1
 | j+1=>by
  obtain⟨h1,h2,h3⟩:=uL n inp word tb hn j;rw[playTo];unfold AM;generalize playTo n inp word tb j=st at h1 h2 h3;dsimp only;have h:=l8 st.1 ((List.range n).map (iE n j (word.getD j default) (st.2.getLastD [])));simp only[List.length_map,List.length_range]at h;refine⟨by simp[h1],by rw[List.getLastD_concat];exact h.1,by omega⟩
def eJ(n:Nat) (r:Rd) (now:List Int) (p q i:Nat):Int:=if i<q then fF n r now p i else -1
theorem uM(n:Nat) (r:Rd) (now:List Int) (p q i:Nat):eJ n r now p (q+1) i=if i=q then fF n r now p q else eJ n r now p q i:=by
 unfold eJ;by_cases h:i=q
 ·subst h;simp
 ·rw[if_neg h];by_cases h2:i<q
  ·rw[if_pos h2,if_pos (by omega)]
  ·rw[if_neg h2,if_neg (by omega)]
theorem KY{n:Nat} {r:Rd} {now:List Int} {p q:Nat} (h:fF n r now p q=-1) (i:Nat):eJ n r now p (q+1) i=eJ n r now p q i:=by
 rw[uM];by_cases e:i=q
 ·subst e;rw[if_pos rfl,h];unfold eJ;rw[if_neg (by omega)]
 ·rw[if_neg e]
theorem Hz(n:Nat) (r:Rd) (now:List Int) (p i:Nat):eJ n r now p n i=fF n r now p i:=by
 unfold eJ;by_cases e:i<n
 ·rw[if_pos e]
 ·rw[if_neg e];unfold fF;rw[if_neg fun q=>e q.1]
theorem PP(n:Nat) (tb:List Vw) (inp:List Int) (word:List Rd) (hn:n<=5) (hi:n<=inp.length) (hl:tb.length+5 * (word.length+1)<=1048576):OC Tryz.prog 85 [.ptr 0 0 0,.d (aT inp),.d (bK word)] (kz n tb) (ez (mR n inp word tb).2) (lp n (mR n inp word tb).1):=by
 refine xh Tryz.func85 rfl rfl rfl Tryz.call85 [11,14,41] [7,1024,26] rfl [0,2] (by simp[kz]) (by simp[lp,kz]) (by simp[lp,kz]) (fun w0 G0 E J pr fr yc=>?_);simp[kz,lp];refine vg ?_;refine am [0,1,2,6,7,22,23,99,101] [] (fun k:Nat=>[(24,.d (iD k))]) (fun k=>[(0,some (.box 169 [.d (iD n),.sl 1 (b7 tb (((List.range n).map (fE inp)).take k)).1.length,.mp 2])),(1,some (.row 239 8 ((b7 tb (((List.range n).map (fE inp)).take k)).1.map uK))),(2,some (.map (cR Vw.v (kg (b7 tb (((List.range n).map (fE inp)).take k)).1)))),(3,some (.row 3 1 (kZ (b7 tb (((List.range n).map (fE inp)).take k)).2 n)))]) (fun k=>n - k) (fun k=>k<=n) 0 (by omega) (by simp[b7,Db]) (fun k hk=>?_);have td:=l8 tb (((List.range n).map (fE inp)).take k);have iz:=fun (x:Int) (h:k<n)=>Dc (l:=(b7 tb (((List.range n).map (fE inp)).take k)).2) (n:=n) (k:=k) (by rw[td.1];simp;omega) h x
 have bi:=Da (l:=(b7 tb (((List.range n).map (fE inp)).take k)).2) (n:=n) (by rw[td.1];simp;omega);have pY:=z8 tb (fE inp) n k;obtain⟨⟨tk,ik⟩,cJ⟩:∃ st,b7 tb (((List.range n).map (fE inp)).take k)=st:=⟨_,rfl⟩;rw[cJ]at td iz bi pY ⊢;simp at td;simp
 (refine Bz.split (fun h=>?_) (fun h=>?_)<;>(try simp only[decide_eq_true_eq,decide_eq_false_iff_not,Bool.not_eq_true',Bool.not_eq_false',beq_iff_eq,bne_iff_ne,beq_eq_false_iff_ne,bne_eq_false_iff_eq,Bool.not_not,Bool.and_eq_true,Bool.or_eq_true,Bool.and_eq_false_iff,Bool.or_eq_false_iff]at h))
 ·have h1:k<inp.length:=by omega
  simp[h,h1];refine iL [3] 12 [0,0,0,0,0,0,0,0,0,0,2,3] ?_;simp[h,h1];refine bL silence_fn ?_;simp;refine Qc (KX n tk (fE inp k) (by omega)) [0,1,2] (by simp) (by simp) (by simp[fE,h1]) (by simp[kz]) (by simp[lp]) (by simp[lp,kz]) ?_;simp[lp,kz,bi,h];refine vg (ar.of (k+1) [0,4,2,3] ?_);simp[pY h,iC,z7];exact iz _ h
 ·have e:k=n:=by omega
  subst e;have Ak:ik.length=k:=by simpa using td.1
  rw[z6 Ak];simp;refine fj 3 3 1 (ik.map fun x=>[iD x]) (by simp) (by simp;omega) ?_;refine vk ?_;simp[Ak]
  have h0:playTo k inp word tb 0=(tk,[ik]):=by
   rw[playTo];unfold Bc;rw[List.take_of_length_le (by simp)]at cJ;rw[cJ]
  refine am [0,42,43,99,101] [] (fun j:Nat=>[(44,.d (iD j)),(9,.sl 4 (j+1)),(7,.d (aT ((playTo k inp word tb j).2.getLastD [])))]) (fun j=>[(0,some (.box 169 [.d (iD k),.sl 1 (playTo k inp word tb j).1.length,.mp 2])),(1,some (.row 239 8 ((playTo k inp word tb j).1.map uK))),(2,some (.map (cR Vw.v (kg (playTo k inp word tb j).1)))),(4,some (.row 38 1 ((playTo k inp word tb j).2.map fun l=>[aT l])))]) (fun j=>word.length - j) (fun j=>j<=word.length) 0 (by omega) (by simp[h0]) (fun j hj=>?_);have xG:=uL k inp word tb hn j;have pX:playTo k inp word tb (j+1)=AM k j (word.getD j default) (playTo k inp word tb j):=rfl;obtain⟨⟨T,L⟩,hTL⟩:∃ st,playTo k inp word tb j=st:=⟨_,rfl⟩;rw[hTL]at xG pX ⊢;simp only at xG;obtain⟨now,hnow⟩:∃ now,now=L.getLastD []:=⟨_,rfl⟩;unfold AM at pX;simp only at pX;rw[<-hnow]at xG pX;simp only[<-hnow];simp
  (refine Bz.split (fun tn=>?_) (fun tn=>?_)<;>(try simp only[decide_eq_true_eq,decide_eq_false_iff_not,Bool.not_eq_true',Bool.not_eq_false',beq_iff_eq,bne_iff_ne,beq_eq_false_iff_ne,bne_eq_false_iff_eq,Bool.not_not,Bool.and_eq_true,Bool.or_eq_true,Bool.and_eq_false_iff,Bool.or_eq_false_iff]at tn))
  ·rw[aj default tn]at pX;simp[tn]
   repeat refine vg ?_
   refine am [0,7,9,10,11,12,42,43,44,54,55,99,101] [4,5] (fun p:Nat=>[(56,.d (iD p))]) (fun p=>[(0,some (.box 169 [.d (iD k),.sl 1 (b7 T (((List.range k).map (iE k j word[j] now)).take p)).1.length,.mp 2])),(1,some (.row 239 8 ((b7 T (((List.range k).map (iE k j word[j] now)).take p)).1.map uK))),(2,some (.map (cR Vw.v (kg (b7 T (((List.range k).map (iE k j word[j] now)).take p)).1)))),(6,some (.row 3 1 (kZ (b7 T (((List.range k).map (iE k j word[j] now)).take p)).2 k)))]) (fun p=>k - p) (fun p=>p<=k) 0 (by omega) (by simp[b7,Db]) (fun p hp=>?_);have td:=l8 T (((List.range k).map (iE k j word[j] now)).take p);have iz:=fun (x:Int) (h:p<k)=>Dc (l:=(b7 T (((List.range k).map (iE k j word[j] now)).take p)).2) (n:=k) (k:=p) (by rw[td.1];simp;omega) h x
   have bi:=Da (l:=(b7 T (((List.range k).map (iE k j word[j] now)).take p)).2) (n:=k) (by rw[td.1];simp;omega);have pY:=z8 T (iE k j word[j] now) k p;obtain⟨⟨tk2,ik2⟩,NO⟩:∃ st,b7 T (((List.range k).map (iE k j word[j] now)).take p)=st:=⟨_,rfl⟩;rw[NO]at td iz bi pY ⊢;simp at td;simp
   (refine Bz.split (fun fU=>?_) (fun fU=>?_)<;>(try simp only[decide_eq_true_eq,decide_eq_false_iff_not,Bool.not_eq_true',Bool.not_eq_false',beq_iff_eq,bne_iff_ne,beq_eq_false_iff_ne,bne_eq_false_iff_eq,Bool.not_not,Bool.and_eq_true,Bool.or_eq_true,Bool.and_eq_false_iff,Bool.or_eq_false_iff]at fU))
   ·simp[fU]
    repeat refine vg ?_
    refine ap silence_fn ?_;simp;refine am [0,7,9,10,11,12,13,14,42,43,44,54,55,56,64,65,99,101] [0,1,2,4,5,6] (fun q:Nat=>[(66,.d (iD q))]) (fun q=>[(7,some (.box 239 [.d (iD p),.d (iD (j+1)),.d (iD 0),.d (iD (eJ k word[j] now p q 0)),.d (iD (eJ k word[j] now p q 1)),.d (iD (eJ k word[j] now p q 2)),.d (iD (eJ k word[j] now p q 3)),.d (iD (eJ k word[j] now p q 4))]))]) (fun q=>k - q) (fun q=>q<=k) 0 (by omega) (by simp[eJ]) (fun q hq=>?_);simp
    (refine Bz.split (fun hqk=>?_) (fun hqk=>?_)<;>(try simp only[decide_eq_true_eq,decide_eq_false_iff_not,Bool.not_eq_true',Bool.not_eq_false',beq_iff_eq,bne_iff_ne,beq_eq_false_iff_ne,bne_eq_false_iff_eq,Bool.not_not,Bool.and_eq_true,Bool.or_eq_true,Bool.and_eq_false_iff,Bool.or_eq_false_iff]at hqk))
    ·have K8:q<now.length:=by omega
     have FT:p<5:=by omega
     have hB:=C7 (word[j].g.hear p) q;simp[hqk,K8,FT]
     repeat refine vg ?_
     (refine Bz.split (fun hb=>?_) (fun hb=>?_)<;>(try simp only[decide_eq_true_eq,decide_eq_false_iff_not,Bool.not_eq_true',Bool.not_eq_false',beq_iff_eq,bne_iff_ne,beq_eq_false_iff_ne,bne_eq_false_iff_eq,Bool.not_not,Bool.and_eq_true,Bool.or_eq_true,Bool.and_eq_false_iff,Bool.or_eq_false_iff]at hb))
     ·have hv:fF k word[j] now p q=now[q]:=by
       rw[decide_eq_true hb]at hB;unfold fF;rw[if_pos ⟨by omega,hB.symm⟩,aj 0 K8]
      clear hB hb;have hs:∀ i,eJ k word[j] now p (q+1) i=if i=q then now[q] else eJ k word[j] now p q i:=fun i=>by rw[uM,hv]
      clear hv;simp[hqk,K8,FT]
      repeat refine vg ?_
      refine ar.of (q+1) [0,1,2,3,4,5,6,7] ?_;have K5:q=0\/q=1\/q=2\/q=3\/q=4:=by omega
      simp[hs];clear hs;rcases K5 with e|e|e|e|e<;>subst e<;>simp
      skip
     ·have hv:fF k word[j] now p q=-1:=by
       rw[decide_eq_false hb]at hB;unfold fF;rw[if_neg fun c=>by rw[c.2]at hB;cases hB]
      simp;refine vg (ar.of (q+1) [0,1,2,3,4,5,6,7] ?_);simp[KY hv]
    ·have e:k=q:=by omega
     subst e;simp;refine qO (KX k tk2 (iE k j word[j] now p) (by omega)) [0,1,2] (by simp) (by simp) (by simp[iE,Hz]) (by simp[kz]) (by simp[lp]) (by simp[lp,kz]) ?_;simp[lp,kz,bi,fU];refine vg (ar.of (p+1) [0,8,2,3,4,5,6] ?_);simp[pY fU,iC,z7];exact iz _ fU
   ·have e:k=p:=by omega
    subst e;have hik2:ik2.length=k:=by simpa using td.1
    rw[z6 hik2];simp;refine fj 6 3 1 (ik2.map fun x=>[iD x]) (by simp) (by simp;omega) ?_;rw[List.take_of_length_le (by simp)]at NO;rw[NO]at pX;refine R0 ?_;simp[hik2];refine⟨xG.1.symm,?_⟩
    repeat refine vg ?_
    refine ar.of (j+1) [0,1,2,3,7] ?_;simp[pX,xG.1]
  ·have e:word.length=j:=by omega
   subst e;have hpv:mR k inp word tb=(T,L):=hTL;simp;refine fj 4 38 1 (L.map fun l=>[aT l]) (by simp) (by simp;omega) ?_;refine vk ?_;simp[xG.1,hpv];refine WR.of [0,7,2,1] ?_ rfl;simp[hpv]
abbrev nilD:D:=.v (.slice none 0 0)
abbrev sys0:D:=.agg [iD 0,iD 0,iD 0,nilD,iD 0,nilD,iD 0,iD 0,nilD,nilD]
def ra(p:Pb):D:=if buildE p=0 then .agg (vT (cq p) p.t.n) else sys0
theorem EJ(p:Pb):((dv p).2=buildE p/\buildE p≠0)\/((dv p).2=0/\bg p=0/\(dv p).1=((p.t.cases.length * (aM p).length:Nat):Int)):=by
 by_cases hp:bg p=0
 ·obtain⟨h1,h2⟩:=EC hp;by_cases h3:(dv p).2=0
  ·exact .inr ⟨h3,hp,h2 h3⟩
  ·obtain⟨h4,h5⟩:=h1 h3;have:buildE p=17:=by unfold buildE;rw[if_neg (by simpa using hp),if_pos h5]
   exact .inl ⟨by rw[h4,this],by rw[this];decide⟩
 ·have:buildE p=bg p:=by unfold buildE;rw[if_pos hp]
  exact .inl ⟨by rw[this];unfold dv;rw[if_pos hp],by rw[this];exact hp⟩
theorem Nt(l:List (List Mv)):∀ x∈l,x.length<=az l:=by
 intro x hx;obtain⟨i,hi,rfl⟩:=List.getElem_of_mem hx;have:=pA l i hi;omega
theorem KZ{p:Pb} (h:bg p=0):FC Tryz.prog 83 [eI p] (eI p):=by
 obtain⟨ht,ha,-⟩:=cy h;obtain⟨⟨h1,h5⟩,-,-,⟨-,bQ⟩,bO⟩:=dL ht;have hs:=(cZ ha).1;have hN:=Qj h;refine KQ p (by omega) (fun c hc=>?_) ⟨by omega,fun l hl=>?_⟩
 ·obtain⟨e1,e2,e3,e4,e5,e6⟩:=bO c hc;exact⟨by omega,⟨by omega,fun v hv=>by have:=e5 v hv;omega⟩,by omega,fun v hv=>by have:=e5 v (e6 v hv);omega⟩
 ·have:=Nt _ l hl;omega
theorem yP(p:Pb):∀ i,i<=p.t.cases.length * (aM p).length->(jc p i).2.length=i
 | 0,_=>rfl
 | i+1,h=>by
  rw[CQ p i (by omega)];unfold mS;simp[yP p i (by omega)]
theorem Nu(p:Pb) {i:Nat} {ds:List D} (h:((dU p.t.cases.length (aM p).length).map fun x=>[iD x.1,bK ((aM p).getD x.2 [])])[i]?=some ds):∃ (c:Nat) (hc:c<p.t.cases.length) (w:List Rd),w∈aM p/\ds=[iD (c:Nat),bK w]/\jc p (i+1)=((mR p.t.n.toNat p.t.cases[c].inp w (jc p i).1).1,(jc p i).2++[⟨c,w,(mR p.t.n.toNat p.t.cases[c].inp w (jc p i).1).2⟩])/\(jc p i).2.length<p.t.cases.length * (aM p).length:=by
 rw[List.getElem?_map,jN,List.getElem?_map]at h;by_cases hi:i<p.t.cases.length * (aM p).length
 ·rw[List.getElem?_range hi]at h;have hW:0<(aM p).length:=Nat.pos_of_ne_zero fun e=>by rw[e]at hi;simp at hi
  have h1:i / (aM p).length<p.t.cases.length:=Nat.div_lt_of_lt_mul (by rw[Nat.mul_comm];exact hi);have h2:i % (aM p).length<(aM p).length:=Nat.mod_lt _ hW;have e1:(aM p).getD (i % (aM p).length) []=(aM p)[i % (aM p).length]:=by simp[h2]
  have e2:p.t.cases.getD (i / (aM p).length) default=p.t.cases[i / (aM p).length]:=by simp[h1]
  refine⟨i / (aM p).length,h1,(aM p)[i % (aM p).length],List.getElem_mem h2,?_,?_,by rw[yP p i (by omega)];exact hi⟩
  ·rw[<-e1];simpa using h.symm
  ·rw[CQ p i hi];unfold mS;dsimp only;rw[e1,e2]
 ·rw[List.getElem?_eq_none (by simpa using hi)]at h;simp at h
theorem Dd(p:Pb) (hm:az p.a.states<=1099511627776):FC Tryz.prog 29 [eI p] (.tup [ra p,iD (buildE p)]):=by
 have Ad:=Hk p hm;rcases EJ p with ⟨he,aV⟩|⟨he,hp,rg⟩
 ·have hR:ra p=sys0:=if_neg aV;rw[he]at Ad;rw[hR];obtain⟨e,he⟩:∃ e,e=buildE p:=⟨_,rfl⟩;rw[<-he]at Ad aV ⊢;refine an Tryz.func29 rfl rfl rfl Tryz.call29 [43] [] rfl 1 (fun hb w0 G0=>?_);clear hb;simp;refine ap Ad ?_;simp[aV]
 rw[he,rg]at Ad;obtain⟨ht,ha,uY,k8,uO⟩:=cy hp;obtain⟨⟨htn1,htn5⟩,_,_,⟨hcl1,bQ⟩,bO⟩:=dL ht;by_cases AX:4096<p.t.cases.length * (aM p).length
 ·have hE:buildE p=17:=by unfold buildE;rw[if_neg (by simpa using hp),if_pos AX]
  have hR:ra p=sys0:=if_neg (by rw[hE];decide);rw[hE,hR];have Ll:(4096:Int)<((p.t.cases.length * (aM p).length:Nat):Int):=by omega
  generalize ((p.t.cases.length * (aM p).length:Nat):Int)=nI at Ll Ad;refine an Tryz.func29 rfl rfl rfl Tryz.call29 [43] [] rfl 1 (fun hb w0 G0=>?_);clear hb;simp;refine ap Ad ?_;simp[Ll]
 have Ll:¬ (4096:Int)<((p.t.cases.length * (aM p).length:Nat):Int):=by omega
 generalize ((p.t.cases.length * (aM p).length:Nat):Int)=nI at Ll Ad;have Dz:=ED hp AX;have hwf:=M7 p.a p.rounds ha;rw[Dz]at hwf;have hcp:=KZ hp;have hxf:=Nq p (aM p);have oc:p.t.n=((p.t.n.toNat:Nat):Int):=by omega
 have tv:∀ w∈aM p,w.length<=6:=fun w hw=>by
  have e2:w.length=p.rounds.toNat:=qh p.a p.rounds.toNat 0 _ hw;omega
 have o7:∀ (c:Nat) (hc:c<p.t.cases.length) (w:List Rd) (tb:List Vw),w∈aM p->tb.length<=8192->OC Tryz.prog 85 [.ptr 0 0 0,.d (aT p.t.cases[c].inp),.d (bK w)] (kz p.t.n tb) (ez (mR p.t.n.toNat p.t.cases[c].inp w tb).2) (lp p.t.n (mR p.t.n.toNat p.t.cases[c].inp w tb).1):=fun c hc w tb h2 h3=>by
  have e1:=(bO _ (List.getElem_mem hc)).inp;have e2:=tv w h2;have e3:=PP p.t.n.toNat tb p.t.cases[c].inp w (by omega) (by omega) (by omega)
  rwa [<-oc]at e3
 clear oc;have hover:=Hq hp AX
 have dh:jc p (mo p).length=((cq p).tab,(cq p).ex):=by
  unfold jc;rw[List.take_length];rfl
 refine an Tryz.func29 rfl rfl rfl Tryz.call29 [43] [] rfl 1 (fun hb w0 G0=>?_);clear hb;simp;refine ap Ad ?_;simp[Ll];refine ap hwf ?_;simp;refine ap hcp ?_;simp;refine nN ?_;simp;refine ap hxf ?_;simp;refine nt 2 9 92 3 87 _ (by simp;rfl) (by simp) ?_;refine nt 4 1 239 8 169 _ (by simp;rfl) (by simp) ?_;refine dX (KS p (aM p)) [1,2,3,7,8] [0,1] (fun _=>[]) (fun i=>[(2,some (.box 87 [.d (iD p.t.n),.d (iD p.t.ins),.d (iD p.t.outs),.d (ja p.t.cases),.d (iD p.a.n),.d (gQ p.a.states),.d (iD p.rounds),.d (iD 0),.d nilD,.sl 6 (jc p i).2.length])),(3,some (.map (cR Vw.v (kg (jc p i).1)))),(4,some (.box 169 [.d (iD p.t.n),.sl 7 (jc p i).1.length,.mp 3])),(5,some (.box 166 [.ptr 4 0 0])),(6,some (.row 92 3 ((jc p i).2.map N4))),(7,some (.row 239 8 ((jc p i).1.map uK)))]) (fun i=>(jc p i).1.length<=8192) (by simp[jc,fG]) (by simp) (fun ds h=>by obtain⟨x,-,rfl⟩:=List.mem_map.1 h;rfl) (.inl rfl) (by simp[jc,fG,kg,cR]) (fun i ds hi lj L r r' J' pr' fr' _=>?_) (fun mK=>?_)
 ·obtain⟨c,hc,wd,hwd,rfl,cJ,Rv⟩:=Nu p hi;clear hi;have Rv:(jc p i).2.length<=4096:=by omega
  have Rm:=hover (i+1);have NS:=o7 c hc wd (jc p i).1 hwd lj;have sX:=tv wd hwd;obtain⟨⟨tb,vs⟩,hq⟩:∃ q,mR p.t.n.toNat p.t.cases[c].inp wd (jc p i).1=q:=⟨_,rfl⟩;rw[hq]at NS cJ;rw[cJ]at Rm;dsimp only at NS cJ Rm;simp;refine iL [2,5] 15 [0,3,0,0,0,3,0,0,0,0,0,0,0,0,2,0,0,2,0] ?_;simp[hc];refine bL (qW wd (by omega)) ?_;simp;refine vg ?_;simp[hc];refine Qc NS [4,7,3] (by simp) (by simp) (by simp[hc]) (by simp[kz]) (by simp[lp]) (by simp[lp,kz]) ?_;simp[lp,kz];refine vg ?_
  (refine Bz.split (fun h1=>?_) (fun h1=>?_)<;>(try simp only[decide_eq_true_eq,decide_eq_false_iff_not,Bool.not_eq_true',Bool.not_eq_false',beq_iff_eq,bne_iff_ne,beq_eq_false_iff_ne,bne_eq_false_iff_eq,Bool.not_not,Bool.and_eq_true,Bool.or_eq_true,Bool.and_eq_false_iff,Bool.or_eq_false_iff]at h1))
  ·have e17:=Rm (by omega);have hR:ra p=sys0:=if_neg (by rw[e17];decide);rw[e17,hR];simp
  ·simp;exact⟨by rw[cJ];dsimp only;omega,[0,1,2,3,4,5,9,8],by simp[cJ]⟩
 ·have e0:((dU p.t.cases.length (aM p).length).map fun x=>[iD x.1,bK ((aM p).getD x.2 [])]).length=(mo p).length:=by simp
  rw[e0,dh]at mK;dsimp only at mK;have hexl:=yP p _ (Nat.le_of_eq (qX p));rw[dh,qX]at hexl;dsimp only at hexl;have hE:buildE p=0:=by unfold buildE;rw[if_neg (by simpa using hp),if_neg AX,if_neg (by omega)]
  have hR:ra p=.agg [iD p.t.n,iD p.t.ins,iD p.t.outs,ja p.t.cases,iD p.a.n,gQ p.a.states,iD p.rounds,iD p.t.n,.fz 8 ((cq p).tab.map uK),.fz 3 ((cq p).ex.map N4)]:=if_pos hE;rw[e0,dh,hE,hR];simp;refine fj 6 92 3 ((cq p).ex.map N4) (by simp) (by simp;omega) ?_;refine fj 7 239 8 ((cq p).tab.map uK) (by simp) (by simp;omega) ?_;refine aO 10 ?_;simp
theorem Nv(p:Pb):((cq p).ex.map fun x=>[D.agg [aT ((cq p).prob.t.cases.getD x.c.toNat default).inp,bK x.word]])=(aB p).map fun x=>[gy x]:=by
 apply List.ext_getElem
 ·simp[ze]
 ·intro i h1 h2;simp only[List.length_map]at h1 h2;obtain⟨c,hc,e1,e2⟩:=Bk p i h1;have e3:(aB p).getD i default=(aB p)[i]:=by simp[h2]
  rw[e3]at e2;have e4:(cq p).prob=p:=rfl;simp only[List.getElem_map,e1,e2,e4,Int.toNat_natCast]
theorem z9(p:Pb):SQ Tryz.prog 94 [.fp 10 [vT (cq p) p.t.n] 0 0] ((aB p).map fun x=>[gy x]):=by
 rw[<-Nv];refine KP (cq p) p.t.n fun x hx=>?_
 obtain⟨i,hi,rfl⟩:=List.getElem_of_mem hx;obtain⟨c,hc,e1,-⟩:=Bk p i hi;have e4:(cq p).prob=p:=rfl;rw[e1,e4];omega
theorem z'{p:Pb} {i:Nat} {ds:List D} (h:((aB p).map fun x=>[gy x])[i]?=some ds):∃ hi:i<(aB p).length,ds=[gy (aB p)[i]]/\(aB p).getD i default=(aB p)[i]:=by
 rw[List.getElem?_map]at h;by_cases hi:i<(aB p).length
 ·rw[List.getElem?_eq_getElem hi]at h;exact⟨hi,by simpa using h.symm,by simp[hi]⟩
 ·rw[List.getElem?_eq_none (by omega)]at h;cases h
theorem Qt{p:Pb} {m:Mac} {x:Py} (h:badB p m x=true):nW p m x=(madeT m x.inp x.word,jn p m x,true):=by
 have h1:=of_decide_eq_true h;unfold jn at h1 ⊢;unfold nW;split at h1
 ·simp at h1
 ·rename_i h2;split at h1
  ·simp at h1
  ·rename_i h3;rw[if_neg h2,if_neg h3,if_neg h2,if_neg h3]
theorem PQ(p:Pb) (m:Mac) (x:Py):badB p m x=((nW p m x).2.2&&decide ((nW p m x).2.1≠0)):=by
 unfold badB jn nW;split
 ·simp
 ·split
  ·simp
  ·simp
theorem De(p:Pb) (m:Mac) (hm:az p.a.states<=1099511627776) (hc:∀ c∈p.t.cases,kf c):FC Tryz.prog 14 [eI p,eT m] (.tup [oM (dP p m).1,iD (dP p m).2.1,bD (dP p m).2.2.1,iD (dP p m).2.2.2]):=by
 have hB:=oL p m hm;by_cases h0:bothE p m=0
 case neg=>
  have e:dP p m=(noTr,0,false,bothE p m):=by unfold dP;rw[if_pos h0]
  have hd:decide (bothE p m=0)=false:=decide_eq_false h0;rw[e];generalize bothE p m=er at hB hd;refine an Tryz.func14 rfl rfl rfl Tryz.call14 [] [] rfl 1 (fun hb w0 G0=>?_);clear hb;simp;refine ap hB ?_;simp[hd,noTr]
 have sO:=Dd p hm;rw[h0]at hB;by_cases h1:buildE p=0
 case neg=>
  have e:dP p m=(noTr,0,false,buildE p):=by unfold dP;rw[if_neg (by simpa using h0),if_pos h1]
  have hd:decide (buildE p=0)=false:=decide_eq_false h1;have hR:ra p=sys0:=if_neg h1;rw[hR]at sO;rw[e];generalize buildE p=er at sO hd;refine an Tryz.func14 rfl rfl rfl Tryz.call14 [] [] rfl 1 (fun hb w0 G0=>?_);clear hb;simp;refine ap hB ?_;simp;refine ap sO ?_;simp[hd,noTr]
 have hR:ra p=.agg (vT (cq p) p.t.n):=if_pos h1;rw[h1,hR]at sO;have o7:=C8 (cq p) p.t.n;have QM:=z9 p;have hJ:=fun i (h:i<(aB p).length)=>z3 p m (aB p)[i] hm hc
 obtain⟨q,hq⟩:∃ q,dP p m=q:=⟨_,rfl⟩;have dY:=hq;unfold dP at dY;rw[if_neg (by simpa using h0),if_neg (by simpa using h1)]at dY;rw[hq];refine an Tryz.func14 rfl rfl rfl Tryz.call14 [] [] rfl 1 (fun hb w0 G0=>?_);clear hb;simp;refine ap hB ?_;simp;refine ap sO ?_;simp;refine ap o7 ?_;simp;refine dX QM [2,3,4,5,6,7] [0,1,2,3] (fun _=>[]) (fun _=>[]) (fun i=>∀ j,j<i->badB p m ((aB p).getD j default)=false) (fun j h=>by omega) rfl (fun ds h=>by obtain⟨x,-,rfl⟩:=List.mem_map.1 h;rfl) (.inl rfl) (by simp) (fun i ds hi lj L r r' J' pr' fr' _=>?_) (fun mK=>?_)
 ·obtain⟨fR,rfl,eU⟩:=z' hi;clear hi;have xO:=hJ i fR;have uV:=PQ p m (aB p)[i];have QW:=fun (h:badB p m (aB p)[i]=true)=>Qt h
  have Rx:=fun (hb:badB p m ((aB p).getD i default)=true)=>Gd fR lj hb
  rw[eU]at Rx
  have aV:∀ h:badB p m (aB p)[i]=false,∀ j,j<i+1->badB p m ((aB p).getD j default)=false:=fun h j hj=>by
   by_cases e:j=i
   ·subst e;rw[eU];exact h
   ·exact lj j (by omega)
  obtain⟨⟨T,kd,ok⟩,hj⟩:∃ q,nW p m (aB p)[i]=q:=⟨_,rfl⟩;rw[hj]at xO uV QW;dsimp only at xO uV;generalize badB p m (aB p)[i]=b at uV QW Rx aV;simp;refine ap xO ?_;simp
  (refine Bz.split (fun h2=>?_) (fun h2=>?_)<;>(try simp only[decide_eq_true_eq,decide_eq_false_iff_not,Bool.not_eq_true',Bool.not_eq_false',beq_iff_eq,bne_iff_ne,beq_eq_false_iff_ne,bne_eq_false_iff_eq,Bool.not_not,Bool.and_eq_true,Bool.or_eq_true,Bool.and_eq_false_iff,Bool.or_eq_false_iff]at h2))
  ·subst h2;simp at uV;simp
   (refine Bz.split (fun h3=>?_) (fun h3=>?_)<;>(try simp only[decide_eq_true_eq,decide_eq_false_iff_not,Bool.not_eq_true',Bool.not_eq_false',beq_iff_eq,bne_iff_ne,beq_eq_false_iff_ne,bne_eq_false_iff_eq,Bool.not_not,Bool.and_eq_true,Bool.or_eq_true,Bool.and_eq_false_iff,Bool.or_eq_false_iff]at h3))
   ·have hb:b=true:=by rw[uV];simpa using h3
    have e1:=Rx hb;have e2:=QW hb;rw[e1,if_neg (by omega),Int.toNat_natCast,eU]at dY;rw[<-dY];simp at e2;simp[e2]
   ·have hb:b=false:=by rw[uV];simpa using h3
    simp;exact⟨aV hb,[0,1,2,3],by simp⟩
  ·subst h2;simp at uV;simp;exact⟨aV uV,[0,1,2,3],by simp⟩
 ·rw[List.length_map]at mK;rw[if_pos (IH mK)]at dY;rw[<-dY];simp[noTr]
abbrev R7(t:Tr):List AV:=[.d (aT t.inp),.d (bK t.word),.d (ez t.states),.d (CR t.msgs),.d (aT t.dec),.d (aT t.times)]
theorem HQ{p:Pb} {m:Mac} (h:bothE p m=0):bg p=0/\m.n=p.t.n:=by
 unfold bothE at h;split at h
 ·rename_i q;exact absurd h q
 rename_i q;split at h
 ·rename_i q;exact absurd h q
 split at h
 ·cases h
 rename_i q2;exact⟨by simpa using q,by omega⟩
theorem Nw(p:Pb) (m:Mac) (hm:az p.a.states<=1099511627776):FC Tryz.prog 11 [eI p,eT m] (.tup [oM (dH p m).1,iD (dH p m).2.1,iD (dH p m).2.2]):=by
 have hB:=oL p m hm;by_cases h0:bothE p m=0
 case neg=>
  have e:dH p m=(noTr,0,bothE p m):=by unfold dH;rw[if_pos h0]
  have hd:decide (bothE p m=0)=false:=decide_eq_false h0;rw[e];generalize bothE p m=er at hB hd;refine an Tryz.func11 rfl rfl rfl Tryz.call11 [] [] rfl 1 (fun hb w0 G0=>?_);clear hb;simp;refine ap hB ?_;simp[hd,noTr]
 have sO:=Dd p hm;rw[h0]at hB;by_cases h1:buildE p=0
 case neg=>
  have e:dH p m=(noTr,0,buildE p):=by unfold dH;rw[if_neg (by simpa using h0),if_pos h1]
  have hd:decide (buildE p=0)=false:=decide_eq_false h1;have hR:ra p=sys0:=if_neg h1;rw[hR]at sO;rw[e];generalize buildE p=er at sO hd;refine an Tryz.func11 rfl rfl rfl Tryz.call11 [] [] rfl 1 (fun hb w0 G0=>?_);clear hb;simp;refine ap hB ?_;simp;refine ap sO ?_;simp[hd,noTr]
 have hR:ra p=.agg (vT (cq p) p.t.n):=if_pos h1;rw[h1,hR]at sO;have o7:=C8 (cq p) p.t.n;have QM:=z9 p;obtain⟨hp,ij⟩:=HQ h0;have hJ:=fun i (h:i<(aB p).length)=>sJ m (aB p)[i].inp (aB p)[i].word
 have hT:∀ i (h:i<(aB p).length),playE m (aB p)[i].inp (aB p)[i].word=0->FC Tryz.prog 43 [iD m.n,iD p.rounds,oM (madeT m (aB p)[i].inp (aB p)[i].word)] (iD (timeS p.t.n.toNat p.rounds (madeT m (aB p)[i].inp (aB p)[i].word))):=fun i h hz=>by
  obtain⟨ht,-,-,k8,uO⟩:=cy hp;obtain⟨⟨htn1,htn5⟩,-⟩:=dL ht;have h2:=PN p.t.n.toNat p.rounds (madeT m (aB p)[i].inp (aB p)[i].word) ⟨k8,uO⟩ (by omega) (by unfold madeT;simp;omega)
  rwa [show ((p.t.n.toNat:Nat):Int)=m.n by omega]at h2
 obtain⟨q,hq⟩:∃ q,dH p m=q:=⟨_,rfl⟩;have dY:=hq;unfold dH at dY;rw[if_neg (by simpa using h0),if_neg (by simpa using h1)]at dY;rw[hq];clear ij;refine an Tryz.func11 rfl rfl rfl Tryz.call11 [] [] rfl 1 (fun hb w0 G0=>?_);clear hb;simp;refine ap hB ?_;simp;refine ap sO ?_;simp;refine ap o7 ?_;simp;refine Po 4 42 _ (R7 noTr) (by simp;rfl) (by simp[noTr]) ?_;refine dX QM [2,3,4,5,6,10,11] [0,1,2] (fun _=>[]) (fun i=>[(4,some (.box 42 (R7 (ia p m (aB p) i).1))),(5,some (.box 3 [.d (iD (ia p m (aB p) i).2)]))]) (fun i=>ay i (lD m (aB p))=0) rfl rfl (fun ds h=>by obtain⟨x,-,rfl⟩:=List.mem_map.1 h;rfl) (.inl rfl) (by simp[ia]) (fun i ds hi lj L r r' J' pr' fr' _=>?_) (fun mK=>?_)
 ·obtain⟨fR,rfl,eU⟩:=z' hi;clear hi;have xO:=hJ i fR;have FJ:=hT i fR;have hpe:lD m (aB p) i=playE m (aB p)[i].inp (aB p)[i].word:=by unfold lD;rw[eU]
  have fT:ia p m (aB p) (i+1)=if (ia p m (aB p) i).2<timeS p.t.n.toNat p.rounds (madeT m (aB p)[i].inp (aB p)[i].word) then(madeT m (aB p)[i].inp (aB p)[i].word,timeS p.t.n.toNat p.rounds (madeT m (aB p)[i].inp (aB p)[i].word)) else ia p m (aB p) i:=by
   show (if (ia p m (aB p) i).2<timeS p.t.n.toNat p.rounds (madeT m ((aB p).getD i default).inp ((aB p).getD i default).word) then _ else _)=_
   rw[eU]
  have Ic:=fun h=>aY lj (f:=lD m (aB p)) h
  have NN:=fun h=>aF fR lj (f:=lD m (aB p)) h
  rw[hpe]at Ic NN;have Q7:playE m (aB p)[i].inp (aB p)[i].word=0->pm m (aB p)[i].inp (aB p)[i].word=madeT m (aB p)[i].inp (aB p)[i].word:=fun h=>by unfold pm;rw[if_pos h]
  generalize playE m (aB p)[i].inp (aB p)[i].word=er at xO FJ Ic NN Q7;by_cases he:er=0
  case neg=>
   have hd:decide (er=0)=false:=decide_eq_false he;rw[NN he,if_pos he]at dY;simp;refine ap xO ?_;simp[hd];rw[<-dY];simp[noTr]
  have FJ:=FJ he;rw[Q7 he,he]at xO;have uN:=Ic he;generalize madeT m (aB p)[i].inp (aB p)[i].word=T at xO FJ fT;generalize timeS p.t.n.toNat p.rounds T=tm at FJ fT;obtain⟨⟨B,bm⟩,oU⟩:∃ q,ia p m (aB p) i=q:=⟨_,rfl⟩;rw[oU]at fT;dsimp only at fT;rw[oU];simp;refine ap xO ?_;simp;refine ap FJ ?_;simp
  (refine Bz.split (fun h2=>?_) (fun h2=>?_)<;>(try simp only[decide_eq_true_eq,decide_eq_false_iff_not,Bool.not_eq_true',Bool.not_eq_false',beq_iff_eq,bne_iff_ne,beq_eq_false_iff_ne,bne_eq_false_iff_eq,Bool.not_not,Bool.and_eq_true,Bool.or_eq_true,Bool.and_eq_false_iff,Bool.or_eq_false_iff]at h2))
  ·rw[if_pos h2]at fT;simp;exact⟨uN,[0,1,2,3,4,5],by simp[fT]⟩
  ·rw[if_neg h2]at fT;simp;exact⟨uN,[0,1,2,3,4,5],by simp[fT]⟩
 ·rw[List.length_map]at mK ⊢;rw[if_neg (by simpa using mK)]at dY;obtain⟨⟨B,bm⟩,oU⟩:∃ q,ia p m (aB p) (aB p).length=q:=⟨_,rfl⟩;rw[oU]at dY ⊢;rw[<-dY];simp;refine iL [4,5] 6 [3,3,0,2,2,2] ?_;simp;omega
theorem csok_ex:∀ c∈exP8.t.cases,kf c:=by
 simp[exP8,exCs,kf,cV]
theorem yQ(a b:Int) (ha:0<=a/\a<4) (hb:0<=b/\b<4):eD (cM a b):=by simp[eD,cM,cV];omega
theorem awake58_fn:FC Tryz.prog 10 [] (bD true):=by
 obtain⟨p,m,hX,Rv,hc⟩:∃ p m,Ex8 p m/\FC Tryz.prog 36 [] (.tup [eI p,eT m])/\∀ c∈p.t.cases,kf c:=⟨exP8,exM8,ex8_all,example_fn,csok_ex⟩;obtain⟨hN,hv,hw,u5,hmi,hsh⟩:=hX;have hm:az p.a.states<=1099511627776:=by omega
 have hV:=De p m hm hc;have hW:=Nw p m hm;obtain⟨⟨⟨T1,T2,T3,T4,T5,T6⟩,kd,fnd,e1⟩,dY⟩:∃ q,dP p m=q:=⟨_,rfl⟩;obtain⟨⟨⟨W1,W2,W3,W4,W5,W6⟩,tm,e2⟩,xS⟩:∃ q,dH p m=q:=⟨_,rfl⟩;rw[dY]at hV hv;rw[xS]at hW hw;dsimp only at hV hv hW hw;obtain⟨rfl,rfl,rfl,rfl,rfl⟩:=hv;obtain⟨rfl,rfl,rfl,rfl⟩:=hw;have hNb:=rz p ⟨[1,0],[cM 1 3]⟩ hm (by simp) (fun r hr=>by simp at hr;subst hr;exact yQ 1 3 (by omega) (by omega));have hMi:=Hy p m ⟨[0,1],[cM 3 2]⟩ hm hc (by simp) (fun r hr=>by simp at hr;subst hr;exact yQ 3 2 (by omega) (by omega));have hSh:=KO p m ⟨[0,1],[cM 3 2]⟩ hm hc (by simp) (fun r hr=>by simp at hr;subst hr;exact yQ 3 2 (by omega) (by omega));rw[u5]at hNb;rw[hmi]at hMi;rw[hsh]at hSh;clear u5 hmi hsh dY xS hN;have q1:FC Tryz.prog 37 [aT [0,1],aT [0,1]] (bD true):=fO [0,1] [0,1];have q2:FC Tryz.prog 37 [aT [0,0],aT [0,0]] (bD true):=fO [0,0] [0,0];have q3:∀ l,FC Tryz.prog 38 [bK l,bK l] (bD true):=fun l=>by have:=CS l l;rwa [decide_eq_true rfl]at this
 have q4:∀ x,FC Tryz.prog 40 [gy x,gy x] (bD true):=fun x=>by have:=KT x x;rwa [decide_eq_true rfl]at this
 refine an Tryz.func10 rfl rfl rfl Tryz.call10 [] [] rfl 1 (fun hb w0 G0=>?_);clear hb;simp;refine ap Rv ?_;simp;refine ap hV ?_;simp;refine ap hW ?_;simp;refine aO 48 ?_;simp;refine bL q1 ?_;simp;refine bL (kw 3 2) ?_;simp;refine bL (q3 [cM 3 2]) ?_;simp;refine bL q2 ?_;simp;refine bL (kw 1 3) ?_;simp;refine bL (q3 [cM 1 3]) ?_;simp;refine aO 11 ?_;simp;refine bL (kw 1 3) ?_;simp;refine bL hNb ?_;simp;refine ap hMi ?_;simp;refine ap hSh ?_;simp;refine ap (q4 ⟨[0,1],[cM 3 2]⟩) ?_;simp;refine aO 19 ?_;simp;refine bL (kw 3 3) ?_;simp;refine bL (q4 ⟨[1,0],[cM 3 3]⟩) ?_;simp;refine bL (kw 1 3) ?_;simp;refine bL (q4 ⟨[0,0],[cM 1 3]⟩) ?_;simp
theorem K0{p:Pb} (h:qT p=true):az p.a.states<=1099511627776:=by
 unfold qT at h;split at h
 ·cases h
 split at h
 ·cases h
 rename_i h2;have:p.a.states.length<=8/\az p.a.states<=40:=by simpa using h2
 omega
theorem FC.fnv{P:Program} {f:FuncId} {a b r:D} {g:Fn} (h:FC P f [a,b,.fn g [] []] r):FC P f [a,b,.v (.func g #[] #[])] r:=
 ⟨h.1,fun G us w h1 h2 h3=>h.2 G us w h1 h2 fun i y hy=>by
  match i,hy with
  | 0,hy=>exact h3 0 y hy
  | 1,hy=>exact h3 1 y hy
  | 2,hy=>
   cases hy
   have:=(h3 2 _ rfl).val;rw[this]
   exact .fn g [] [] #[] #[] rfl rfl (fun i x hx=>by cases hx) (fun i x hx=>by cases hx)⟩
theorem AK(p:Pb) (x:Py) (hw:∀ r∈x.word,eD r):FC Tryz.prog 5 [eI p,gy x] (bD true):=by
 have hF:=(Ns p ⟨0,0,0,0,[],[],[],[]⟩ [x]).arg (args':=[eI p,.agg [iD 0,iD 0,iD 0,iD 0,nilD,nilD,nilD,nilD],.fz 2 [ry x]]) (by simp[dqL,dq,dqR,dqR_refl]);have hA:=awake58_fn;have hN:=fun hm h=>rz p x hm h hw
 have hR:=fun hm=>xr p x hm
 have hE:=(KU (fI p x).1 (fI p x).1 19 Nr).fnv;rw[decide_eq_true rfl]at hE;obtain⟨⟨l,er⟩,hq⟩:∃ q,fI p x=q:=⟨_,rfl⟩;rw[hq]at hN hR hE;dsimp only at hN hR hE;clear hq;refine an Tryz.func5 rfl rfl rfl Tryz.call5 [] [] rfl 1 (fun hb w0 G0=>?_);clear hb;simp;refine Jo hF (fun r hr=>Exists.elim hr fun b bo=>?_);rw[bo.1];simp;refine cw b (fun e=>?_) (fun e=>?_)
 ·simp[e];refine ap hA ?_;simp
 ·have h3:=(bo.2 e).2 x (by simp);have hm:=K0 (bo.2 e).1;have hN:=hN hm (by unfold pU at h3;simp at h3;omega);have hR:=hR hm;simp[e];refine ap hN ?_;simp;refine ap hR ?_;simp;refine ap hA ?_;simp;refine ap hE ?_;simp
end Go.Proofs.YtiocdkdkndpgkaaGreat
namespace Go.Proofs.YtiocdkdkndpgkaaGreat
open Go.RowKit Go
theorem yR(p:Pb) (vc vs ui uw:Value) (y:Py) (W:World) (hc:it W vc p.t.cases) (hs:cO W vs p.a.states) (hi:cW W ui y.inp) (hw:iP W uw y.word) :
  Calls Tryz.prog 5 #[.agg #[.int .i64 p.t.n,.int .i64 p.t.ins,.int .i64 p.t.outs,vc,.int .i64 p.a.n,vs,.int .i64 p.rounds],.agg #[ui,uw]] W fun e w'=>e=.returned (.bool true)/\Below W.heap.size W w':=
 (AK p y (ME hw)).law (us:=[_,_]) ⟨Fh (vs:=[_,_,_,_,_,_,_]) ⟨.v _,.v _,.v _,JI hc,.v _,GM hs,.v _,trivial⟩,Fh (vs:=[_,_]) ⟨MC hi,MD hw,trivial⟩,trivial⟩
end Go.Proofs.YtiocdkdkndpgkaaGreat
