/-
  A part of the proof: lemmas and contracts that the parts behind it use. Each one's conditions are its own premises.
-/
import Derived.Test.YtiocdkdkndpgkaaGreatN9
set_option maxRecDepth 100000
set_option maxHeartbeats 8000000
set_option linter.unusedVariables false
set_option linter.unusedSimpArgs false
namespace Go.Proofs.YtiocdkdkndpgkaaGreat
open Go.RowKit Go
attribute [local simp] bu bv
theorem Hb(a:Adv) (s:Int) (word:List Rd) (k:Nat) (h:k<word.length):aQ a s (word.drop k)=if toS a s word[k]<0 then -1 else aQ a (toS a s word[k]) (word.drop (k+1)):=by
 rw[List.drop_eq_getElem_cons h,aQ]
theorem pk(a:Adv) (s0:Nat) (word:List Rd) (ha:advE a=0) (hs:s0<a.states.length):FC Tryz.prog 113 [gR a,iD s0,bK word] (iD (aQ a s0 word)):=by
 refine an Tryz.func113 rfl rfl rfl Tryz.call113 [] [] rfl 3 (fun hb w0 G0=>?_);simp at hb;have cJ:=(cZ ha).2.1;generalize hr:aQ a s0 word=r;simp;refine am [2,3] [] (fun x:Nat × Int=>[(1,.d (iD x.2)),(7,.d (iD x.1))]) (fun _=>[]) (fun x=>word.length - x.1) (fun x=>x.1<=word.length/\(x.2=-1/\r=-1\/0<=x.2/\x.2<a.states.length/\r=aQ a x.2 (word.drop x.1))) (0,(s0:Int)) ⟨by simp,.inr ⟨by simp,by simpa using hs,by simpa using hr.symm⟩⟩ (by simp) (fun x hk=>?_);obtain⟨k,s⟩:=x;obtain⟨hk,hx⟩:=hk;dsimp only at hk hx;simp
 (refine Bz.split (fun h=>?_) (fun h=>?_)<;>(try simp only[decide_eq_true_eq,decide_eq_false_iff_not,Bool.not_eq_true',Bool.not_eq_false',beq_iff_eq,bne_iff_ne,beq_eq_false_iff_ne,bne_eq_false_iff_eq,Bool.not_not,Bool.and_eq_true,Bool.or_eq_true,Bool.and_eq_false_iff,Bool.or_eq_false_iff]at h))
 ·have hd:decide (k<word.length)=true:=by simpa using h
  simp[hd]
  (refine Bz.split (fun h2=>?_) (fun h2=>?_)<;>(try simp only[decide_eq_true_eq,decide_eq_false_iff_not,Bool.not_eq_true',Bool.not_eq_false',beq_iff_eq,bne_iff_ne,beq_eq_false_iff_ne,bne_eq_false_iff_eq,Bool.not_not,Bool.and_eq_true,Bool.or_eq_true,Bool.and_eq_false_iff,Bool.or_eq_false_iff]at h2))
  ·rcases hx with ⟨e,_⟩|⟨e1,e2,e3⟩
   ·omega
   obtain⟨n,rfl⟩:=Int.eq_ofNat_of_zero_le e1;simp[h2,h];refine aO 8 ?_;simp[h];refine bL (MW a n word[k] (by omega)) ?_;simp;rw[Hb a n word k h]at e3;have ht:=rN cJ n (by omega) word[k];generalize toS a n word[k]=t at e3 ht ⊢;refine vg (ar.of (k+1,t) [] (by simp) ⟨⟨h,?_⟩,by simp;omega⟩);rcases ht with e|⟨q1,q2⟩
   ·exact .inl ⟨e,by rw[e3,if_pos (by omega)]⟩
   ·exact .inr ⟨q1,q2,by rw[e3,if_neg (by omega)]⟩
  ·simp[h2];rcases hx with ⟨e,e2⟩|⟨e1,e2,e3⟩
   ·rw[e,e2]
   ·omega
 have hd:decide (k<word.length)=false:=by simpa using h
 simp[hd];have e:k=word.length:=by omega
 subst e;rcases hx with ⟨e,e2⟩|⟨e1,e2,e3⟩
 ·rw[e,e2]
 ·rw[e3];simp[aQ]
theorem Hc(p:Pb) (x:Py) (hp:bg p=0):FC Tryz.prog 57 [eI p,gy x] (iD (rightE p x)):=by
 refine an Tryz.func57 rfl rfl rfl Tryz.call57 [] [3] rfl 3 (fun hb w0 G0=>?_);simp at hb;obtain⟨-,ha,-⟩:=cy hp;obtain⟨hs,-⟩:=cZ ha;generalize hr:rightE p x=r;unfold rightE at hr;simp;refine ap (uF p.t x.inp) ?_;simp
 (refine Bz.split (fun h=>?_) (fun h=>?_)<;>(try simp only[decide_eq_true_eq,decide_eq_false_iff_not,Bool.not_eq_true',Bool.not_eq_false',beq_iff_eq,bne_iff_ne,beq_eq_false_iff_ne,bne_eq_false_iff_eq,Bool.not_not,Bool.and_eq_true,Bool.or_eq_true,Bool.and_eq_false_iff,Bool.or_eq_false_iff]at h))<;>simp[h]
 ·rw[<-hr,if_pos h]
 rw[if_neg h]at hr;refine bj [] [] (fun b:Bool=>[(24,.d (bD b))]) (fun _=>[]) (fun b=>b=!permB p x.word) ?_ (fun b be=>?_)
 ·simp
  (refine Bz.split (fun h2=>?_) (fun h2=>?_)<;>(try simp only[decide_eq_true_eq,decide_eq_false_iff_not,Bool.not_eq_true',Bool.not_eq_false',beq_iff_eq,bne_iff_ne,beq_eq_false_iff_ne,bne_eq_false_iff_eq,Bool.not_not,Bool.and_eq_true,Bool.or_eq_true,Bool.and_eq_false_iff,Bool.or_eq_false_iff]at h2))
  ·simp[h2];refine ap (pk p.a 0 x.word ha (by omega)) ?_;simp;exact Mt.is (by simp[permB,h2];by_cases q:aQ p.a 0 x.word<0<;>simp[q]<;>omega)
  ·simp[h2];exact Mt.is (by simp[permB,h2])
 cases b<;>simp at be ⊢
 ·rw[<-hr,if_pos be]
 ·rw[<-hr,if_neg (by simp[be])]
theorem zN(l:List (List Mv)) (s:Nat) (h:s<l.length):l[s].length<=az l:=by
 have h1:=fX l s h;have h2:=pA l s h;omega
theorem zO{a:Adv} (h:advE a=0):az a.states<=4096:=by
 unfold advE at h;split at h
 ·omega
 ·split at h
  ·omega
  ·omega
theorem xp(p:Pb) (x:Py) (k:Nat) (l:List Mv) (j:Nat):(fJ p x k l j).length<=l.length:=by
 unfold fJ;rw[List.length_map];exact Nat.le_trans (List.length_filter_le _ _) (by simp;omega)
theorem vO{p:Pb} {x:Py} (hp:bg p=0) (hx:rightE p x=0):∀ k,k<=x.word.length->(j8 p x k).length<=k * 4096
 | 0,_=>by simp[zf]
 | k+1,h=>by
  obtain⟨s,gg,eV⟩:=wx hp hx k;have h1:=vO hp hx k (by omega);have h2:=xp p x k (p.a.states.getD (aQ p.a 0 (x.word.take k)).toNat []) (p.a.states.getD (aQ p.a 0 (x.word.take k)).toNat []).length
  have h3:(p.a.states.getD (aQ p.a 0 (x.word.take k)).toNat []).length<=4096:=by
   rw[gg,Int.toNat_natCast,aj [] eV];exact Nat.le_trans (zN _ _ eV) (zO (cy hp).2.1)
  rw[zi,List.length_append];omega
theorem CJ{n:Int} {r:Rd} (h:OkR n r):∀ q,0<=r.g.hear q/\r.g.hear q<=9223372036854775807:=fun q=>by
 by_cases hq:q<5
 ·have:=h.h q hq;omega
 ·have:r.g.hear q=0:=by
   match q,hq with
   | n+5,_=>rfl
  omega
theorem MX(l:List Rd) (n:Nat):bK (l.take n)=.fz 7 ((l.map nQ).take n):=by simp[bK,List.map_take]
theorem Fm(l:List Rd) (n:Nat) (r:Rd):bK (l.set n r)=.fz 7 ((l.map nQ).set n (nQ r)):=by simp[bK,List.map_set]
theorem PC(l:List Int) (n:Nat) (r:Int):aT (l.set n r)=.fz 1 ((l.map fun x=>[iD x]).set n [iD r]):=by simp[aT,List.map_set]
theorem Hd(p:Pb) (x:Py) (hp:bg p=0) (hx:rightE p x=0):FC Tryz.prog 58 [eI p,gy x] (.fz 2 ((nearS p x).map fun y=>[aT y.inp,bK y.word])):=by
 refine an Tryz.func58 rfl rfl rfl Tryz.call58 [] [] rfl 3 (fun hb w0 G0=>?_);simp at hb;rw[<-LQ hp hx];simp;refine ml 5 62 2 (by simp) ?_;refine am [2,3] [] (fun k:Nat=>[(6,.d (iD k)),(5,.sl 0 (j8 p x k).length)]) (fun k=>[(0,some (.row 62 2 ((j8 p x k).map fun y=>[aT y.inp,bK y.word])))]) (fun k=>x.word.length - k) (fun k=>k<=x.word.length) 0 (by omega) (by simp[zf]) (fun k hk=>?_);simp
 (refine Bz.split (fun h=>?_) (fun h=>?_)<;>(try simp only[decide_eq_true_eq,decide_eq_false_iff_not,Bool.not_eq_true',Bool.not_eq_false',beq_iff_eq,bne_iff_ne,beq_eq_false_iff_ne,bne_eq_false_iff_eq,Bool.not_not,Bool.and_eq_true,Bool.or_eq_true,Bool.and_eq_false_iff,Bool.or_eq_false_iff]at h))<;>simp[h]
 ·refine aO 13 ?_;simp;obtain⟨s,gg,eV⟩:=wx hp hx k;obtain⟨-,ha,hn,lv⟩:=cy hp;obtain⟨hsa,cJ,-⟩:=cZ ha;obtain⟨ip,lf⟩:=dj.1 hx;obtain⟨hx3,hx4⟩:=jo lf;have hA:=pk p.a 0 (x.word.take k) ha (by omega);rw[show ((0:Nat):Int)=0 from rfl,gg,MX]at hA;have sX:=eQ ha (iX x.word 0 hx4 x.word[k] (List.getElem_mem h));refine vg (bL hA ?_);simp[eV];have fT:=hb.1.2.2 p.a.states[s] (by simp);have ek:∀ j,j8 p x k++fJ p x k p.a.states[s] j=j8 p x k++fJ p x k p.a.states[s] j:=fun _=>rfl
  refine am [2,3,6,7] [] (fun j:Nat=>[(8,.d (iD j)),(5,.sl 0 (j8 p x k++fJ p x k p.a.states[s] j).length)]) (fun j=>[(0,some (.row 62 2 ((j8 p x k++fJ p x k p.a.states[s] j).map fun y=>[aT y.inp,bK y.word])))]) (fun j=>p.a.states[s].length - j) (fun j=>j<=p.a.states[s].length) 0 (by omega) (by simp[fJ]) (fun j hj=>?_)
  have FX:(j8 p x k++fJ p x k p.a.states[s] j).length<=100000:=by
   have h1:=vO hp hx k hk;have h2:=xp p x k p.a.states[s] j;have h3:=zN p.a.states s eV;have h4:=zO ha;rw[List.length_append];omega
  generalize je:j8 p x k++fJ p x k p.a.states[s] j=acc at FX;simp
  (refine Bz.split (fun h2=>?_) (fun h2=>?_)<;>(try simp only[decide_eq_true_eq,decide_eq_false_iff_not,Bool.not_eq_true',Bool.not_eq_false',beq_iff_eq,bne_iff_ne,beq_eq_false_iff_ne,bne_eq_false_iff_eq,Bool.not_not,Bool.and_eq_true,Bool.or_eq_true,Bool.and_eq_false_iff,Bool.or_eq_false_iff]at h2))<;>simp[h2]
  ·have vV:p.a.states[s][j].r∈aU p.a:=nK (s:=s) (List.mem_map.2 ⟨p.a.states[s][j],by simp[eV],rfl⟩);have Oa:=eQ ha vV;have oW:=DZ p x k p.a.states[s] j h2;have hA2:=pk p.a 0 (x.word.set k p.a.states[s][j].r) ha (by omega);rw[show ((0:Nat):Int)=0 from rfl,Fm]at hA2;have hR:=yI x.word k p.a.states[s][j].r h (by omega);rw[Fm]at hR;refine aO 10 ?_;simp[h2];refine bL hR ?_;simp;refine aO 18 ?_;simp[h2,h];refine bL (AG p.a.states[s][j].r x.word[k] (by have:=sX.n1;have:=sX.gn;omega) (CJ sX) (CJ Oa) (by have:=sX.f;omega) (by have:=Oa.f;omega)) ?_;simp;have sW:kn p x k p.a.states[s][j].r=(nJ p.a.states[s][j].r x.word[k]&&decide (0<=aQ p.a 0 (x.word.set k p.a.states[s][j].r))):=by simp[kn,h]
   (refine Bz.split (fun h5=>?_) (fun h5=>?_)<;>(try simp only[decide_eq_true_eq,decide_eq_false_iff_not,Bool.not_eq_true',Bool.not_eq_false',beq_iff_eq,bne_iff_ne,beq_eq_false_iff_ne,bne_eq_false_iff_eq,Bool.not_not,Bool.and_eq_true,Bool.or_eq_true,Bool.and_eq_false_iff,Bool.or_eq_false_iff]at h5))
   ·rw[h5]at sW;simp[h5];refine bL hA2 ?_;simp[h5]
    (refine Bz.split (fun h3=>?_) (fun h3=>?_)<;>(try simp only[decide_eq_true_eq,decide_eq_false_iff_not,Bool.not_eq_true',Bool.not_eq_false',beq_iff_eq,bne_iff_ne,beq_eq_false_iff_ne,bne_eq_false_iff_eq,Bool.not_not,Bool.and_eq_true,Bool.or_eq_true,Bool.and_eq_false_iff,Bool.or_eq_false_iff]at h3))
    ·simp;rw[sW]at oW;simp[h3]at oW
     repeat refine vg ?_
     exact ar.of (j+1) [1] (by simp[oW,<-je];omega)
    ·simp;rw[sW]at oW;simp[h3]at oW
     repeat refine vg ?_
     exact ar.of (j+1) [0] (by simp[oW,<-je])
   ·rw[h5]at sW;simp at sW;simp[h5]
    repeat refine vg ?_
    rw[sW]at oW;simp at oW;exact ar.of (j+1) [0] (by simp[oW,<-je])
  ·have e:j=p.a.states[s].length:=by omega
   subst e
   have ea:j8 p x (k+1)=acc:=by
    rw[zi,gg,<-je];simp[eV]
   repeat refine vg ?_
   exact ar.of (k+1) [0] (by simp[ea])
 have e:k=x.word.length:=by omega
 subst e;obtain⟨oh,DB⟩:=gA hp hx;have tv:=(fK hp hx).1;have hacl:=vO hp hx x.word.length (Nat.le_refl _);generalize je:j8 p x x.word.length=acc at hacl
 have u7:∀ q v,v<=8->(ug p x q v).length<=8:=fun q v h=>by
  unfold ug;rw[List.length_map];exact Nat.le_trans (List.length_filter_le _ _) (by simpa using h)
 have hni:∀ q,jX p x q=ug p x q (x.inp.getD q 0).toNat:=fun q=>rfl
 have oO:∀ q,q<=x.inp.length->((List.range q).flatMap (jX p x)).length<=q * 8:=by
  intro q;induction q with
  | zero=>intro _;simp
  | succ q ih=>
   intro h;have h1:=DB q (by omega);have h2:=u7 q (x.inp.getD q 0).toNat (by omega);have h3:=ih (by omega);rw[List.range_succ,List.flatMap_append,List.flatMap_singleton,List.length_append,hni];omega
 refine am [2,3] [] (fun q:Nat=>[(10,.d (iD q)),(5,.sl 0 (acc++(List.range q).flatMap (jX p x)).length)]) (fun q=>[(0,some (.row 62 2 ((acc++(List.range q).flatMap (jX p x)).map fun y=>[aT y.inp,bK y.word])))]) (fun q=>x.inp.length - q) (fun q=>q<=x.inp.length) 0 (by omega) (by simp) (fun q hq=>?_);have Qy:=oO q hq;generalize hB:acc++(List.range q).flatMap (jX p x)=B;have FQ:B.length<=50000:=by rw[<-hB,List.length_append];omega
 simp
 (refine Bz.split (fun h2=>?_) (fun h2=>?_)<;>(try simp only[decide_eq_true_eq,decide_eq_false_iff_not,Bool.not_eq_true',Bool.not_eq_false',beq_iff_eq,bne_iff_ne,beq_eq_false_iff_ne,bne_eq_false_iff_eq,Bool.not_not,Bool.and_eq_true,Bool.or_eq_true,Bool.and_eq_false_iff,Bool.or_eq_false_iff]at h2))<;>simp[h2]
 ·have Ly:=DB q h2;rw[aj 0 h2]at Ly;refine am [2,3,10] [] (fun v:Nat=>[(11,.d (iD v)),(5,.sl 0 (B++ug p x q v).length)]) (fun v=>[(0,some (.row 62 2 ((B++ug p x q v).map fun y=>[aT y.inp,bK y.word])))]) (fun v=>x.inp[q].toNat - v) (fun v=>v<=x.inp[q].toNat) 0 (by omega) (by simp[ug]) (fun v hv=>?_);have hnv:=u7 q v (by omega);have oW:=LS p x q v;generalize hC:B++ug p x q v=C;have hCl:C.length<=50008:=by rw[<-hC,List.length_append];omega
  simp[h2]
  (refine Bz.split (fun h3=>?_) (fun h3=>?_)<;>(try simp only[decide_eq_true_eq,decide_eq_false_iff_not,Bool.not_eq_true',Bool.not_eq_false',beq_iff_eq,bne_iff_ne,beq_eq_false_iff_ne,bne_eq_false_iff_eq,Bool.not_not,Bool.and_eq_true,Bool.or_eq_true,Bool.and_eq_false_iff,Bool.or_eq_false_iff]at h3))
  ·have hS:=AF x.inp q v h2 (by omega);have hI:=uF p.t (x.inp.set q v);rw[PC]at hS hI;simp[h3,h2];refine ap hS ?_;simp;refine ap hI ?_;simp
   (refine Bz.split (fun h4=>?_) (fun h4=>?_)<;>(try simp only[decide_eq_true_eq,decide_eq_false_iff_not,Bool.not_eq_true',Bool.not_eq_false',beq_iff_eq,bne_iff_ne,beq_eq_false_iff_ne,bne_eq_false_iff_eq,Bool.not_not,Bool.and_eq_true,Bool.or_eq_true,Bool.and_eq_false_iff,Bool.or_eq_false_iff]at h4))
   ·simp;simp[h4]at oW
    repeat refine vg ?_
    exact ar.of (v+1) [1] (by simp[oW,<-hC];omega)
   ·simp;simp[h4]at oW
    repeat refine vg ?_
    exact ar.of (v+1) [0] (by simp[oW,<-hC])
  ·simp[h3];have e:v=x.inp[q].toNat:=by omega
   subst e
   have eB:acc++(List.range (q+1)).flatMap (jX p x)=C:=by
    rw[List.range_succ,List.flatMap_append,List.flatMap_singleton,hni,<-List.append_assoc,hB,<-hC,aj 0 h2]
   repeat refine vg ?_
   exact ar.of (q+1) [0] (by simp[eB])
 ·have e:q=x.inp.length:=by omega
  subst e;have en:Gb p x=B:=by rw[<-hB,<-je];rfl
  rw[en];simp;omega
theorem xr(p:Pb) (x:Py) (hm:az p.a.states<=1099511627776):FC Tryz.prog 17 [eI p,gy x] (.tup [.fz 2 ((fI p x).1.map fun y=>[aT y.inp,bK y.word]),iD (fI p x).2]):=by
 refine an Tryz.func17 rfl rfl rfl Tryz.call17 [] [] rfl 3 (fun hb w0 G0=>?_);generalize hr:fI p x=r;unfold fI at hr;simp;refine ap (pj p hm) ?_;simp
 (refine Bz.split (fun h=>?_) (fun h=>?_)<;>(try simp only[decide_eq_true_eq,decide_eq_false_iff_not,Bool.not_eq_true',Bool.not_eq_false',beq_iff_eq,bne_iff_ne,beq_eq_false_iff_ne,bne_eq_false_iff_eq,Bool.not_not,Bool.and_eq_true,Bool.or_eq_true,Bool.and_eq_false_iff,Bool.or_eq_false_iff]at h))<;>simp[h]
 ·rw[<-hr,if_pos h];simp
 rw[if_neg (by omega)]at hr;refine ap (Hc p x (by omega)) ?_;simp
 (refine Bz.split (fun h2=>?_) (fun h2=>?_)<;>(try simp only[decide_eq_true_eq,decide_eq_false_iff_not,Bool.not_eq_true',Bool.not_eq_false',beq_iff_eq,bne_iff_ne,beq_eq_false_iff_ne,bne_eq_false_iff_eq,Bool.not_not,Bool.and_eq_true,Bool.or_eq_true,Bool.and_eq_false_iff,Bool.or_eq_false_iff]at h2))<;>simp[h2]
 ·rw[<-hr,if_pos h2];simp
 rw[if_neg (by omega)]at hr;refine ap (Hd p x (by omega) (by omega)) ?_;simp[<-hr]
abbrev Sf(a b c d e:Int):D:=.agg [iD a,iD b,iD c,iD d,iD e]
def hC(f:Nat->Int) (q j:Nat):Int:=if j<q then f j else 0
theorem He(n:Int):FC Tryz.prog 206 [iD n] (iD (if n<1\/5<n then 1 else 0)):=by
 refine an Tryz.func206 rfl rfl rfl Tryz.call206 [] [] rfl 1 (fun hb w0 G0=>?_);simp
 (refine Bz.split (fun h=>?_) (fun h=>?_)<;>(try simp only[decide_eq_true_eq,decide_eq_false_iff_not,Bool.not_eq_true',Bool.not_eq_false',beq_iff_eq,bne_iff_ne,beq_eq_false_iff_ne,bne_eq_false_iff_eq,Bool.not_not,Bool.and_eq_true,Bool.or_eq_true,Bool.and_eq_false_iff,Bool.or_eq_false_iff]at h))<;>simp[h]
 (refine Bz.split (fun h2=>?_) (fun h2=>?_)<;>(try simp only[decide_eq_true_eq,decide_eq_false_iff_not,Bool.not_eq_true',Bool.not_eq_false',beq_iff_eq,bne_iff_ne,beq_eq_false_iff_ne,bne_eq_false_iff_eq,Bool.not_not,Bool.and_eq_true,Bool.or_eq_true,Bool.and_eq_false_iff,Bool.or_eq_false_iff]at h2))<;>simp[h2]
 omega
def CL(l:List Rd):List (List D):=(List.range l.length).map fun i=>[iD (eY l i),mJ (l.getD i default)]
theorem qU(l:List Rd):(CL l).length=l.length:=by simp[CL]
theorem Ka{l:List Rd} {i:Nat} {ds:List D} (h:(CL l)[i]?=some ds):∃ hi:i<l.length,ds=[iD (eY l i),mJ l[i]]:=by
 obtain⟨hi,rfl⟩:=List.getElem?_eq_some_iff.1 h;rw[qU]at hi;exact⟨hi,by simp[CL,hi]⟩
theorem PD{l:List Rd}:∀ ds∈CL l,ds.length=(#[19,20]:Array Nat).size:=fun ds h=>by
 obtain⟨i,hi,rfl⟩:=List.getElem_of_mem h;obtain⟨_,e⟩:=Ka (List.getElem?_eq_getElem hi);rw[e];rfl
theorem Kb(l:List Rd):SQ Tryz.prog 254 [.fp 1 [[bK l]] 0 0] (CL l):=by
 refine qN 3 (fun hb=>?_) Tryz.call254;simp at hb;refine qJ Tryz.func254 rfl rfl rfl Tryz.call254 [] [] rfl (fun w0 G0 yl J hR=>vs ?_);rw[qU];simp;refine dM [0,1,6,7] [] (fun k:Nat=>[(3,.d (iD (eY l k))),(8,.d (iD k))]) (fun _=>[]) (fun k=>k+1) (fun k=>l.length - k) (fun k=>k<=l.length) 0 (by omega) (by simp[eY]) (fun k hk=>?_);simp
 (refine Bz.split (fun h=>?_) (fun h=>?_)<;>(try simp only[decide_eq_true_eq,decide_eq_false_iff_not,Bool.not_eq_true',Bool.not_eq_false',beq_iff_eq,bne_iff_ne,beq_eq_false_iff_ne,bne_eq_false_iff_eq,Bool.not_not,Bool.and_eq_true,Bool.or_eq_true,Bool.and_eq_false_iff,Bool.or_eq_false_iff]at h))<;>simp[h]
 ·refine zs k hR (by simp[CL,h]) rfl ?_ ?_
  ·simp;exact vg (ar.of (k+1) [] (by simp[eY,h]))
  ·simp
 ·omega
theorem MY(l:List Rd):FC Tryz.prog 207 [bK l] (.fn (.func 254) [] [.fp 1 [[bK l]] 0 0]):=by
 refine an Tryz.func207 rfl rfl rfl Tryz.call207 [] [] rfl 1 (fun hb w0 G0=>?_);simp
theorem CM{r:Rd} (h:roundE r=0):0<=r.f/\r.f<32:=by
 unfold roundE at h;split at h
 ·rename_i h1;exact absurd h h1
 ·exact EN h
theorem CN(n:Int) (l:List Rd):FC Tryz.prog 128 [iD n,bK l] (iD (jl n l)):=by
 refine an Tryz.func128 rfl rfl rfl Tryz.call128 [] [] rfl 3 (fun hb w0 G0=>?_);generalize hr:jl n l=r;unfold jl at hr;simp;refine ap (He n) ?_;simp
 (refine Bz.split (fun h1=>?_) (fun h1=>?_)<;>(try simp only[decide_eq_true_eq,decide_eq_false_iff_not,Bool.not_eq_true',Bool.not_eq_false',beq_iff_eq,bne_iff_ne,beq_eq_false_iff_ne,bne_eq_false_iff_eq,Bool.not_not,Bool.and_eq_true,Bool.or_eq_true,Bool.and_eq_false_iff,Bool.or_eq_false_iff]at h1))<;>simp[h1]
 ·have e:n<1\/5<n:=by by_cases e:n<1\/5<n<;>simp[e]at h1 ⊢<;>omega
  rw[<-hr,if_pos e];simp[e]
 have e:¬ (n<1\/5<n):=by omega
 rw[if_neg e]at hr
 (refine Bz.split (fun h2=>?_) (fun h2=>?_)<;>(try simp only[decide_eq_true_eq,decide_eq_false_iff_not,Bool.not_eq_true',Bool.not_eq_false',beq_iff_eq,bne_iff_ne,beq_eq_false_iff_ne,bne_eq_false_iff_eq,Bool.not_not,Bool.and_eq_true,Bool.or_eq_true,Bool.and_eq_false_iff,Bool.or_eq_false_iff]at h2))<;>simp[h2]
 ·rw[<-hr,if_pos (by omega)]
 rw[if_neg (by omega)]at hr;refine ap (MY l) ?_;simp;refine dX (Kb l) [2,4] [0] (fun _=>[]) (fun _=>[]) (fun i=>ay i (pC n l)=0) rfl rfl PD (.inl rfl) (by simp) (fun i ds hi lj L r r' J' pr' fr' _=>?_) (fun mK=>?_)
 ·obtain⟨fR,rfl⟩:=Ka hi;clear hi
  have hprev:0<=eY l i/\eY l i<32:=by
   unfold eY;split
   ·omega
   ·have:=bH lj (i - 1) (by omega);unfold pC at this;split at this
    ·rename_i h5;exact absurd this h5
    ·rename_i h5;exact CM (by simpa using h5)
  have ew:pC n l i=if roundE l[i]≠0 then roundE l[i] else if l[i].g.n≠n then 22 else if !bF (eY l i) l[i].f then 14 else 0:=by simp[pC,fR]
  simp;refine ap (zI l[i]) ?_;simp
  (refine Bz.split (fun h3=>?_) (fun h3=>?_)<;>(try simp only[decide_eq_true_eq,decide_eq_false_iff_not,Bool.not_eq_true',Bool.not_eq_false',beq_iff_eq,bne_iff_ne,beq_eq_false_iff_ne,bne_eq_false_iff_eq,Bool.not_not,Bool.and_eq_true,Bool.or_eq_true,Bool.and_eq_false_iff,Bool.or_eq_false_iff]at h3))<;>simp[h3]
  ·rw[<-hr,aF fR lj (by rw[ew,if_pos h3];exact h3),ew,if_pos h3]
  rw[if_neg (by omega)]at ew;have hf:=CM (by omega:roundE l[i]=0)
  (refine Bz.split (fun h4=>?_) (fun h4=>?_)<;>(try simp only[decide_eq_true_eq,decide_eq_false_iff_not,Bool.not_eq_true',Bool.not_eq_false',beq_iff_eq,bne_iff_ne,beq_eq_false_iff_ne,bne_eq_false_iff_eq,Bool.not_not,Bool.and_eq_true,Bool.or_eq_true,Bool.and_eq_false_iff,Bool.or_eq_false_iff]at h4))<;>simp[h4]
  ·rw[<-hr,aF fR lj (by rw[ew,if_pos h4];decide),ew,if_pos h4]
  rw[if_neg (by omega)]at ew
  have ha:decide (bits .andNot .i64 (eY l i) l[i].f=0)=bF (eY l i) l[i].f:=by
   have:=ic _ _ hprev.1 hprev.2 hf.1 hf.2;cases hq:bF (eY l i) l[i].f<;>simp[hq]at this ⊢<;>exact this
  rw[ha]
  (refine Bz.split (fun h5=>?_) (fun h5=>?_)<;>(try simp only[decide_eq_true_eq,decide_eq_false_iff_not,Bool.not_eq_true',Bool.not_eq_false',beq_iff_eq,bne_iff_ne,beq_eq_false_iff_ne,bne_eq_false_iff_eq,Bool.not_not,Bool.and_eq_true,Bool.or_eq_true,Bool.and_eq_false_iff,Bool.or_eq_false_iff]at h5))<;>simp[h5]
  ·rw[<-hr,aF fR lj (by rw[ew];simp[h5]),ew];simp[h5]
  ·exact⟨aY lj (by rw[ew];simp[h5]),[0],by simp⟩
 ·rw[qU]at mK;simp;rw[<-hr,mK]
theorem Kc(m:Mac) (n r k p:Nat) (now:List Int) (set:Int) (hg:Good m n r) (hk:k<r) (hp:p<n) (hn:Bh m n k now) :
  FC Tryz.prog 224 [eT m,iD k,iD p,aT now,iD set] (Sf (hU m k p now set 0) (hU m k p now set 1) (hU m k p now set 2) (hU m k p now set 3) (hU m k p now set 4)):=by
 refine an Tryz.func224 rfl rfl rfl Tryz.call224 [11] [] rfl 5 (fun hb w0 G0=>?_);simp at hb;obtain⟨⟨oQ,fm,rB,iq⟩,hbn⟩:=hb;have h5:=hg.n5;have ij:=hg.hn;have K3:p<now.length:=by rw[hn.1];exact hp
 generalize hF:hU m k p now set=F;simp;refine am [1,2,3,4,5,10,11] [0] (fun q:Nat=>[(13,.d (iD q))]) (fun q=>[(1,some (.box 105 [.d (iD (hC F q 0)),.d (iD (hC F q 1)),.d (iD (hC F q 2)),.d (iD (hC F q 3)),.d (iD (hC F q 4))]))]) (fun q=>5 - q) (fun q=>q<=5) 0 (by omega) (by simp[hC]) (fun q hq=>?_);simp
 (refine Bz.split (fun h=>?_) (fun h=>?_)<;>(try simp only[decide_eq_true_eq,decide_eq_false_iff_not,Bool.not_eq_true',Bool.not_eq_false',beq_iff_eq,bne_iff_ne,beq_eq_false_iff_ne,bne_eq_false_iff_eq,Bool.not_not,Bool.and_eq_true,Bool.or_eq_true,Bool.and_eq_false_iff,Bool.or_eq_false_iff]at h))
 ·have K5:q<5:=by omega
  have hE:F q=if q=p then now[p] else if (q:Int)<m.n/\bX set q=true then symS m k q p (now.getD q 0) else -1:=by rw[<-hF,hU,aj 0 K3]
  have dw:k<m.syms.length:=by rw[hg.yl];exact hk
  have hB:(q:Int)<m.n->q≠p->∃ (h1:q<m.syms[k].length) (h2:p<m.syms[k][q].length) (h3:q<now.length) (h4:now[q].toNat<m.syms[k][q][p].length),0<=now[q]/\symS m k q p (now.getD q 0)=m.syms[k][q][p][now[q].toNat]:=fun e1' e2'=>by
   have e1:=hg.yk k hk;rw[aj [] dw]at e1;have h1:q<m.syms[k].length:=by omega
   have e2:=hg.yp k q hk (by omega);rw[aj [] dw,aj [] h1]at e2;have h2:p<m.syms[k][q].length:=by omega
   have e3:=hg.yq k q p hk (by omega) hp;rw[if_neg e2',aj [] dw,aj [] h1,aj [] h2]at e3;have e4:=hn.2 q (by omega);have dY:q<now.length:=by rw[hn.1];omega
   rw[aj 0 dY]at e4;have h4:now[q].toNat<m.syms[k][q][p].length:=by omega
   refine⟨h1,h2,dY,h4,e4.1,?_⟩;unfold symS;rw[aj 0 dY,aj [] dw,aj [] h1,aj [] h2,aj 0 h4]
  have jH:bits .and .i64 (set / 2 ^ q) 1=1↔bX set q=true:=by rw[<-qn set q];simp
  obtain⟨q1,dY⟩:∃ q1,q1=q+1:=⟨_,rfl⟩;rcases (by omega:q=0\/q=1\/q=2\/q=3\/q=4) with e|e|e|e|e<;>subst e
  all_goals
   simp
   (refine Bz.split (fun c1=>?_) (fun c1=>?_)<;>(try simp only[decide_eq_true_eq,decide_eq_false_iff_not,Bool.not_eq_true',Bool.not_eq_false',beq_iff_eq,bne_iff_ne,beq_eq_false_iff_ne,bne_eq_false_iff_eq,Bool.not_not,Bool.and_eq_true,Bool.or_eq_true,Bool.and_eq_false_iff,Bool.or_eq_false_iff]at c1))
   ·simp[K3];have hF0:=hE;rw[if_pos (by omega)]at hF0
    repeat refine vg ?_
    exact ar.of q1 [0,1] (by simp[hC,hF0,dY]) (by omega)
   rw[if_neg (by omega)]at hE;simp
   (refine Bz.split (fun c2=>?_) (fun c2=>?_)<;>(try simp only[decide_eq_true_eq,decide_eq_false_iff_not,Bool.not_eq_true',Bool.not_eq_false',beq_iff_eq,bne_iff_ne,beq_eq_false_iff_ne,bne_eq_false_iff_eq,Bool.not_not,Bool.and_eq_true,Bool.or_eq_true,Bool.and_eq_false_iff,Bool.or_eq_false_iff]at c2))
   ·have s8:decide (_<m.n)=true:=decide_eq_true c2;simp[s8]
    repeat refine vg ?_
    simp at jH
    (refine Bz.split (fun c3=>?_) (fun c3=>?_)<;>(try simp only[decide_eq_true_eq,decide_eq_false_iff_not,Bool.not_eq_true',Bool.not_eq_false',beq_iff_eq,bne_iff_ne,beq_eq_false_iff_ne,bne_eq_false_iff_eq,Bool.not_not,Bool.and_eq_true,Bool.or_eq_true,Bool.and_eq_false_iff,Bool.or_eq_false_iff]at c3))
    rotate_left
    ·simp;rw[if_neg (by rw[<-jH];omega)]at hE;exact ar.of q1 [0,1] (by simp[hC,hE,dY]) (by omega)
    ·simp;rw[if_pos ⟨by omega,jH.1 c3⟩]at hE;obtain⟨h1,h2,h3,h4,h5',h6⟩:=hB (by omega) (by omega);rw[h6]at hE;refine aO 19 ?_;simp[dw,h1,h2,h3,h4]
     repeat refine vg ?_
     exact ar.of q1 [0,1] (by simp[hC,hE,dY]) (by omega)
   ·have s8:decide (_<m.n)=false:=decide_eq_false c2;simp[s8];rw[if_neg (by omega)]at hE;exact ar.of q1 [0,1] (by simp[hC,hE,dY]) (by omega)
 have e:q=5:=by omega
 subst e;simp[hC]
theorem Kd(l:List Int) (v:Int):FC Tryz.prog 266 [aT l,iD v] (iD (firstIx l.length fun i=>decide (v=l.getD i 0))):=by
 refine an Tryz.func266 rfl rfl rfl Tryz.call266 [] [] rfl 2 (fun hb w0 G0=>?_);simp at hb;generalize hr:firstIx l.length (fun i=>decide (v=l.getD i 0))=r;simp;refine am [0,1,6,7] [] (fun k:Nat=>[(8,.d (iD k))]) (fun _=>[]) (fun k=>l.length - k) (fun k=>k<=l.length/\firstIx k (fun i=>decide (v=l.getD i 0))=-1) 0 ⟨by omega,rfl⟩ (by simp) (fun k hk=>?_);obtain⟨hk,hj⟩:=hk;simp
 (refine Bz.split (fun h=>?_) (fun h=>?_)<;>(try simp only[decide_eq_true_eq,decide_eq_false_iff_not,Bool.not_eq_true',Bool.not_eq_false',beq_iff_eq,bne_iff_ne,beq_eq_false_iff_ne,bne_eq_false_iff_eq,Bool.not_not,Bool.and_eq_true,Bool.or_eq_true,Bool.and_eq_false_iff,Bool.or_eq_false_iff]at h))<;>simp[h]
 ·(refine Bz.split (fun h1=>?_) (fun h1=>?_)<;>(try simp only[decide_eq_true_eq,decide_eq_false_iff_not,Bool.not_eq_true',Bool.not_eq_false',beq_iff_eq,bne_iff_ne,beq_eq_false_iff_ne,bne_eq_false_iff_eq,Bool.not_not,Bool.and_eq_true,Bool.or_eq_true,Bool.and_eq_false_iff,Bool.or_eq_false_iff]at h1))<;>simp
  ·rw[<-hr];exact(cD _ k _ h (l6 hj) (by simp[h,h1])).symm
  ·exact vg (ar.of (k+1) [] (by simp) ⟨⟨h,kW hj (by simp[h,h1])⟩,by omega⟩)
 ·have e:k=l.length:=by omega
  subst e;rw[<-hr,hj]
theorem Ev(l:List Int) (v:Int):decide (0<=firstIx l.length fun i=>decide (v=l.getD i 0))=l.contains v:=by
 rcases cn l.length (fun i=>decide (v=l.getD i 0)) with ⟨e,h⟩|⟨k,hk,e,h1,_⟩
 ·rw[e];refine Eq.symm (Bool.eq_false_iff.2 fun hc=>?_);obtain⟨j,hj,rfl⟩:=List.getElem_of_mem (List.contains_iff_mem.1 hc);have:=h j hj;simp[hj]at this
 ·rw[e]
  have:l.contains v=true:=List.contains_iff_mem.2 (by
   simp[hk]at h1
   rw[h1];exact List.getElem_mem hk)
  rw[this];simp
theorem Ke(l:List Int) (v:Int):FC Tryz.prog 222 [aT l,iD v] (bD (l.contains v)):=by
 refine an Tryz.func222 rfl rfl rfl Tryz.call222 [] [] rfl 2 (fun hb w0 G0=>?_);rw[<-Ev];simp;refine ap (Kd l v) ?_;simp
def jy(n:Nat) (f:Nat->Int) (k:Nat):List Int:=(List.range n).map fun j=>if j<k then f j else 0
@[simp] theorem fillL_length (n:Nat) (f:Nat->Int) (k:Nat):(jy n f k).length=n:=by simp[jy]
theorem xt(n:Nat) (f:Nat->Int):jy n f 0=List.replicate n 0:=by
 unfold jy;apply List.ext_getElem<;>simp
theorem Kf{n:Nat} (f:Nat->Int) (k:Nat) (h:k<n):(jy n f k).set k (f k)=jy n f (k+1):=by
 apply List.ext_getElem
 ·simp
 ·intro i h1 h2;rw[List.getElem_set];simp[jy];split
  ·subst_vars;simp
  ·rename_i h3;by_cases h4:i<k
   ·simp[h4,show i<k+1 by omega]
   ·simp[h4,show ¬ i<k+1 by omega]
theorem zP(n:Nat) (f:Nat->Int):jy n f n=(List.range n).map f:=by
 unfold jy;apply List.map_congr_left;intro i hi;simp[List.mem_range.1 hi]
theorem zQ{n:Nat} (f:Nat->Int) (k:Nat) (h:k<n):((jy n f k).map fun x=>[iD x]).set k [iD (f k)]=(jy n f (k+1)).map fun x=>[iD x]:=by
 rw[<-Kf f k h,List.map_set]
abbrev R5(m:Mac):List D:=[iD m.n,iD m.rounds,iD m.ins,iD m.outs,ez m.first,N1 m.syms,CE m.steps,xm m.out]
def jR(l:List St):List (Pl × D):=l.map fun s=>(s.pl,iD s.to)
theorem Hf(m:Mac) (x:Pl):cI (jR m.steps) x=(pD m x).map iD:=by
 unfold cI jR pD;rw[List.find?_map];cases h:m.steps.find? ((fun p:Pl × D=>decide (x=p.1)) ∘ fun s=>(s.pl,iD s.to)) with
 | none=>
  have:(m.steps.find? fun s=>decide (x=s.pl))=none:=h;rw[this];rfl
 | some s=>
  have:(m.steps.find? fun s=>decide (x=s.pl))=some s:=h;rw[this];rfl
theorem PE(m:Mac) (n r:Nat) (inputs:List Int) (word:List Rd) (hg:Good m n r) (cg:inputs.length=n) (hir:∀ j,j<n->0<=inputs.getD j 0/\inputs.getD j 0<m.ins) (hw:word.length=r) :
  SQ Tryz.prog 221 [.fp 8 [R5 m] 0 0,.fp 1 [[aT inputs]] 0 0,.fp 1 [[bK word]] 0 0] ((gv m inputs word).map fun x=>[aT x]):=by
 refine qN 5 (fun hb=>?_) Tryz.call221;simp at hb;obtain⟨⟨oQ,fm,rB,iq⟩,Lr,FL⟩:=hb;refine qJ Tryz.func221 rfl rfl rfl Tryz.call221 [] [6,20] rfl (fun w0 G0 yl J hR=>vs ?_);generalize hL:gv m inputs word=L at hR ⊢;have h5:=hg.n5;have oY:=hg.n1;have ij:m.n=(n:Int):=hg.hn;have oO:=hg.fl;generalize hF:(fun p:Nat=>(m.first.getD p []).getD (inputs.getD p 0).toNat 0)=F;have hfs:bZ m inputs=(List.range n).map F:=by rw[bZ,ij,<-hF];rfl
 simp[ij]
 repeat refine vg ?_
 refine dM [0,1,2,3,5,18,19] [] (fun k:Nat=>[(20,.d (iD k))]) (fun k=>[(0,some (.row 3 1 ((jy n F k).map fun x=>[iD x])))]) (fun _=>1) (fun k=>n - k) (fun k=>k<=n) 0 (by omega) (by simp[xt]) (fun k hk=>?_);simp[cg]
 (refine Bz.split (fun h=>?_) (fun h=>?_)<;>(try simp only[decide_eq_true_eq,decide_eq_false_iff_not,Bool.not_eq_true',Bool.not_eq_false',beq_iff_eq,bne_iff_ne,beq_eq_false_iff_ne,bne_eq_false_iff_eq,Bool.not_not,Bool.and_eq_true,Bool.or_eq_true,Bool.and_eq_false_iff,Bool.or_eq_false_iff]at h))
 ·have hi:=hir k h;have dw:k<inputs.length:=by omega
  have bV:k<m.first.length:=by omega
  have QL:=hg.fp k h;rw[aj [] bV]at QL;rw[aj 0 dw]at hi;have mv:inputs[k].toNat<m.first[k].length:=by omega
  have hFk:F k=m.first[k][inputs[k].toNat]:=by rw[<-hF];simp[dw,bV,mv]
  simp[h,dw,bV,mv]
  repeat refine vg ?_
  rw[<-hFk,zQ F k h];exact ar.of (k+1) [0] (by simp[cg])
 have e:k=n:=by omega
 subst e;simp;rw[zP,<-hfs];have hfl1:(bZ m inputs).length=k:=by rw[hfs];simp
 refine fj 0 3 1 ((bZ m inputs).map fun x=>[iD x]) (by simp) (by simp;omega) ?_;refine vk ?_;simp[hfl1];have hI:=Ke (bZ m inputs) (-1);unfold gv at hL;cases hc:(bZ m inputs).contains (-1)
 rotate_left
 ·rw[hc]at hI hL;subst hL;refine ap hI ?_;simp
 rw[hc]at hI hL;have hL:dx m 0 (bZ m inputs) word=L:=by simpa using hL
 refine ap hI ?_;simp;have FB:L[0]?=some (bZ m inputs):=by rw[<-hL,kJ]
 refine zs 0 hR (by simp[FB]) rfl ?_ ?_
 rotate_left
 ·simp
 simp;refine jv Tryz.func223 rfl rfl rfl Tryz.call223 [] [] rfl (fun pr2 fr2=>?_);simp;refine nN ?_;simp;refine am [1,3,8,9,26,27,29,31] [] (fun k:Nat=>[(10,.d (iD k))]) (fun k=>[(1,some (.map (cR Pl.v (jR (m.steps.take k)))))]) (fun k=>m.steps.length - k) (fun k=>k<=m.steps.length) 0 (by omega) (by simp[jR,cR]) (fun j hj=>?_);simp
 (refine Bz.split (fun h2=>?_) (fun h2=>?_)<;>(try simp only[decide_eq_true_eq,decide_eq_false_iff_not,Bool.not_eq_true',Bool.not_eq_false',beq_iff_eq,bne_iff_ne,beq_eq_false_iff_ne,bne_eq_false_iff_eq,Bool.not_not,Bool.and_eq_true,Bool.or_eq_true,Bool.and_eq_false_iff,Bool.or_eq_false_iff]at h2))
 ·have lh:cI (jR (m.steps.take j)) m.steps[j].pl=none:=by
   refine zu fun q hq e=>?_
   obtain⟨s,hs,rfl⟩:=List.mem_map.1 hq;obtain⟨i,hi,rfl⟩:=List.mem_take_iff_getElem.1 hs;exact hg.diff i j (by omega) h2 (by omega) e
  have hT:jR (m.steps.take (j+1))=jR (m.steps.take j)++[(m.steps[j].pl,iD m.steps[j].to)]:=by unfold jR;rw[List.take_succ_eq_append_getElem h2,List.map_append];rfl
  simp[h2];refine pN kit_pl Tryz.underlying314 1 (jR (m.steps.take j)) m.steps[j].pl (by simp) (by simp) (by simp[St.pl]) (by simp;rfl) lh ?_;simp
  repeat refine vg ?_
  exact ar.of (j+1) [0,1] (by simp[hT])
 have e:j=m.steps.length:=by omega
 subst e;rw[List.take_length];simp;have iB:=ud hg cg hir hc;refine dM [0,1,3,8,47,48] [1] (fun x:Nat × List Int=>[(5,.d (aT x.2)),(49,.d (iD x.1))]) (fun _=>[]) (fun x=>x.1+2) (fun x=>word.length - x.1) (fun x=>x.1<=word.length/\L[x.1]?=some x.2/\Bh m k x.1 x.2) (0,bZ m inputs) ⟨by simp,FB,iB⟩ (by simp) (fun x hx=>?_);obtain⟨q,now⟩:=x;obtain⟨hq,Df,Qy⟩:=hx;dsimp only at hq Df Qy;simp
 (refine Bz.split (fun h3=>?_) (fun h3=>?_)<;>(try simp only[decide_eq_true_eq,decide_eq_false_iff_not,Bool.not_eq_true',Bool.not_eq_false',beq_iff_eq,bne_iff_ne,beq_eq_false_iff_ne,bne_eq_false_iff_eq,Bool.not_not,Bool.and_eq_true,Bool.or_eq_true,Bool.and_eq_false_iff,Bool.or_eq_false_iff]at h3))
 ·simp[h3,ij]
  repeat refine vg ?_
  have cG:=rO m 0 (bZ m inputs) word q now (by rw[hL];exact Df) h3;rw[hL,Nat.zero_add]at cG;generalize hP:(fun p=>qc m q now word[q] p)=Pq
  have pY:lS m q now word[q]=if anyLt k (fun p=>(Pq p).isNone) then none else some ((List.range k).map fun p=>(Pq p).getD 0):=by
   unfold lS;rw[ij,<-hP];rfl
  refine dM [0,1,3,5,8,9,10,11,47,48,49,58] [1,2] (fun p:Nat=>[(59,.d (iD p))]) (fun p=>[(3,some (.row 3 1 ((jy k (fun p=>(Pq p).getD 0) p).map fun x=>[iD x])))]) (fun _=>q+2) (fun p=>k - p) (fun p=>p<=k/\anyLt p (fun p=>(Pq p).isNone)=false) 0 ⟨by omega,rfl⟩ (by simp[xt]) (fun p hp=>?_);obtain⟨hp,K3⟩:=hp;simp
  (refine Bz.split (fun h4=>?_) (fun h4=>?_)<;>(try simp only[decide_eq_true_eq,decide_eq_false_iff_not,Bool.not_eq_true',Bool.not_eq_false',beq_iff_eq,bne_iff_ne,beq_eq_false_iff_ne,bne_eq_false_iff_eq,Bool.not_not,Bool.and_eq_true,Bool.or_eq_true,Bool.and_eq_false_iff,Bool.or_eq_false_iff]at h4))
  ·simp[h4];have FT:p<5:=by omega
   have hPp:pD m (wg m q p now (word[q].g.hear p))=Pq p:=by rw[<-hP];rfl
   refine aO 20 ?_;simp[h3,h4,FT]
   repeat refine vg ?_
   have hH:=Kc m k r q p now (word[q].g.hear p) hg (by omega) h4 Qy;refine bL hH ?_;simp;refine R2 kit_pl Tryz.underlying314 (z:=.int .i64 0) (fun w=>by kernel_rfl) 1 (jR m.steps) (wg m q p now (word[q].g.hear p)) (by simp) (by simp) (by simp[wg]) ?_;rw[Hf,hPp];cases Ar:Pq p with
   | none=>
    simp;have e:=cG.2 (by rw[pY,aD _ p _ h4 (by simp[Ar])];rfl);omega
   | some v=>
    simp[h4]
    repeat refine vg ?_
    have e:=zQ (n:=k) (fun p=>(Pq p).getD 0) p h4;simp only[Ar,Option.getD_some]at e;exact ar.of (p+1) [0,1,2,3] (by simp[<-e]) ⟨⟨by omega,aR K3 (by simp[Ar])⟩,by omega⟩
  have e:p=k:=by omega
  subst e;rw[zP];have xH:lS m q now word[q]=some ((List.range p).map fun p=>(Pq p).getD 0):=by rw[pY,K3];rfl
  have Ry:=cG.1 _ xH;have o6:=wu hg xH;generalize hnw:((List.range p).map fun p=>(Pq p).getD 0)=nw at Ry o6 ⊢;have u7:nw.length=p:=o6.1;simp;refine fj 3 3 1 (nw.map fun x=>[iD x]) (by simp) (by simp;omega) ?_;refine vk ?_;simp[u7];refine zs (q+1) hR (by simp[Ry]) rfl ?_ ?_
  ·simp
   repeat refine vg ?_
   exact ar.of (q+1,nw) [0,1] (by simp) ⟨⟨by simp;omega,Ry,o6⟩,by simp;omega⟩
  ·simp
 have e:q=word.length:=by omega
 subst e;have h6:=qd m 0 (bZ m inputs) word;have h7:=(List.getElem?_eq_some_iff.1 Df).1;rw[hL]at h6;simp;omega
theorem PF(m:Mac) (inputs:List Int) (word:List Rd):FC Tryz.prog 153 [eT m,aT inputs,bK word] (.fn (.func 221) [] [.fp 8 [R5 m] 0 0,.fp 1 [[aT inputs]] 0 0,.fp 1 [[bK word]] 0 0]):=by
 refine an Tryz.func153 rfl rfl rfl Tryz.call153 [] [] rfl 1 (fun hb w0 G0=>?_);simp
theorem Kg{gf:FuncId} {c:List D} (L:List (List Int)) (hq:SQ Tryz.prog gf c (L.map fun x=>[aT x])) (hl:L.length<=549755813887):FO Tryz.prog 220 [.v (.slice none 0 0),.fn (.func gf) [] c] 38 1 (L.map fun x=>[aT x]):=by
 refine m4 Tryz.func220 rfl rfl rfl Tryz.call220 [2] [0] rfl 1 (fun hb w0 G0=>?_);simp;refine ml 0 38 1 (by simp) ?_;refine vk ?_;simp;refine dX hq [2] [] (fun i=>[]) (fun i=>[(0,some (.row 38 1 ((L.take i).map fun x=>[aT x]))),(1,some (.box 30 [.sl 0 i]))]) (fun _=>True) trivial rfl (fun ds h=>by obtain⟨x,_,rfl⟩:=List.mem_map.1 h;rfl) (.inl rfl) (by simp) (fun i ds hi _ l r r' J' pr' fr' _=>?_) (fun _=>?_)
 ·obtain⟨fR,rfl⟩:=List.getElem?_eq_some_iff.1 hi;have jD:i<L.length:=by simpa using fR
  rw[List.getElem_map];have Ag:min i L.length=i:=by omega
  simp[Ag];exact vg ⟨[2,1],by simp;exact kv _ _ _ (by simp[jD])⟩
 ·rw[List.length_map,List.take_length];simp
theorem Hg{gf:FuncId} {c:List D} (L:List (List Int)) (hq:SQ Tryz.prog gf c (L.map fun x=>[aT x])) (hl:L.length<=549755813887):FO Tryz.prog 152 [.fn (.func gf) [] c] 38 1 (L.map fun x=>[aT x]):=by
 refine m4 Tryz.func152 rfl rfl rfl Tryz.call152 [] [] rfl 1 (fun hb w0 G0=>?_);simp;refine Ck (Kg L hq hl) ?_;simp
def AR(m:Mac) (inputs:List Int) (word:List Rd):List (List Int):=if playE m inputs word=0 then gv m inputs word else []
theorem MZ(m:Mac) (inputs:List Int) (word:List Rd):(gv m inputs word).length<=word.length+1:=by
 unfold gv;split
 ·simp
 ·exact qd _ _ _ _
theorem M0(m:Mac) (inputs:List Int) (word:List Rd):FC Tryz.prog 87 [eT m,aT inputs,bK word] (.tup [ez (AR m inputs word),iD (playE m inputs word)]):=by
 refine an Tryz.func87 rfl rfl rfl Tryz.call87 [] [] rfl 5 (fun hb w0 G0=>?_);simp at hb;obtain⟨⟨oQ,fm,rB,iq⟩,Lr,FL⟩:=hb;unfold AR;generalize hr:playE m inputs word=r;unfold playE at hr;simp;refine ap (mm m) ?_;simp
 (refine Bz.split (fun h1=>?_) (fun h1=>?_)<;>(try simp only[decide_eq_true_eq,decide_eq_false_iff_not,Bool.not_eq_true',Bool.not_eq_false',beq_iff_eq,bne_iff_ne,beq_eq_false_iff_ne,bne_eq_false_iff_eq,Bool.not_not,Bool.and_eq_true,Bool.or_eq_true,Bool.and_eq_false_iff,Bool.or_eq_false_iff]at h1))<;>simp[h1]
 ·rw[if_pos h1]at hr;rw[<-hr];simp[h1]
 rw[if_neg (by omega)]at hr
 (refine Bz.split (fun h2=>?_) (fun h2=>?_)<;>(try simp only[decide_eq_true_eq,decide_eq_false_iff_not,Bool.not_eq_true',Bool.not_eq_false',beq_iff_eq,bne_iff_ne,beq_eq_false_iff_ne,bne_eq_false_iff_eq,Bool.not_not,Bool.and_eq_true,Bool.or_eq_true,Bool.and_eq_false_iff,Bool.or_eq_false_iff]at h2))<;>simp[h2]
 ·rw[if_pos h2]at hr;rw[<-hr];simp
 rw[if_neg (by omega)]at hr;obtain⟨n,rr,hg⟩:=ub (by omega:da m=0);have hins:=hg.ins
 repeat refine vg ?_
 refine ap (pT inputs 0 (m.ins - 1)) ?_;simp;cases aX:cL inputs 0 (m.ins - 1)<;>rw[aX]at hr<;>simp
 ·rw[<-hr];simp
 simp only[Bool.not_true,Bool.false_eq_true,if_false]at hr;refine ap (CN m.n word) ?_;simp
 (refine Bz.split (fun h3=>?_) (fun h3=>?_)<;>(try simp only[decide_eq_true_eq,decide_eq_false_iff_not,Bool.not_eq_true',Bool.not_eq_false',beq_iff_eq,bne_iff_ne,beq_eq_false_iff_ne,bne_eq_false_iff_eq,Bool.not_not,Bool.and_eq_true,Bool.or_eq_true,Bool.and_eq_false_iff,Bool.or_eq_false_iff]at h3))<;>simp[h3]
 ·rw[if_pos h3]at hr;rw[<-hr];simp[h3]
 rw[if_neg (by omega)]at hr
 (refine Bz.split (fun h4=>?_) (fun h4=>?_)<;>(try simp only[decide_eq_true_eq,decide_eq_false_iff_not,Bool.not_eq_true',Bool.not_eq_false',beq_iff_eq,bne_iff_ne,beq_eq_false_iff_ne,bne_eq_false_iff_eq,Bool.not_not,Bool.and_eq_true,Bool.or_eq_true,Bool.and_eq_false_iff,Bool.or_eq_false_iff]at h4))<;>simp[h4]
 ·rw[if_pos h4]at hr;rw[<-hr];simp
 rw[if_neg (by omega)]at hr;have ij:=hg.hn;have oh:inputs.length=n:=by omega
 have FH:=hg.hr;have tv:word.length=rr:=by omega
 have N7:=MZ m inputs word;have uO:=hg.r6;refine ap (PF m inputs word) ?_;simp;refine Ck (Hg (gv m inputs word) (PE m n rr inputs word hg oh (fun j hj=>by have:=nG aX j (by omega);omega) tv) (by omega)) ?_;simp
 repeat refine vg ?_
 (refine Bz.split (fun h5=>?_) (fun h5=>?_)<;>(try simp only[decide_eq_true_eq,decide_eq_false_iff_not,Bool.not_eq_true',Bool.not_eq_false',beq_iff_eq,bne_iff_ne,beq_eq_false_iff_ne,bne_eq_false_iff_eq,Bool.not_not,Bool.and_eq_true,Bool.or_eq_true,Bool.and_eq_false_iff,Bool.or_eq_false_iff]at h5))<;>simp[h5]
 ·rw[if_pos h5]at hr;rw[<-hr];simp
 rw[if_neg (by omega)]at hr;rw[<-hr];simp;omega
abbrev Kh(x:Nat × Nat × Nat):D:=.agg [iD x.1,iD x.2.1,iD x.2.2,.v (.string ⟨#[]⟩)]
theorem qV(n:Nat) (word:List Rd) (k p q:Nat) (hp:p<5) (hq:q<5):ni n word (k * 25+p * 5+q)=if p<n/\q<n/\p≠q/\bX ((word.getD k default).g.hear q) p=true then some (k,p,q) else none:=by
 unfold ni;rw[show (k * 25+p * 5+q) / 25=k by omega,show (k * 25+p * 5+q) / 5 % 5=p by omega,show (k * 25+p * 5+q) % 5=q by omega]
theorem M1(n:Nat) (word:List Rd) (k p:Nat) (hp:p<5) (hn:n<=5):b9 n word (k * 25+p * 5+n)=b9 n word (k * 25+(p+1) * 5):=by
 unfold b9;refine(mQ (by omega) fun j h1 h2=>?_).symm;obtain⟨q,rfl⟩:∃ q,j=k * 25+p * 5+q:=⟨j - (k * 25+p * 5),by omega⟩;rw[qV n word k p q hp (by omega),if_neg (by omega)]
theorem M2(n:Nat) (word:List Rd) (k:Nat) (hn:n<=5):b9 n word (k * 25+n * 5)=b9 n word ((k+1) * 25):=by
 unfold b9;refine(mQ (by omega) fun j h1 h2=>?_).symm;obtain⟨p,q,hq,rfl⟩:∃ p q,q<5/\j=k * 25+p * 5+q:=⟨(j - k * 25) / 5,(j - k * 25) % 5,by omega,by omega⟩;rw[qV n word k p q (by omega) hq,if_neg (by omega)]
theorem xu(n:Nat) (word:List Rd) (hn:n<=5):SQ Tryz.prog 154 [.fp 1 [[bK word]] 0 0,.fp 1 [[iD n]] 0 0] ((placesL n word).map fun x=>[Kh x]):=by
 refine qN 4 (fun hb=>?_) Tryz.call154;simp at hb;refine qJ Tryz.func154 rfl rfl rfl Tryz.call154 [] [] rfl (fun w0 G0 yl J hR=>vs ?_);simp;refine dM [0,1,2,8,9] [] (fun k:Nat=>[(10,.d (iD k))]) (fun _=>[]) (fun k=>(b9 n word (k * 25)).length+1) (fun k=>word.length - k) (fun k=>k<=word.length) 0 (by omega) (by simp[b9,dO]) (fun k hk=>?_);simp
 (refine Bz.split (fun h=>?_) (fun h=>?_)<;>(try simp only[decide_eq_true_eq,decide_eq_false_iff_not,Bool.not_eq_true',Bool.not_eq_false',beq_iff_eq,bne_iff_ne,beq_eq_false_iff_ne,bne_eq_false_iff_eq,Bool.not_not,Bool.and_eq_true,Bool.or_eq_true,Bool.and_eq_false_iff,Bool.or_eq_false_iff]at h))
 ·simp[h];refine dM [0,1,2,4,5,8,9,10,15] [0] (fun p:Nat=>[(16,.d (iD p))]) (fun _=>[]) (fun p=>(b9 n word (k * 25+p * 5)).length+1) (fun p=>n - p) (fun p=>p<=n) 0 (by omega) (by simp) (fun p hp=>?_);simp
  (refine Bz.split (fun h1=>?_) (fun h1=>?_)<;>(try simp only[decide_eq_true_eq,decide_eq_false_iff_not,Bool.not_eq_true',Bool.not_eq_false',beq_iff_eq,bne_iff_ne,beq_eq_false_iff_ne,bne_eq_false_iff_eq,Bool.not_not,Bool.and_eq_true,Bool.or_eq_true,Bool.and_eq_false_iff,Bool.or_eq_false_iff]at h1))
  ·simp[h1];refine dM [0,1,2,4,5,6,8,9,10,15,16,19] [0] (fun q:Nat=>[(20,.d (iD q))]) (fun _=>[]) (fun q=>(b9 n word (k * 25+p * 5+q)).length+1) (fun q=>n - q) (fun q=>q<=n) 0 (by omega) (by simp) (fun q hq=>?_);simp
   (refine Bz.split (fun h2=>?_) (fun h2=>?_)<;>(try simp only[decide_eq_true_eq,decide_eq_false_iff_not,Bool.not_eq_true',Bool.not_eq_false',beq_iff_eq,bne_iff_ne,beq_eq_false_iff_ne,bne_eq_false_iff_eq,Bool.not_not,Bool.and_eq_true,Bool.or_eq_true,Bool.and_eq_false_iff,Bool.or_eq_false_iff]at h2))
   ·have FT:p<5:=by omega
    have K5:q<5:=by omega
    have o7:=qV n word k p q FT K5;rw[aj default h]at o7;have te:(p:Int)=(q:Int)↔p=q:=by omega
    have jH:bits .and .i64 (word[k].g.hear q / 2 ^ p) 1=1↔bX (word[k].g.hear q) p=true:=by rw[<-qn (word[k].g.hear q) p];simp
    rcases Bool.eq_false_or_eq_true (decide ((p:Int)=(q:Int))) with hd|hd
    ·have:=of_decide_eq_true hd;rw[if_neg (by omega)]at o7;simp[h2,hd];exact vg (ar.of (q+1) [0] (by simp[b9,<-Nat.add_assoc,qf o7]))
    have:=of_decide_eq_false hd;simp[h2,hd,K5]
    repeat refine vg ?_
    refine Or.elim (Bool.eq_false_or_eq_true (decide (bits .and .i64 (word[k].g.hear q / 2 ^ p) 1=1))) (fun hB=>?_) (fun hB=>?_)
    rotate_left
    ·have h3:=of_decide_eq_false hB;rw[if_neg (by rw[<-jH];omega)]at o7;simp[hB];exact vg (ar.of (q+1) [0] (by simp[b9,<-Nat.add_assoc,qf o7]))
    ·have h3:=of_decide_eq_true hB;rw[if_pos ⟨by omega,by omega,by omega,jH.1 h3⟩]at o7;simp[hB]
     have eU:((placesL n word).map fun x=>[Kh x])[(b9 n word (k * 25+p * 5+q)).length]?=some [Kh (k,p,q)]:=by
      rw[List.getElem?_map];have:=LB (f:=ni n word) (n:=word.length * 25) (show k * 25+p * 5+q<_ by omega) o7;simp only[placesL,b9,this];rfl
     refine zs _ hR eU rfl ?_ ?_
     ·simp;exact vg (ar.of (q+1) [0] (by simp[b9,<-Nat.add_assoc,qg o7]))
     ·simp
   ·have e:q=n:=by omega
    subst e;simp;exact vg (ar.of (p+1) [0] (by simp[M1 _ word k p (by omega) hn]))
  ·have e:p=n:=by omega
   subst e;simp;exact vg (ar.of (k+1) [] (by simp[M2 _ word k hn]))
 ·have e:k=word.length:=by omega
  subst e;simp[placesL]
theorem zS(n:Int) (word:List Rd):FC Tryz.prog 88 [iD n,bK word] (.fn (.func 154) [] [.fp 1 [[bK word]] 0 0,.fp 1 [[iD n]] 0 0]):=by
 refine an Tryz.func88 rfl rfl rfl Tryz.call88 [] [] rfl 1 (fun hb w0 G0=>?_);simp
abbrev R6(x:Pw):D:=.agg [iD x.rd,iD x.fr,iD x.to]
theorem Hh(m:Mac) (n r:Nat) (hg:Good m n r) (hc:da m=0) (k p q:Nat) (hk:k<r) (hp:p<n) (hq:q<n) (te:p≠q):FC Tryz.prog 155 [R6 ⟨k,p,q⟩,eT m] (iD 0):=by
 refine an Tryz.func155 rfl rfl rfl Tryz.call155 [] [] rfl 5 (fun hb w0 G0=>?_);have ij:=hg.hn;have FH:=hg.hr;have h1:decide (m.rounds<=(k:Int))=false:=decide_eq_false (by omega);have h2:decide (m.n<=(p:Int))=false:=decide_eq_false (by omega);have h3:decide (m.n<=(q:Int))=false:=decide_eq_false (by omega);have h4:decide ((p:Int)=(q:Int))=false:=decide_eq_false (by omega);have n1:decide ((k:Int)<0)=false:=decide_eq_false (by omega);have n2:decide ((p:Int)<0)=false:=decide_eq_false (by omega);have n3:decide ((q:Int)<0)=false:=decide_eq_false (by omega);clear ij FH;simp;refine ap (mm m) ?_;rw[hc];simp[h1,h2,h3,h4,n1,n2,n3]
def Ki(m:Mac) (n:Nat) (j:Nat):Option (Pw × D):=if j / 5 % 5<n/\j % 5<n then some (⟨(j / 25:Nat),(j / 5 % 5:Nat),(j % 5:Nat)⟩,aT (((m.syms.getD (j / 25) []).getD (j / 5 % 5) []).getD (j % 5) [])) else none
def gT(m:Mac) (n:Nat) (j:Nat):List (Pw × D):=dO (Ki m n) j
theorem CO(m:Mac) (n k p q:Nat) (hp:p<5) (hq:q<5):Ki m n (k * 25+p * 5+q)=if p<n/\q<n then some (⟨k,p,q⟩,aT (((m.syms.getD k []).getD p []).getD q [])) else none:=by
 unfold Ki;rw[show (k * 25+p * 5+q) / 25=k by omega,show (k * 25+p * 5+q) / 5 % 5=p by omega,show (k * 25+p * 5+q) % 5=q by omega]
theorem Sb(m:Mac) (n k p:Nat) (hp:p<5) (hn:n<=5):gT m n (k * 25+p * 5+n)=gT m n (k * 25+(p+1) * 5):=by
 unfold gT;refine(mQ (by omega) fun j h1 h2=>?_).symm;obtain⟨q,rfl⟩:∃ q,j=k * 25+p * 5+q:=⟨j - (k * 25+p * 5),by omega⟩;rw[CO m n k p q hp (by omega),if_neg (by omega)]
theorem Sc(m:Mac) (n k:Nat) (hn:n<=5):gT m n (k * 25+n * 5)=gT m n ((k+1) * 25):=by
 unfold gT;refine(mQ (by omega) fun j h1 h2=>?_).symm;obtain⟨p,q,hq,rfl⟩:∃ p q,q<5/\j=k * 25+p * 5+q:=⟨(j - k * 25) / 5,(j - k * 25) % 5,by omega,by omega⟩;rw[CO m n k p q (by omega) hq,if_neg (by omega)]
theorem Kj(m:Mac) {n k p q:Nat} (hn:n<=5) (hp:p<n) (hq:q<n):gT m n (k * 25+p * 5+q+1)=gT m n (k * 25+p * 5+q)++[(⟨k,p,q⟩,aT (((m.syms.getD k []).getD p []).getD q []))]:=by
 unfold gT;refine qg ?_;rw[CO m n k p q (by omega) (by omega),if_pos ⟨hp,hq⟩]
theorem Fo(m:Mac) {n k p q:Nat}:cI (gT m n (k * 25+p * 5+q)) ⟨k,p,q⟩=none:=by
 refine zu fun x hx e=>?_
 unfold gT dO at hx;rw[List.mem_filterMap]at hx;obtain⟨j,hj,hx⟩:=hx;rw[List.mem_range]at hj;unfold Ki at hx;split at hx
 ·cases hx
  dsimp only at e;injection e with e1 e2 e3
  omega
 ·cases hx
theorem Qg(m:Mac) {n k p q J:Nat} (hn:n<=5) (hp:p<n) (hq:q<n) (hJ:k * 25+p * 5+q<J):cI (gT m n J) ⟨k,p,q⟩=some (aT (((m.syms.getD k []).getD p []).getD q [])):=by
 obtain⟨t,ht⟩:=rP (Ki m n) (show k * 25+p * 5+q+1<=J by omega);have h1:=Fo m (n:=n) (k:=k) (p:=p) (q:=q);have h2:=Kj m (k:=k) hn hp hq;unfold gT at *;rw[<-ht,h2];unfold cI at h1 ⊢;rw[Option.map_eq_none_iff]at h1;rw[List.find?_append,List.find?_append,h1];simp
theorem Hi(m:Mac) (n r:Nat) (hg:Good m n r) (k p q:Nat) (hk:k<r) (hp:p<n) (hq:q<n):FC Tryz.prog 156 [eT m,R6 ⟨k,p,q⟩] (aT (((m.syms.getD k []).getD p []).getD q [])):=by
 refine an Tryz.func156 rfl rfl rfl Tryz.call156 [] [] rfl 5 (fun hb w0 G0=>?_);simp at hb;obtain⟨oQ,fm,rB,iq⟩:=hb;have hn5:=hg.n5;have Dt:=hg.yl;simp;refine nN ?_;simp;refine am [2,3,5,14,15] [] (fun k:Nat=>[(16,.d (iD k))]) (fun k=>[(0,some (.map (cR Pw.v (gT m n (k * 25)))))]) (fun k=>m.syms.length - k) (fun k=>k<=m.syms.length) 0 (by omega) (by simp[gT,dO,cR]) (fun a ha=>?_);simp
 (refine Bz.split (fun h=>?_) (fun h=>?_)<;>(try simp only[decide_eq_true_eq,decide_eq_false_iff_not,Bool.not_eq_true',Bool.not_eq_false',beq_iff_eq,bne_iff_ne,beq_eq_false_iff_ne,bne_eq_false_iff_eq,Bool.not_not,Bool.and_eq_true,Bool.or_eq_true,Bool.and_eq_false_iff,Bool.or_eq_false_iff]at h))
 ·have FX:=hg.yk a (by omega);rw[aj [] h]at FX;simp[h];refine am [2,3,5,6,14,15,16,21,22] [] (fun k:Nat=>[(23,.d (iD k))]) (fun k=>[(0,some (.map (cR Pw.v (gT m n (a * 25+k * 5)))))]) (fun k=>m.syms[a].length - k) (fun k=>k<=m.syms[a].length) 0 (by omega) (by simp) (fun b hb=>?_);simp
  (refine Bz.split (fun h1=>?_) (fun h1=>?_)<;>(try simp only[decide_eq_true_eq,decide_eq_false_iff_not,Bool.not_eq_true',Bool.not_eq_false',beq_iff_eq,bne_iff_ne,beq_eq_false_iff_ne,bne_eq_false_iff_eq,Bool.not_not,Bool.and_eq_true,Bool.or_eq_true,Bool.and_eq_false_iff,Bool.or_eq_false_iff]at h1))
  ·have gh:=hg.yp a b (by omega) (by omega);rw[aj [] h,aj [] h1]at gh;simp[h1];refine am [2,3,5,6,8,14,15,16,21,22,23,28,29] [] (fun k:Nat=>[(30,.d (iD k))]) (fun k=>[(0,some (.map (cR Pw.v (gT m n (a * 25+b * 5+k)))))]) (fun k=>m.syms[a][b].length - k) (fun k=>k<=m.syms[a][b].length) 0 (by omega) (by simp) (fun c hc=>?_);simp
   (refine Bz.split (fun h2=>?_) (fun h2=>?_)<;>(try simp only[decide_eq_true_eq,decide_eq_false_iff_not,Bool.not_eq_true',Bool.not_eq_false',beq_iff_eq,bne_iff_ne,beq_eq_false_iff_ne,bne_eq_false_iff_eq,Bool.not_not,Bool.and_eq_true,Bool.or_eq_true,Bool.and_eq_false_iff,Bool.or_eq_false_iff]at h2))
   ·simp[h2];refine pN kit_pw Tryz.underlying319 0 (gT m n (a * 25+b * 5+c)) ⟨a,b,c⟩ (by simp) (by simp) (by simp) (by simp;rfl) (Fo m) ?_;simp;have hh:=Kj m (k:=a) (p:=b) (q:=c) hn5 (by omega) (by omega);rw[aj [] h,aj [] h1,aj [] h2]at hh;exact vg (ar.of (c+1) [0] (by simp[<-Nat.add_assoc,hh]))
   ·have e:c=n:=by omega
    subst e;simp;exact vg (ar.of (b+1) [0] (by simp[Sb m _ a b (by omega) hn5]))
  ·have e:b=n:=by omega
   subst e;simp;exact vg (ar.of (a+1) [0] (by simp[Sc m _ a hn5]))
 ·have e:a=m.syms.length:=by omega
  subst e;simp;refine Mh kit_pw Tryz.underlying319 (z:=.slice none 0 0) (fun w=>by kernel_rfl) 0 (gT m n (m.syms.length * 25)) ⟨k,p,q⟩ (by simp) (by simp) (by simp) ?_;rw[Qg m hn5 hp hq (by omega)];simp
theorem Kk(m:Mac) (n r:Nat) (hg:Good m n r) (hc:da m=0) (k p q:Nat) (s:Int) (hk:k<r) (hp:p<n) (hq:q<n) (te:p≠q) (hs:0<=s/\s<(((m.syms.getD k []).getD p []).getD q []).length) :
  FC Tryz.prog 89 [eT m,iD k,iD p,iD q,iD s] (.tup [.v (.string (bytesOf (vl k p q (symS m k p q s).toNat))),iD 0]):=by
 refine an Tryz.func89 rfl rfl rfl Tryz.call89 [] [] rfl 5 (fun hb w0 G0=>?_);have xT:=hg.symr k p q s.toNat hk hp hq (by omega);have h6:=hg.r6;have h5:=hg.n5;have eV:s.toNat<(((m.syms.getD k []).getD p []).getD q []).length:=by omega
 have hS:symS m k p q s=((((m.syms.getD k []).getD p []).getD q []))[s.toNat]:=by
  unfold symS;rw[aj 0 eV]
 rw[aj 0 eV,<-hS]at xT;have NP:=Hi m n r hg k p q hk hp hq;generalize symS m k p q s=y at hS xT ⊢;generalize ((m.syms.getD k []).getD p []).getD q []=l at hs eV hS NP;subst hS;obtain⟨j,rfl⟩:∃ j:Nat,s=j:=⟨s.toNat,by omega⟩;have d1:decide ((j:Int)<0)=false:=decide_eq_false (by omega);simp at eV;have d2:decide (l.length<=j)=false:=decide_eq_false (by omega);simp;refine ap (Hh m n r hg hc k p q hk hp hq te) ?_;simp;refine ap NP ?_;simp[d1,d2];refine aO 6 ?_;simp[eV];obtain⟨z,hz⟩:∃ z:Nat,l[j]=z:=⟨l[j].toNat,by simp at xT;omega⟩;have hm:=GS k p q z (by omega) (by omega) (by omega) (by simp at xT;omega);rw[hz];refine bL hm ?_;simp
theorem Kl(rv:Int) (n:Nat) (h1:1<=n) (hn:n<=8192) (hc:∀ us w,(callFunc 264 us).run Tryz.prog w=.ok (.enter 264 us) w):FC Tryz.prog 264 [aT [rv],iD n] (aT (List.replicate n rv)):=by
 refine⟨hc,fun G us w hG hs hu=>?_⟩;have h0:=hu 0 _ rfl;have h2:=hu 1 _ rfl;have e2:=h2.val;generalize hx:us[0]?.getD undef=x at h0;cases h0 with
 | fz s L p c b o cs ty fr hcc hss hp H=>
  obtain⟨rfl,hb,hl⟩:=hp (by simp)
  have nf:cs[o]?=some (.int .i64 rv):=by
   have h3:=(H 0 0 [iD rv] (iD rv) rfl rfl).val;simp at hl;have:o<cs.size:=by omega
   simpa[this] using h3
  have gG:us=#[.slice (some ⟨b,o,none⟩) 1 c,.int .i64 n]:=by
   apply Array.ext
   ·simpa using hs
   ·intro i h3 h4;simp at h4;have:i=0\/i=1:=by omega
    rcases this with rfl|rfl
    ·simpa[h3] using hx
    ·simpa[h3] using e2
  rw[gG];refine(Gi rv n h1 hn b o c cs ty fr w (hG b _ hb).1 nf).mono ?_;rintro e w' ⟨rfl,hrow,vZ⟩;refine⟨_,fun k=>if k=w.heap.size then some (.cells (xC n rv n) 3) else G k,rfl,vZ,⟨fun k ob h=>?_,fun k ob h hk=>?_,fun k ob h=>?_⟩,?_⟩
  ·rw[if_neg (by have:=aw (hG k ob h).1;omega)];exact h
  ·rw[if_neg (by omega)]at h;exact h
  ·split at h
   ·rename_i e;subst e;cases h;exact⟨hrow,rfl⟩
   ·exact⟨aq vZ (hG k ob h).1,(hG k ob h).2⟩
  ·have hL:((List.replicate n rv).map fun x=>[iD x]).length=n:=by simp
   have:=RD.fz (G:=fun k=>if k=w.heap.size then some (.cells (xC n rv n) 3) else G k) 1 ((List.replicate n rv).map fun x=>[iD x]) (some ⟨w.heap.size,0,none⟩) n w.heap.size 0 (xC n rv n) 3 (0,0) ⟨by omega,by omega,(fun h=>by cases h),by omega⟩ (fun r hr=>by
     obtain⟨i,hi,rfl⟩:=List.getElem_of_mem hr
     simp) (fun _=>⟨rfl,by simp,by rw[hL];unfold xC;rw[pJ];omega⟩) (fun i j r x h1 h2=>by
     have hi:i<n:=by have:=(List.getElem?_eq_some_iff.1 h1).1;omega
     have hr:r=[iD rv]:=by
      have:=(List.getElem?_eq_some_iff.1 h1).2;simpa using this.symm
     subst hr;cases j with
     | zero=>
      simp at h2;subst h2;simp only[Nat.zero_add,Nat.mul_one,Nat.add_zero];rw[yo n rv n i hi,if_pos hi];exact .v _
     | succ j=>simp at h2)
   rw[hL]at this;exact this
theorem Qh(a b:Int):(if b<a then b else a)=min a b:=by omega
theorem Hj(a:Adv) (r L:Int) (hr:0<=r/\r<=1048576) (hL:0<=L/\L<=1048576) (ha:advE a=0):FC Tryz.prog 215 [gR a,iD r,iD L] (iD (dy L a r.toNat)):=by
 refine an Tryz.func215 rfl rfl rfl Tryz.call215 [] [1009] rfl 3 (fun hb w0 G0=>?_);simp at hb;obtain⟨hs,cJ,-⟩:=cZ ha;have tu:=pG ha;have Dy:(lL a).length=az a.states:=by simp[lL,eA]
 simp;refine ap (Kl 1 a.states.length (by omega) (by omega) Tryz.call264) ?_;simp;refine am [3,5,7,16] [] (fun k:Nat=>[(17,.d (iD k))]) (fun k=>[(0,some (.box 38 [.d (aT (bW L a k))]))]) (fun k=>r.toNat - k) (fun k=>k<=r.toNat) 0 (by omega) (by simp[bW]) (fun k hk=>?_);have bi:=za L a k;have bO:=qi hL.1 a k;simp
 (refine Bz.split (fun h=>?_) (fun h=>?_)<;>(try simp only[decide_eq_true_eq,decide_eq_false_iff_not,Bool.not_eq_true',Bool.not_eq_false',beq_iff_eq,bne_iff_ne,beq_eq_false_iff_ne,bne_eq_false_iff_eq,Bool.not_not,Bool.and_eq_true,Bool.or_eq_true,Bool.and_eq_false_iff,Bool.or_eq_false_iff]at h))
 ·simp[h,bi];refine vg ?_;refine ap (vL a) ?_;simp;refine dX (sF a) [3,5,7,16,17] [0] (fun i=>[(8,.ptr 2 0 0)]) (fun i=>[(1,some (.row 3 1 ((gl L (bW L a k) a.states i).map fun x=>[iD x]))),(2,some (.box 38 [.sl 1 a.states.length]))]) (fun _=>True) trivial rfl vK (.inl rfl) (by simp[F7]) (fun i ds hi _ l r r' J' pr' fr' _=>?_) (fun _=>?_)
  ·obtain⟨jS,rfl⟩:=tR hi;have hm:=ye cJ jS
   have QR:(mvAt a.states i).1<a.states.length:=by
    obtain⟨s,j,eL,jA,e⟩:=yd a.states i jS;rw[e,pB a.states s j eL jA];exact eL
   have oO:=rR L (bW L a k) a.states i;have hfo:=LE hL.1 bO a.states i;have hz:=lC hL.1 hfo (mvAt a.states i).1;have hc:=lC hL.1 bO (mvAt a.states i).2.to.toNat;have es:=F8 L (bW L a k) a.states i jS;have fR:(mvAt a.states i).2.to.toNat<(bW L a k).length:=by omega
   have jD:(mvAt a.states i).1<(gl L (bW L a k) a.states i).length:=by omega
   rw[aj 0 fR]at hc;rw[aj 0 jD]at hz;simp;refine aO 16 ?_;simp[oO,QR,fR,jD]
   have es':gl L (bW L a k) a.states (i+1)=(gl L (bW L a k) a.states i).set (mvAt a.states i).1 (min ((gl L (bW L a k) a.states i)[(mvAt a.states i).1]+(bW L a k)[(mvAt a.states i).2.to.toNat]) (L+1)):=by
    rw[es];simp[fY,jm,fR,jD]
   repeat refine vg ?_
   exact⟨[0,1,2],by simp[es',oO,Qh]⟩
  ·rw[Dy];simp;refine fj 1 3 1 ((gl L (bW L a k) a.states (az a.states)).map fun x=>[iD x]) (by simp) (by simp[rR];omega) ?_;refine R0 ?_;simp[rR];exact vg (ar.of (k+1) [0] (by simp[IA,bW]))
 simp[h];have e:k=r.toNat:=by omega
 subst e;have h0:0<(bW L a r.toNat).length:=by omega
 refine vg ?_;simp[dy,h0]
theorem Ew(L:Int) (hL:0<=L) (a:Adv) (r:Int):0<=(bx L a r).1/\(bx L a r).1<=L+1:=by
 have hz:=lC hL (qi hL a r.toNat) 0;unfold bx;split
 ·exact⟨by simp,by simp;omega⟩
 ·split
  ·exact⟨by simp,by simp;omega⟩
  ·split
   ·exact⟨by simp,by simp;omega⟩
   ·exact hz
theorem uG(a:Adv) (r L:Int) (hm:az a.states<=1099511627776) (hL:0<=L/\L<=1048576):FC Tryz.prog 139 [gR a,iD r,iD L] (.tup [iD (bx L a r).1,iD (bx L a r).2]):=by
 refine an Tryz.func139 rfl rfl rfl Tryz.call139 [] [4] rfl 1 (fun hb w0 G0=>?_);generalize hr:bx L a r=q;unfold bx at hr;simp;refine ap (uB a hm) ?_;simp
 (refine Bz.split (fun h=>?_) (fun h=>?_)<;>(try simp only[decide_eq_true_eq,decide_eq_false_iff_not,Bool.not_eq_true',Bool.not_eq_false',beq_iff_eq,bne_iff_ne,beq_eq_false_iff_ne,bne_eq_false_iff_eq,Bool.not_not,Bool.and_eq_true,Bool.or_eq_true,Bool.and_eq_false_iff,Bool.or_eq_false_iff]at h))<;>simp[h]
 ·rw[<-hr,if_pos h];simp
 rw[if_neg (by omega)]at hr;refine bj [1,2,3] [] (fun b:Bool=>[(20,.d (bD b))]) (fun _=>[]) (fun b=>b=decide (r<0\/6<r)) ?_ (fun b be=>?_)
 ·simp
  repeat' (first|(exact Mt.is (by first|(simp[-Bool.decide_or,-Bool.decide_and];done)|(simp[-Bool.decide_or,-Bool.decide_and];omega)|(simp_all;done)|(simp_all;omega)|(simp;grind)))|((refine Bz.split (fun a2=>?_) (fun a2=>?_)<;>(try simp only[decide_eq_true_eq,decide_eq_false_iff_not,Bool.not_eq_true',Bool.not_eq_false',beq_iff_eq,bne_iff_ne,beq_eq_false_iff_ne,bne_eq_false_iff_eq,Bool.not_not,Bool.and_eq_true,Bool.or_eq_true,Bool.and_eq_false_iff,Bool.or_eq_false_iff]at a2))<;>simp[a2]))
 cases b<;>simp at be ⊢
 rotate_left
 ·rw[<-hr,if_pos be];simp
 rw[if_neg (by omega)]at hr;refine ap (Hj a r L (by omega) hL (by omega)) ?_;simp
 (refine Bz.split (fun h3=>?_) (fun h3=>?_)<;>(try simp only[decide_eq_true_eq,decide_eq_false_iff_not,Bool.not_eq_true',Bool.not_eq_false',beq_iff_eq,bne_iff_ne,beq_eq_false_iff_ne,bne_eq_false_iff_eq,Bool.not_not,Bool.and_eq_true,Bool.or_eq_true,Bool.and_eq_false_iff,Bool.or_eq_false_iff]at h3))<;>simp[h3]
 ·rw[<-hr,if_pos h3];simp
 ·rw[<-hr,if_neg h3];simp
theorem Km(a:Adv) (r:Int) (hm:az a.states<=1099511627776):FC Tryz.prog 138 [gR a,iD r] (.tup [iD (bx 1048576 a r).1,iD (bx 1048576 a r).2]):=by
 refine an Tryz.func138 rfl rfl rfl Tryz.call138 [] [] rfl 1 (fun hb w0 G0=>?_);simp;refine ap (uG a r 1048576 hm (by omega)) ?_;simp
def dv(p:Pb):Int × Int:=
 if bg p≠0 then(0,bg p) else if (bx 1048576 p.a p.rounds).2≠0 then(0,(bx 1048576 p.a p.rounds).2)
 else if 1048576<(bx 1048576 p.a p.rounds).1 * p.t.cases.length then(0,17) else((bx 1048576 p.a p.rounds).1 * p.t.cases.length,0)
theorem Hk(p:Pb) (hm:az p.a.states<=1099511627776):FC Tryz.prog 81 [eI p] (.tup [iD (dv p).1,iD (dv p).2]):=by
 refine an Tryz.func81 rfl rfl rfl Tryz.call81 [] [] rfl 3 (fun hb w0 G0=>?_);simp at hb;generalize hr:dv p=q;unfold dv at hr;simp;refine ap (m5 p hm) ?_;simp
 (refine Bz.split (fun h=>?_) (fun h=>?_)<;>(try simp only[decide_eq_true_eq,decide_eq_false_iff_not,Bool.not_eq_true',Bool.not_eq_false',beq_iff_eq,bne_iff_ne,beq_eq_false_iff_ne,bne_eq_false_iff_eq,Bool.not_not,Bool.and_eq_true,Bool.or_eq_true,Bool.and_eq_false_iff,Bool.or_eq_false_iff]at h))<;>simp[h]
 ·rw[<-hr,if_pos h];simp
 rw[if_neg (by omega)]at hr;refine ap (Km p.a p.rounds hm) ?_;simp
 (refine Bz.split (fun h2=>?_) (fun h2=>?_)<;>(try simp only[decide_eq_true_eq,decide_eq_false_iff_not,Bool.not_eq_true',Bool.not_eq_false',beq_iff_eq,bne_iff_ne,beq_eq_false_iff_ne,bne_eq_false_iff_eq,Bool.not_not,Bool.and_eq_true,Bool.or_eq_true,Bool.and_eq_false_iff,Bool.or_eq_false_iff]at h2))<;>simp[h2]
 ·rw[<-hr,if_pos h2];simp
 rw[if_neg (by omega)]at hr;have bo:=Ew 1048576 (by omega) p.a p.rounds;obtain⟨htk,-,-,-⟩:=cy (p:=p) (by omega);have bQ:=(dL htk).2.2.2.1.2;have hq:(bx 1048576 p.a p.rounds).1 * (p.t.cases.length:Int)<=1048577 * 1024:=Int.mul_le_mul bo.2 (by omega) (by omega) (by omega);have Q8:0<=(bx 1048576 p.a p.rounds).1 * (p.t.cases.length:Int):=Int.mul_nonneg bo.1 (by omega);generalize (bx 1048576 p.a p.rounds).1 * (p.t.cases.length:Int)=z at hq Q8 hr ⊢;refine vg ?_
 (refine Bz.split (fun h3=>?_) (fun h3=>?_)<;>(try simp only[decide_eq_true_eq,decide_eq_false_iff_not,Bool.not_eq_true',Bool.not_eq_false',beq_iff_eq,bne_iff_ne,beq_eq_false_iff_ne,bne_eq_false_iff_eq,Bool.not_not,Bool.and_eq_true,Bool.or_eq_true,Bool.and_eq_false_iff,Bool.or_eq_false_iff]at h3))<;>simp[h3]
 ·rw[<-hr,if_pos h3];simp
 ·rw[<-hr,if_neg h3];simp
end Go.Proofs.YtiocdkdkndpgkaaGreat
namespace Go.Proofs.YtiocdkdkndpgkaaGreat
open Go.RowKit Go Go.Shelf
theorem nT{K:Cx} {s:AS} {k:AS->Prop} {d:Option Nat} {ty t t':TypeId} {pos:String} {af:Array Edge} {g:Option (Nat × Bool)} {x:Nat} {u} (st:Nat) (L:List (List D)) (gc:∀ p n c w,(do eqGuard .eql t (.tmp x) (.const (.slice none 0 0)) (.slice p n c) (.slice none 0 0);binOp .eql t (.slice p n c) (.slice none 0 0):Sem Value).run K.P w=.ok (.bool p.isNone) w)
  (h1:s.ev (.tmp x)=.d (.fz st L)) (h:∀ b:Bool,(L≠[]->b=false)->k (s.put d (.d (.v (.bool b))))):kT K ⟨d,.binOp .eql t (.tmp x) (.const (.slice none 0 0)) t',ty,pos,af,g⟩ k u s:=by
 refine bz fun σ G a w hs=>?_
 have hx:=hs.ev (.tmp x);rw[h1]at hx;generalize he:a.eval (.tmp x)=v at hx;cases hx.un with
 | fz s' L' p c b o cs ty' fr hc hss hp H=>
  refine⟨.bool p.isNone,.d (.v (.bool p.isNone)),?_,.d (.v _),h _ (fun aV=>by rw[(hp aV).1];rfl)⟩;have e2:a.eval (.const (.slice none 0 0))=.slice none 0 0:=rfl;simp only[execOp,he,e2];rw[Sem.run_bind,gc];rfl
theorem zT(l:List Int) (hl:l.length<=549755813888):FO Tryz.prog 61 [aT l] 3 1 (l.map fun x=>[iD x]):=by
 refine m4 Tryz.func61 rfl rfl rfl Tryz.call61 [5] [] rfl 1 (fun hb w0 G0=>?_);simp;refine nT 1 (l.map fun x=>[iD x]) (fun p n c w=>by cases p<;>kernel_rfl) (by simp) (fun b bo=>?_);cases b<;>simp
 ·exact V.i hl
 ·simpa using bo
theorem mn(l:List Int) (hl:l.length<=549755813888):FC Tryz.prog 61 [aT l] (aT l):=(zT l hl).fc (by simp;omega)
theorem CP(l:List Rd) (hl:l.length<=549755813888):FO Tryz.prog 62 [bK l] 109 7 (l.map nQ):=by
 refine m4 Tryz.func62 rfl rfl rfl Tryz.call62 [5] [] rfl 1 (fun hb w0 G0=>?_);simp;refine nT 7 (l.map nQ) (fun p n c w=>by cases p<;>kernel_rfl) (by simp) (fun b bo=>?_);cases b<;>simp
 ·exact V.i hl
 ·simpa using bo
theorem qW(l:List Rd) (hl:l.length<=549755813888):FC Tryz.prog 62 [bK l] (bK l):=(CP l hl).fc (by simp;omega)
theorem M3(l:List Cs) (hl:l.length<=549755813888):FO Tryz.prog 141 [ja l] 94 3 (l.map sA):=by
 refine m4 Tryz.func141 rfl rfl rfl Tryz.call141 [5] [] rfl 1 (fun hb w0 G0=>?_);simp;refine nT 3 (l.map sA) (fun p n c w=>by cases p<;>kernel_rfl) (by simp) (fun b bo=>?_);cases b<;>simp
 ·exact V.i hl
 ·simpa using bo
theorem M4(l:List (List Mv)) (hl:l.length<=549755813888):FO Tryz.prog 143 [gQ l] 184 1 (l.map fun x=>[kV x]):=by
 refine m4 Tryz.func143 rfl rfl rfl Tryz.call143 [5] [] rfl 1 (fun hb w0 G0=>?_);simp;refine nT 1 (l.map fun x=>[kV x]) (fun p n c w=>by cases p<;>kernel_rfl) (by simp) (fun b bo=>?_);cases b<;>simp
 ·exact V.i hl
 ·simpa using bo
theorem M5(l:List Mv) (hl:l.length<=549755813888):FO Tryz.prog 144 [kV l] 188 8 (l.map Fc):=by
 refine m4 Tryz.func144 rfl rfl rfl Tryz.call144 [5] [] rfl 1 (fun hb w0 G0=>?_);simp;refine nT 8 (l.map Fc) (fun p n c w=>by cases p<;>kernel_rfl) (by simp) (fun b bo=>?_);cases b<;>simp
 ·exact V.i hl
 ·simpa using bo
theorem M6(l:List Mv) (hl:l.length<=549755813888):FC Tryz.prog 144 [kV l] (kV l):=(M5 l hl).fc (by simp;omega)
theorem sH(l:List (List Int)) (hl:l.length<=549755813888) (hv:∀ v∈l,v.length<=549755813888):FC Tryz.prog 142 [ez l] (ez l):=by
 refine an Tryz.func142 rfl rfl rfl Tryz.call142 [] [] rfl 1 (fun hb w0 G0=>?_);simp;refine ml 3 38 1 (by simp) ?_;refine am [6,7] [] (fun k:Nat=>[(8,.d (iD k)),(3,.sl 0 k)]) (fun k=>[(0,some (.row 38 1 ((l.take k).map fun x=>[aT x])))]) (fun k=>l.length - k) (fun k=>k<=l.length) 0 (by omega) (by simp) (fun k hk=>?_);simp
 (refine Bz.split (fun h=>?_) (fun h=>?_)<;>(try simp only[decide_eq_true_eq,decide_eq_false_iff_not,Bool.not_eq_true',Bool.not_eq_false',beq_iff_eq,bne_iff_ne,beq_eq_false_iff_ne,bne_eq_false_iff_eq,Bool.not_not,Bool.and_eq_true,Bool.or_eq_true,Bool.and_eq_false_iff,Bool.or_eq_false_iff]at h))<;>simp[h]
 ·refine ap (mn l[k] (hv _ (by simp))) ?_;simp
  repeat refine vg ?_
  exact ar.of (k+1) [1] (by simp;exact⟨by omega,kv _ _ _ (by simp[h])⟩)
 ·have e:k=l.length:=by omega
  subst e;simp[List.take_of_length_le];omega
def bl(l:List Rd):Nat->List Rd
 | 0=>[]
 | k+1=>if k=0\/l.getD k default≠l.getD (k - 1) default then bl l k++[l.getD k default] else bl l k
theorem m7{l:List Rd}:∀ k,k<=l.length->(∀ j,1<=j->j<k->l.getD j default≠l.getD (j - 1) default)->bl l k=l.take k
 | 0,_,_=>by simp[bl]
 | k+1,hk,h=>by
  have ih:=m7 k (by omega) (fun j h1 h2=>h j h1 (by omega));unfold bl
  rw[if_pos (by
   by_cases h0:k=0
   ·exact .inl h0
   ·exact .inr (h k (by omega) (by omega))),ih,List.take_succ_eq_append_getElem (by omega)]
  simp[show k<l.length by omega]
theorem vP(l:List Rd):∀ k,(bl l k).length<=k
 | 0=>by simp[bl]
 | k+1=>by
  have ih:=vP l k;unfold bl;split
  ·simp;omega
  ·omega
theorem zU(l:List Rd) (x:Rd):∀ k,k<=l.length->(x∈bl l k↔x∈l.take k)
 | 0,_=>by simp[bl]
 | k+1,hk=>by
  have ih:=zU l x k (by omega);have hg:l.getD k default=l[k]:=by simp[show k<l.length by omega]
  unfold bl;rw[List.take_succ_eq_append_getElem (by omega)];split
  ·rw[List.mem_append,List.mem_append,ih,hg]
  ·rename_i h;rw[ih,List.mem_append];constructor
   ·exact .inl
   ·rintro(h1|h1)
    ·exact h1
    ·have h2:k≠0/\l.getD k default=l.getD (k - 1) default:=by
      constructor
      ·intro e;exact h (.inl e)
      ·exact Classical.byContradiction fun e=>h (.inr e)
     have h3:x=l[k - 1]'(by omega):=by
      rw[List.mem_singleton]at h1;rw[h1,<-hg,h2.2];simp[show k - 1<l.length by omega]
     rw[h3,show l[k - 1]'(by omega)=(l.take k)[k - 1]'(by simp;omega) by simp];exact List.getElem_mem _
theorem sI{l:List Rd} (hs:l.Pairwise fun a b=>¬ roundC b a<0):∀ k,k<=l.length->ee (bl l k)/\∀ x∈bl l k,x=l.getD (k - 1) default\/roundC x (l.getD (k - 1) default)<0
 | 0,_=>by simp[bl,ee]
 | k+1,hk=>by
  obtain⟨i1,i2⟩:=sI hs k (by omega);have hg:l.getD k default=l[k]:=by simp[show k<l.length by omega]
  unfold bl;simp only[Nat.add_sub_cancel];by_cases h0:k=0
  ·subst h0;rw[if_pos (.inl rfl)];simp[bl,ee]
  have hg1:l.getD (k - 1) default=l[k - 1]'(by omega):=by simp[show k - 1<l.length by omega]
  have im:¬ roundC (l.getD k default) (l.getD (k - 1) default)<0:=by
   rw[hg,hg1];exact List.pairwise_iff_getElem.1 hs (k - 1) k (by omega) (by omega) (by omega)
  by_cases h1:l.getD k default=l.getD (k - 1) default
  ·rw[if_neg (by intro h;rcases h with h|h;exact h0 h;exact h h1)];exact⟨i1,fun x hx=>by rw[h1];exact i2 x hx⟩
  ·rw[if_pos (.inr h1)]
   have aG:roundC (l.getD (k - 1) default) (l.getD k default)<0:=by
    rcases Int.lt_trichotomy (roundC (l.getD (k - 1) default) (l.getD k default)) 0 with h|h|h
    ·exact h
    ·exact absurd ((kK _ _).1 h).symm h1
    ·exact absurd ((lU _ _).2 h) im
   have aX:∀ x∈bl l k,roundC x (l.getD k default)<0:=fun x hx=>by
    rcases i2 x hx with h|h
    ·rw[h];exact aG
    ·exact gx h aG
   refine⟨?_,fun x hx=>?_⟩
   ·unfold ee at i1 ⊢;rw[List.pairwise_append];exact⟨i1,by simp,fun a ha b hb=>by rw[List.mem_singleton]at hb;rw[hb];exact aX a ha⟩
   ·rcases List.mem_append.1 hx with h|h
    ·exact .inr (aX x h)
    ·rw[List.mem_singleton]at h;exact .inl h
theorem jb{w:World} {base g cap n:Nat} {l:List Rd} (h:aJ w base 109 7 (.slice (some ⟨g,0,none⟩) n cap) n (aL l)) (hl:l.length=n) (i:Nat) (hi:i<n):∀ j (u:Value),(l.getD i default).c[j]?=some u->w.cell? ⟨g,i * 7+j,none⟩=some u:=fun j u hu=>by
 have hj:j<7:=(Array.getElem?_eq_some_iff.1 hu).1;have oh:i<l.length:=by omega
 rw[show l.getD i default=l[i] by simp[oh]]at hu;obtain⟨g',c',e,hc⟩:=h.cell (i * 7+j) u (by unfold aL;rw[tI Rd.c 7 (fun _=>rfl) l i j oh hj];exact hu);simp only[Value.slice.injEq,Option.some.injEq,Addr.mk.injEq]at e;obtain⟨⟨rfl,_⟩,_,_⟩:=e;exact hc
theorem fQ{w:World} {base g cap n:Nat} {xs:List Value} (h:aJ w base 109 7 (.slice (some ⟨g,0,none⟩) n cap) n xs) (o:Nat) (ho:o<n * 7):w.frozen? ⟨g,o,none⟩=false:=by
 rcases h.2 with ⟨h,_⟩|⟨g',cap',cur,fz,e1,h2,h3,h4,h5,h6,h7,h8⟩
 ·cases h
 ·simp only[Value.slice.injEq,Option.some.injEq,Addr.mk.injEq]at e1;obtain⟨⟨rfl,_⟩,_,rfl⟩:=e1;have bA:n * 7<=cap * 7:=Nat.mul_le_mul_right _ h5;exact xf h3 h4 o (by omega)
theorem zV{c l:List Rd} {m i:Nat} (h:c.drop m=l.drop m) (hi:m<=i):c.getD i default=l.getD i default:=by
 have h1:=congrArg (fun x=>x[i - m]?) h;simp only[List.getElem?_drop,show m+(i - m)=i by omega]at h1;rw[List.getD_eq_getElem?_getD,List.getD_eq_getElem?_getD,h1]
abbrev zR:Value:=.agg #[.int .i64 0,.int .i64 0,.int .i64 0,.int .i64 0,.int .i64 0,.int .i64 0,.int .i64 0]
theorem zR_cells:zR.cells=#[.int .i64 0,.int .i64 0,.int .i64 0,.int .i64 0,.int .i64 0,.int .i64 0,.int .i64 0]:=by rfl
theorem Kn(n:Nat):(Builtin.zeroCells zR.cells n).toList.length=n * 7:=by rw[zR_cells];simp[Builtin.zeroCells]
theorem Qi(n:Nat):∀ u∈(Builtin.zeroCells zR.cells n).toList,u.oneCell'=true:=by
 rw[zR_cells];intro u hu;simp only[Builtin.zeroCells,Array.toList_map,List.mem_map]at hu;obtain⟨i,_,rfl⟩:=hu;have hm:i % 7<7:=Nat.mod_lt _ (by omega)
 show (#[Value.int .i64 0,.int .i64 0,.int .i64 0,.int .i64 0,.int .i64 0,.int .i64 0,.int .i64 0])[i % 7]!.oneCell'=true
 generalize i % 7=j at hm;rcases (show j=0\/j=1\/j=2\/j=3\/j=4\/j=5\/j=6 by omega) with h|h|h|h|h|h|h<;>subst h<;>rfl
theorem Hl(l:List Rd) (k:Nat) (hk:k<=l.length):(aL l).take (k * 7)=aL (l.take k):=by
 have h:aL l=aL (l.take k)++aL (l.drop k):=by
  unfold aL;rw[<-List.flatMap_append,List.take_append_drop]
 rw[h,List.take_append_of_le_length (by rw[gF];simp;omega),List.take_of_length_le (by rw[gF];simp;omega)]
theorem AH{P:Program} {ops:Array Oper} {rest:List Oper} {o:Oper} {a:Act} {w:World} {Q:Exit->Act->World->Prop} (Lx:o.guard=none) (x:Operand) (t:TypeId)
  (ho:o.op=.call { callee:=.builtin .clear,args:=#[x],argTypes:=#[t] }) (e:TypeId) (z:Value) (ht:P.underlying t=some (.slice e)) (hv:∀ w,(zeroValue e).run P w=.ok z w) (b off n c:Nat) (hx:a.eval x=.slice (some ⟨b,off,none⟩) n c) (hn:0<n)
  (h1:∀ u∈(Builtin.zeroCells z.cells n).toList,u.oneCell'=true) (hc:∀ j,j<n * z.cells.size->(w.cell? ⟨b,off+j,none⟩).isSome=true) (hf:∀ j,j<n * z.cells.size->w.frozen? ⟨b,off+j,none⟩=false)
  (h:wpList P ops Q rest (a.put o.dst (.tuple #[])) (w.setCells b off (Builtin.zeroCells z.cells n).toList)):wpList P ops Q (o :: rest) a w:=by
 refine wpList_plain Lx fun _ hK=>?_
 have bi:(Builtin.zeroCells z.cells n).toList.length=n * z.cells.size:=by simp[Builtin.zeroCells]
 have cJ:=run_storeCells_cells (P:=P) b off (Builtin.zeroCells z.cells n).toList 0 w (by rw[bi];simpa using hc) (by rw[bi];simpa using hf) h1;simp only[Nat.add_zero]at cJ
 have hr:(Builtin.clear_ #[t] o.type #[.slice (some ⟨b,off,none⟩) n c]).run P w=.ok (.tuple #[]) (w.setCells b off (Builtin.zeroCells z.cells n).toList):=by
  obtain⟨m,rfl⟩:∃ m,n=m+1:=⟨n - 1,by omega⟩;simp[Builtin.clear_,run_underlying ht,hv,cJ]
 unfold Oper.wp execOp;simp only[ho,resolve,invoke,builtin,Sem.run_bind,Sem.run_pure,Result.andThen_ok,List.map_toArray,List.map_cons,List.map_nil,hx,hr];exact hK _ _ h
theorem Ey(l:List Rd) (base g cap:Nat) (w:World) (h:aJ w base 109 7 (.slice (some ⟨g,0,none⟩) l.length cap) l.length (aL l)) (hl:l.length<=1048576) (hcap:cap<=9223372036854775807) :
  Calls Tryz.prog 189 #[.slice (some ⟨g,0,none⟩) l.length cap] w fun e w'=>∃ u,e=.returned u/\aJ w' base 109 7 u (bl l l.length).length (aL (bl l l.length))/\∀ b w0,b<=base->Below b w0 w->Below b w0 w':=by
 have HH:=ab h;clear h
 go_enter Tryz.func189,Tryz.ntmps189
 by_cases h2:l.length<2
 ·have Ob:(l.length:Int)<2:=by omega
  have HD:bc (bl l l.length=l):=ab (by rw[m7 l.length (Nat.le_refl _) (fun j h1 h3=>by omega),List.take_length])
  go_wp2_with fail
  go_ret
  exact⟨_,rfl,by rw[HD.o];exact HH.o,fun b w0 _ hb=>hb⟩
 have Ob:¬ (l.length:Int)<2:=by omega
 go_wp2_with fail
 go_loopw [3] (fun i wr=>bc (aJ wr base 109 7 (.slice (some ⟨g,0,none⟩) l.length cap) l.length (aL l))/\bc (∀ b w0,b<=base->Below b w0 w->Below b w0 wr)/\∃ k:Nat,1<=k/\k<=l.length/\i=.int .i64 k/\∀ j,1<=j->j<k->l.getD j default≠l.getD (j - 1) default) (fun i _=>l.length - (intOf i).toNat)
 ·exact⟨HH,ab (fun _ _ _ hb=>hb),1,by omega,by omega,rfl,fun j h1 h3=>by omega⟩
 ·
  obtain⟨aS,vZ,k,dw,hk,rfl,bB⟩:=hrel;have Dj:=ab bB;clear bB;by_cases aG:k<l.length
  ·have hlt':(k:Int)<l.length:=by omega
   obtain⟨q,hkq⟩:∃ q,k - 1=q:=⟨_,rfl⟩;have r1:=jb aS.out rfl k aG;have r0:=jb aS.out rfl q (by omega);have Q8:(q:Int)<l.length:=by omega
   have NJ:(k:Int) - 1=(q:Int):=by omega
   have xM:IntKind.i64.wrap (q:Int)=(q:Int):=by rw[IntWalk.i64_in _ (by omega)]
   have HKQ:=ab hkq;clear hkq;generalize hy:l.getD k default=y at r1;generalize hz:l.getD q default=z at r0;have HY:=ab hy;have HZ:=ab hz;clear hy hz;have a0:∀ x:ExtW wr,x.val.cell? ⟨g,k * 7,none⟩=some (.int .i64 y.g.n):=fun x=>x.cell (r1 0 _ rfl)
   have a1:∀ x:ExtW wr,x.val.cell? ⟨g,k * 7+1,none⟩=some (.int .i64 y.g.h0):=fun x=>x.cell (r1 1 _ rfl)
   have a2:∀ x:ExtW wr,x.val.cell? ⟨g,k * 7+2,none⟩=some (.int .i64 y.g.h1):=fun x=>x.cell (r1 2 _ rfl)
   have a3:∀ x:ExtW wr,x.val.cell? ⟨g,k * 7+3,none⟩=some (.int .i64 y.g.h2):=fun x=>x.cell (r1 3 _ rfl)
   have a4:∀ x:ExtW wr,x.val.cell? ⟨g,k * 7+4,none⟩=some (.int .i64 y.g.h3):=fun x=>x.cell (r1 4 _ rfl)
   have a5:∀ x:ExtW wr,x.val.cell? ⟨g,k * 7+5,none⟩=some (.int .i64 y.g.h4):=fun x=>x.cell (r1 5 _ rfl)
   have a6:∀ x:ExtW wr,x.val.cell? ⟨g,k * 7+6,none⟩=some (.int .i64 y.f):=fun x=>x.cell (r1 6 _ rfl)
   have b0:∀ x:ExtW wr,x.val.cell? ⟨g,q * 7,none⟩=some (.int .i64 z.g.n):=fun x=>x.cell (r0 0 _ rfl)
   have b1:∀ x:ExtW wr,x.val.cell? ⟨g,q * 7+1,none⟩=some (.int .i64 z.g.h0):=fun x=>x.cell (r0 1 _ rfl)
   have b2:∀ x:ExtW wr,x.val.cell? ⟨g,q * 7+2,none⟩=some (.int .i64 z.g.h1):=fun x=>x.cell (r0 2 _ rfl)
   have b3:∀ x:ExtW wr,x.val.cell? ⟨g,q * 7+3,none⟩=some (.int .i64 z.g.h2):=fun x=>x.cell (r0 3 _ rfl)
   have b4:∀ x:ExtW wr,x.val.cell? ⟨g,q * 7+4,none⟩=some (.int .i64 z.g.h3):=fun x=>x.cell (r0 4 _ rfl)
   have b5:∀ x:ExtW wr,x.val.cell? ⟨g,q * 7+5,none⟩=some (.int .i64 z.g.h4):=fun x=>x.cell (r0 5 _ rfl)
   have b6:∀ x:ExtW wr,x.val.cell? ⟨g,q * 7+6,none⟩=some (.int .i64 z.f):=fun x=>x.cell (r0 6 _ rfl)
   have kB:=fun w=>rW y z w
   generalize uZ:decide (y=z)=dz at kB;have HDZ:=ab uZ;clear uZ r1 r0
   go_wp2_with fail
   refine bI (by kernel_rfl) (by kernel_rfl) ?_
   repeat (quiet_step (fail))
   refine wpQuiet_nil ?_;intro _ jT;obtain⟨xq,gW⟩:=jT;subst gW;cases dz with
   | false=>
    go_wp2_with fail
    go_roundw
    ·
     refine⟨ab (aS.out.up xq.ext),ab (fun b w0 hb h0=>?_),k+1,by omega,by omega,by go_num,fun j h1 h3=>?_⟩
     ·have aK:=vZ.out b w0 hb h0;have hg:=aS.out.lt g rfl;exact⟨xq.ext.os.trans aK.os,xq.ext.tape.trans aK.tape,xq.ext.output.trans aK.output,Nat.le_trans aK.size xq.ext.size,fun j hj=>(xq.ext.block j (by omega)).trans (aK.block j hj)⟩
     ·by_cases e:j=k
      ·subst e;rw[HY.o,HKQ.o,HZ.o];exact of_decide_eq_false HDZ.o
      ·exact Dj.o j h1 (by omega)
    ·simp[intOf];omega
   | true=>
    have FD:y=z:=of_decide_eq_true HDZ.o;clear a0 a1 a2 a3 a4 a5 a6 b0 b1 b2 b3 b4 b5 b6 kB NJ xM
    have bQ:l.length<=cap:=by
     rcases aS.out.2 with ⟨h,_⟩|⟨g',cap',cur,fz,e1,h2,h3,h4,h5,h6,h7,h8⟩
     ·cases h
     ·simp only[Value.slice.injEq]at e1;omega
    have xV:¬ cap=k:=by omega
    have hDk:bc (bl l k=l.take k):=ab (m7 k (by omega) Dj.o)
    have hDk1:bc (bl l (k+1)=l.take k):=ab (by
     show (if k=0\/l.getD k default≠l.getD (k - 1) default then bl l k++[l.getD k default] else bl l k)=_
     rw[if_neg (by
      rintro(h|h)
      ·omega
      ·exact h (by rw[HY.o,HKQ.o,HZ.o,FD])),hDk.o])
    clear FD
    go_wp2_with fail
    obtain⟨wrA,Re⟩:∃ x,x=wr:=⟨_,rfl⟩;subst Re;have HOA:=ab (aS.out.up xq.ext)
    have HBA:bc (∀ b w0,b<=base->Below b w0 w->Below b w0 xq.val):=ab (fun b w0 hb h0=>by
     have aK:=vZ.out b w0 hb h0;have hg:=aS.out.lt g rfl
     exact⟨xq.ext.os.trans aK.os,xq.ext.tape.trans aK.tape,xq.ext.output.trans aK.output,Nat.le_trans aK.size xq.ext.size,fun j hj=>(xq.ext.block j (by omega)).trans (aK.block j hj)⟩)
    generalize xq.val=wB at HOA HBA ⊢;clear xq aS vZ
    go_loopw [3,5] (fun a b wr=>bc (∀ b w0,b<=base->Below b w0 w->Below b w0 wr)/\∃ (kk k2:Nat) (c:List Rd),a=.int .i64 kk/\b=.int .i64 k2/\1<=k2/\k2<=l.length - k/\kk<=k+k2 - 1/\c.length=l.length/\bc (aJ wr base 109 7 (.slice (some ⟨g,0,none⟩) l.length cap) l.length (aL c))/\bc ((bl l (k+k2)).length=kk/\c.take kk=bl l (k+k2)/\c.drop (k+k2 - 1)=l.drop (k+k2 - 1))) (fun _ b _=>l.length - (intOf b).toNat)
    ·
     refine⟨HBA,k,1,l,rfl,rfl,by omega,by omega,by omega,rfl,HOA,ab ⟨?_,?_,rfl⟩⟩
     ·rw[hDk1.o];simp;omega
     ·rw[hDk1.o]
    ·
     obtain⟨be,kk,k2,c,rfl,rfl,h21,h22,Aq,rf,aS,jY⟩:=hrel;by_cases dJ:k2<l.length - k
     ·have hl2':(k2:Int)<((l.length - k:Nat):Int):=by omega
      obtain⟨r,hr⟩:∃ r,k2 - 1=r:=⟨_,rfl⟩;have s1:=jb aS.out rf (k+k2) (by omega);have s0:=jb aS.out rf (k+r) (by omega);have k8:(r:Int)<((l.length - k:Nat):Int):=by omega
      have hsub2:(k2:Int) - 1=(r:Int):=by omega
      have hwr2:IntKind.i64.wrap (r:Int)=(r:Int):=by rw[IntWalk.i64_in _ (by omega)]
      have e1:=zV jY.out.2.2 (i:=k+k2) (by omega);have e0:=zV jY.out.2.2 (i:=k+r) (by omega);have HRR:=ab hr;clear hr;generalize OK:c.getD (k+k2) default=y2 at s1 e1;generalize dN:c.getD (k+r) default=z2 at s0 e0;have Qw:=ab e1;have HE0:=ab e0;have HY2:=ab OK;simp only[Nat.add_mul]at s1 s0;clear e1 e0 OK dN;have a0:∀ x:ExtW wr,x.val.cell? ⟨g,k * 7+k2 * 7,none⟩=some (.int .i64 y2.g.n):=fun x=>x.cell (s1 0 _ rfl)
      have a1:∀ x:ExtW wr,x.val.cell? ⟨g,k * 7+k2 * 7+1,none⟩=some (.int .i64 y2.g.h0):=fun x=>x.cell (s1 1 _ rfl)
      have a2:∀ x:ExtW wr,x.val.cell? ⟨g,k * 7+k2 * 7+2,none⟩=some (.int .i64 y2.g.h1):=fun x=>x.cell (s1 2 _ rfl)
      have a3:∀ x:ExtW wr,x.val.cell? ⟨g,k * 7+k2 * 7+3,none⟩=some (.int .i64 y2.g.h2):=fun x=>x.cell (s1 3 _ rfl)
      have a4:∀ x:ExtW wr,x.val.cell? ⟨g,k * 7+k2 * 7+4,none⟩=some (.int .i64 y2.g.h3):=fun x=>x.cell (s1 4 _ rfl)
      have a5:∀ x:ExtW wr,x.val.cell? ⟨g,k * 7+k2 * 7+5,none⟩=some (.int .i64 y2.g.h4):=fun x=>x.cell (s1 5 _ rfl)
      have a6:∀ x:ExtW wr,x.val.cell? ⟨g,k * 7+k2 * 7+6,none⟩=some (.int .i64 y2.f):=fun x=>x.cell (s1 6 _ rfl)
      have b0:∀ x:ExtW wr,x.val.cell? ⟨g,k * 7+r * 7,none⟩=some (.int .i64 z2.g.n):=fun x=>x.cell (s0 0 _ rfl)
      have b1:∀ x:ExtW wr,x.val.cell? ⟨g,k * 7+r * 7+1,none⟩=some (.int .i64 z2.g.h0):=fun x=>x.cell (s0 1 _ rfl)
      have b2:∀ x:ExtW wr,x.val.cell? ⟨g,k * 7+r * 7+2,none⟩=some (.int .i64 z2.g.h1):=fun x=>x.cell (s0 2 _ rfl)
      have b3:∀ x:ExtW wr,x.val.cell? ⟨g,k * 7+r * 7+3,none⟩=some (.int .i64 z2.g.h2):=fun x=>x.cell (s0 3 _ rfl)
      have b4:∀ x:ExtW wr,x.val.cell? ⟨g,k * 7+r * 7+4,none⟩=some (.int .i64 z2.g.h3):=fun x=>x.cell (s0 4 _ rfl)
      have b5:∀ x:ExtW wr,x.val.cell? ⟨g,k * 7+r * 7+5,none⟩=some (.int .i64 z2.g.h4):=fun x=>x.cell (s0 5 _ rfl)
      have b6:∀ x:ExtW wr,x.val.cell? ⟨g,k * 7+r * 7+6,none⟩=some (.int .i64 z2.f):=fun x=>x.cell (s0 6 _ rfl)
      have kB:=fun w=>Qb y2 z2 w
      generalize uZ:decide (y2=z2)=dz2 at kB;have HDZ2:=ab uZ;clear uZ s1 s0
      go_wp2_with fail
      refine bI (by kernel_rfl) (by kernel_rfl) ?_
      repeat (quiet_step (fail))
      refine wpQuiet_nil ?_;intro _ jT;obtain⟨xq,gW⟩:=jT;subst gW;have pZ:=ab (aS.out.up xq.ext)
      have Q6:bc (∀ b w0,b<=base->Below b w0 w->Below b w0 xq.val):=ab (fun b w0 hb h0=>by
       have aK:=be.out b w0 hb h0;have hg:=aS.out.lt g rfl
       exact⟨xq.ext.os.trans aK.os,xq.ext.tape.trans aK.tape,xq.ext.output.trans aK.output,Nat.le_trans aK.size xq.ext.size,fun j hj=>(xq.ext.block j (by omega)).trans (aK.block j hj)⟩)
      generalize xq.val=wC at pZ Q6 ⊢;clear xq aS be a0 a1 a2 a3 a4 a5 a6 b0 b1 b2 b3 b4 b5 b6 kB hsub2 hwr2 k8;cases dz2 with
      | true=>
       have yS:y2=z2:=of_decide_eq_true HDZ2.o
       have Ln:bc (bl l (k+(k2+1))=bl l (k+k2)):=ab (by
        show (if k+k2=0\/l.getD (k+k2) default≠l.getD (k+k2 - 1) default then bl l (k+k2)++[l.getD (k+k2) default] else bl l (k+k2))=_
        rw[if_neg (by
         rintro(h|h)
         ·omega
         ·refine h ?_;have h9:=HRR.o
          rw[show k+k2 - 1=k+r by omega,<-Qw.o,<-HE0.o,yS])])
       clear yS
       go_wp2_with fail
       go_roundw
       ·
        refine⟨Q6,kk,k2+1,c,rfl,by go_num,by omega,by omega,by omega,rf,pZ,ab ⟨?_,?_,?_⟩⟩
        ·rw[Ln.o];exact jY.out.1
        ·rw[Ln.o];exact jY.out.2.1
        ·have h9:=congrArg (List.drop 1) jY.out.2.2;rw[List.drop_drop,List.drop_drop,show k+k2 - 1+1=k+(k2+1) - 1 by omega]at h9;exact h9
       ·simp[intOf];omega
      | false=>
       have yS:y2≠z2:=of_decide_eq_false HDZ2.o
       have Ln:bc (bl l (k+(k2+1))=bl l (k+k2)++[y2]):=ab (by
        show (if k+k2=0\/l.getD (k+k2) default≠l.getD (k+k2 - 1) default then bl l (k+k2)++[l.getD (k+k2) default] else bl l (k+k2))=_
        rw[if_pos (.inr (by
         have h9:=HRR.o;rw[show k+k2 - 1=k+r by omega,<-Qw.o,<-HE0.o]
         exact yS)),<-Qw.o])
       have HYN:=ab yS;have s1:=jb pZ.o rf (k+k2) (by omega);rw[HY2.o]at s1;simp only[Nat.add_mul]at s1;have s3:=jb pZ.o rf kk (by omega);generalize c.getD kk default=y3 at s3;have a0:wC.cell? ⟨g,k * 7+k2 * 7,none⟩=some (.int .i64 y2.g.n):=s1 0 _ rfl;have a1:wC.cell? ⟨g,k * 7+k2 * 7+1,none⟩=some (.int .i64 y2.g.h0):=s1 1 _ rfl;have a2:wC.cell? ⟨g,k * 7+k2 * 7+2,none⟩=some (.int .i64 y2.g.h1):=s1 2 _ rfl;have a3:wC.cell? ⟨g,k * 7+k2 * 7+3,none⟩=some (.int .i64 y2.g.h2):=s1 3 _ rfl;have a4:wC.cell? ⟨g,k * 7+k2 * 7+4,none⟩=some (.int .i64 y2.g.h3):=s1 4 _ rfl;have a5:wC.cell? ⟨g,k * 7+k2 * 7+5,none⟩=some (.int .i64 y2.g.h4):=s1 5 _ rfl;have a6:wC.cell? ⟨g,k * 7+k2 * 7+6,none⟩=some (.int .i64 y2.f):=s1 6 _ rfl;have b0:wC.cell? ⟨g,kk * 7,none⟩=some (.int .i64 y3.g.n):=s3 0 _ rfl;have b1:wC.cell? ⟨g,kk * 7+1,none⟩=some (.int .i64 y3.g.h0):=s3 1 _ rfl;have b2:wC.cell? ⟨g,kk * 7+2,none⟩=some (.int .i64 y3.g.h1):=s3 2 _ rfl;have b3:wC.cell? ⟨g,kk * 7+3,none⟩=some (.int .i64 y3.g.h2):=s3 3 _ rfl;have b4:wC.cell? ⟨g,kk * 7+4,none⟩=some (.int .i64 y3.g.h3):=s3 4 _ rfl;have b5:wC.cell? ⟨g,kk * 7+5,none⟩=some (.int .i64 y3.g.h4):=s3 5 _ rfl;have b6:wC.cell? ⟨g,kk * 7+6,none⟩=some (.int .i64 y3.f):=s3 6 _ rfl;have f0:=fQ pZ.o (kk * 7) (by omega);have f1:=fQ pZ.o (kk * 7+1) (by omega);have f2:=fQ pZ.o (kk * 7+2) (by omega);have f3:=fQ pZ.o (kk * 7+3) (by omega);have f4:=fQ pZ.o (kk * 7+4) (by omega);have f5:=fQ pZ.o (kk * 7+5) (by omega);have f6:=fQ pZ.o (kk * 7+6) (by omega);have ot:(kk:Int)<l.length:=by omega
       clear s1 s3 yS
       go_wp2_with fail
       go_roundw
       ·
        refine⟨?_,kk+1,k2+1,c.set kk y2,by go_num,by go_num,by omega,by omega,by omega,by rw[List.length_set];exact rf,?_,ab ⟨?_,?_,?_⟩⟩
        ·refine ab fun b w0 hb h0=>?_
         change Below b w0 (wC.setCells g (kk * 7) y2.c.toList);have bo:=Q6.o b w0 hb h0;have hg:=pZ.o.lt g rfl;obtain⟨o1,o2,o3,o4,o5⟩:=fe g y2.c.toList (kk * 7) wC;exact⟨o2.trans bo.os,o3.trans bo.tape,o4.trans bo.output,by rw[o5];exact bo.size,fun j hj=>(o1 j (by omega)).trans (bo.block j hj)⟩
        ·refine ab ?_;change aJ (wC.setCells g (kk * 7) y2.c.toList) _ _ _ _ _ _;rw[<-JE c kk (by omega) y2];exact pZ.o.setMany (kk * 7) y2.c.toList (by show kk * 7+7<=l.length * 7;omega)
        ·rw[Ln.o,List.length_append,jY.out.1];rfl
        ·rw[Ln.o,List.take_succ_eq_append_getElem (by rw[List.length_set];omega),List.take_set_of_le (by omega),List.getElem_set_self,jY.out.2.1]
        ·have h9:=congrArg (List.drop 1) jY.out.2.2;rw[List.drop_drop,List.drop_drop,show k+k2 - 1+1=k+(k2+1) - 1 by omega]at h9;rw[List.drop_set_of_lt (by omega)];exact h9
       ·simp[intOf];omega
     ·have Lg:k+k2=l.length:=by omega
      rw[Lg]at jY;have hkc:¬ cap=kk:=by omega
      have ot:(kk:Int)<=l.length:=by omega
      have hl2':¬ (k2:Int)<((l.length - k:Nat):Int):=by omega
      have HZC:bc (∀ j,j<(l.length - kk) * zR.cells.size->(wr.cell? ⟨g,kk * 7+j,none⟩).isSome=true):=ab fun j hj=>by
       have Di:j<(l.length - kk) * 7:=hj;have hp:(kk * 7+j) / 7<l.length:=by omega
       have hm:(kk * 7+j) % 7<7:=Nat.mod_lt _ (by omega);have h9:=jb aS.out rf ((kk * 7+j) / 7) hp ((kk * 7+j) % 7) _ (Array.getElem?_eq_getElem (show (kk * 7+j) % 7<(c.getD ((kk * 7+j) / 7) default).c.size from hm));rw[show (kk * 7+j) / 7 * 7+(kk * 7+j) % 7=kk * 7+j by omega]at h9;rw[h9];rfl
      have HZF:bc (∀ j,j<(l.length - kk) * zR.cells.size->wr.frozen? ⟨g,kk * 7+j,none⟩=false):=ab fun j hj=>fQ aS.out _ (by
       have Di:j<(l.length - kk) * 7:=hj
       omega)
      have DG:0<l.length - kk:=by omega
      go_wp2_with ((refine AH rfl (.tmp 56) 39 rfl 109 zR Tryz.underlying39 Tryz.zeroValue109 g (kk * 7) (l.length - kk) _ rfl DG (Qi _) HZC.o HZF.o ?_))
      go_ret
      have h9:=aS.out.setMany (kk * 7) (Builtin.zeroCells zR.cells (l.length - kk)).toList (by rw[Kn];omega)
      have hf:(aL c).take (kk * 7)=aL (bl l l.length):=by
       rw[Hl c kk (by omega),jY.out.2.1]
      rw[hf,Kn]at h9;refine⟨.slice (some ⟨g,0,none⟩) kk cap,rfl,?_,fun b w0 hb h0=>?_⟩
      ·rw[jY.out.1];refine aJ.shrink (m:=l.length - kk) (ys:=(Builtin.zeroCells zR.cells (l.length - kk)).toList++(aL c).drop (kk * 7+(l.length - kk) * 7)) ?_ (by rw[gF,jY.out.1]);rw[show kk+(l.length - kk)=l.length by omega,<-List.append_assoc];exact h9
      ·have bo:=be.out b w0 hb h0;have hg:=aS.out.lt g rfl;obtain⟨o1,o2,o3,o4,o5⟩:=fe g (Builtin.zeroCells zR.cells (l.length - kk)).toList (kk * 7) wr;exact⟨o2.trans bo.os,o3.trans bo.tape,o4.trans bo.output,Nat.le_trans bo.size (Nat.le_of_eq o5.symm),fun j hj=>(o1 j (by omega)).trans (bo.block j hj)⟩
  ·obtain rfl:k=l.length:=by omega
   have HD:bc (bl l l.length=l):=ab (by rw[m7 l.length (Nat.le_refl _) Dj.o,List.take_length])
   go_wp2_with fail
   go_ret
   exact⟨_,rfl,by rw[HD.o];exact aS.out,vZ.out⟩
def bT(l:List (List Mv)) (k:Nat):List Rd:=(l.take k).flatMap fun x=>x.map (·.r)
theorem zW{l:List (List Mv)} {k:Nat} (hk:k<l.length):bT l (k+1)=bT l k++l[k].map (·.r):=by
 unfold bT;rw[List.take_succ_eq_append_getElem hk,List.flatMap_append];simp
theorem yJ(l:List (List Mv)) (k:Nat):(bT l k).length<=az l:=by
 have h:∀ l:List (List Mv),(l.flatMap fun x=>x.map (·.r)).length=az l:=fun l=>by
  induction l with
  | nil=>rfl
  | cons a r ih=>
   rw[List.flatMap_cons,List.length_append,ih];simp[az]
 have h2:(l.flatMap fun x=>x.map (·.r))=bT l k++(l.drop k).flatMap fun x=>x.map (·.r):=by
  unfold bT;rw[<-List.flatMap_append,List.take_append_drop]
 have h3:=congrArg List.length h2;rw[h,List.length_append]at h3;omega
theorem xw{a:Adv}:bl ((bT a.states a.states.length).mergeSort fun x y=>!(Go.Proofs.ltOf roundC) y x) ((bT a.states a.states.length).mergeSort fun x y=>!(Go.Proofs.ltOf roundC) y x).length=aU a:=by
 generalize hs:(bT a.states a.states.length).mergeSort (fun x y=>!(Go.Proofs.ltOf roundC) y x)=s;have hp:∀ x,x∈s↔x∈bT a.states a.states.length:=fun x=>by rw[<-hs];exact List.mem_mergeSort
 have hsort:s.Pairwise fun a b=>¬ roundC b a<0:=by
  rw[<-hs]
  have h:=List.pairwise_mergeSort (le:=fun x y=>!(Go.Proofs.ltOf roundC) y x) (fun x y z h1 h2=>by
   simp only[Go.Proofs.ltOf,Bool.not_eq_true',decide_eq_false_iff_not]at *
   exact ru h2 h1) (fun x y=>by
   simp only[Go.Proofs.ltOf];by_cases h:roundC y x<0
   ·have h2:¬ roundC x y<0:=fun h3=>by
     have:=gx h h3;exact kL _ this
    simp[h,h2]
   ·simp[h]) (bT a.states a.states.length)
  refine h.imp ?_;intro x y La;simpa[Go.Proofs.ltOf] using La
 refine sorted_unique _ _ (sI hsort _ (Nat.le_refl _)).1 (pH a) fun x=>?_
 rw[zU s x _ (Nat.le_refl _),List.take_length,hp,jL];unfold bT;rw[List.take_length,List.mem_flatMap];constructor
 ·rintro⟨l,hl,hx⟩;obtain⟨m,hm,rfl⟩:=List.mem_map.1 hx;exact⟨l,hl,m,hm,rfl⟩
 ·rintro⟨l,hl,m,hm,rfl⟩;exact⟨l,hl,List.mem_map.2 ⟨m,hm,rfl⟩⟩
theorem Ez(a:Adv) (ha:advE a=0) (hN:az a.states<=4096) (v:Value) (w:World) (hv:cO w v a.states) :
  Calls Tryz.prog 106 #[.agg #[.int .i64 a.n,v]] w fun e w'=>∃ u,e=.returned u/\iP w' u (aU a)/\aJ w' w.heap.size 109 7 u (aU a).length (aL (aU a))/\Below w.heap.size w w':=by
 obtain⟨i0,rF,dE,dc,dN⟩:=info_parts Tryz.infoRound;have HV:=ab hv;obtain⟨pa,ca,rfl,la1,la2,ea⟩:=hv.at;have E:=ab ea;clear hv ea;have cg:∀ r∈aU a,OkR a.n r:=fun r hr=>eQ ha hr
 have aX:∀ k,k<=a.states.length->∀ r∈bT a.states k,OkR a.n r:=fun k hk r hr=>cg r ((jL a r).2 (by
  unfold bT at hr;obtain⟨l,hl,hx⟩:=List.mem_flatMap.1 hr;obtain⟨m,hm,rfl⟩:=List.mem_map.1 hx
  exact⟨l,List.mem_of_mem_take hl,m,hm,rfl⟩))
 have xD:=ab cg;have NB:=ab aX;clear cg aX;have uP:=(cZ ha).1
 have HS:bc (0<(bT a.states a.states.length).length):=ab (by
  have h1:=(cZ ha).2.1 0 (by omega);rw[show a.states.getD 0 []=a.states[0]'(by omega) by simp[show 0<a.states.length by omega]]at h1;unfold stateE at h1;have aV:(a.states[0]'(by omega)).length≠0:=fun e=>by rw[if_pos e]at h1;omega
  have h2:=zW (l:=a.states) (k:=0) (by omega)
  have h3:(bT a.states 1).length<=(bT a.states a.states.length).length:=by
   have h4:bT a.states a.states.length=bT a.states 1++(a.states.drop 1).flatMap fun x=>x.map (·.r):=by
    unfold bT;rw[List.take_length,<-List.flatMap_append,List.take_append_drop]
   rw[h4];simp
  rw[h2]at h3;simp at h3
  omega)
 go_enter Tryz.func106,Tryz.ntmps106
 go_wp2_with fail
 refine eE (fun W=>Below w.heap.size w W) (by go_grown) (fun W0 bw=>?_)
 go_loopw [3,11] (fun o i wr=>Below w.heap.size w wr/\∃ k:Nat,k<=a.states.length/\i=.int .i64 k/\bc (aJ wr w.heap.size 109 7 o (bT a.states k).length (aL (bT a.states k)))) (fun _ i _=>a.states.length - (intOf i).toNat)
 ·exact⟨bw,0,by omega,rfl,ab (aJ.nil _ _ _ _)⟩
 ·
  obtain⟨ba,k,hk,rfl,aS⟩:=hrel;by_cases aG:k<a.states.length
  ·obtain⟨b1,o1,rfl,x,cx,hx⟩:=E.o k aG;rw[Nat.mul_one]at cx;have d1:=aC ba cx;have QD:bc (bT a.states (k+1)=bT a.states k++a.states[k].map (·.r)):=ab (zW aG);have bi:=yJ a.states (k+1);rw[QD.o,List.length_append,List.length_map]at bi;generalize a.states[k]=L at hx QD bi;obtain⟨p2,c2,rfl,m1,m2,e2⟩:=hx.at;have E2:=ab e2;obtain⟨ao,co,rfl⟩:=aS.out.slice;clear cx hx e2
   go_wp2_with fail
   clear d1;obtain⟨wrA,Re⟩:∃ x,x=wr:=⟨_,rfl⟩;subst Re
   go_loopw [3,17] (fun o i wr=>Below w.heap.size w wr/\∃ q:Nat,q<=L.length/\i=.int .i64 q/\bc (aJ wr w.heap.size 109 7 o ((bT a.states k).length+q) (aL (bT a.states k++(L.take q).map (·.r))))) (fun _ i _=>L.length - (intOf i).toNat)
   ·exact⟨ba,0,by omega,rfl,by simpa using aS⟩
   ·
    obtain⟨cS,q,hq,rfl,tU⟩:=hrel;by_cases pW:q<L.length
    ·obtain⟨b2,o2,rfl,⟨⟨c0,_⟩,⟨c1,_⟩,⟨c2',_⟩,⟨c3,_⟩,⟨c4,_⟩,⟨c5,_⟩,⟨c6,_⟩⟩,c7,_⟩:=E2.o q pW;have d0:=aC cS c0;have d1:=aC cS c1;have d2:=aC cS c2';have d3:=aC cS c3;have d4:=aC cS c4;have d5:=aC cS c5;have d6:=aC cS c6;have d7:=aC cS c7;have HTK:bc (L.take (q+1)=L.take q++[L[q]]):=ab (List.take_succ_eq_append_getElem pW);generalize L[q]=y at d0 d1 d2 d3 d4 d5 d6 d7 HTK;clear c0 c1 c2' c3 c4 c5 c6 c7;have hA:Below wr.heap.size wr ((wr.alloc (.cells #[.int .i64 y.r.g.n,.int .i64 y.r.g.h0,.int .i64 y.r.g.h1,.int .i64 y.r.g.h2,.int .i64 y.r.g.h3,.int .i64 y.r.g.h4,.int .i64 y.r.f,.int .i64 y.to] 188)).alloc (.cells #[.int .i64 y.r.g.n,.int .i64 y.r.g.h0,.int .i64 y.r.g.h1,.int .i64 y.r.g.h2,.int .i64 y.r.g.h3,.int .i64 y.r.g.h4,.int .i64 y.r.f] 109)):=by go_grown
     have tW:=ab (tU.out.up hA)
     have bM:∀ j u',(y.r.c.toList)[j]?=some u'->((wr.alloc (.cells #[.int .i64 y.r.g.n,.int .i64 y.r.g.h0,.int .i64 y.r.g.h1,.int .i64 y.r.g.h2,.int .i64 y.r.g.h3,.int .i64 y.r.g.h4,.int .i64 y.r.f,.int .i64 y.to] 188)).alloc (.cells #[.int .i64 y.r.g.n,.int .i64 y.r.g.h0,.int .i64 y.r.g.h1,.int .i64 y.r.g.h2,.int .i64 y.r.g.h3,.int .i64 y.r.g.h4,.int .i64 y.r.f] 109)).cell? (Addr.add ⟨wr.heap.size+1,0,none⟩ j)=some u':=fun j u' hj=>by
      have e1:(Addr.add ⟨wr.heap.size+1,0,none⟩ j)=⟨wr.heap.size+1,j,none⟩:=by unfold Addr.add;split<;>simp_all
      rw[e1,ae (eM wr _ _)];simpa using hj
     have fV:=ab bM;obtain⟨ao2,co2,rfl⟩:=tU.out.slice;have hzr:=cS.size;clear bM
     go_wp2_with (at_builtin;(refine eh _ rfl (.tmp 21) (.tmp 24) 39 rfl w.heap.size 109 i0 _ 7 56 Tryz.underlying39 rF dE dc dN rfl (by decide) _ ((bT a.states k).length+q) _ rfl tW.o ⟨wr.heap.size+1,0,none⟩ 1 1 y.r.c.toList rfl rfl fV.o (by simp[Value.oneCell']) (by unfold maxLen;omega) (by omega) (by simp;omega) ?_;intro v' w3 gq gz NU;obtain⟨av3,cv3,rfl⟩:=gq.slice))
     go_roundw
     ·
      refine⟨Below.grown ((cS.alloc cS.size _).alloc (by simp;omega) _) gz (by simp;omega) (fun g hg=>(tW.o.lt g hg).1),q+1,by omega,by go_num,ab ?_⟩;rw[HTK.o,List.map_append,<-List.append_assoc,sd];exact gq
     ·simp[intOf];omega
    ·obtain rfl:q=L.length:=by omega
     obtain⟨ao2,co2,rfl⟩:=tU.out.slice
     go_wp2_with fail
     go_roundw
     ·
      refine⟨cS,k+1,by omega,by go_num,?_⟩;have h9:=tU.out;rw[List.take_length]at h9;rw[QD.o,List.length_append,List.length_map];exact ab h9
     ·simp[intOf];omega
  ·obtain rfl:k=a.states.length:=by omega
   have im:=yJ a.states a.states.length;have Oh:=ab (xw (a:=a));generalize hR:bT a.states a.states.length=R at aS HS im Oh
   obtain⟨g,cap,hcg,hcap⟩:∃ g cap,_=Value.slice (some ⟨g,0,none⟩) R.length cap/\cap<=9223372036854775807:=by
    rcases aS.out.2 with ⟨_,h0⟩|⟨g,cap,cur,fz,e1,h2,h3,h4,h5,h6,h7,h8⟩
    ·have:=HS.o;omega
    ·exact⟨g,cap,e1,by unfold maxLen at h6;omega⟩
   subst hcg
   go_wp2_with fail
   refine(GY R w.heap.size g cap wr aS.out (by omega)).mono ?_;rintro e w2 ⟨rfl,eV,bo⟩;generalize hS:R.mergeSort (fun x y=>!(Go.Proofs.ltOf roundC) y x)=S at eV Oh;have sP:S.length=R.length:=by rw[<-hS];exact List.length_mergeSort _
   rw[<-sP]at eV;have HS2:=ab eV;have Q3:=ab (bo _ w (Nat.le_refl _) ba);have hSle:S.length<=1048576:=by omega
   rw[<-sP];clear eV bo hS sP
   go_wp2_with fail
   refine(Ey S w.heap.size g cap w2 HS2.o hSle hcap).mono ?_;rintro e w3 ⟨u,rfl,hu,eK⟩;rw[Oh.o]at hu;have HU:=ab hu;have N':=ab (eK _ w (Nat.le_refl _) Q3.o);obtain⟨au,cu,rfl⟩:=hu.slice;clear hu eK
   go_wp2_with fail
   go_ret
   refine⟨_,rfl,vz HU.o (fun i hi=>Bs (xD.o _ (List.getElem_mem hi))) ?_,HU.o,N'.o⟩;rw[<-Oh.o];have:=vP S S.length;omega
theorem Hm(a:Adv) (ha:advE a=0) (hl:(aU a).length<=140737488355328):FC Tryz.prog 106 [gR a] (bK (aU a)):=by
 refine⟨Tryz.call106,fun G us w hG hz hu=>?_⟩;obtain⟨v,e0,h0⟩:=Co (hu 0 _ rfl);rw[MA (us:=us) hz,e0];refine(Ez a ha (pP ha) v w (nR ha hG h0)).mono ?_;rintro e w' ⟨u,rfl,_,hF,hb⟩;exact⟨_,mD G w w',rfl,hb,Grow.all hG hb,xe hF hl⟩
abbrev N3(l:List (List Rd)):D:=.fz 1 (l.map fun x=>[bK x])
theorem Hn(a:Adv) (r:Int):(fP a r).1.length<=4096/\∀ x∈(fP a r).1,x.length<=6:=by
 unfold fP;split
 ·simp
 ·rename_i h;obtain⟨_,h1,h2,h3,_⟩:=xl (by simpa using h);exact⟨h3,fun x hx=>by have:=qh a r.toNat 0 x hx;omega⟩
theorem M7(a:Adv) (r:Int) (ha:advE a=0):FC Tryz.prog 82 [gR a,iD r] (.tup [N3 (fP a r).1,iD (fP a r).2]):=by
 refine⟨Tryz.call82,fun G us w hG hz hu=>?_⟩;obtain⟨v,e0,h0⟩:=Co (hu 0 _ rfl);have h1:=(hu 1 _ rfl).val;rw[GH (us:=us) hz,e0,h1];refine(JY a v r w (nR ha hG h0) (fun W hW=>?_)).mono ?_
 ·refine((uG a r 4096 (by have:=pP ha;omega) (by omega)).2 G #[.agg #[.int .i64 a.n,v],.int .i64 r,.int .i64 4096] W (fun k o h=>⟨aq hW (hG k o h).1,(hG k o h).2⟩) rfl fun i x hx=>?_).mono ?_
  ·match i,hx with
   | 0,hx=>
    cases hx
    refine .agg _ _ rfl fun i x hx=>?_
    match i,hx with
    | 0,hx=>cases hx;exact .v _
    | 1,hx=>cases hx;exact h0
   | 1,hx=>cases hx;exact .v _
   | 2,hx=>cases hx;exact .v _
  ·rintro e w' ⟨u,G',rfl,hb,_,hr⟩;exact⟨congrArg _ hr.tup2,hb⟩
 rintro e w' ⟨u,rfl,_,_,hF,hb⟩;have hL:=Hn a r;refine⟨_,mD G w w',rfl,hb,Grow.all hG hb,.tup _ _ rfl fun i x hx=>?_⟩
 match i,hx with
 | 0,hx=>cases hx;exact Ed hF (by omega) (fun x hx=>by have:=hL.2 x hx;omega)
 | 1,hx=>cases hx;exact .v _
theorem Qj{p:Pb} (h:bg p=0):az p.a.states<=4096:=by
 have ha:=(cy h).2.1;unfold advE at ha;by_cases h1:p.a.n<1\/5<p.a.n
 ·rw[if_pos h1]at ha;omega
 ·rw[if_neg h1]at ha;by_cases h2:p.a.states.length<1\/256<p.a.states.length\/4096<az p.a.states
  ·rw[if_pos h2]at ha;omega
  ·omega
theorem EC{p:Pb} (h:bg p=0):((dv p).2≠0->(dv p).2=17/\4096<p.t.cases.length * (aM p).length)/\((dv p).2=0->(dv p).1=((p.t.cases.length * (aM p).length:Nat):Int)):=by
 obtain⟨ht,ha,_,k8,uO⟩:=cy h;have bQ:=(dL ht).2.2.2.1;have hn:=qj (L:=1048576) (by omega) p.a (fun s hs m hm=>(pG ha s hs m hm).2) (by have:=(cZ ha).1;omega) p.rounds.toNat;have hw:(aM p).length=(bN p.a p.rounds.toNat 0).length:=rfl;rw[<-hw]at hn
 have DF:bx 1048576 p.a p.rounds=if 1048576<dy 1048576 p.a p.rounds.toNat then(0,17) else(dy 1048576 p.a p.rounds.toNat,0):=by
  unfold bx;rw[if_neg (by simpa using ha),if_neg (by omega)]
 unfold dv;rw[if_neg (by simpa using h),DF];by_cases h1:1048576<dy 1048576 p.a p.rounds.toNat
 ·rw[if_pos h1];have h9:1 * 1048576<=p.t.cases.length * (aM p).length:=Nat.mul_le_mul bQ.1 (by omega);refine⟨fun _=>⟨by simp,by omega⟩,fun e=>by simp at e⟩
 ·rw[if_neg h1];have he:dy 1048576 p.a p.rounds.toNat=((aM p).length:Int):=by omega
  rw[he];dsimp only;rw[if_neg (by simp),Int.mul_comm,<-Int.natCast_mul];by_cases h2:(1048576:Int)<((p.t.cases.length * (aM p).length:Nat):Int)
  ·rw[if_pos h2];refine⟨fun _=>⟨by simp,by omega⟩,fun e=>by simp at e⟩
  ·rw[if_neg h2];exact⟨fun e=>by simp at e,fun _=>rfl⟩
theorem ED{p:Pb} (h:bg p=0) (h2:¬ 4096<p.t.cases.length * (aM p).length):fP p.a p.rounds=(aM p,0):=by
 obtain⟨ht,ha,_,k8,uO⟩:=cy h;have bQ:=(dL ht).2.2.2.1;have hn:=qj (L:=4096) (by omega) p.a (fun s hs m hm=>(pG ha s hs m hm).2) (by have:=(cZ ha).1;omega) p.rounds.toNat;have hw:(aM p).length=(bN p.a p.rounds.toNat 0).length:=rfl;rw[<-hw]at hn;have h9:1 * (aM p).length<=p.t.cases.length * (aM p).length:=Nat.mul_le_mul_right _ bQ.1
 have DF:(bx 4096 p.a p.rounds).2=0:=by
  unfold bx;rw[if_neg (by simpa using ha),if_neg (by omega),if_neg (by omega)]
 unfold fP;rw[if_neg (by simpa using DF)];rfl
abbrev RV(n k:Nat) (r:Rd) (now:List Int):List Vw:=(List.range n).map (iE n k r now)
theorem Ko(st:List Vw × List Int) (v:Vw):st.1.length<=(iC st v).1.length:=by
 unfold iC rQ;dsimp only;split<;>simp
theorem xx(vs:List Vw):∀ st:List Vw × List Int,st.1.length<=(vs.foldl iC st).1.length:=by
 induction vs with
 | nil=>intro st;exact Nat.le_refl _
 | cons v r ih=>intro st;exact Nat.le_trans (Ko st v) (ih _)
theorem xy(n:Nat) (inp:List Int) (word:List Rd) (tb:List Vw):∀ k,tb.length<=(playTo n inp word tb k).1.length
 | 0=>xx _ (tb,[])
 | k+1=>Nat.le_trans (xy n inp word tb k) (xx (RV n k (word.getD k default) ((playTo n inp word tb k).2.getLastD [])) ((playTo n inp word tb k).1,[]))
theorem Ho(p:Pb) (words:List (List Rd)) (l:List (Nat × Nat)) (i:Nat) (h:i<l.length):fG p words (l.take (i+1))=mS p words (fG p words (l.take i)) l[i]:=by
 unfold fG;rw[List.take_succ_eq_append_getElem h,List.foldl_append];rfl
theorem Hp(p:Pb) (words:List (List Rd)) (l:List (Nat × Nat)):∀ st:List Vw × List Ex,st.1.length<=(l.foldl (mS p words) st).1.length:=by
 induction l with
 | nil=>intro st;exact Nat.le_refl _
 | cons x r ih=>
  intro st;refine Nat.le_trans ?_ (ih _);exact xy _ _ _ _ _
theorem AI(p:Pb) (words:List (List Rd)) (l:List (Nat × Nat)) (i:Nat):(fG p words (l.take i)).1.length<=(fG p words l).1.length:=by
 have h:fG p words l=(l.drop i).foldl (mS p words) (fG p words (l.take i)):=by
  unfold fG;rw[<-List.foldl_append,List.take_append_drop]
 rw[h];exact Hp p words _ _
abbrev mo(p:Pb):List (Nat × Nat):=dU p.t.cases.length (aM p).length
abbrev jc(p:Pb) (i:Nat):List Vw × List Ex:=fG p (aM p) ((mo p).take i)
theorem qX(p:Pb):(mo p).length=p.t.cases.length * (aM p).length:=by
 unfold mo;rw[jN];simp
theorem CQ(p:Pb) (i:Nat) (h:i<p.t.cases.length * (aM p).length):jc p (i+1)=mS p (aM p) (jc p i) (i / (aM p).length,i % (aM p).length):=by
 unfold jc;rw[Ho _ _ _ _ (by rw[qX];exact h)];congr 1;unfold mo;simp only[jN];simp
theorem Hq{p:Pb} (h:bg p=0) (hm:¬ 4096<p.t.cases.length * (aM p).length) (i:Nat) (hi:8192<(jc p i).1.length):buildE p=17:=by
 have h2:=AI p (aM p) (mo p) i;have h3:(cq p).tab=(fG p (aM p) (mo p)).1:=rfl;unfold buildE;rw[if_neg (by simpa using h),if_neg hm,if_pos (by rw[h3];exact Nat.lt_of_lt_of_le hi h2)]
end Go.Proofs.YtiocdkdkndpgkaaGreat
namespace Go.Proofs.YtiocdkdkndpgkaaGreat
open Go.RowKit Go
attribute [local simp] bu bv
abbrev Qk(x:Msg):List D:=[iD x.rd,iD x.fr,iD x.to,.v (.string x.bs)]
abbrev CR(l:List Msg):D:=.fz 4 (l.map Qk)
abbrev oM(t:Tr):D:=.agg [aT t.inp,bK t.word,ez t.states,CR t.msgs,aT t.dec,aT t.times]
def pm(m:Mac) (inputs:List Int) (word:List Rd):Tr:=if playE m inputs word=0 then madeT m inputs word else noTr
theorem sJ(m:Mac) (inputs:List Int) (word:List Rd):FC Tryz.prog 31 [eT m,aT inputs,bK word] (.tup [oM (pm m inputs word),iD (playE m inputs word)]):=by
 refine an Tryz.func31 rfl rfl rfl Tryz.call31 [] [5,11,24] rfl 5 (fun hb w0 G0=>?_);simp at hb;obtain⟨⟨oQ,fm,rB,iq⟩,Lr,FL⟩:=hb;simp;refine ap (M0 m inputs word) ?_;simp
 (refine Bz.split (fun h0=>?_) (fun h0=>?_)<;>(try simp only[decide_eq_true_eq,decide_eq_false_iff_not,Bool.not_eq_true',Bool.not_eq_false',beq_iff_eq,bne_iff_ne,beq_eq_false_iff_ne,bne_eq_false_iff_eq,Bool.not_not,Bool.and_eq_true,Bool.or_eq_true,Bool.and_eq_false_iff,Bool.or_eq_false_iff]at h0))<;>simp[h0]
 ·refine iL [3] 4 [0,3,2,2] ?_;simp[pm,h0,noTr]
 obtain⟨n,r,ok⟩:=wy h0;have hg:=ok.good;have hn5:=hg.n5;have uO:=hg.r6;have ij:=hg.hn;have oh:=ok.il;have tv:=ok.wl;have N7:=ok.rl;have FE:AR m inputs word=gv m inputs word:=by unfold AR;rw[if_pos h0]
 rw[FE];generalize hS:gv m inputs word=S at N7
 have hT:pm m inputs word=⟨inputs,word,S,(placesL n word).map (yh m S),(List.range n).map (yg m S),(List.range n).map (oB m S)⟩:=by
  unfold pm madeT;rw[if_pos h0,hS,ij];rfl
 rw[hT];refine iL [2] 8 [0,0,0,0,3,0,2,2] ?_;simp;refine bL (mn inputs (by omega)) ?_;simp;refine bL (qW word (by omega)) ?_;simp;refine nt 4 3 125 4 _ _ (by simp;exact⟨rfl,rfl⟩) rfl ?_;refine vk ?_;simp;refine ap (zS m.n word) ?_;simp;generalize QG:(placesL n word)=PL;have hq:=xu n word hn5;have NC:=uk n word;rw[QG,<-ij]at hq;rw[QG]at NC;refine dX hq [3,6,7,8,9,10] [0,1,2,3] (fun i=>[]) (fun i=>[(4,some (.box 42 [.d (aT inputs),.d (bK word),.d (ez S),.sl 5 i,.d (.v (.slice none 0 0)),.d (.v (.slice none 0 0))])),(5,some (.row 125 4 (((PL.take i).map (yh m S)).map Qk)))]) (fun _=>True) trivial rfl (fun ds h=>by obtain⟨x,_,rfl⟩:=List.mem_map.1 h;rfl) (.inl rfl) (by simp) (fun i ds hi _ l2 r2 r' J' pr' fr' _=>?_) (fun _=>?_)
 ·obtain⟨fR,rfl⟩:=List.getElem?_eq_some_iff.1 hi;have jD:i<PL.length:=by simpa using fR
  rw[List.getElem_map];have Ag:min i PL.length=i:=by omega
  have vV:PL[i]∈placesL n word:=by rw[QG];exact List.getElem_mem jD
  obtain⟨QR,Ru,hm3⟩:=uj vV;have hm4:=wz vV;have cJ:PL[i].1<S.length:=by omega
  have hf:=ok.fits (k:=PL[i].1) (p:=PL[i].2.1) (by omega) Ru;rw[hS]at hf
  have uP:PL[i].2.1<S[PL[i].1].length:=by
   have:=(rU hg (word:=word) ok.il ok.ir PL[i].1 _ (by rw[hS];exact List.getElem?_eq_getElem cJ)).1;omega
  simp[Ag];refine iL [] 0 [0,0,1,0,1,0,1,1,0,1,0,0,0,1,0,0,0,0,0,0,0,2,2] ?_;simp[cJ,uP]
  have hE:=Kk m n r hg ok.chk PL[i].1 PL[i].2.1 PL[i].2.2 (S[PL[i].1][PL[i].2.1]) (by omega) Ru hm3 hm4 (by
   rw[hg.yq _ _ _ (by omega) Ru hm3,if_neg hm4];rw[aj [] cJ,aj 0 uP]at hf
   exact hf)
  refine bL hE ?_;simp;refine⟨by omega,?_⟩;rw[Ag];refine vg ⟨[0,1,2,3,4,7],?_⟩;simp;refine kv _ _ _ ?_;simp[jD,yh,cJ,uP]
 ·rw[List.length_map,List.take_length];simp;refine nt 4 4 3 1 _ _ (by simp;exact⟨rfl,rfl⟩) rfl ?_;refine nt 4 5 3 1 _ _ (by simp;exact⟨rfl,rfl⟩) rfl ?_;refine vk ?_;simp;refine am [3,6,7,8,10,72] [0,1,2,5] (fun p:Nat=>[(73,.d (iD p))]) (fun p=>[(4,some (.box 42 [.d (aT inputs),.d (bK word),.d (ez S),.sl 5 PL.length,.sl 6 p,.sl 7 p])),(6,some (.row 3 1 ((List.range p).map fun q=>[iD (yg m S q)]))),(7,some (.row 3 1 ((List.range p).map fun q=>[iD (oB m S q)])))]) (fun p=>n - p) (fun p=>p<=n) 0 (by omega) (by simp) (fun p hp=>?_);simp[ij]
  (refine Bz.split (fun h=>?_) (fun h=>?_)<;>(try simp only[decide_eq_true_eq,decide_eq_false_iff_not,Bool.not_eq_true',Bool.not_eq_false',beq_iff_eq,bne_iff_ne,beq_eq_false_iff_ne,bne_eq_false_iff_eq,Bool.not_not,Bool.and_eq_true,Bool.or_eq_true,Bool.and_eq_false_iff,Bool.or_eq_false_iff]at h))
  ·simp[h];generalize hf:(fun j=>decide (yf m j p ((S.getD j []).getD p 0)≠-1))=f;have hw:oB m S p=firstIx S.length f:=by rw[<-hf];rfl
   have hd:yg m S p=if firstIx S.length f<0 then -1 else yf m (firstIx S.length f).toNat p ((S.getD (firstIx S.length f).toNat []).getD p 0):=by unfold yg;rw[hw]
   refine am [3,6,7,8,10,12,13,14,72,73,76,77] [0,1,2,4,5,6,7] (fun k:Nat=>[(78,.d (iD k))]) (fun _=>[]) (fun k=>S.length - k) (fun k=>k<=S.length/\firstIx k f=-1) 0 ⟨by omega,rfl⟩ (by simp) (fun k hk=>?_);obtain⟨hk,Lg⟩:=hk;simp
   (refine Bz.split (fun h1=>?_) (fun h1=>?_)<;>(try simp only[decide_eq_true_eq,decide_eq_false_iff_not,Bool.not_eq_true',Bool.not_eq_false',beq_iff_eq,bne_iff_ne,beq_eq_false_iff_ne,bne_eq_false_iff_eq,Bool.not_not,Bool.and_eq_true,Bool.or_eq_true,Bool.and_eq_false_iff,Bool.or_eq_false_iff]at h1))
   ·have dw:k<m.out.length:=by have:=hg.ol;omega
    have bV:p<m.out[k].length:=by have:=hg.ok k (by omega);rw[aj [] dw]at this;omega
    have iB:=ok.fits (k:=k) (p:=p) (by omega) h
    have mv:p<S[k].length:=by
     have:=(rU hg (word:=word) ok.il ok.ir k _ (by rw[hS];exact List.getElem?_eq_getElem h1)).1;omega
    rw[hS,aj [] h1,aj 0 mv,aj [] dw,aj [] bV]at iB;have hk4:S[k][p].toNat<m.out[k][p].length:=by omega
    have ho:yf m k p ((S.getD k []).getD p 0)=m.out[k][p][S[k][p].toNat]:=by
     unfold yf;rw[aj [] h1,aj 0 mv,aj [] dw,aj [] bV,aj 0 hk4]
    have QA:f k=decide (m.out[k][p][S[k][p].toNat]≠-1):=by rw[<-hf,<-ho]
    simp[h1];refine aO 15 ?_;simp[dw,bV,mv,hk4]
    repeat refine vg ?_
    (refine Bz.split (fun h2=>?_) (fun h2=>?_)<;>(try simp only[decide_eq_true_eq,decide_eq_false_iff_not,Bool.not_eq_true',Bool.not_eq_false',beq_iff_eq,bne_iff_ne,beq_eq_false_iff_ne,bne_eq_false_iff_eq,Bool.not_not,Bool.and_eq_true,Bool.or_eq_true,Bool.and_eq_false_iff,Bool.or_eq_false_iff]at h2))
    rotate_left
    ·rw[h2]at QA;simp;exact vg (ar.of (k+1) [0,1,2,3,4,5,6,7] (by simp) ⟨⟨h1,kW Lg (by simp[QA])⟩,by omega⟩)
    ·have xR:firstIx S.length f=k:=cD _ k f h1 (l6 Lg) (by simp[QA,h2]);rw[xR]at hw hd;rw[if_neg (by omega),Int.toNat_natCast,ho]at hd;simp;refine iL [4] 11 [0,3,0,0,2,0,3,0,0,2,0,2,0,2] ?_;simp
     repeat refine vg ?_
     exact ar.of (p+1) [0,1,2,3,4,5,8,9] (by simp[List.range_succ,hw,hd,ij])
   ·have e:k=S.length:=by omega
    subst e;rw[Lg]at hw hd;rw[if_pos (by omega)]at hd;simp;refine iL [4] 11 [0,3,0,0,2,0,3,0,0,2,0,2,0,2] ?_;simp
    repeat refine vg ?_
    exact ar.of (p+1) [0,1,2,3,4,5,8,9] (by simp[List.range_succ,hw,hd,ij])
  ·have e:p=n:=by omega
   subst e;simp;refine fj 5 125 4 (PL.map (Qk ∘ yh m S)) (by simp) (by simp;omega) ?_;refine fj 6 3 1 ((List.range p).map fun q=>[iD (yg m S q)]) (by simp) (by simp;omega) ?_;refine fj 7 3 1 ((List.range p).map fun q=>[iD (oB m S q)]) (by simp) (by simp;omega) ?_;refine vk ?_;simp[h0]
end Go.Proofs.YtiocdkdkndpgkaaGreat
