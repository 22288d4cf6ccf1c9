/-
  A part of the proof: lemmas and contracts that the parts behind it use. Each one's conditions are its own premises.
-/
import Derived.Test.YtiocdkdkndpgkaaGreatN7
set_option maxRecDepth 100000
set_option maxHeartbeats 8000000
set_option linter.unusedVariables false
set_option linter.unusedSimpArgs false
namespace Go.Proofs.YtiocdkdkndpgkaaGreat
open Go.RowKit Go
def yG(l:List (List Int)) (most:Int):Bool:=decide ((l.length:Int)<=most)&&!anyLt l.length fun i=>decide (10<(l.getD i []).length)
theorem nS(l:List (List Int)) (most:Int):FC Tryz.prog 199 [ez l,iD most] (bD (yG l most)):=by
 refine an Tryz.func199 rfl rfl rfl Tryz.call199 [] [] rfl 3 (fun hb w0 G0=>?_);simp at hb;unfold yG;simp
 (refine Bz.split (fun h=>?_) (fun h=>?_)<;>(try simp only[decide_eq_true_eq,decide_eq_false_iff_not,Bool.not_eq_true',Bool.not_eq_false',beq_iff_eq,bne_iff_ne,beq_eq_false_iff_ne,bne_eq_false_iff_eq,Bool.not_not,Bool.and_eq_true,Bool.or_eq_true,Bool.and_eq_false_iff,Bool.or_eq_false_iff]at h))
 ·simp;omega
 ·simp;refine am [0] [] (fun k:Nat=>[(5,.d (iD k))]) (fun _=>[]) (fun k=>l.length - k) (fun k=>k<=l.length/\anyLt k (fun i=>decide (10<(l.getD i []).length))=false) 0 ⟨by omega,rfl⟩ (by simp) (fun k hk=>?_);obtain⟨hk,hj⟩:=hk;simp
  (refine Bz.split (fun h=>?_) (fun h=>?_)<;>(try simp only[decide_eq_true_eq,decide_eq_false_iff_not,Bool.not_eq_true',Bool.not_eq_false',beq_iff_eq,bne_iff_ne,beq_eq_false_iff_ne,bne_eq_false_iff_eq,Bool.not_not,Bool.and_eq_true,Bool.or_eq_true,Bool.and_eq_false_iff,Bool.or_eq_false_iff]at h))
  ·simp[h]
   (refine Bz.split (fun h2=>?_) (fun h2=>?_)<;>(try simp only[decide_eq_true_eq,decide_eq_false_iff_not,Bool.not_eq_true',Bool.not_eq_false',beq_iff_eq,bne_iff_ne,beq_eq_false_iff_ne,bne_eq_false_iff_eq,Bool.not_not,Bool.and_eq_true,Bool.or_eq_true,Bool.and_eq_false_iff,Bool.or_eq_false_iff]at h2))
   ·simp;exact fun _=>aD _ k _ h (by simp[h];omega)
   ·simp;refine vg (ar.of (k+1) [] (by simp) ⟨⟨h,?_⟩,by omega⟩);exact aR hj (by simp[h];omega)
  ·simp;have:k=l.length:=by omega
   subst this;exact⟨by omega,hj⟩
def xi(t:Tk):Bool:=decide (t.cases.length<=30)&&!anyLt t.cases.length fun i=>decide (10<(t.cases.getD i default).inp.length) || !yG (t.cases.getD i default).out 30 || !yG (t.cases.getD i default).calm 30
theorem JK(t:Tk):FC Tryz.prog 118 [zA t] (bD (xi t)):=by
 refine an Tryz.func118 rfl rfl rfl Tryz.call118 [] [] rfl 4 (fun hb w0 G0=>?_);simp at hb;unfold xi;simp
 (refine Bz.split (fun h=>?_) (fun h=>?_)<;>(try simp only[decide_eq_true_eq,decide_eq_false_iff_not,Bool.not_eq_true',Bool.not_eq_false',beq_iff_eq,bne_iff_ne,beq_eq_false_iff_ne,bne_eq_false_iff_eq,Bool.not_not,Bool.and_eq_true,Bool.or_eq_true,Bool.and_eq_false_iff,Bool.or_eq_false_iff]at h))
 ·simp;omega
 ·simp;refine am [1] [] (fun k:Nat=>[(3,.d (iD k))]) (fun _=>[]) (fun k=>t.cases.length - k) (fun k=>k<=t.cases.length/\anyLt k (fun i=>decide (10<(t.cases.getD i default).inp.length) || !yG (t.cases.getD i default).out 30 || !yG (t.cases.getD i default).calm 30)=false) 0 ⟨by omega,rfl⟩ (by simp) (fun k hk=>?_);obtain⟨hk,hj⟩:=hk;simp
  (refine Bz.split (fun h=>?_) (fun h=>?_)<;>(try simp only[decide_eq_true_eq,decide_eq_false_iff_not,Bool.not_eq_true',Bool.not_eq_false',beq_iff_eq,bne_iff_ne,beq_eq_false_iff_ne,bne_eq_false_iff_eq,Bool.not_not,Bool.and_eq_true,Bool.or_eq_true,Bool.and_eq_false_iff,Bool.or_eq_false_iff]at h))
  ·simp[h]
   (refine Bz.split (fun h1=>?_) (fun h1=>?_)<;>(try simp only[decide_eq_true_eq,decide_eq_false_iff_not,Bool.not_eq_true',Bool.not_eq_false',beq_iff_eq,bne_iff_ne,beq_eq_false_iff_ne,bne_eq_false_iff_eq,Bool.not_not,Bool.and_eq_true,Bool.or_eq_true,Bool.and_eq_false_iff,Bool.or_eq_false_iff]at h1))<;>simp[h1]
   ·refine ap (nS _ _) ?_;simp[h1]
    (refine Bz.split (fun h2=>?_) (fun h2=>?_)<;>(try simp only[decide_eq_true_eq,decide_eq_false_iff_not,Bool.not_eq_true',Bool.not_eq_false',beq_iff_eq,bne_iff_ne,beq_eq_false_iff_ne,bne_eq_false_iff_eq,Bool.not_not,Bool.and_eq_true,Bool.or_eq_true,Bool.and_eq_false_iff,Bool.or_eq_false_iff]at h2))<;>simp[h2]
    ·refine ap (nS _ _) ?_;simp[h1,h2]
     (refine Bz.split (fun h3=>?_) (fun h3=>?_)<;>(try simp only[decide_eq_true_eq,decide_eq_false_iff_not,Bool.not_eq_true',Bool.not_eq_false',beq_iff_eq,bne_iff_ne,beq_eq_false_iff_ne,bne_eq_false_iff_eq,Bool.not_not,Bool.and_eq_true,Bool.or_eq_true,Bool.and_eq_false_iff,Bool.or_eq_false_iff]at h3))<;>simp[h3]
     ·exact fun _=>aD _ k _ h (by simp[h,h3])
     ·exact vg (ar.of (k+1) [] (by simp) ⟨⟨h,aR hj (by simp[h,h2,h3];omega)⟩,by omega⟩)
    ·exact fun _=>aD _ k _ h (by simp[h,h2])
   ·exact fun _=>aD _ k _ h (by simp[h];omega)
  ·simp;have:k=t.cases.length:=by omega
   subst this;exact⟨by omega,hj⟩
theorem sC(v:List Int) (n m:Int):FC Tryz.prog 249 [aT v,iD n,iD m] (iD (vectorE v n m)):=by
 refine an Tryz.func249 rfl rfl rfl Tryz.call249 [] [] rfl 4 (fun hb w0 G0=>?_);simp at hb;unfold vectorE;simp
 (refine Bz.split (fun h0=>?_) (fun h0=>?_)<;>(try simp only[decide_eq_true_eq,decide_eq_false_iff_not,Bool.not_eq_true',Bool.not_eq_false',beq_iff_eq,bne_iff_ne,beq_eq_false_iff_ne,bne_eq_false_iff_eq,Bool.not_not,Bool.and_eq_true,Bool.or_eq_true,Bool.and_eq_false_iff,Bool.or_eq_false_iff]at h0))<;>simp[h0]
 replace h0:(v.length:Int)=n:=by simpa using h0
 refine am [0,1,2] [] (fun k:Nat=>[(7,.d (iD k))]) (fun _=>[]) (fun k=>v.length - k) (fun k=>k<=v.length/\anyLt k (fun i=>decide (v.getD i 0<0) || decide (m<=v.getD i 0))=false) 0 ⟨by omega,rfl⟩ (by simp) (fun k hk=>?_);obtain⟨hk,hj⟩:=hk;simp
 (refine Bz.split (fun h=>?_) (fun h=>?_)<;>(try simp only[decide_eq_true_eq,decide_eq_false_iff_not,Bool.not_eq_true',Bool.not_eq_false',beq_iff_eq,bne_iff_ne,beq_eq_false_iff_ne,bne_eq_false_iff_eq,Bool.not_not,Bool.and_eq_true,Bool.or_eq_true,Bool.and_eq_false_iff,Bool.or_eq_false_iff]at h))
 ·have h:k<v.length:=by omega
  simp[h]
  (refine Bz.split (fun h1=>?_) (fun h1=>?_)<;>(try simp only[decide_eq_true_eq,decide_eq_false_iff_not,Bool.not_eq_true',Bool.not_eq_false',beq_iff_eq,bne_iff_ne,beq_eq_false_iff_ne,bne_eq_false_iff_eq,Bool.not_not,Bool.and_eq_true,Bool.or_eq_true,Bool.and_eq_false_iff,Bool.or_eq_false_iff]at h1))<;>simp[h1]
  ·simp[h]
   (refine Bz.split (fun h2=>?_) (fun h2=>?_)<;>(try simp only[decide_eq_true_eq,decide_eq_false_iff_not,Bool.not_eq_true',Bool.not_eq_false',beq_iff_eq,bne_iff_ne,beq_eq_false_iff_ne,bne_eq_false_iff_eq,Bool.not_not,Bool.and_eq_true,Bool.or_eq_true,Bool.and_eq_false_iff,Bool.or_eq_false_iff]at h2))<;>simp[h2]
   ·rw[aD _ k _ h (by simp[h,h2])];simp[h0]
   ·exact vg (ar.of (k+1) [] (by simp) ⟨⟨h,aR hj (by simp[h];omega)⟩,by omega⟩)
  ·rw[aD _ k _ h (by simp[h,h1])];simp[h0]
 ·have:k=v.length:=by omega
  subst this;rw[hj];simp[h0]
theorem iy(a b:List Int):FC Tryz.prog 59 [aT a,aT b] (iD (ordV a b)):=by
 refine an Tryz.func59 rfl rfl rfl Tryz.call59 [] [] rfl 4 (fun hb w0 G0=>?_);simp at hb;simp;refine am [0,1] [] (fun k:Nat=>[(5,.d (iD k))]) (fun _=>[]) (fun k=>a.length - k) (fun k=>k<=a.length/\k<=b.length/\ordV (a.drop k) (b.drop k)=ordV a b) 0 (by simp) (by simp) (fun k hk=>?_);obtain⟨hk,bV,hj⟩:=hk;simp
 (refine Bz.split (fun h=>?_) (fun h=>?_)<;>(try simp only[decide_eq_true_eq,decide_eq_false_iff_not,Bool.not_eq_true',Bool.not_eq_false',beq_iff_eq,bne_iff_ne,beq_eq_false_iff_ne,bne_eq_false_iff_eq,Bool.not_not,Bool.and_eq_true,Bool.or_eq_true,Bool.and_eq_false_iff,Bool.or_eq_false_iff]at h))<;>simp[h]
 ·(refine Bz.split (fun h1=>?_) (fun h1=>?_)<;>(try simp only[decide_eq_true_eq,decide_eq_false_iff_not,Bool.not_eq_true',Bool.not_eq_false',beq_iff_eq,bne_iff_ne,beq_eq_false_iff_ne,bne_eq_false_iff_eq,Bool.not_not,Bool.and_eq_true,Bool.or_eq_true,Bool.and_eq_false_iff,Bool.or_eq_false_iff]at h1))<;>simp[h1]
  ·refine aO 8 ?_;simp[h,h1]
   (refine Bz.split (fun h2=>?_) (fun h2=>?_)<;>(try simp only[decide_eq_true_eq,decide_eq_false_iff_not,Bool.not_eq_true',Bool.not_eq_false',beq_iff_eq,bne_iff_ne,beq_eq_false_iff_ne,bne_eq_false_iff_eq,Bool.not_not,Bool.and_eq_true,Bool.or_eq_true,Bool.and_eq_false_iff,Bool.or_eq_false_iff]at h2))<;>simp[h2]
   ·rw[<-hj,cA h,cA h1];simp[ordV,h2]
   ·refine aO 8 ?_;simp[h,h1]
    (refine Bz.split (fun h3=>?_) (fun h3=>?_)<;>(try simp only[decide_eq_true_eq,decide_eq_false_iff_not,Bool.not_eq_true',Bool.not_eq_false',beq_iff_eq,bne_iff_ne,beq_eq_false_iff_ne,bne_eq_false_iff_eq,Bool.not_not,Bool.and_eq_true,Bool.or_eq_true,Bool.and_eq_false_iff,Bool.or_eq_false_iff]at h3))<;>simp[h3]
    ·rw[<-hj,cA h,cA h1];simp[ordV,h2,h3]
    ·refine vg (ar.of (k+1) [] (by simp) ⟨⟨h,h1,?_⟩,by omega⟩);rw[<-hj,cA h,cA h1];simp[ordV,h2,h3]
  ·have e:k=b.length:=by omega
   subst e;rw[List.drop_length,cA h]at hj;rw[<-hj];simp[ordV,show ¬ a.length<b.length by omega,h]
 ·have e:k=a.length:=by omega
  subst e;rw[List.drop_length,my,List.length_drop]at hj;rw[<-hj]
  (refine Bz.split (fun h1=>?_) (fun h1=>?_)<;>(try simp only[decide_eq_true_eq,decide_eq_false_iff_not,Bool.not_eq_true',Bool.not_eq_false',beq_iff_eq,bne_iff_ne,beq_eq_false_iff_ne,bne_eq_false_iff_eq,Bool.not_not,Bool.and_eq_true,Bool.or_eq_true,Bool.and_eq_false_iff,Bool.or_eq_false_iff]at h1))<;>simp[h1]
  ·omega
  ·(refine Bz.split (fun h2=>?_) (fun h2=>?_)<;>(try simp only[decide_eq_true_eq,decide_eq_false_iff_not,Bool.not_eq_true',Bool.not_eq_false',beq_iff_eq,bne_iff_ne,beq_eq_false_iff_ne,bne_eq_false_iff_eq,Bool.not_not,Bool.and_eq_true,Bool.or_eq_true,Bool.and_eq_false_iff,Bool.or_eq_false_iff]at h2))<;>simp[h2]
   ·omega
   ·omega
theorem JL(l:List (List Int)) (v:List Int):FC Tryz.prog 250 [ez l,aT v] (bD (hasV l v)):=by
 refine an Tryz.func250 rfl rfl rfl Tryz.call250 [] [] rfl 4 (fun hb w0 G0=>?_);simp at hb;unfold hasV;simp;refine am [0,1] [] (fun k:Nat=>[(5,.d (iD k))]) (fun _=>[]) (fun k=>l.length - k) (fun k=>k<=l.length/\anyLt k (fun i=>eqV (l.getD i []) v)=false) 0 ⟨by omega,rfl⟩ (by simp) (fun k hk=>?_);obtain⟨hk,hj⟩:=hk;simp
 (refine Bz.split (fun h=>?_) (fun h=>?_)<;>(try simp only[decide_eq_true_eq,decide_eq_false_iff_not,Bool.not_eq_true',Bool.not_eq_false',beq_iff_eq,bne_iff_ne,beq_eq_false_iff_ne,bne_eq_false_iff_eq,Bool.not_not,Bool.and_eq_true,Bool.or_eq_true,Bool.and_eq_false_iff,Bool.or_eq_false_iff]at h))<;>simp[h]
 ·refine ap (iy _ _) ?_;simp
  (refine Bz.split (fun h1=>?_) (fun h1=>?_)<;>(try simp only[decide_eq_true_eq,decide_eq_false_iff_not,Bool.not_eq_true',Bool.not_eq_false',beq_iff_eq,bne_iff_ne,beq_eq_false_iff_ne,bne_eq_false_iff_eq,Bool.not_not,Bool.and_eq_true,Bool.or_eq_true,Bool.and_eq_false_iff,Bool.or_eq_false_iff]at h1))<;>simp[h1]
  ·exact aD _ k _ h (by simp[h,eqV,In h1])
  ·refine vg (ar.of (k+1) [] (by simp) ⟨⟨h,aR hj ?_⟩,by omega⟩);simp[h,eqV];rintro e;exact h1 (by rw[e,l9])
 ·have:k=l.length:=by omega
  subst this;exact hj
theorem JM(t:Tk) (i:Nat) (hi:i<t.cases.length):FC Tryz.prog 192 [zA t,iD i] (iD (dl t i)):=by
 refine an Tryz.func192 rfl rfl rfl Tryz.call192 [] [5,15,22] rfl 5 (fun hb w0 G0=>?_);simp at hb;obtain⟨bw,hb⟩:=hb;have hc:=hb (t.cases.getD i default) (by simp[hi]);have hci:t.cases.getD i default=t.cases[i]:=by simp[hi]
 generalize hr:dl t i=r;unfold dl at hr;rw[hci]at hc hr;simp[hi];generalize t.cases[i]=c at hc hr ⊢;clear hb hci;generalize ho:ordV (t.cases.getD (i - 1) default).inp c.inp=o at hr;refine ap (sC _ _ _) ?_;simp
 (refine Bz.split (fun h1=>?_) (fun h1=>?_)<;>(try simp only[decide_eq_true_eq,decide_eq_false_iff_not,Bool.not_eq_true',Bool.not_eq_false',beq_iff_eq,bne_iff_ne,beq_eq_false_iff_ne,bne_eq_false_iff_eq,Bool.not_not,Bool.and_eq_true,Bool.or_eq_true,Bool.and_eq_false_iff,Bool.or_eq_false_iff]at h1))<;>simp[h1]
 ·rw[<-hr,if_pos h1]
 rw[if_neg (by simpa using h1)]at hr;refine bj [2,5] [0] (fun b:Bool=>[(39,.d (bD b))]) (fun _=>[]) (fun b=>b=decide (0<i/\0<=o)) ?_ (fun b hb=>?_)
 ·simp;refine aO 15 ?_;simp
  (refine Bz.split (fun h2=>?_) (fun h2=>?_)<;>(try simp only[decide_eq_true_eq,decide_eq_false_iff_not,Bool.not_eq_true',Bool.not_eq_false',beq_iff_eq,bne_iff_ne,beq_eq_false_iff_ne,bne_eq_false_iff_eq,Bool.not_not,Bool.and_eq_true,Bool.or_eq_true,Bool.and_eq_false_iff,Bool.or_eq_false_iff]at h2))<;>simp[h2]
  ·have e:((i:Int) - 1).toNat=i - 1:=by omega
   have gi:i - 1<t.cases.length:=by omega
   refine vg (vg ?_);simp[e,gi];refine bL (iy _ _) ?_;simp;exact Mt.of _ (by simp[h2,gi,<-ho]) rfl
  ·exact Mt.of _ (by simp[h2]) rfl
 ·subst hb;clear ho;simp
  (refine Bz.split (fun h2=>?_) (fun h2=>?_)<;>(try simp only[decide_eq_true_eq,decide_eq_false_iff_not,Bool.not_eq_true',Bool.not_eq_false',beq_iff_eq,bne_iff_ne,beq_eq_false_iff_ne,bne_eq_false_iff_eq,Bool.not_not,Bool.and_eq_true,Bool.or_eq_true,Bool.and_eq_false_iff,Bool.or_eq_false_iff]at h2))<;>simp[h2]
  ·rw[<-hr,if_pos (by omega)]
  rw[if_neg (by omega)]at hr;unfold vectorsE at hr
  (refine Bz.split (fun h3=>?_) (fun h3=>?_)<;>(try simp only[decide_eq_true_eq,decide_eq_false_iff_not,Bool.not_eq_true',Bool.not_eq_false',beq_iff_eq,bne_iff_ne,beq_eq_false_iff_ne,bne_eq_false_iff_eq,Bool.not_not,Bool.and_eq_true,Bool.or_eq_true,Bool.and_eq_false_iff,Bool.or_eq_false_iff]at h3))<;>simp[h3]
  ·(refine Bz.split (fun h4=>?_) (fun h4=>?_)<;>(try simp only[decide_eq_true_eq,decide_eq_false_iff_not,Bool.not_eq_true',Bool.not_eq_false',beq_iff_eq,bne_iff_ne,beq_eq_false_iff_ne,bne_eq_false_iff_eq,Bool.not_not,Bool.and_eq_true,Bool.or_eq_true,Bool.and_eq_false_iff,Bool.or_eq_false_iff]at h4))<;>simp[h4]
   ·rw[<-hr,if_pos (by omega)]
   rw[if_neg (by omega)]at hr;refine am [2,5] [0] (fun k:Nat=>[(7,.d (iD k))]) (fun _=>[]) (fun k=>c.out.length - k) (fun k=>k<=c.out.length/\ay k (iM t c)=0) 0 ⟨by omega,rfl⟩ (by simp) (fun k hk=>?_);obtain⟨hk,hj⟩:=hk;simp
   (refine Bz.split (fun h=>?_) (fun h=>?_)<;>(try simp only[decide_eq_true_eq,decide_eq_false_iff_not,Bool.not_eq_true',Bool.not_eq_false',beq_iff_eq,bne_iff_ne,beq_eq_false_iff_ne,bne_eq_false_iff_eq,Bool.not_not,Bool.and_eq_true,Bool.or_eq_true,Bool.and_eq_false_iff,Bool.or_eq_false_iff]at h))<;>simp[h]
   ·refine aO 10 ?_;simp[h];refine bL (sC _ _ _) ?_;simp;have ek:iM t c k=if vectorE c.out[k] t.n t.outs≠0 then vectorE c.out[k] t.n t.outs else if 0<k/\0<=ordV (c.out.getD (k - 1) []) c.out[k] then 14 else 0:=by simp[iM,unordB,h]
    generalize ho:ordV (c.out.getD (k - 1) []) c.out[k]=o at ek
    (refine Bz.split (fun h5=>?_) (fun h5=>?_)<;>(try simp only[decide_eq_true_eq,decide_eq_false_iff_not,Bool.not_eq_true',Bool.not_eq_false',beq_iff_eq,bne_iff_ne,beq_eq_false_iff_ne,bne_eq_false_iff_eq,Bool.not_not,Bool.and_eq_true,Bool.or_eq_true,Bool.and_eq_false_iff,Bool.or_eq_false_iff]at h5))<;>simp[h5]
    ·rw[if_pos h5]at ek;rw[<-hr,aF h hj (by rw[ek];exact h5),ek,if_pos h5]
    rw[if_neg (by simpa using h5)]at ek;refine bj [2,5,7] [0] (fun b:Bool=>[(86,.d (bD b))]) (fun _=>[]) (fun b=>b=decide (0<k/\0<=o)) ?_ (fun b hb=>?_)
    ·simp;refine aO 17 ?_;simp
     (refine Bz.split (fun h6=>?_) (fun h6=>?_)<;>(try simp only[decide_eq_true_eq,decide_eq_false_iff_not,Bool.not_eq_true',Bool.not_eq_false',beq_iff_eq,bne_iff_ne,beq_eq_false_iff_ne,bne_eq_false_iff_eq,Bool.not_not,Bool.and_eq_true,Bool.or_eq_true,Bool.and_eq_false_iff,Bool.or_eq_false_iff]at h6))<;>simp[h6]
     ·have e:((k:Int) - 1).toNat=k - 1:=by omega
      have gi:k - 1<c.out.length:=by omega
      refine vg (vg ?_);simp[e,h,gi];refine bL (iy _ _) ?_;simp;exact Mt.of _ (by simp[h6,gi,<-ho]) rfl
     ·exact Mt.of _ (by simp[h6]) rfl
    ·subst hb;simp
     (refine Bz.split (fun h6=>?_) (fun h6=>?_)<;>(try simp only[decide_eq_true_eq,decide_eq_false_iff_not,Bool.not_eq_true',Bool.not_eq_false',beq_iff_eq,bne_iff_ne,beq_eq_false_iff_ne,bne_eq_false_iff_eq,Bool.not_not,Bool.and_eq_true,Bool.or_eq_true,Bool.and_eq_false_iff,Bool.or_eq_false_iff]at h6))<;>simp[h6]
     ·rw[if_pos (by omega)]at ek;rw[<-hr,aF h hj (by rw[ek];decide),ek];rfl
     ·exact vg (ar.of (k+1) [0] (by simp) ⟨⟨h,aY hj (by rw[ek,if_neg (by omega)])⟩,by omega⟩)
   ·have:k=c.out.length:=by omega
    subst this;rw[hj,if_neg (by simp)]at hr;clear hj hk h;refine am [2,5] [0] (fun k:Nat=>[(9,.d (iD k))]) (fun _=>[]) (fun k=>c.calm.length - k) (fun k=>k<=c.calm.length/\ay k (gk c)=0) 0 ⟨by omega,rfl⟩ (by simp) (fun k hk=>?_);obtain⟨hk,hj⟩:=hk;simp
    (refine Bz.split (fun h=>?_) (fun h=>?_)<;>(try simp only[decide_eq_true_eq,decide_eq_false_iff_not,Bool.not_eq_true',Bool.not_eq_false',beq_iff_eq,bne_iff_ne,beq_eq_false_iff_ne,bne_eq_false_iff_eq,Bool.not_not,Bool.and_eq_true,Bool.or_eq_true,Bool.and_eq_false_iff,Bool.or_eq_false_iff]at h))<;>simp[h]
    ·refine aO 9 ?_;simp[h];refine bL (JL _ _) ?_;simp;have ek:gk c k=if hasV c.out c.calm[k] then(if 0<k/\0<=ordV (c.calm.getD (k - 1) []) c.calm[k] then 14 else 0) else 6:=by simp[gk,unordB,h]
     generalize ho:ordV (c.calm.getD (k - 1) []) c.calm[k]=o at ek
     (refine Bz.split (fun h5=>?_) (fun h5=>?_)<;>(try simp only[decide_eq_true_eq,decide_eq_false_iff_not,Bool.not_eq_true',Bool.not_eq_false',beq_iff_eq,bne_iff_ne,beq_eq_false_iff_ne,bne_eq_false_iff_eq,Bool.not_not,Bool.and_eq_true,Bool.or_eq_true,Bool.and_eq_false_iff,Bool.or_eq_false_iff]at h5))<;>simp[h5]
     ·rw[h5,if_neg (by simp)]at ek;rw[<-hr,aF h hj (by rw[ek];decide),ek]
     rw[if_pos h5]at ek;refine bj [2,5,9] [0] (fun b:Bool=>[(119,.d (bD b))]) (fun _=>[]) (fun b=>b=decide (0<k/\0<=o)) ?_ (fun b hb=>?_)
     ·simp;refine aO 17 ?_;simp
      (refine Bz.split (fun h6=>?_) (fun h6=>?_)<;>(try simp only[decide_eq_true_eq,decide_eq_false_iff_not,Bool.not_eq_true',Bool.not_eq_false',beq_iff_eq,bne_iff_ne,beq_eq_false_iff_ne,bne_eq_false_iff_eq,Bool.not_not,Bool.and_eq_true,Bool.or_eq_true,Bool.and_eq_false_iff,Bool.or_eq_false_iff]at h6))<;>simp[h6]
      ·have e:((k:Int) - 1).toNat=k - 1:=by omega
       have gi:k - 1<c.calm.length:=by omega
       refine vg (vg ?_);simp[e,h,gi];refine bL (iy _ _) ?_;simp;exact Mt.of _ (by simp[h6,gi,<-ho]) rfl
      ·exact Mt.of _ (by simp[h6]) rfl
     ·subst hb;simp
      (refine Bz.split (fun h6=>?_) (fun h6=>?_)<;>(try simp only[decide_eq_true_eq,decide_eq_false_iff_not,Bool.not_eq_true',Bool.not_eq_false',beq_iff_eq,bne_iff_ne,beq_eq_false_iff_ne,bne_eq_false_iff_eq,Bool.not_not,Bool.and_eq_true,Bool.or_eq_true,Bool.and_eq_false_iff,Bool.or_eq_false_iff]at h6))<;>simp[h6]
      ·rw[if_pos (by omega)]at ek;rw[<-hr,aF h hj (by rw[ek];decide),ek]
      ·exact vg (ar.of (k+1) [0] (by simp) ⟨⟨h,aY hj (by rw[ek,if_neg (by omega)])⟩,by omega⟩)
    ·have:k=c.calm.length:=by omega
     subst this;rw[<-hr,hj]
  ·rw[<-hr,if_pos (by omega)]
theorem Ef(t:Tk):FC Tryz.prog 110 [zA t] (iD (taskE t)):=by
 refine an Tryz.func110 rfl rfl rfl Tryz.call110 [] [1,3] rfl 3 (fun hb w0 G0=>?_);simp at hb;generalize hr:taskE t=r;unfold taskE at hr;simp;refine bj [1] [] (fun b:Bool=>[(32,.d (bD b))]) (fun _=>[]) (fun b=>b=decide (t.n<1\/5<t.n\/t.ins<1\/8<t.ins\/t.outs<1\/8<t.outs)) ?_ (fun b hb=>?_)
 ·simp
  repeat' (first|(exact Mt.is (by first|(simp[-Bool.decide_or,-Bool.decide_and];done)|(simp[-Bool.decide_or,-Bool.decide_and];omega)|(simp_all;done)|(simp_all;omega)|(simp;grind)))|((refine Bz.split (fun a=>?_) (fun a=>?_)<;>(try simp only[decide_eq_true_eq,decide_eq_false_iff_not,Bool.not_eq_true',Bool.not_eq_false',beq_iff_eq,bne_iff_ne,beq_eq_false_iff_ne,bne_eq_false_iff_eq,Bool.not_not,Bool.and_eq_true,Bool.or_eq_true,Bool.and_eq_false_iff,Bool.or_eq_false_iff]at a))<;>simp[a]))
 subst hb;simp
 (refine Bz.split (fun h1=>?_) (fun h1=>?_)<;>(try simp only[decide_eq_true_eq,decide_eq_false_iff_not,Bool.not_eq_true',Bool.not_eq_false',beq_iff_eq,bne_iff_ne,beq_eq_false_iff_ne,bne_eq_false_iff_eq,Bool.not_not,Bool.and_eq_true,Bool.or_eq_true,Bool.and_eq_false_iff,Bool.or_eq_false_iff]at h1))<;>simp[h1]
 ·rw[<-hr,if_pos (by omega)]
 rw[if_neg (by omega)]at hr;refine bj [1] [] (fun b:Bool=>[(42,.d (bD b))]) (fun _=>[]) (fun b=>b=decide ((t.cases.length:Int)<1\/1024<(t.cases.length:Int))) ?_ (fun b hb=>?_)
 ·simp
  repeat' (first|(exact Mt.is (by first|(simp[-Bool.decide_or,-Bool.decide_and];done)|(simp[-Bool.decide_or,-Bool.decide_and];omega)|(simp_all;done)|(simp_all;omega)|(simp;grind)))|((refine Bz.split (fun a=>?_) (fun a=>?_)<;>(try simp only[decide_eq_true_eq,decide_eq_false_iff_not,Bool.not_eq_true',Bool.not_eq_false',beq_iff_eq,bne_iff_ne,beq_eq_false_iff_ne,bne_eq_false_iff_eq,Bool.not_not,Bool.and_eq_true,Bool.or_eq_true,Bool.and_eq_false_iff,Bool.or_eq_false_iff]at a))<;>simp[a]))
 subst hb;simp
 (refine Bz.split (fun h2=>?_) (fun h2=>?_)<;>(try simp only[decide_eq_true_eq,decide_eq_false_iff_not,Bool.not_eq_true',Bool.not_eq_false',beq_iff_eq,bne_iff_ne,beq_eq_false_iff_ne,bne_eq_false_iff_eq,Bool.not_not,Bool.and_eq_true,Bool.or_eq_true,Bool.and_eq_false_iff,Bool.or_eq_false_iff]at h2))<;>simp[h2]
 ·rw[<-hr,if_pos (by omega)]
 rw[if_neg (by omega)]at hr;refine am [1] [] (fun k:Nat=>[(3,.d (iD k))]) (fun _=>[]) (fun k=>t.cases.length - k) (fun k=>k<=t.cases.length/\ay k (dl t)=0) 0 ⟨by omega,rfl⟩ (by simp) (fun k hk=>?_);obtain⟨hk,hj⟩:=hk;simp
 (refine Bz.split (fun h=>?_) (fun h=>?_)<;>(try simp only[decide_eq_true_eq,decide_eq_false_iff_not,Bool.not_eq_true',Bool.not_eq_false',beq_iff_eq,bne_iff_ne,beq_eq_false_iff_ne,bne_eq_false_iff_eq,Bool.not_not,Bool.and_eq_true,Bool.or_eq_true,Bool.and_eq_false_iff,Bool.or_eq_false_iff]at h))<;>simp[h]
 ·refine ap (JM t k h) ?_;simp
  (refine Bz.split (fun h5=>?_) (fun h5=>?_)<;>(try simp only[decide_eq_true_eq,decide_eq_false_iff_not,Bool.not_eq_true',Bool.not_eq_false',beq_iff_eq,bne_iff_ne,beq_eq_false_iff_ne,bne_eq_false_iff_eq,Bool.not_not,Bool.and_eq_true,Bool.or_eq_true,Bool.and_eq_false_iff,Bool.or_eq_false_iff]at h5))<;>simp[h5]
  ·rw[<-hr,aF h hj h5]
  ·exact vg (ar.of (k+1) [] (by simp) ⟨⟨h,aY hj (by simpa using h5)⟩,by omega⟩)
 ·have:k=t.cases.length:=by omega
  subst this;rw[<-hr,hj]
theorem zF{B:Nat}:∀ {l:List (List Mv)},(∀ x∈l,x.length<=B)->az l<=l.length * B
 | [],_=>by simp[az]
 | x :: l,h=>by
  have h1:=zF (l:=l) (fun y hy=>h y (by simp[hy]));have h2:=h x (by simp);have e:az (x :: l)=x.length+az l:=by simp[az]
  rw[e,List.length_cons,Nat.succ_mul];omega
theorem uA(a:Adv) (hm:az a.states<=4611686018427387904):FC Tryz.prog 193 [gR a] (iD (az a.states)):=by
 refine an Tryz.func193 rfl rfl rfl Tryz.call193 [] [] rfl 3 (fun hb w0 G0=>?_);simp at hb;obtain⟨hb,-⟩:=hb;simp;refine am [1] [] (fun k:Nat=>[(3,.d (iD (cB a.states k))),(4,.d (iD k))]) (fun _=>[]) (fun k=>a.states.length - k) (fun k=>k<=a.states.length) 0 (by omega) (by simp[lx]) (fun k hk=>?_);simp
 (refine Bz.split (fun h=>?_) (fun h=>?_)<;>(try simp only[decide_eq_true_eq,decide_eq_false_iff_not,Bool.not_eq_true',Bool.not_eq_false',beq_iff_eq,bne_iff_ne,beq_eq_false_iff_ne,bne_eq_false_iff_eq,Bool.not_not,Bool.and_eq_true,Bool.or_eq_true,Bool.and_eq_false_iff,Bool.or_eq_false_iff]at h))<;>simp[h]
 ·have hc:=pA a.states k h
  repeat refine vg ?_
  exact ar.of (k+1) [] (by simp[fX _ _ h])
 ·rw[show k=a.states.length by omega,ly _ _ (Nat.le_refl _)]
theorem JN(a:Adv):FC Tryz.prog 119 [gR a] (bD (decide (a.states.length<=8/\az a.states<=40))):=by
 refine an Tryz.func119 rfl rfl rfl Tryz.call119 [] [] rfl 3 (fun hb w0 G0=>?_);simp at hb;have hB:=zF (B:=140737488355328) (l:=a.states) (fun x hx=>hb.2 x hx);simp
 (refine Bz.split (fun h=>?_) (fun h=>?_)<;>(try simp only[decide_eq_true_eq,decide_eq_false_iff_not,Bool.not_eq_true',Bool.not_eq_false',beq_iff_eq,bne_iff_ne,beq_eq_false_iff_ne,bne_eq_false_iff_eq,Bool.not_not,Bool.and_eq_true,Bool.or_eq_true,Bool.and_eq_false_iff,Bool.or_eq_false_iff]at h))<;>simp[h]
 ·refine ap (uA a (by have:=Nat.mul_le_mul_right 140737488355328 (show a.states.length<=8 by omega);omega)) ?_;simp[show a.states.length<=8 by omega];omega
 ·simp[show ¬ a.states.length<=8 by omega]
theorem GQ(a:Adv) (l:List Mv) (i:Nat) (hi:i<l.length):FC Tryz.prog 194 [gR a,kV l,iD i] (iD (cr a l i)):=by
 refine an Tryz.func194 rfl rfl rfl Tryz.call194 [] [7,9] rfl 3 (fun hb w0 G0=>?_);simp at hb;have ek:cr a l i=if roundE l[i].r≠0 then roundE l[i].r else if l[i].r.g.n≠a.n then 22 else if 0<i/\0<=roundC (l.getD (i - 1) default).r l[i].r then 14 else if l[i].to<0\/(a.states.length:Int)<=l[i].to then 2 else 0:=by simp[cr,hi]
 generalize hr:cr a l i=r at ek ⊢;generalize ho:roundC (l.getD (i - 1) default).r l[i].r=o at ek;simp[hi];refine ap (Ee l[i].r) ?_;simp
 (refine Bz.split (fun h1=>?_) (fun h1=>?_)<;>(try simp only[decide_eq_true_eq,decide_eq_false_iff_not,Bool.not_eq_true',Bool.not_eq_false',beq_iff_eq,bne_iff_ne,beq_eq_false_iff_ne,bne_eq_false_iff_eq,Bool.not_not,Bool.and_eq_true,Bool.or_eq_true,Bool.and_eq_false_iff,Bool.or_eq_false_iff]at h1))<;>simp[h1]
 ·rw[ek,if_pos h1]
 rw[if_neg (by simpa using h1)]at ek
 (refine Bz.split (fun h2=>?_) (fun h2=>?_)<;>(try simp only[decide_eq_true_eq,decide_eq_false_iff_not,Bool.not_eq_true',Bool.not_eq_false',beq_iff_eq,bne_iff_ne,beq_eq_false_iff_ne,bne_eq_false_iff_eq,Bool.not_not,Bool.and_eq_true,Bool.or_eq_true,Bool.and_eq_false_iff,Bool.or_eq_false_iff]at h2))<;>simp
 ·rw[ek,if_pos h2]
 rw[if_neg (by simpa using h2)]at ek;refine bj [1,2,3] [0] (fun b:Bool=>[(37,.d (bD b))]) (fun _=>[]) (fun b=>b=decide (0<i/\0<=o)) ?_ (fun b hb=>?_)
 ·simp;refine aO 13 ?_;simp
  (refine Bz.split (fun h3=>?_) (fun h3=>?_)<;>(try simp only[decide_eq_true_eq,decide_eq_false_iff_not,Bool.not_eq_true',Bool.not_eq_false',beq_iff_eq,bne_iff_ne,beq_eq_false_iff_ne,bne_eq_false_iff_eq,Bool.not_not,Bool.and_eq_true,Bool.or_eq_true,Bool.and_eq_false_iff,Bool.or_eq_false_iff]at h3))<;>simp[h3]
  ·have e:((i:Int) - 1).toNat=i - 1:=by omega
   have gi:i - 1<l.length:=by omega
   refine vg (vg ?_);simp[e,gi];refine bL (AE l[i - 1].r l[i].r) ?_;simp;exact Mt.of _ (by simp[h3,gi,<-ho]) rfl
  ·exact Mt.of _ (by simp[h3]) rfl
 cases b<;>simp at hb ⊢
 rotate_left
 ·rw[ek,if_pos (by omega)]
 rw[if_neg (by omega)]at ek;refine bj [] [] (fun b:Bool=>[(54,.d (bD b))]) (fun _=>[]) (fun b=>b=decide (l[i].to<0\/(a.states.length:Int)<=l[i].to)) ?_ (fun b hb=>?_)
 ·simp;refine aO 17 ?_;simp[hi]
  (refine Bz.split (fun h3=>?_) (fun h3=>?_)<;>(try simp only[decide_eq_true_eq,decide_eq_false_iff_not,Bool.not_eq_true',Bool.not_eq_false',beq_iff_eq,bne_iff_ne,beq_eq_false_iff_ne,bne_eq_false_iff_eq,Bool.not_not,Bool.and_eq_true,Bool.or_eq_true,Bool.and_eq_false_iff,Bool.or_eq_false_iff]at h3))<;>simp[h3,hi]
  ·exact Mt.is (by first|(simp[-Bool.decide_or,-Bool.decide_and];done)|(simp[-Bool.decide_or,-Bool.decide_and];omega)|(simp_all;done)|(simp_all;omega)|(simp;grind))
  ·exact Mt.is (by first|(simp[-Bool.decide_or,-Bool.decide_and];done)|(simp[-Bool.decide_or,-Bool.decide_and];omega)|(simp_all;done)|(simp_all;omega)|(simp;grind))
 cases b<;>simp at hb ⊢
 ·rw[ek,if_neg (by omega)]
 ·rw[ek,if_pos (by omega)]
theorem Eg(a:Adv) (bO:∀ s,s<a.states.length->stateE a (a.states.getD s [])=0):FC Tryz.prog 195 [gR a] (bD (fh a)):=by
 refine an Tryz.func195 rfl rfl rfl Tryz.call195 [] [] rfl 4 (fun hb w0 G0=>?_);simp at hb;obtain⟨bw,hb⟩:=hb;generalize hr:fh a=r;unfold fh at hr;simp;refine am [1] [] (fun k:Nat=>[(3,.d (iD k))]) (fun _=>[]) (fun k=>a.states.length - k) (fun k=>k<=a.states.length/\anyLt (cB a.states k) (kI a)=false) 0 ⟨by omega,by rw[lx];rfl⟩ (by simp) (fun s hs=>?_);obtain⟨hs,hj⟩:=hs;simp
 (refine Bz.split (fun h=>?_) (fun h=>?_)<;>(try simp only[decide_eq_true_eq,decide_eq_false_iff_not,Bool.not_eq_true',Bool.not_eq_false',beq_iff_eq,bne_iff_ne,beq_eq_false_iff_ne,bne_eq_false_iff_eq,Bool.not_not,Bool.and_eq_true,Bool.or_eq_true,Bool.and_eq_false_iff,Bool.or_eq_false_iff]at h))<;>simp[h]
 ·have fT:=hb a.states[s] (by simp);refine am [1,3] [] (fun k:Nat=>[(4,.d (iD k))]) (fun _=>[]) (fun k=>a.states[s].length - k) (fun k=>k<=a.states[s].length/\anyLt (cB a.states s+k) (kI a)=false) 0 ⟨by omega,by simpa using hj⟩ (by simp) (fun j hj=>?_);obtain⟨tn,hj⟩:=hj;simp[h]
  (refine Bz.split (fun h1=>?_) (fun h1=>?_)<;>(try simp only[decide_eq_true_eq,decide_eq_false_iff_not,Bool.not_eq_true',Bool.not_eq_false',beq_iff_eq,bne_iff_ne,beq_eq_false_iff_ne,bne_eq_false_iff_eq,Bool.not_not,Bool.and_eq_true,Bool.or_eq_true,Bool.and_eq_false_iff,Bool.or_eq_false_iff]at h1))<;>simp[h,h1]
  ·have Ae:=pB a.states s j h h1;have ho:=fB bO h h1;have bQ:=pA a.states s h;have jh:kI a (cB a.states s+j)=anyLt (a.states.getD a.states[s][j].to.toNat []).length fun k=>!bF a.states[s][j].r.f ((a.states.getD a.states[s][j].to.toNat []).getD k default).r.f:=by unfold kI kG;rw[Ae]
   generalize a.states[s][j]=m at ho jh ⊢;have ht:m.to.toNat<a.states.length:=by omega
   have rB:=hb a.states[m.to.toNat] (by simp);have cJ:=fun k (hk:k<a.states[m.to.toNat].length)=>fB bO ht hk
   rw[show a.states.getD m.to.toNat []=a.states[m.to.toNat] by simp[ht]]at jh;refine am [1,3,4] [0] (fun k:Nat=>[(5,.ptr 0 0 0),(6,.d (iD k))]) (fun _=>[]) (fun k=>a.states[m.to.toNat].length - k) (fun k=>k<=a.states[m.to.toNat].length/\anyLt k (fun k=>!bF m.r.f (a.states[m.to.toNat].getD k default).r.f)=false) 0 ⟨by omega,rfl⟩ (by simp) (fun k hk=>?_);obtain⟨ot,hk⟩:=hk;simp[ht]
   repeat refine vg ?_
   (refine Bz.split (fun h2=>?_) (fun h2=>?_)<;>(try simp only[decide_eq_true_eq,decide_eq_false_iff_not,Bool.not_eq_true',Bool.not_eq_false',beq_iff_eq,bne_iff_ne,beq_eq_false_iff_ne,bne_eq_false_iff_eq,Bool.not_not,Bool.and_eq_true,Bool.or_eq_true,Bool.and_eq_false_iff,Bool.or_eq_false_iff]at h2))<;>simp[h2,ht]
   ·refine aO 16 ?_;simp[h2,ht]
    repeat refine vg ?_
    have Qz:=cJ k h2;refine bL (pi _ _ (by omega) (by omega)) ?_;simp
    (refine Bz.split (fun h3=>?_) (fun h3=>?_)<;>(try simp only[decide_eq_true_eq,decide_eq_false_iff_not,Bool.not_eq_true',Bool.not_eq_false',beq_iff_eq,bne_iff_ne,beq_eq_false_iff_ne,bne_eq_false_iff_eq,Bool.not_not,Bool.and_eq_true,Bool.or_eq_true,Bool.and_eq_false_iff,Bool.or_eq_false_iff]at h3))<;>simp[h3]
    ·rw[<-hr,aD _ (cB a.states s+j) _ (by omega) (by rw[jh];exact aD _ k _ h2 (by simp[h2,h3]))];rfl
    ·exact vg (ar.of (k+1) [0] (by simp) ⟨⟨h2,aR hk (by simp[h2,h3])⟩,by omega⟩)
   ·have e:k=a.states[m.to.toNat].length:=by omega
    subst e;exact vg (ar.of (j+1) [] (by simp) ⟨⟨h1,aR hj (by show kI a (cB a.states s+j)=false;rw[jh];exact hk)⟩,by omega⟩)
  ·have e:j=a.states[s].length:=by omega
   subst e;exact vg (ar.of (s+1) [] (by simp) ⟨⟨h,by rw[fX _ _ h];exact hj⟩,by omega⟩)
 ·rw[<-hr,<-ly a.states s (by omega),hj];rfl
theorem Eh(a:Adv) (hm:az a.states<=1099511627776):FC Tryz.prog 111 [gR a] (iD (advE a)):=by
 refine an Tryz.func111 rfl rfl rfl Tryz.call111 [] [1,3] rfl 4 (fun hb w0 G0=>?_);simp at hb;obtain⟨bw,hb⟩:=hb;generalize hr:advE a=r;unfold advE at hr;simp;refine bj [1] [] (fun b:Bool=>[(13,.d (bD b))]) (fun _=>[]) (fun b=>b=decide (a.n<1\/5<a.n)) ?_ (fun b be=>?_)
 ·simp
  repeat' (first|(exact Mt.is (by first|(simp[-Bool.decide_or,-Bool.decide_and];done)|(simp[-Bool.decide_or,-Bool.decide_and];omega)|(simp_all;done)|(simp_all;omega)|(simp;grind)))|((refine Bz.split (fun a=>?_) (fun a=>?_)<;>(try simp only[decide_eq_true_eq,decide_eq_false_iff_not,Bool.not_eq_true',Bool.not_eq_false',beq_iff_eq,bne_iff_ne,beq_eq_false_iff_ne,bne_eq_false_iff_eq,Bool.not_not,Bool.and_eq_true,Bool.or_eq_true,Bool.and_eq_false_iff,Bool.or_eq_false_iff]at a))<;>simp[a]))
 cases b<;>simp at be ⊢
 rotate_left
 ·rw[<-hr,if_pos (by omega)]
 rw[if_neg (by omega)]at hr;refine bj [1] [] (fun b:Bool=>[(28,.d (bD b))]) (fun _=>[]) (fun b=>b=decide ((a.states.length:Int)<1\/256<(a.states.length:Int)\/4096<(az a.states:Int))) ?_ (fun b be=>?_)
 ·simp
  (refine Bz.split (fun h1=>?_) (fun h1=>?_)<;>(try simp only[decide_eq_true_eq,decide_eq_false_iff_not,Bool.not_eq_true',Bool.not_eq_false',beq_iff_eq,bne_iff_ne,beq_eq_false_iff_ne,bne_eq_false_iff_eq,Bool.not_not,Bool.and_eq_true,Bool.or_eq_true,Bool.and_eq_false_iff,Bool.or_eq_false_iff]at h1))<;>simp[h1]
  ·(refine Bz.split (fun h2=>?_) (fun h2=>?_)<;>(try simp only[decide_eq_true_eq,decide_eq_false_iff_not,Bool.not_eq_true',Bool.not_eq_false',beq_iff_eq,bne_iff_ne,beq_eq_false_iff_ne,bne_eq_false_iff_eq,Bool.not_not,Bool.and_eq_true,Bool.or_eq_true,Bool.and_eq_false_iff,Bool.or_eq_false_iff]at h2))<;>simp[h2]
   ·refine ap (uA a (by omega)) ?_;simp;exact Mt.is (by first|(simp[-Bool.decide_or,-Bool.decide_and];done)|(simp[-Bool.decide_or,-Bool.decide_and];omega)|(simp_all;done)|(simp_all;omega)|(simp;grind))
   ·exact Mt.is (by first|(simp[-Bool.decide_or,-Bool.decide_and];done)|(simp[-Bool.decide_or,-Bool.decide_and];omega)|(simp_all;done)|(simp_all;omega)|(simp;grind))
  ·exact Mt.is (by first|(simp[-Bool.decide_or,-Bool.decide_and];done)|(simp[-Bool.decide_or,-Bool.decide_and];omega)|(simp_all;done)|(simp_all;omega)|(simp;grind))
 cases b<;>simp at be ⊢
 rotate_left
 ·rw[<-hr,if_pos (by omega)]
 rw[if_neg (by omega)]at hr;refine am [1] [] (fun k:Nat=>[(3,.d (iD k))]) (fun _=>[]) (fun k=>a.states.length - k) (fun k=>k<=a.states.length/\ay k (fun s=>stateE a (a.states.getD s []))=0) 0 ⟨by omega,rfl⟩ (by simp) (fun s hs=>?_);obtain⟨hs,hj⟩:=hs;simp
 (refine Bz.split (fun h=>?_) (fun h=>?_)<;>(try simp only[decide_eq_true_eq,decide_eq_false_iff_not,Bool.not_eq_true',Bool.not_eq_false',beq_iff_eq,bne_iff_ne,beq_eq_false_iff_ne,bne_eq_false_iff_eq,Bool.not_not,Bool.and_eq_true,Bool.or_eq_true,Bool.and_eq_false_iff,Bool.or_eq_false_iff]at h))<;>simp[h]
 ·have fT:a.states[s].length<=140737488355328:=by have:=hb a.states[s];simp at this;omega
  have ek:stateE a (a.states.getD s [])=if a.states[s].length=0 then 19 else ay a.states[s].length (cr a a.states[s]):=by simp[stateE,h]
  generalize hl:a.states[s]=l at ek fT ⊢
  (refine Bz.split (fun h1=>?_) (fun h1=>?_)<;>(try simp only[decide_eq_true_eq,decide_eq_false_iff_not,Bool.not_eq_true',Bool.not_eq_false',beq_iff_eq,bne_iff_ne,beq_eq_false_iff_ne,bne_eq_false_iff_eq,Bool.not_not,Bool.and_eq_true,Bool.or_eq_true,Bool.and_eq_false_iff,Bool.or_eq_false_iff]at h1))<;>simp[h1]
  ·rw[if_pos (by omega)]at ek;rw[<-hr,aF (k:=s) h hj (by show stateE a (a.states.getD s [])≠0;rw[ek];decide),ek];rfl
  rw[if_neg (by omega)]at ek;refine am [1,3] [] (fun k:Nat=>[(4,.d (iD k))]) (fun _=>[]) (fun k=>l.length - k) (fun k=>k<=l.length/\ay k (cr a l)=0) 0 ⟨by omega,rfl⟩ (by simp) (fun k hk=>?_);obtain⟨hk,Qv⟩:=hk;simp[h,hl]
  (refine Bz.split (fun h2=>?_) (fun h2=>?_)<;>(try simp only[decide_eq_true_eq,decide_eq_false_iff_not,Bool.not_eq_true',Bool.not_eq_false',beq_iff_eq,bne_iff_ne,beq_eq_false_iff_ne,bne_eq_false_iff_eq,Bool.not_not,Bool.and_eq_true,Bool.or_eq_true,Bool.and_eq_false_iff,Bool.or_eq_false_iff]at h2))<;>simp[h2]
  ·refine aO 8 ?_;simp[h,hl];refine bL (GQ a l k h2) ?_;simp
   (refine Bz.split (fun h3=>?_) (fun h3=>?_)<;>(try simp only[decide_eq_true_eq,decide_eq_false_iff_not,Bool.not_eq_true',Bool.not_eq_false',beq_iff_eq,bne_iff_ne,beq_eq_false_iff_ne,bne_eq_false_iff_eq,Bool.not_not,Bool.and_eq_true,Bool.or_eq_true,Bool.and_eq_false_iff,Bool.or_eq_false_iff]at h3))<;>simp[h3]
   ·have e3:stateE a (a.states.getD s [])=cr a l k:=by rw[ek,aF h2 Qv h3]
    have e4:=aF (f:=fun s=>stateE a (a.states.getD s [])) h hj (by rw[e3];exact h3);rw[<-hr,if_pos (by rw[e4,e3];exact h3),e4,e3]
   ·exact vg (ar.of (k+1) [] (by simp) ⟨⟨h2,aY Qv (by simpa using h3)⟩,by omega⟩)
  ·have e:k=l.length:=by omega
   subst e;exact vg (ar.of (s+1) [] (by simp) ⟨⟨h,aY hj (by show stateE a (a.states.getD s [])=0;rw[ek,Qv])⟩,by omega⟩)
 ·have e:s=a.states.length:=by omega
  subst e;rw[if_neg (by simpa using hj)]at hr;refine ap (Eg a (bH hj)) ?_;simp
  (refine Bz.split (fun h2=>?_) (fun h2=>?_)<;>(try simp only[decide_eq_true_eq,decide_eq_false_iff_not,Bool.not_eq_true',Bool.not_eq_false',beq_iff_eq,bne_iff_ne,beq_eq_false_iff_ne,bne_eq_false_iff_eq,Bool.not_not,Bool.and_eq_true,Bool.or_eq_true,Bool.and_eq_false_iff,Bool.or_eq_false_iff]at h2))<;>simp[h2]
  ·rw[<-hr,if_neg (by simp[h2])]
  ·rw[<-hr,if_pos h2]
theorem pj(p:Pb) (hm:az p.a.states<=1099511627776):FC Tryz.prog 56 [eI p] (iD (bg p)):=by
 refine an Tryz.func56 rfl rfl rfl Tryz.call56 [] [] rfl 4 (fun hb w0 G0=>?_);generalize hr:bg p=r;unfold bg at hr;simp;refine ap (Ef p.t) ?_;simp
 (refine Bz.split (fun h1=>?_) (fun h1=>?_)<;>(try simp only[decide_eq_true_eq,decide_eq_false_iff_not,Bool.not_eq_true',Bool.not_eq_false',beq_iff_eq,bne_iff_ne,beq_eq_false_iff_ne,bne_eq_false_iff_eq,Bool.not_not,Bool.and_eq_true,Bool.or_eq_true,Bool.and_eq_false_iff,Bool.or_eq_false_iff]at h1))<;>simp[h1]
 ·rw[<-hr,if_pos h1]
 rw[if_neg (by simpa using h1)]at hr;refine ap (Eh p.a hm) ?_;simp
 (refine Bz.split (fun h2=>?_) (fun h2=>?_)<;>(try simp only[decide_eq_true_eq,decide_eq_false_iff_not,Bool.not_eq_true',Bool.not_eq_false',beq_iff_eq,bne_iff_ne,beq_eq_false_iff_ne,bne_eq_false_iff_eq,Bool.not_not,Bool.and_eq_true,Bool.or_eq_true,Bool.and_eq_false_iff,Bool.or_eq_false_iff]at h2))<;>simp[h2]
 ·rw[<-hr,if_pos h2]
 rw[if_neg (by simpa using h2)]at hr
 (refine Bz.split (fun h3=>?_) (fun h3=>?_)<;>(try simp only[decide_eq_true_eq,decide_eq_false_iff_not,Bool.not_eq_true',Bool.not_eq_false',beq_iff_eq,bne_iff_ne,beq_eq_false_iff_ne,bne_eq_false_iff_eq,Bool.not_not,Bool.and_eq_true,Bool.or_eq_true,Bool.and_eq_false_iff,Bool.or_eq_false_iff]at h3))<;>simp
 ·rw[<-hr,if_pos h3]
 rw[if_neg (by simpa using h3)]at hr
 (refine Bz.split (fun h4=>?_) (fun h4=>?_)<;>(try simp only[decide_eq_true_eq,decide_eq_false_iff_not,Bool.not_eq_true',Bool.not_eq_false',beq_iff_eq,bne_iff_ne,beq_eq_false_iff_ne,bne_eq_false_iff_eq,Bool.not_not,Bool.and_eq_true,Bool.or_eq_true,Bool.and_eq_false_iff,Bool.or_eq_false_iff]at h4))<;>simp[h4]
 ·(refine Bz.split (fun h5=>?_) (fun h5=>?_)<;>(try simp only[decide_eq_true_eq,decide_eq_false_iff_not,Bool.not_eq_true',Bool.not_eq_false',beq_iff_eq,bne_iff_ne,beq_eq_false_iff_ne,bne_eq_false_iff_eq,Bool.not_not,Bool.and_eq_true,Bool.or_eq_true,Bool.and_eq_false_iff,Bool.or_eq_false_iff]at h5))<;>simp[h5]
  ·rw[<-hr,if_pos (by omega)]
  ·rw[<-hr,if_neg (by omega)]
 ·rw[<-hr,if_pos (by omega)]
theorem Ei(x m:Int):FC Tryz.prog 241 [iD x,.fp 1 [[iD m]] 0 0] (bD (decide (x<0) || decide (m<=x))):=by
 refine an Tryz.func241 rfl rfl rfl Tryz.call241 [] [] rfl 1 (fun hb w0 G0=>?_);simp
 (refine Bz.split (fun h=>?_) (fun h=>?_)<;>(try simp only[decide_eq_true_eq,decide_eq_false_iff_not,Bool.not_eq_true',Bool.not_eq_false',beq_iff_eq,bne_iff_ne,beq_eq_false_iff_ne,bne_eq_false_iff_eq,Bool.not_not,Bool.and_eq_true,Bool.or_eq_true,Bool.and_eq_false_iff,Bool.or_eq_false_iff]at h))<;>simp[h]
theorem xj(v:List Int) (n m:Int):FC Tryz.prog 178 [aT v,iD n,iD m] (iD (vectorE v n m)):=by
 refine an Tryz.func178 rfl rfl rfl Tryz.call178 [] [] rfl 1 (fun hb w0 G0=>?_);unfold vectorE;simp
 (refine Bz.split (fun h=>?_) (fun h=>?_)<;>(try simp only[decide_eq_true_eq,decide_eq_false_iff_not,Bool.not_eq_true',Bool.not_eq_false',beq_iff_eq,bne_iff_ne,beq_eq_false_iff_ne,bne_eq_false_iff_eq,Bool.not_not,Bool.and_eq_true,Bool.or_eq_true,Bool.and_eq_false_iff,Bool.or_eq_false_iff]at h))<;>simp[h]
 refine ap (tQ v _ _ (fun i=>decide (v.getD i 0<0) || decide (m<=v.getD i 0)) (fun i hi=>by simpa[hi] using Ei v[i] m)) ?_;simp
 (refine Bz.split (fun h1=>?_) (fun h1=>?_)<;>(try simp only[decide_eq_true_eq,decide_eq_false_iff_not,Bool.not_eq_true',Bool.not_eq_false',beq_iff_eq,bne_iff_ne,beq_eq_false_iff_ne,bne_eq_false_iff_eq,Bool.not_not,Bool.and_eq_true,Bool.or_eq_true,Bool.and_eq_false_iff,Bool.or_eq_false_iff]at h1))<;>simp[h,h1]
theorem zG(l:List (List Int)) (i:Nat) (hi:i<l.length):FC Tryz.prog 242 [ez l,iD i] (bD (unordB l i)):=by
 refine an Tryz.func242 rfl rfl rfl Tryz.call242 [] [] rfl 3 (fun hb w0 G0=>?_);simp at hb;unfold unordB;simp;refine aO 16 ?_;simp
 (refine Bz.split (fun h=>?_) (fun h=>?_)<;>(try simp only[decide_eq_true_eq,decide_eq_false_iff_not,Bool.not_eq_true',Bool.not_eq_false',beq_iff_eq,bne_iff_ne,beq_eq_false_iff_ne,bne_eq_false_iff_eq,Bool.not_not,Bool.and_eq_true,Bool.or_eq_true,Bool.and_eq_false_iff,Bool.or_eq_false_iff]at h))<;>simp[h]
 have e:((i:Int) - 1).toNat=i - 1:=by omega
 have h1:i - 1<l.length:=by omega
 refine vg (vg ?_);simp[e,h1,hi];refine bL (kY _ _) ?_;simp[hi,h1,h]
theorem MF(x v:List Int):FC Tryz.prog 274 [aT x,.fp 1 [[aT v]] 0 0] (bD (eqV x v)):=by
 refine an Tryz.func274 rfl rfl rfl Tryz.call274 [] [] rfl 1 (fun hb w0 G0=>?_);simp;refine ap (fO _ _) ?_;simp
theorem Pv(l:List (List Int)) (v:List Int):FC Tryz.prog 243 [ez l,aT v] (bD (hasV l v)):=by
 refine an Tryz.func243 rfl rfl rfl Tryz.call243 [] [] rfl 1 (fun hb w0 G0=>?_);unfold hasV;simp;refine ap (pR l _ _ (fun i=>eqV (l.getD i []) v) (fun i hi=>by simpa[hi] using MF l[i] v)) ?_;simp
theorem Ej(t:Tk) (c:Cs):FC Tryz.prog 180 [zA t,.agg [aT c.inp,ez c.out,ez c.calm]] (iD (vectorsE t c)):=by
 refine an Tryz.func180 rfl rfl rfl Tryz.call180 [] [1] rfl 4 (fun hb w0 G0=>?_);simp at hb;obtain⟨-,-,iq,hbc⟩:=hb;generalize hr:vectorsE t c=r;unfold vectorsE at hr;simp;refine bj [2,3] [] (fun b:Bool=>[(19,.d (bD b))]) (fun _=>[]) (fun b=>b=decide ((c.out.length:Int)<1\/1024<(c.out.length:Int))) ?_ (fun b hb=>?_)
 ·simp
  repeat' (first|(exact Mt.is (by first|(simp[-Bool.decide_or,-Bool.decide_and];done)|(simp[-Bool.decide_or,-Bool.decide_and];omega)|(simp_all;done)|(simp_all;omega)|(simp;grind)))|((refine Bz.split (fun a=>?_) (fun a=>?_)<;>(try simp only[decide_eq_true_eq,decide_eq_false_iff_not,Bool.not_eq_true',Bool.not_eq_false',beq_iff_eq,bne_iff_ne,beq_eq_false_iff_ne,bne_eq_false_iff_eq,Bool.not_not,Bool.and_eq_true,Bool.or_eq_true,Bool.and_eq_false_iff,Bool.or_eq_false_iff]at a))<;>simp[a]))
 subst hb;simp
 (refine Bz.split (fun h2=>?_) (fun h2=>?_)<;>(try simp only[decide_eq_true_eq,decide_eq_false_iff_not,Bool.not_eq_true',Bool.not_eq_false',beq_iff_eq,bne_iff_ne,beq_eq_false_iff_ne,bne_eq_false_iff_eq,Bool.not_not,Bool.and_eq_true,Bool.or_eq_true,Bool.and_eq_false_iff,Bool.or_eq_false_iff]at h2))<;>simp[h2]
 ·rw[<-hr,if_pos (by omega)]
 rw[if_neg (by omega)]at hr;refine am [2,3,21,22] [] (fun k:Nat=>[(23,.d (iD k))]) (fun _=>[]) (fun k=>c.out.length - k) (fun k=>k<=c.out.length/\ay k (iM t c)=0) 0 ⟨by omega,rfl⟩ (by simp) (fun k hk=>?_);obtain⟨hk,hj⟩:=hk;simp
 (refine Bz.split (fun h=>?_) (fun h=>?_)<;>(try simp only[decide_eq_true_eq,decide_eq_false_iff_not,Bool.not_eq_true',Bool.not_eq_false',beq_iff_eq,bne_iff_ne,beq_eq_false_iff_ne,bne_eq_false_iff_eq,Bool.not_not,Bool.and_eq_true,Bool.or_eq_true,Bool.and_eq_false_iff,Bool.or_eq_false_iff]at h))<;>simp[h]
 ·refine ap (xj _ _ _) ?_;have ek:iM t c k=if vectorE c.out[k] t.n t.outs≠0 then vectorE c.out[k] t.n t.outs else if unordB c.out k then 14 else 0:=by simp[iM,h]
  simp
  (refine Bz.split (fun h5=>?_) (fun h5=>?_)<;>(try simp only[decide_eq_true_eq,decide_eq_false_iff_not,Bool.not_eq_true',Bool.not_eq_false',beq_iff_eq,bne_iff_ne,beq_eq_false_iff_ne,bne_eq_false_iff_eq,Bool.not_not,Bool.and_eq_true,Bool.or_eq_true,Bool.and_eq_false_iff,Bool.or_eq_false_iff]at h5))<;>simp[h5]
  ·rw[if_pos h5]at ek;rw[<-hr,aF h hj (by rw[ek];exact h5),ek,if_pos h5]
  rw[if_neg (by simpa using h5)]at ek;refine ap (zG _ k h) ?_;simp
  (refine Bz.split (fun h6=>?_) (fun h6=>?_)<;>(try simp only[decide_eq_true_eq,decide_eq_false_iff_not,Bool.not_eq_true',Bool.not_eq_false',beq_iff_eq,bne_iff_ne,beq_eq_false_iff_ne,bne_eq_false_iff_eq,Bool.not_not,Bool.and_eq_true,Bool.or_eq_true,Bool.and_eq_false_iff,Bool.or_eq_false_iff]at h6))<;>simp[h6]
  ·rw[if_pos h6]at ek;rw[<-hr,aF h hj (by rw[ek];decide),ek];rfl
  ·exact vg (ar.of (k+1) [] (by simp) ⟨⟨h,aY hj (by rw[ek,h6];rfl)⟩,by omega⟩)
 ·have:k=c.out.length:=by omega
  subst this;rw[hj,if_neg (by simp)]at hr;clear hj hk h;refine am [2,3,43,44] [] (fun k:Nat=>[(45,.d (iD k))]) (fun _=>[]) (fun k=>c.calm.length - k) (fun k=>k<=c.calm.length/\ay k (gk c)=0) 0 ⟨by omega,rfl⟩ (by simp) (fun k hk=>?_);obtain⟨hk,hj⟩:=hk;simp
  (refine Bz.split (fun h=>?_) (fun h=>?_)<;>(try simp only[decide_eq_true_eq,decide_eq_false_iff_not,Bool.not_eq_true',Bool.not_eq_false',beq_iff_eq,bne_iff_ne,beq_eq_false_iff_ne,bne_eq_false_iff_eq,Bool.not_not,Bool.and_eq_true,Bool.or_eq_true,Bool.and_eq_false_iff,Bool.or_eq_false_iff]at h))<;>simp[h]
  ·refine ap (Pv _ _) ?_;have ek:gk c k=if hasV c.out c.calm[k] then(if unordB c.calm k then 14 else 0) else 6:=by simp[gk,h]
   simp
   (refine Bz.split (fun h5=>?_) (fun h5=>?_)<;>(try simp only[decide_eq_true_eq,decide_eq_false_iff_not,Bool.not_eq_true',Bool.not_eq_false',beq_iff_eq,bne_iff_ne,beq_eq_false_iff_ne,bne_eq_false_iff_eq,Bool.not_not,Bool.and_eq_true,Bool.or_eq_true,Bool.and_eq_false_iff,Bool.or_eq_false_iff]at h5))<;>simp[h5]
   ·rw[h5,if_neg (by simp)]at ek;rw[<-hr,aF h hj (by rw[ek];decide),ek]
   rw[if_pos h5]at ek;refine ap (zG _ k h) ?_;simp
   (refine Bz.split (fun h6=>?_) (fun h6=>?_)<;>(try simp only[decide_eq_true_eq,decide_eq_false_iff_not,Bool.not_eq_true',Bool.not_eq_false',beq_iff_eq,bne_iff_ne,beq_eq_false_iff_ne,bne_eq_false_iff_eq,Bool.not_not,Bool.and_eq_true,Bool.or_eq_true,Bool.and_eq_false_iff,Bool.or_eq_false_iff]at h6))<;>simp[h6]
   ·rw[if_pos h6]at ek;rw[<-hr,aF h hj (by rw[ek];decide),ek]
   ·exact vg (ar.of (k+1) [] (by simp) ⟨⟨h,aY hj (by rw[ek,h6];rfl)⟩,by omega⟩)
  ·have:k=c.calm.length:=by omega
   subst this;rw[<-hr,hj]
theorem zH(t:Tk):FC Tryz.prog 102 [zA t] (iD (taskE t)):=by
 refine an Tryz.func102 rfl rfl rfl Tryz.call102 [] [1,2,3,5,13] rfl 3 (fun hb w0 G0=>?_);simp at hb;obtain⟨gh,-⟩:=hb;generalize hr:taskE t=r;unfold taskE at hr;simp;refine bj [1] [] (fun b:Bool=>[(7,.d (bD b))]) (fun _=>[]) (fun b=>b=decide (t.n<1\/5<t.n)) ?_ (fun b hb=>?_)
 ·simp
  repeat' (first|(exact Mt.is (by first|(simp[-Bool.decide_or,-Bool.decide_and];done)|(simp[-Bool.decide_or,-Bool.decide_and];omega)|(simp_all;done)|(simp_all;omega)|(simp;grind)))|((refine Bz.split (fun a=>?_) (fun a=>?_)<;>(try simp only[decide_eq_true_eq,decide_eq_false_iff_not,Bool.not_eq_true',Bool.not_eq_false',beq_iff_eq,bne_iff_ne,beq_eq_false_iff_ne,bne_eq_false_iff_eq,Bool.not_not,Bool.and_eq_true,Bool.or_eq_true,Bool.and_eq_false_iff,Bool.or_eq_false_iff]at a))<;>simp[a]))
 cases b<;>simp at hb ⊢
 rotate_left
 ·rw[<-hr,if_pos (by omega)]
 refine bj [1] [] (fun b:Bool=>[(7,.d (bD b))]) (fun _=>[]) (fun b=>b=decide (t.ins<1\/8<t.ins)) ?_ (fun b hb=>?_)
 ·simp
  repeat' (first|(exact Mt.is (by first|(simp[-Bool.decide_or,-Bool.decide_and];done)|(simp[-Bool.decide_or,-Bool.decide_and];omega)|(simp_all;done)|(simp_all;omega)|(simp;grind)))|((refine Bz.split (fun a=>?_) (fun a=>?_)<;>(try simp only[decide_eq_true_eq,decide_eq_false_iff_not,Bool.not_eq_true',Bool.not_eq_false',beq_iff_eq,bne_iff_ne,beq_eq_false_iff_ne,bne_eq_false_iff_eq,Bool.not_not,Bool.and_eq_true,Bool.or_eq_true,Bool.and_eq_false_iff,Bool.or_eq_false_iff]at a))<;>simp[a]))
 cases b<;>simp at hb ⊢
 rotate_left
 ·rw[<-hr,if_pos (by omega)]
 (refine Bz.split (fun h3=>?_) (fun h3=>?_)<;>(try simp only[decide_eq_true_eq,decide_eq_false_iff_not,Bool.not_eq_true',Bool.not_eq_false',beq_iff_eq,bne_iff_ne,beq_eq_false_iff_ne,bne_eq_false_iff_eq,Bool.not_not,Bool.and_eq_true,Bool.or_eq_true,Bool.and_eq_false_iff,Bool.or_eq_false_iff]at h3))<;>simp[h3]
 rotate_left
 ·rw[<-hr,if_pos (by omega)]
 (refine Bz.split (fun h4=>?_) (fun h4=>?_)<;>(try simp only[decide_eq_true_eq,decide_eq_false_iff_not,Bool.not_eq_true',Bool.not_eq_false',beq_iff_eq,bne_iff_ne,beq_eq_false_iff_ne,bne_eq_false_iff_eq,Bool.not_not,Bool.and_eq_true,Bool.or_eq_true,Bool.and_eq_false_iff,Bool.or_eq_false_iff]at h4))<;>simp[h4]
 ·rw[<-hr,if_pos (by omega)]
 rw[if_neg (by omega)]at hr;refine bj [1] [] (fun b:Bool=>[(32,.d (bD b))]) (fun _=>[]) (fun b=>b=decide ((t.cases.length:Int)<1\/1024<(t.cases.length:Int))) ?_ (fun b hb=>?_)
 ·simp
  repeat' (first|(exact Mt.is (by first|(simp[-Bool.decide_or,-Bool.decide_and];done)|(simp[-Bool.decide_or,-Bool.decide_and];omega)|(simp_all;done)|(simp_all;omega)|(simp;grind)))|((refine Bz.split (fun a=>?_) (fun a=>?_)<;>(try simp only[decide_eq_true_eq,decide_eq_false_iff_not,Bool.not_eq_true',Bool.not_eq_false',beq_iff_eq,bne_iff_ne,beq_eq_false_iff_ne,bne_eq_false_iff_eq,Bool.not_not,Bool.and_eq_true,Bool.or_eq_true,Bool.and_eq_false_iff,Bool.or_eq_false_iff]at a))<;>simp[a]))
 cases b<;>simp at hb ⊢
 rotate_left
 ·rw[<-hr,if_pos (by omega)]
 rw[if_neg (by omega)]at hr;refine am [1,44,45] [] (fun k:Nat=>[(46,.d (iD k))]) (fun _=>[]) (fun k=>t.cases.length - k) (fun k=>k<=t.cases.length/\ay k (dl t)=0) 0 ⟨by omega,rfl⟩ (by simp) (fun k hk=>?_);obtain⟨hk,hj⟩:=hk;simp
 (refine Bz.split (fun h=>?_) (fun h=>?_)<;>(try simp only[decide_eq_true_eq,decide_eq_false_iff_not,Bool.not_eq_true',Bool.not_eq_false',beq_iff_eq,bne_iff_ne,beq_eq_false_iff_ne,bne_eq_false_iff_eq,Bool.not_not,Bool.and_eq_true,Bool.or_eq_true,Bool.and_eq_false_iff,Bool.or_eq_false_iff]at h))<;>simp[h]
 ·have ek:dl t k=if vectorE t.cases[k].inp t.n t.ins≠0 then vectorE t.cases[k].inp t.n t.ins else if 0<k/\0<=ordV (t.cases.getD (k - 1) default).inp t.cases[k].inp then 14 else vectorsE t t.cases[k]:=by simp[dl,h]
  generalize t.cases[k]=c at ek ⊢;generalize ho:ordV (t.cases.getD (k - 1) default).inp c.inp=o at ek;refine ap (xj _ _ _) ?_;simp
  (refine Bz.split (fun h5=>?_) (fun h5=>?_)<;>(try simp only[decide_eq_true_eq,decide_eq_false_iff_not,Bool.not_eq_true',Bool.not_eq_false',beq_iff_eq,bne_iff_ne,beq_eq_false_iff_ne,bne_eq_false_iff_eq,Bool.not_not,Bool.and_eq_true,Bool.or_eq_true,Bool.and_eq_false_iff,Bool.or_eq_false_iff]at h5))<;>simp[h5]
  ·rw[if_pos h5]at ek;rw[<-hr,aF h hj (by rw[ek];exact h5),ek]
  rw[if_neg (by simpa using h5)]at ek;refine bj [1,4,44,45,46] [0] (fun b:Bool=>[(75,.d (bD b))]) (fun _=>[]) (fun b=>b=decide (0<k/\0<=o)) ?_ (fun b hb=>?_)
  ·simp;refine aO 15 ?_;simp
   (refine Bz.split (fun h6=>?_) (fun h6=>?_)<;>(try simp only[decide_eq_true_eq,decide_eq_false_iff_not,Bool.not_eq_true',Bool.not_eq_false',beq_iff_eq,bne_iff_ne,beq_eq_false_iff_ne,bne_eq_false_iff_eq,Bool.not_not,Bool.and_eq_true,Bool.or_eq_true,Bool.and_eq_false_iff,Bool.or_eq_false_iff]at h6))<;>simp[h6]
   ·have e:((k:Int) - 1).toNat=k - 1:=by omega
    have gi:k - 1<t.cases.length:=by omega
    refine vg (vg ?_);simp[e,gi];refine bL (kY _ _) ?_;simp;exact Mt.of _ (by simp[h6,gi,<-ho]) rfl
   ·exact Mt.of _ (by simp[h6]) rfl
  subst hb;clear ho;simp
  (refine Bz.split (fun h6=>?_) (fun h6=>?_)<;>(try simp only[decide_eq_true_eq,decide_eq_false_iff_not,Bool.not_eq_true',Bool.not_eq_false',beq_iff_eq,bne_iff_ne,beq_eq_false_iff_ne,bne_eq_false_iff_eq,Bool.not_not,Bool.and_eq_true,Bool.or_eq_true,Bool.and_eq_false_iff,Bool.or_eq_false_iff]at h6))<;>simp[h6]
  ·rw[if_pos (by omega)]at ek;rw[<-hr,aF h hj (by rw[ek];decide),ek]
  rw[if_neg (by omega)]at ek;refine ap (Ej t c) ?_;simp
  (refine Bz.split (fun h7=>?_) (fun h7=>?_)<;>(try simp only[decide_eq_true_eq,decide_eq_false_iff_not,Bool.not_eq_true',Bool.not_eq_false',beq_iff_eq,bne_iff_ne,beq_eq_false_iff_ne,bne_eq_false_iff_eq,Bool.not_not,Bool.and_eq_true,Bool.or_eq_true,Bool.and_eq_false_iff,Bool.or_eq_false_iff]at h7))<;>simp[h7]
  ·rw[<-hr,aF h hj (by rw[ek];exact h7),ek]
  ·exact vg (ar.of (k+1) [] (by simp) ⟨⟨h,aY hj (by rw[ek];simpa using h7)⟩,by omega⟩)
 ·have:k=t.cases.length:=by omega
  subst this;rw[<-hr,hj]
theorem Cy{K:Cx} {d:Option Nat} {t t' ty:TypeId} {x y:Operand} {pos:String} {af:Array Edge} {g:Option (Nat × Bool)} {k:AS->Prop} {u} {s:AS} (va vb:Array Value) (b:Bool) (hx:(s.ev x).conc=some (.agg va)) (hy:(s.ev y).conc=some (.agg vb)) (he:∀ w,(Op.equal t (.agg va) (.agg vb)).run K.P w=.ok b w)
  (hk:k (s.put d (.d (.v (.bool b))))) (hg:K.P.eqGuardType K.P.depth t=false:=by kernel_rfl):kT K ⟨d,.binOp .eql t x y t',ty,pos,af,g⟩ k u s:=by
 refine bz fun σ G a w hs=>⟨.bool b,_,?_,.d (.v _),hk⟩
 have e1:=hs.conc hx;have e2:=hs.conc hy;simp only[execOp];rw[e1,e2];simp[eqGuard,binOp,go_sem,hg,he]
theorem sE{K:Cx} {d:Option Nat} {t t' ty:TypeId} {x y:Operand} {pos:String} {af:Array Edge} {g:Option (Nat × Bool)} {k:AS->Prop} {u} {s:AS} (va vb:Array Value) (b:Bool) (hx:(s.ev x).conc=some (.agg va)) (hy:(s.ev y).conc=some (.agg vb)) (he:∀ w,(Op.equal t (.agg va) (.agg vb)).run K.P w=.ok b w)
  (hk:k (s.put d (.d (.v (.bool !b))))) (hg:K.P.eqGuardType K.P.depth t=false:=by kernel_rfl):kT K ⟨d,.binOp .neq t x y t',ty,pos,af,g⟩ k u s:=by
 refine bz fun σ G a w hs=>⟨.bool !b,_,?_,.d (.v _),hk⟩
 have e1:=hs.conc hx;have e2:=hs.conc hy;simp only[execOp];rw[e1,e2];simp[eqGuard,binOp,go_sem,hg,he]
theorem MG(n:Nat) (h:n<=30):FC Tryz.prog 287 [iD n] (iD (2 ^ n - 1)):=by
 refine an Tryz.func287 rfl rfl rfl Tryz.call287 [] [] rfl 1 (fun hb w0 G0=>?_);have hp:=qQ n h;simp
 repeat refine vg ?_
 exact V.i (by omega)
theorem JO(g:Gr):FC Tryz.prog 255 [Fi g] (iD (dS g)):=by
 refine an Tryz.func255 rfl rfl rfl Tryz.call255 [] [6] rfl 1 (fun hb w0 G0=>?_);generalize hr:dS g=r;unfold dS at hr;simp
 (refine Bz.split (fun h0=>?_) (fun h0=>?_)<;>(try simp only[decide_eq_true_eq,decide_eq_false_iff_not,Bool.not_eq_true',Bool.not_eq_false',beq_iff_eq,bne_iff_ne,beq_eq_false_iff_ne,bne_eq_false_iff_eq,Bool.not_not,Bool.and_eq_true,Bool.or_eq_true,Bool.and_eq_false_iff,Bool.or_eq_false_iff]at h0))<;>simp[h0]
 ·(refine Bz.split (fun h1=>?_) (fun h1=>?_)<;>(try simp only[decide_eq_true_eq,decide_eq_false_iff_not,Bool.not_eq_true',Bool.not_eq_false',beq_iff_eq,bne_iff_ne,beq_eq_false_iff_ne,bne_eq_false_iff_eq,Bool.not_not,Bool.and_eq_true,Bool.or_eq_true,Bool.and_eq_false_iff,Bool.or_eq_false_iff]at h1))<;>simp[h1]
  ·rw[<-hr,if_pos (by omega)]
  rw[if_neg (by omega)]at hr;refine am [1,14] [] (fun k:Nat=>[(15,.d (iD k))]) (fun _=>[]) (fun k=>5 - k) (fun k=>k<=5/\ay k (fun p=>ji g.n (g.hear p) p)=0) 0 ⟨by omega,rfl⟩ (by simp) (fun k hk=>?_);obtain⟨hk,hj⟩:=hk;simp
  (refine Bz.split (fun h=>?_) (fun h=>?_)<;>(try simp only[decide_eq_true_eq,decide_eq_false_iff_not,Bool.not_eq_true',Bool.not_eq_false',beq_iff_eq,bne_iff_ne,beq_eq_false_iff_ne,bne_eq_false_iff_eq,Bool.not_not,Bool.and_eq_true,Bool.or_eq_true,Bool.and_eq_false_iff,Bool.or_eq_false_iff]at h))
  ·have h:k<5:=by omega
   simp[h]
   repeat refine vg ?_
   have ek:ji g.n (g.hear k) k=if g.n<=k then(if g.hear k≠0 then 3 else 0) else if g.hear k<0\/2 ^ g.n.toNat - 1<g.hear k then 2 else if bX (g.hear k) k then 0 else 3:=rfl
   refine bj [1,3,4,14,15] [] (fun b:Bool=>[(19,.d (bD b))]) (fun _=>[]) (fun b=>b=decide (g.n<=k/\g.hear k≠0)) ?_ (fun b be=>?_)
   ·simp
    repeat' (first|(exact Mt.is (by first|(simp[-Bool.decide_or,-Bool.decide_and];done)|(simp[-Bool.decide_or,-Bool.decide_and];omega)|(simp_all;done)|(simp_all;omega)|(simp;grind)))|((refine Bz.split (fun a=>?_) (fun a=>?_)<;>(try simp only[decide_eq_true_eq,decide_eq_false_iff_not,Bool.not_eq_true',Bool.not_eq_false',beq_iff_eq,bne_iff_ne,beq_eq_false_iff_ne,bne_eq_false_iff_eq,Bool.not_not,Bool.and_eq_true,Bool.or_eq_true,Bool.and_eq_false_iff,Bool.or_eq_false_iff]at a))<;>simp[a]))
   cases b<;>simp at be ⊢
   rotate_left
   ·rw[if_pos be.1,if_pos be.2]at ek;rw[<-hr,aF (k:=k) h hj (by simp[ek])];simp[ek]
   (refine Bz.split (fun h2=>?_) (fun h2=>?_)<;>(try simp only[decide_eq_true_eq,decide_eq_false_iff_not,Bool.not_eq_true',Bool.not_eq_false',beq_iff_eq,bne_iff_ne,beq_eq_false_iff_ne,bne_eq_false_iff_eq,Bool.not_not,Bool.and_eq_true,Bool.or_eq_true,Bool.and_eq_false_iff,Bool.or_eq_false_iff]at h2))<;>simp[h2]
   ·exact vg (ar.of (k+1) [] (by simp) ⟨⟨h,aY hj (by show ji g.n (g.hear k) k=0;rw[ek,if_pos h2,if_neg (by simpa using be h2)])⟩,by omega⟩)
   have en:g.n=(g.n.toNat:Int):=by omega
   have hp:=qQ g.n.toNat (by omega);rw[if_neg h2]at ek
   (refine Bz.split (fun h3=>?_) (fun h3=>?_)<;>(try simp only[decide_eq_true_eq,decide_eq_false_iff_not,Bool.not_eq_true',Bool.not_eq_false',beq_iff_eq,bne_iff_ne,beq_eq_false_iff_ne,bne_eq_false_iff_eq,Bool.not_not,Bool.and_eq_true,Bool.or_eq_true,Bool.and_eq_false_iff,Bool.or_eq_false_iff]at h3))<;>simp[h3]
   ·have hc:=MG g.n.toNat (by omega);rw[<-en]at hc;refine ap hc ?_;simp
    (refine Bz.split (fun h4=>?_) (fun h4=>?_)<;>(try simp only[decide_eq_true_eq,decide_eq_false_iff_not,Bool.not_eq_true',Bool.not_eq_false',beq_iff_eq,bne_iff_ne,beq_eq_false_iff_ne,bne_eq_false_iff_eq,Bool.not_not,Bool.and_eq_true,Bool.or_eq_true,Bool.and_eq_false_iff,Bool.or_eq_false_iff]at h4))<;>simp[h4]
    ·rw[if_pos (by omega)]at ek;rw[<-hr,aF (k:=k) h hj (by simp[ek])];simp[ek]
    ·rw[if_neg (by omega)]at ek
     repeat refine vg ?_
     rw[oC]
     (refine Bz.split (fun h5=>?_) (fun h5=>?_)<;>(try simp only[decide_eq_true_eq,decide_eq_false_iff_not,Bool.not_eq_true',Bool.not_eq_false',beq_iff_eq,bne_iff_ne,beq_eq_false_iff_ne,bne_eq_false_iff_eq,Bool.not_not,Bool.and_eq_true,Bool.or_eq_true,Bool.and_eq_false_iff,Bool.or_eq_false_iff]at h5))<;>simp[h5]
     ·rw[<-hr,aF (k:=k) h hj (by simp[ek,h5])];simp[ek,h5]
     ·exact vg (ar.of (k+1) [] (by simp) ⟨⟨h,aY hj (by simp[ek,h5])⟩,by omega⟩)
   ·rw[if_pos (by omega)]at ek;rw[<-hr,aF (k:=k) h hj (by simp[ek])];simp[ek]
  ·have:k=5:=by omega
   subst this;simp;rw[<-hr,hj]
 ·rw[<-hr,if_pos (by omega)]
theorem JP(n:Int):FC Tryz.prog 288 [iD n] (iD (dR n)):=by
 refine an Tryz.func288 rfl rfl rfl Tryz.call288 [] [] rfl 1 (fun hb w0 G0=>?_);unfold dR;simp
 (refine Bz.split (fun h=>?_) (fun h=>?_)<;>(try simp only[decide_eq_true_eq,decide_eq_false_iff_not,Bool.not_eq_true',Bool.not_eq_false',beq_iff_eq,bne_iff_ne,beq_eq_false_iff_ne,bne_eq_false_iff_eq,Bool.not_not,Bool.and_eq_true,Bool.or_eq_true,Bool.and_eq_false_iff,Bool.or_eq_false_iff]at h))<;>simp[h]
 (refine Bz.split (fun h1=>?_) (fun h1=>?_)<;>(try simp only[decide_eq_true_eq,decide_eq_false_iff_not,Bool.not_eq_true',Bool.not_eq_false',beq_iff_eq,bne_iff_ne,beq_eq_false_iff_ne,bne_eq_false_iff_eq,Bool.not_not,Bool.and_eq_true,Bool.or_eq_true,Bool.and_eq_false_iff,Bool.or_eq_false_iff]at h1))<;>simp[h1]<;>omega
theorem JQ(n set:Int):FC Tryz.prog 256 [iD n,iD set] (iD (gj n set)):=by
 refine an Tryz.func256 rfl rfl rfl Tryz.call256 [] [] rfl 1 (fun hb w0 G0=>?_);generalize hr:gj n set=r;unfold gj at hr;simp;refine ap (JP _) ?_;simp
 (refine Bz.split (fun h=>?_) (fun h=>?_)<;>(try simp only[decide_eq_true_eq,decide_eq_false_iff_not,Bool.not_eq_true',Bool.not_eq_false',beq_iff_eq,bne_iff_ne,beq_eq_false_iff_ne,bne_eq_false_iff_eq,Bool.not_not,Bool.and_eq_true,Bool.or_eq_true,Bool.and_eq_false_iff,Bool.or_eq_false_iff]at h))<;>simp[h]
 ·rw[<-hr,if_pos h]
 rw[if_neg (by simpa using h)]at hr;have h:¬ (n<1\/5<n):=by unfold dR at h;grind
 (refine Bz.split (fun h1=>?_) (fun h1=>?_)<;>(try simp only[decide_eq_true_eq,decide_eq_false_iff_not,Bool.not_eq_true',Bool.not_eq_false',beq_iff_eq,bne_iff_ne,beq_eq_false_iff_ne,bne_eq_false_iff_eq,Bool.not_not,Bool.and_eq_true,Bool.or_eq_true,Bool.and_eq_false_iff,Bool.or_eq_false_iff]at h1))<;>simp[h1]
 ·repeat refine vg ?_
  (refine Bz.split (fun h2=>?_) (fun h2=>?_)<;>(try simp only[decide_eq_true_eq,decide_eq_false_iff_not,Bool.not_eq_true',Bool.not_eq_false',beq_iff_eq,bne_iff_ne,beq_eq_false_iff_ne,bne_eq_false_iff_eq,Bool.not_not,Bool.and_eq_true,Bool.or_eq_true,Bool.and_eq_false_iff,Bool.or_eq_false_iff]at h2))<;>simp[h2]
  ·rw[<-hr,if_pos (by omega)]
  ·rw[<-hr,if_neg (by omega)]
 ·rw[<-hr,if_pos (by omega)]
theorem Cz(a b:Gr):FC Tryz.prog 248 [Fi a,Fi b] (iD (bJ a b)):=by
 refine an Tryz.func248 rfl rfl rfl Tryz.call248 [] [] rfl 1 (fun hb w0 G0=>?_);generalize hr:bJ a b=r;unfold bJ at hr;simp;refine Cy _ _ (decide (a=b)) rfl rfl (fun w=>nj 9997 a b w) ?_;simp
 (refine Bz.split (fun h0=>?_) (fun h0=>?_)<;>(try simp only[decide_eq_true_eq,decide_eq_false_iff_not,Bool.not_eq_true',Bool.not_eq_false',beq_iff_eq,bne_iff_ne,beq_eq_false_iff_ne,bne_eq_false_iff_eq,Bool.not_not,Bool.and_eq_true,Bool.or_eq_true,Bool.and_eq_false_iff,Bool.or_eq_false_iff]at h0))<;>simp
 ·subst h0;rw[<-hr];rw[if_neg (by rw[pS];simp),cj _ _ (fun j _=>pS _)]
 (refine Bz.split (fun h1=>?_) (fun h1=>?_)<;>(try simp only[decide_eq_true_eq,decide_eq_false_iff_not,Bool.not_eq_true',Bool.not_eq_false',beq_iff_eq,bne_iff_ne,beq_eq_false_iff_ne,bne_eq_false_iff_eq,Bool.not_not,Bool.and_eq_true,Bool.or_eq_true,Bool.and_eq_false_iff,Bool.or_eq_false_iff]at h1))<;>simp
 ·refine ap (pQ _ _) ?_;simp;rw[<-hr,if_pos];unfold cmpI;grind
 have e1:cmpI a.n b.n=0:=by rw[show a.n=b.n by simpa using h1];exact pS _
 rw[e1,if_neg (by simp)]at hr;refine am [2,3] [] (fun k:Nat=>[(20,.d (iD k))]) (fun _=>[]) (fun k=>5 - k) (fun k=>k<=5/\ay k (fun p=>cmpI (a.hear p) (b.hear p))=0) 0 ⟨by omega,rfl⟩ (by simp) (fun k hk=>?_);obtain⟨hk,hj⟩:=hk;simp
 (refine Bz.split (fun h=>?_) (fun h=>?_)<;>(try simp only[decide_eq_true_eq,decide_eq_false_iff_not,Bool.not_eq_true',Bool.not_eq_false',beq_iff_eq,bne_iff_ne,beq_eq_false_iff_ne,bne_eq_false_iff_eq,Bool.not_not,Bool.and_eq_true,Bool.or_eq_true,Bool.and_eq_false_iff,Bool.or_eq_false_iff]at h))
 ·have h:k<5:=by omega
  simp;refine aO 10 ?_;simp[h]
  repeat refine vg ?_
  refine bL (pQ _ _) ?_;simp
  (refine Bz.split (fun h2=>?_) (fun h2=>?_)<;>(try simp only[decide_eq_true_eq,decide_eq_false_iff_not,Bool.not_eq_true',Bool.not_eq_false',beq_iff_eq,bne_iff_ne,beq_eq_false_iff_ne,bne_eq_false_iff_eq,Bool.not_not,Bool.and_eq_true,Bool.or_eq_true,Bool.and_eq_false_iff,Bool.or_eq_false_iff]at h2))<;>simp[h2]
  ·rw[<-hr,aF (k:=k) h hj h2]
  ·exact vg (ar.of (k+1) [] (by simp) ⟨⟨h,aY hj (by simpa using h2)⟩,by omega⟩)
 ·have:k=5:=by omega
  subst this;simp;rw[<-hr,hj]
theorem zI(x:Rd):FC Tryz.prog 208 [mJ x] (iD (roundE x)):=by
 refine an Tryz.func208 rfl rfl rfl Tryz.call208 [] [] rfl 1 (fun hb w0 G0=>?_);unfold roundE;simp;refine ap (JO x.g) ?_;simp
 (refine Bz.split (fun h=>?_) (fun h=>?_)<;>(try simp only[decide_eq_true_eq,decide_eq_false_iff_not,Bool.not_eq_true',Bool.not_eq_false',beq_iff_eq,bne_iff_ne,beq_eq_false_iff_ne,bne_eq_false_iff_eq,Bool.not_not,Bool.and_eq_true,Bool.or_eq_true,Bool.and_eq_false_iff,Bool.or_eq_false_iff]at h))<;>simp[h]
 refine ap (JQ _ _) ?_;simp[h]
theorem CA(a:Gr):bJ a a=0:=by unfold bJ;rw[if_neg (by rw[pS];simp),cj _ _ (fun j _=>pS _)]
theorem Px{a b:Gr} (h:a.n=b.n) (hh:∀ j,j<5->a.hear j=b.hear j):a=b:=by
 obtain⟨n,h0,h1,h2,h3,h4⟩:=a;obtain⟨m,g0,g1,g2,g3,g4⟩:=b;have e0:=hh 0 (by omega);have e1:=hh 1 (by omega);have e2:=hh 2 (by omega);have e3:=hh 3 (by omega);have e4:=hh 4 (by omega);simp[Gr.hear]at e0 e1 e2 e3 e4;simp at h;simp[*]
theorem Fj{a b:Int} (h:cmpI a b=0):a=b:=by unfold cmpI at h;grind
theorem GR{a b:Gr} (h:bJ a b=0):a=b:=by
 unfold bJ at h;by_cases e:cmpI a.n b.n=0
 ·rw[if_neg (by simpa using e)]at h;exact Px (Fj e) (fun j hj=>Fj (bH h j hj))
 ·rw[if_pos e]at h;exact(e h).elim
theorem Ek(x y:Rd):FC Tryz.prog 188 [mJ x,mJ y] (iD (roundC x y)):=by
 refine an Tryz.func188 rfl rfl rfl Tryz.call188 [] [] rfl 1 (fun hb w0 G0=>?_);generalize hr:roundC x y=r;unfold roundC at hr;simp;refine Cy _ _ (decide (x=y)) rfl rfl (fun w=>eZ 9996 x y w) ?_;simp
 (refine Bz.split (fun h0=>?_) (fun h0=>?_)<;>(try simp only[decide_eq_true_eq,decide_eq_false_iff_not,Bool.not_eq_true',Bool.not_eq_false',beq_iff_eq,bne_iff_ne,beq_eq_false_iff_ne,bne_eq_false_iff_eq,Bool.not_not,Bool.and_eq_true,Bool.or_eq_true,Bool.and_eq_false_iff,Bool.or_eq_false_iff]at h0))<;>simp
 ·subst h0;rw[<-hr,CA,pS];simp
 refine sE _ _ (decide (x.g=y.g)) rfl rfl (fun w=>nj 9997 x.g y.g w) ?_;simp
 (refine Bz.split (fun h1=>?_) (fun h1=>?_)<;>(try simp only[decide_eq_true_eq,decide_eq_false_iff_not,Bool.not_eq_true',Bool.not_eq_false',beq_iff_eq,bne_iff_ne,beq_eq_false_iff_ne,bne_eq_false_iff_eq,Bool.not_not,Bool.and_eq_true,Bool.or_eq_true,Bool.and_eq_false_iff,Bool.or_eq_false_iff]at h1))<;>simp
 ·refine ap (Cz x.g y.g) ?_;simp;rw[<-hr,if_pos (fun e=>h1 (GR e))]
 ·refine ap (pQ _ _) ?_;simp;rw[<-hr,h1,CA];simp
abbrev R3(m:Mv):D:=.agg [iD m.r.g.n,iD m.r.g.h0,iD m.r.g.h1,iD m.r.g.h2,iD m.r.g.h3,iD m.r.g.h4,iD m.r.f,iD m.to]
def lL(a:Adv):List (List D):=(mc a.states).map fun x=>[iD x.1,R3 x.2]
theorem tR{a:Adv} {i:Nat} {ds:List D} (h:(lL a)[i]?=some ds):i<az a.states/\ds=[iD (mvAt a.states i).1,R3 (mvAt a.states i).2]:=by
 unfold lL at h;rw[List.getElem?_map]at h;cases e:(mc a.states)[i]? with
 | none=>rw[e]at h;cases h
 | some x=>
  rw[e]at h;have h1:=(List.getElem?_eq_some_iff.1 e).1;rw[eA]at h1;have:mvAt a.states i=x:=by simp[mvAt,e]
  rw[this];simpa[h1] using h.symm
theorem vK{a:Adv}:∀ ds∈lL a,ds.length=2:=fun ds h=>by
 obtain⟨i,hi,rfl⟩:=List.getElem_of_mem h;rw[(tR (List.getElem?_eq_getElem hi)).2];rfl
theorem sF(a:Adv):SQ Tryz.prog 244 [.fp 2 [[iD a.n,gQ a.states]] 0 0] (lL a):=by
 refine qN 4 (fun hb=>?_) Tryz.call244;simp at hb;obtain⟨bw,hb⟩:=hb;refine qJ Tryz.func244 rfl rfl rfl Tryz.call244 [] [] rfl (fun w0 G0 yl J hR=>vs ?_);have Dy:(lL a).length=az a.states:=by simp[lL,eA]
 rw[Dy];simp;refine dM [0,1,8,9] [] (fun k:Nat=>[(10,.d (iD k))]) (fun _=>[]) (fun k=>cB a.states k+1) (fun k=>a.states.length - k) (fun k=>k<=a.states.length) 0 (by omega) (by simp[lx]) (fun s hs=>?_);simp
 (refine Bz.split (fun h=>?_) (fun h=>?_)<;>(try simp only[decide_eq_true_eq,decide_eq_false_iff_not,Bool.not_eq_true',Bool.not_eq_false',beq_iff_eq,bne_iff_ne,beq_eq_false_iff_ne,bne_eq_false_iff_eq,Bool.not_not,Bool.and_eq_true,Bool.or_eq_true,Bool.and_eq_false_iff,Bool.or_eq_false_iff]at h))<;>simp[h]
 ·have fT:=hb a.states[s] (by simp);refine dM [0,1,3,8,9,10,15,16] [] (fun k:Nat=>[(17,.d (iD k))]) (fun _=>[]) (fun k=>cB a.states s+k+1) (fun k=>a.states[s].length - k) (fun k=>k<=a.states[s].length) 0 (by omega) (by simp) (fun j hj=>?_);simp
  (refine Bz.split (fun h1=>?_) (fun h1=>?_)<;>(try simp only[decide_eq_true_eq,decide_eq_false_iff_not,Bool.not_eq_true',Bool.not_eq_false',beq_iff_eq,bne_iff_ne,beq_eq_false_iff_ne,bne_eq_false_iff_eq,Bool.not_not,Bool.and_eq_true,Bool.or_eq_true,Bool.and_eq_false_iff,Bool.or_eq_false_iff]at h1))<;>simp[h1]
  ·refine zs (cB a.states s+j) hR (by simp[lL,y7 _ _ _ h h1]) rfl ?_ ?_
   ·simp;exact vg (ar.of (j+1) [] (by simp;omega))
   ·simp
  ·have e:j=a.states[s].length:=by omega
   subst e;exact vg (ar.of (s+1) [] (by simp[fX _ _ h]))
 ·rw[ly _ _ (by omega)]
theorem vL(a:Adv):FC Tryz.prog 183 [gR a] (.fn (.func 244) [] [.fp 2 [[iD a.n,gQ a.states]] 0 0]):=by
 refine an Tryz.func183 rfl rfl rfl Tryz.call183 [] [] rfl 1 (fun hb w0 G0=>?_);simp
theorem MH(a:Adv) (hm:az a.states<=1099511627776):FC Tryz.prog 181 [gR a] (iD (if a.states.length<1\/256<a.states.length\/4096<az a.states then 5 else 0)):=by
 refine an Tryz.func181 rfl rfl rfl Tryz.call181 [] [4] rfl 1 (fun hb w0 G0=>?_);have Dy:(lL a).length=az a.states:=by simp[lL,eA]
 generalize hr:(if a.states.length<1\/256<a.states.length\/4096<az a.states then(5:Int) else 0)=r;simp;refine ap (vL a) ?_;simp;refine dX (sF a) [1] [] (fun i=>[(3,.ptr 0 0 0)]) (fun i=>[(0,some (.box 3 [.d (iD i)]))]) (fun _=>True) trivial rfl vK (.inl rfl) (by simp) (fun i ds hi _ l r r' J' pr' fr' _=>?_) (fun _=>?_)
 ·obtain⟨hi,rfl⟩:=tR hi;simp;exact vg ⟨[0],by simp⟩
 ·rw[Dy];simp;refine bj [] [] (fun b:Bool=>[(23,.d (bD b))]) (fun _=>[]) (fun b=>b=decide ((a.states.length:Int)<1\/256<(a.states.length:Int)\/4096<(az a.states:Int))) ?_ (fun b be=>?_)
  ·simp
   repeat' (first|(exact Mt.is (by first|(simp[-Bool.decide_or,-Bool.decide_and];done)|(simp[-Bool.decide_or,-Bool.decide_and];omega)|(simp_all;done)|(simp_all;omega)|(simp;grind)))|((refine Bz.split (fun a=>?_) (fun a=>?_)<;>(try simp only[decide_eq_true_eq,decide_eq_false_iff_not,Bool.not_eq_true',Bool.not_eq_false',beq_iff_eq,bne_iff_ne,beq_eq_false_iff_ne,bne_eq_false_iff_eq,Bool.not_not,Bool.and_eq_true,Bool.or_eq_true,Bool.and_eq_false_iff,Bool.or_eq_false_iff]at a))<;>simp[a]))
  cases b<;>simp at be ⊢
  ·rw[<-hr,if_neg (by omega)]
  ·rw[<-hr,if_pos (by omega)]
theorem MI(a:Adv) (l:List Mv):FC Tryz.prog 182 [gR a,kV l] (iD (stateE a l)):=by
 refine an Tryz.func182 rfl rfl rfl Tryz.call182 [] [11,13] rfl 3 (fun hb w0 G0=>?_);simp at hb;obtain⟨⟨fT,-⟩,gh⟩:=hb;generalize hr:stateE a l=r;unfold stateE at hr;simp
 (refine Bz.split (fun h0=>?_) (fun h0=>?_)<;>(try simp only[decide_eq_true_eq,decide_eq_false_iff_not,Bool.not_eq_true',Bool.not_eq_false',beq_iff_eq,bne_iff_ne,beq_eq_false_iff_ne,bne_eq_false_iff_eq,Bool.not_not,Bool.and_eq_true,Bool.or_eq_true,Bool.and_eq_false_iff,Bool.or_eq_false_iff]at h0))
 ·simp;rw[<-hr,if_pos (by omega)]
 rw[if_neg (by omega)]at hr;simp;refine am [1,2,11,12] [] (fun k:Nat=>[(13,.d (iD k))]) (fun _=>[]) (fun k=>l.length - k) (fun k=>k<=l.length/\ay k (cr a l)=0) 0 ⟨by omega,rfl⟩ (by simp) (fun k hk=>?_);obtain⟨hk,hj⟩:=hk;simp
 (refine Bz.split (fun h=>?_) (fun h=>?_)<;>(try simp only[decide_eq_true_eq,decide_eq_false_iff_not,Bool.not_eq_true',Bool.not_eq_false',beq_iff_eq,bne_iff_ne,beq_eq_false_iff_ne,bne_eq_false_iff_eq,Bool.not_not,Bool.and_eq_true,Bool.or_eq_true,Bool.and_eq_false_iff,Bool.or_eq_false_iff]at h))<;>simp[h]
 ·have ek:cr a l k=if roundE l[k].r≠0 then roundE l[k].r else if l[k].r.g.n≠a.n then 22 else if 0<k/\0<=roundC (l.getD (k - 1) default).r l[k].r then 14 else if l[k].to<0\/(a.states.length:Int)<=l[k].to then 2 else 0:=by simp[cr,h]
  generalize hm:l[k]=m at ek ⊢;generalize ho:roundC (l.getD (k - 1) default).r m.r=o at ek;refine ap (zI m.r) ?_;simp
  (refine Bz.split (fun h1=>?_) (fun h1=>?_)<;>(try simp only[decide_eq_true_eq,decide_eq_false_iff_not,Bool.not_eq_true',Bool.not_eq_false',beq_iff_eq,bne_iff_ne,beq_eq_false_iff_ne,bne_eq_false_iff_eq,Bool.not_not,Bool.and_eq_true,Bool.or_eq_true,Bool.and_eq_false_iff,Bool.or_eq_false_iff]at h1))<;>simp[h1]
  ·rw[if_pos h1]at ek;rw[<-hr,aF h hj (by rw[ek];exact h1),ek]
  rw[if_neg (by simpa using h1)]at ek
  (refine Bz.split (fun h2=>?_) (fun h2=>?_)<;>(try simp only[decide_eq_true_eq,decide_eq_false_iff_not,Bool.not_eq_true',Bool.not_eq_false',beq_iff_eq,bne_iff_ne,beq_eq_false_iff_ne,bne_eq_false_iff_eq,Bool.not_not,Bool.and_eq_true,Bool.or_eq_true,Bool.and_eq_false_iff,Bool.or_eq_false_iff]at h2))<;>simp
  ·rw[if_pos h2]at ek;rw[<-hr,aF h hj (by rw[ek];decide),ek]
  rw[if_neg (by simpa using h2)]at ek;refine bj [1,2,6,11,12,13] [0] (fun b:Bool=>[(32,.d (bD b))]) (fun _=>[]) (fun b=>b=decide (0<k/\0<=o)) ?_ (fun b be=>?_)
  ·simp;refine aO 15 ?_;simp
   (refine Bz.split (fun h3=>?_) (fun h3=>?_)<;>(try simp only[decide_eq_true_eq,decide_eq_false_iff_not,Bool.not_eq_true',Bool.not_eq_false',beq_iff_eq,bne_iff_ne,beq_eq_false_iff_ne,bne_eq_false_iff_eq,Bool.not_not,Bool.and_eq_true,Bool.or_eq_true,Bool.and_eq_false_iff,Bool.or_eq_false_iff]at h3))<;>simp[h3]
   ·have e:((k:Int) - 1).toNat=k - 1:=by omega
    have gi:k - 1<l.length:=by omega
    refine vg (vg ?_);simp[e,gi];refine bL (Ek l[k - 1].r m.r) ?_;simp;exact Mt.of _ (by simp[h3,gi,<-ho]) rfl
   ·exact Mt.of _ (by simp[h3]) rfl
  cases b<;>simp at be ⊢
  rotate_left
  ·rw[if_pos (by omega)]at ek;rw[<-hr,aF h hj (by rw[ek];decide),ek]
  rw[if_neg (by omega)]at ek;refine bj [1,2,11,12,13] [] (fun b:Bool=>[(47,.d (bD b))]) (fun _=>[]) (fun b=>b=decide (m.to<0\/(a.states.length:Int)<=m.to)) ?_ (fun b be=>?_)
  ·simp
   repeat' (first|(exact Mt.is (by first|(simp[-Bool.decide_or,-Bool.decide_and];done)|(simp[-Bool.decide_or,-Bool.decide_and];omega)|(simp_all;done)|(simp_all;omega)|(simp;grind)))|((refine Bz.split (fun a=>?_) (fun a=>?_)<;>(try simp only[decide_eq_true_eq,decide_eq_false_iff_not,Bool.not_eq_true',Bool.not_eq_false',beq_iff_eq,bne_iff_ne,beq_eq_false_iff_ne,bne_eq_false_iff_eq,Bool.not_not,Bool.and_eq_true,Bool.or_eq_true,Bool.and_eq_false_iff,Bool.or_eq_false_iff]at a))<;>simp[a]))
  cases b<;>simp at be ⊢
  ·exact vg (ar.of (k+1) [] (by simp) ⟨⟨h,aY hj (by rw[ek,if_neg (by omega)])⟩,by omega⟩)
  ·rw[if_pos (by omega)]at ek;rw[<-hr,aF h hj (by rw[ek];decide),ek]
 ·have e:k=l.length:=by omega
  subst e;rw[<-hr,hj]
theorem uB(a:Adv) (hm:az a.states<=1099511627776):FC Tryz.prog 103 [gR a] (iD (advE a)):=by
 refine an Tryz.func103 rfl rfl rfl Tryz.call103 [] [1] rfl 4 (fun hb w0 G0=>?_);simp at hb;obtain⟨bw,hb⟩:=hb;have Dy:(lL a).length=az a.states:=by simp[lL,eA]
 generalize hr:advE a=r;unfold advE at hr;simp;refine bj [1,2] [0] (fun b:Bool=>[(18,.d (bD b))]) (fun _=>[]) (fun b=>b=decide (a.n<1\/5<a.n)) ?_ (fun b be=>?_)
 ·simp
  repeat' (first|(exact Mt.is (by first|(simp[-Bool.decide_or,-Bool.decide_and];done)|(simp[-Bool.decide_or,-Bool.decide_and];omega)|(simp_all;done)|(simp_all;omega)|(simp;grind)))|((refine Bz.split (fun a=>?_) (fun a=>?_)<;>(try simp only[decide_eq_true_eq,decide_eq_false_iff_not,Bool.not_eq_true',Bool.not_eq_false',beq_iff_eq,bne_iff_ne,beq_eq_false_iff_ne,bne_eq_false_iff_eq,Bool.not_not,Bool.and_eq_true,Bool.or_eq_true,Bool.and_eq_false_iff,Bool.or_eq_false_iff]at a))<;>simp[a]))
 cases b<;>simp at be ⊢
 rotate_left
 ·rw[<-hr,if_pos (by omega)]
 rw[if_neg (by omega)]at hr;refine ap (MH a hm) ?_;generalize hz:(if a.states.length<1\/256<a.states.length\/4096<az a.states then(5:Int) else 0)=z;simp
 (refine Bz.split (fun h1=>?_) (fun h1=>?_)<;>(try simp only[decide_eq_true_eq,decide_eq_false_iff_not,Bool.not_eq_true',Bool.not_eq_false',beq_iff_eq,bne_iff_ne,beq_eq_false_iff_ne,bne_eq_false_iff_eq,Bool.not_not,Bool.and_eq_true,Bool.or_eq_true,Bool.and_eq_false_iff,Bool.or_eq_false_iff]at h1))<;>simp
 ·by_cases e:a.states.length<1\/256<a.states.length\/4096<az a.states
  ·rw[if_pos e]at hz hr;rw[<-hr,<-hz]
  ·rw[if_neg e]at hz;exact(h1 hz.symm).elim
 have e:¬ (a.states.length<1\/256<a.states.length\/4096<az a.states):=fun e=>by rw[if_pos e,h1]at hz;cases hz
 rw[if_neg e]at hr;refine am [1,2,25,26] [0] (fun k:Nat=>[(27,.d (iD k))]) (fun _=>[]) (fun k=>a.states.length - k) (fun k=>k<=a.states.length/\ay k (fun s=>stateE a (a.states.getD s []))=0) 0 ⟨by omega,rfl⟩ (by simp) (fun s hs=>?_);obtain⟨hs,hj⟩:=hs;simp
 (refine Bz.split (fun h=>?_) (fun h=>?_)<;>(try simp only[decide_eq_true_eq,decide_eq_false_iff_not,Bool.not_eq_true',Bool.not_eq_false',beq_iff_eq,bne_iff_ne,beq_eq_false_iff_ne,bne_eq_false_iff_eq,Bool.not_not,Bool.and_eq_true,Bool.or_eq_true,Bool.and_eq_false_iff,Bool.or_eq_false_iff]at h))<;>simp[h]
 ·refine ap (MI a _) ?_;have ek:stateE a (a.states.getD s [])=stateE a a.states[s]:=by simp[h]
  simp
  (refine Bz.split (fun h3=>?_) (fun h3=>?_)<;>(try simp only[decide_eq_true_eq,decide_eq_false_iff_not,Bool.not_eq_true',Bool.not_eq_false',beq_iff_eq,bne_iff_ne,beq_eq_false_iff_ne,bne_eq_false_iff_eq,Bool.not_not,Bool.and_eq_true,Bool.or_eq_true,Bool.and_eq_false_iff,Bool.or_eq_false_iff]at h3))<;>simp[h3]
  ·have e4:=aF (f:=fun s=>stateE a (a.states.getD s [])) h hj (by rw[ek];exact h3);rw[<-hr,if_pos (by rw[e4,ek];exact h3),e4,ek]
  ·exact vg (ar.of (s+1) [0] (by simp) ⟨⟨h,aY hj (by show stateE a (a.states.getD s [])=0;rw[ek];simpa using h3)⟩,by omega⟩)
 have e:s=a.states.length:=by omega
 subst e;rw[if_neg (by simpa using hj)]at hr;have bO:=bH hj;refine ap (vL a) ?_;simp;refine dX (sF a) [1,2] [0] (fun _=>[]) (fun _=>[]) (fun i=>anyLt i (kI a)=false) rfl rfl vK (.inl rfl) (by simp) (fun i ds hi lj l r r' J' pr' fr' _=>?_) (fun mK=>?_)
 ·obtain⟨fR,rfl⟩:=tR hi;clear hi;have ho:=ye bO fR;have jh:kI a i=anyLt (a.states.getD (mvAt a.states i).2.to.toNat []).length fun k=>!bF (mvAt a.states i).2.r.f ((a.states.getD (mvAt a.states i).2.to.toNat []).getD k default).r.f:=rfl
  generalize (mvAt a.states i).2=m at ho jh ⊢;have ht:m.to.toNat<a.states.length:=by omega
  have rB:=hb a.states[m.to.toNat] (by simp);have cJ:=fun k (hk:k<a.states[m.to.toNat].length)=>fB bO ht hk
  rw[show a.states.getD m.to.toNat []=a.states[m.to.toNat] by simp[ht]]at jh;simp[ht]
  repeat refine vg ?_
  refine am [2,8,47,48,63,64] [0,1] (fun k:Nat=>[(49,.d (iD k))]) (fun _=>[]) (fun k=>a.states[m.to.toNat].length - k) (fun k=>k<=a.states[m.to.toNat].length/\anyLt k (fun k=>!bF m.r.f (a.states[m.to.toNat].getD k default).r.f)=false) 0 ⟨by omega,rfl⟩ (by simp) (fun k hk=>?_);obtain⟨ot,hk⟩:=hk;simp
  (refine Bz.split (fun h2=>?_) (fun h2=>?_)<;>(try simp only[decide_eq_true_eq,decide_eq_false_iff_not,Bool.not_eq_true',Bool.not_eq_false',beq_iff_eq,bne_iff_ne,beq_eq_false_iff_ne,bne_eq_false_iff_eq,Bool.not_not,Bool.and_eq_true,Bool.or_eq_true,Bool.and_eq_false_iff,Bool.or_eq_false_iff]at h2))<;>simp[h2]
  ·have Qz:=cJ k h2;rw[ic _ _ ho.1.1 ho.1.2 Qz.1.1 Qz.1.2]
   (refine Bz.split (fun h3=>?_) (fun h3=>?_)<;>(try simp only[decide_eq_true_eq,decide_eq_false_iff_not,Bool.not_eq_true',Bool.not_eq_false',beq_iff_eq,bne_iff_ne,beq_eq_false_iff_ne,bne_eq_false_iff_eq,Bool.not_not,Bool.and_eq_true,Bool.or_eq_true,Bool.and_eq_false_iff,Bool.or_eq_false_iff]at h3))<;>simp[h3]
   ·rw[<-hr,if_neg];unfold fh;rw[aD _ i _ fR (by rw[jh];exact aD _ k _ h2 (by simp[h2,h3]))];simp
   ·exact vg (ar.of (k+1) [0,1] (by simp) ⟨⟨h2,aR hk (by simp[h2,h3])⟩,by omega⟩)
  ·have e:k=a.states[m.to.toNat].length:=by omega
   subst e;exact⟨aR lj (by rw[jh];exact hk),[0],by simp⟩
 ·rw[Dy]at mK;simp;rw[<-hr,if_pos (by unfold fh;rw[mK];rfl)]
theorem m5(p:Pb) (hm:az p.a.states<=1099511627776):FC Tryz.prog 53 [eI p] (iD (bg p)):=by
 refine an Tryz.func53 rfl rfl rfl Tryz.call53 [] [] rfl 4 (fun hb w0 G0=>?_);generalize hr:bg p=r;unfold bg at hr;simp;refine ap (zH p.t) ?_;simp
 (refine Bz.split (fun h1=>?_) (fun h1=>?_)<;>(try simp only[decide_eq_true_eq,decide_eq_false_iff_not,Bool.not_eq_true',Bool.not_eq_false',beq_iff_eq,bne_iff_ne,beq_eq_false_iff_ne,bne_eq_false_iff_eq,Bool.not_not,Bool.and_eq_true,Bool.or_eq_true,Bool.and_eq_false_iff,Bool.or_eq_false_iff]at h1))<;>simp[h1]
 ·rw[<-hr,if_pos h1]
 rw[if_neg (by simpa using h1)]at hr;refine ap (uB p.a hm) ?_;simp
 (refine Bz.split (fun h2=>?_) (fun h2=>?_)<;>(try simp only[decide_eq_true_eq,decide_eq_false_iff_not,Bool.not_eq_true',Bool.not_eq_false',beq_iff_eq,bne_iff_ne,beq_eq_false_iff_ne,bne_eq_false_iff_eq,Bool.not_not,Bool.and_eq_true,Bool.or_eq_true,Bool.and_eq_false_iff,Bool.or_eq_false_iff]at h2))<;>simp[h2]
 ·rw[<-hr,if_pos h2]
 rw[if_neg (by simpa using h2)]at hr
 (refine Bz.split (fun h3=>?_) (fun h3=>?_)<;>(try simp only[decide_eq_true_eq,decide_eq_false_iff_not,Bool.not_eq_true',Bool.not_eq_false',beq_iff_eq,bne_iff_ne,beq_eq_false_iff_ne,bne_eq_false_iff_eq,Bool.not_not,Bool.and_eq_true,Bool.or_eq_true,Bool.and_eq_false_iff,Bool.or_eq_false_iff]at h3))<;>simp
 ·rw[<-hr,if_pos h3]
 rw[if_neg (by simpa using h3)]at hr
 (refine Bz.split (fun h4=>?_) (fun h4=>?_)<;>(try simp only[decide_eq_true_eq,decide_eq_false_iff_not,Bool.not_eq_true',Bool.not_eq_false',beq_iff_eq,bne_iff_ne,beq_eq_false_iff_ne,bne_eq_false_iff_eq,Bool.not_not,Bool.and_eq_true,Bool.or_eq_true,Bool.and_eq_false_iff,Bool.or_eq_false_iff]at h4))<;>simp[h4]
 ·(refine Bz.split (fun h5=>?_) (fun h5=>?_)<;>(try simp only[decide_eq_true_eq,decide_eq_false_iff_not,Bool.not_eq_true',Bool.not_eq_false',beq_iff_eq,bne_iff_ne,beq_eq_false_iff_ne,bne_eq_false_iff_eq,Bool.not_not,Bool.and_eq_true,Bool.or_eq_true,Bool.and_eq_false_iff,Bool.or_eq_false_iff]at h5))<;>simp[h5]
  ·rw[<-hr,if_pos (by omega)]
  ·rw[<-hr,if_neg (by omega)]
 ·rw[<-hr,if_pos (by omega)]
end Go.Proofs.YtiocdkdkndpgkaaGreat
namespace Go.Proofs.YtiocdkdkndpgkaaGreat
open Go.RowKit Go Go.Shelf
attribute [local go_sem] Oper.semAt_some
theorem MJ(w:World) (g:Nat) (l:List UInt8) (t:TypeId) (h:w.heap[g]?=some (.cells (l.map dp).toArray t)):(convert 324 9 (.slice (some ⟨g,0,none⟩) l.length l.length)).run Tryz.prog w=.ok (.string (bytesOf l)) w:=
 run_convert_bytes_back w _ _ 5 ⟨g,0,none⟩ l.length l Tryz.underlying324 Tryz.underlying5 Tryz.underlying9 (fun j hj=>by
  have e1:(Addr.add ⟨g,0,none⟩ j)=⟨g,j,none⟩:=by unfold Addr.add;split<;>simp_all
  rw[e1,ae h]
  simp[hj])
theorem El(k p q sym:Nat) (hk:k<256) (hp:p<256) (hq:q<256) (hs:sym<1099511627776) (w:World) :
  Calls Tryz.prog 157 #[.agg #[.int .i64 (k:Int),.int .i64 (p:Int),.int .i64 (q:Int)],.int .i64 (sym:Int)] w fun e w'=>e=.returned (.string (bytesOf (vl k p q sym)))/\Below w.heap.size w w':=by
 have HM:bc (vl k p q sym=tD ([UInt8.ofNat k,UInt8.ofNat p,UInt8.ofNat q]++iV sym)):=by exact rfl
 have e1:=fZ k hk;have e2:=fZ p hp;have e3:=fZ q hq;have DC:=r9 k hk;have xN:=r9 p hp;have Rk:=r9 q hq;generalize UInt8.ofNat k=bk at e1 HM;generalize UInt8.ofNat p=bp at e2 HM;generalize UInt8.ofNat q=bq at e3 HM
 have Ia:(convert 324 9 (.slice (some ⟨w.heap.size+1,0,none⟩) 3 3)).run Tryz.prog ((w.alloc (.cells #[.int .i64 (k:Int),.int .i64 (p:Int),.int .i64 (q:Int)] 249)).alloc (.cells #[.int .u8 (k:Int),.int .u8 (p:Int),.int .u8 (q:Int)] 5))=.ok (.string (bytesOf [bk,bp,bq])) ((w.alloc (.cells #[.int .i64 (k:Int),.int .i64 (p:Int),.int .i64 (q:Int)] 249)).alloc (.cells #[.int .u8 (k:Int),.int .u8 (p:Int),.int .u8 (q:Int)] 5)):=by
  refine MJ _ (w.heap.size+1) [bk,bp,bq] 5 ?_;have:([bk,bp,bq].map dp).toArray=#[.int .u8 (k:Int),.int .u8 (p:Int),.int .u8 (q:Int)]:=by rw[<-e1,<-e2,<-e3];rfl
  rw[this];exact eM _ _ _
 have g1:=enters_of Tryz.func267 (P:=Tryz.prog) (by kernel_rfl) rfl;have g2:=enters_of Tryz.func268 (P:=Tryz.prog) (by kernel_rfl) rfl;clear e1 e2 e3
 go_enter Tryz.func157,Tryz.ntmps157
 go_wp2_with fail
 clear Ia DC xN Rk;refine dB (fun W=>Below w.heap.size w W) (by go_grown) (fun W0 bw=>?_);refine(Gj (bytesOf [bk,bp,bq]) (by show (#[bk,bp,bq]:Array UInt8).size<=_;simp) W0).mono ?_;rintro e w1 ⟨B,u,rfl,hB,hu,hbB,aK⟩;have Fu:aJ w1 W0.heap.size 5 1 u [bk,bp,bq].length ([bk,bp,bq].map dp):=hu;have HB:=ab hB;have HU:=ab Fu;clear hB hu Fu;have vW:=ak bw aK;have gg:=aK.size
 go_wp2_with fail
 refine dB (fun V=>Below w1.heap.size w1 V/\V.heap[w1.heap.size]?=some (.cells #[.int .i64 (sym:Int)] 3)) ⟨by go_grown,aA _ _⟩ (fun V hV=>?_);obtain⟨nZ,hL⟩:=hV;refine(D4 sym hs w1.heap.size B W0.heap.size u [bk,bp,bq] (by simp) V hL (aq nZ HB.o) (HU.o.up nZ) hbB (by have:=nZ.size;omega)).mono ?_;rintro e w2 ⟨⟨x,rfl⟩,u',K6,uT,bo⟩;have HU2:=ab uT;have hbw2:Below W0.heap.size W0 w2:=(aK.trans (nZ.mono gg)).trans bo;obtain⟨au,cu,rfl⟩:=uT.slice;have xN:=D3 B _ w2 ⟨_,_,_,rfl⟩ K6;have HW2:=ab xN;clear xN uT K6 hL
 go_wp2_with fail
 refine HW2.o.mono ?_;rintro e w3 ⟨rfl,rfl⟩
 go_wp2_with fail
 refine(Gt _ _ W0.heap.size w2 HU2.o (by simp) (by have:=vx sym (by omega);simp;omega) hbw2.size).mono ?_;rintro e w4 ⟨rfl,mq⟩
 go_wp2_with fail
 go_ret
 exact⟨by rw[HM.o];rfl,ak bw (hbw2.trans mq)⟩
theorem GS(k p q sym:Nat) (hk:k<256) (hp:p<256) (hq:q<256) (hs:sym<1099511627776):FC Tryz.prog 157 [.agg [iD k,iD p,iD q],iD sym] (.v (.string (bytesOf (vl k p q sym)))):=by
 refine⟨Tryz.call157,fun G us w hG hz hu=>?_⟩;have h0:=hu 0 _ rfl;have h1:=(hu 1 _ rfl).val;have e0:us[0]?.getD undef=.agg #[.int .i64 k,.int .i64 p,.int .i64 q]:=jr (σ:=fun _=>none) (.d h0) rfl;have hz:us.size=2:=hz
 have e:us=#[.agg #[.int .i64 k,.int .i64 p,.int .i64 q],.int .i64 sym]:=by
  apply Array.ext
  ·simpa using hz
  ·intro i h3 h4
   match i,h4 with
   | 0,_=>simpa[h3] using e0
   | 1,_=>simpa[h3] using h1
 subst e;refine(El k p q sym hk hp hq hs w).mono ?_;rintro e w' ⟨rfl,hb⟩;exact⟨_,G,rfl,hb,Grow.same hG hb,.v _⟩
theorem vM{W:World} {b c:Nat} {x y:Array Value} {t u:TypeId} {f g:Nat × Nat} (h1:W.heap[b]?=some (.cells x t f)) (h2:W.heap[c]?=some (.cells y u g)) (aV:t≠u):b≠c:=by
 rintro rfl;rw[h1]at h2;cases h2;exact aV rfl
theorem jw{W W':World} {row:Option Nat} (hg:W.grownBy W' row) {k:Nat} {o:Obj} (hk:W.heap[k]?=some o) (hn:row≠some k):W'.heap[k]?=some o:=(hg.block k (aw hk) (fun e=>hn e.symm)).trans hk
theorem Em{w:World} {base:Nat} {e:TypeId} {k:Nat} {v:Value} {n:Nat} {xs:List Value} (h:aJ w base e k v n xs):v.oneCell'=true:=by
 obtain⟨a,c,rfl⟩:=h.slice;rfl
abbrev xk(Br Bo Ba Bf:Nat):Value:=.func (.func 140) #[] #[.pointer (some ⟨Br,0,none⟩),.pointer (some ⟨Bo,0,none⟩),.pointer (some ⟨Ba,0,none⟩),.pointer (some ⟨Bf,0,none⟩)]
structure WEnv (a:Adv) (v:Value) (k:Nat) (w:World) (Br Bo Ba Bf wb:Nat) (L:List (List Rd)) (word:List Rd) (W:World):Prop where
 old:Below w.heap.size w W
 lo:w.heap.size<=Bo
 r:W.heap[Br]?=some (.cells #[.int .i64 k] 3)
 a:W.heap[Ba]?=some (.cells #[.int .i64 a.n,v] 27)
 f:W.heap[Bf]?=some (.cells #[xk Br Bo Ba Bf] 230)
 o:∃ vo xs,W.heap[Bo]?=some (.cells #[vo] 162)/\aJ W w.heap.size 39 1 vo L.length xs/\∀ i (hi:i<L.length),∃ x,xs[i]?=some x/\aJ W (wb+1) 109 7 x L[i].length (aL L[i])
 b:aJ W w.heap.size 109 7 (.slice (some ⟨wb,0,none⟩) word.length k) word.length (aL word)
section
variable {a : Adv} {v : Value} {k : Nat} {w : World} {Br Bo Ba Bf wb : Nat} {L : List (List Rd)} {word : List Rd} {W W' : World}
theorem WEnv.up(h:WEnv a v k w Br Bo Ba Bf wb L word W) (hb:Below W.heap.size W W'):WEnv a v k w Br Bo Ba Bf wb L word W':=by
 refine⟨ak h.old hb,h.lo,aq hb h.r,aq hb h.a,aq hb h.f,?_,h.b.up hb⟩;obtain⟨vo,xs,h1,h2,h3⟩:=h.o;exact⟨vo,xs,aq hb h1,h2.up hb,fun i hi=>by obtain⟨x,q1,q2⟩:=h3 i hi;exact⟨x,q1,q2.up hb⟩⟩
theorem WEnv.wb_at(h:WEnv a v k w Br Bo Ba Bf wb L word W):∃ cur fz,W.heap[wb]?=some (.cells cur 109 fz)/\w.heap.size<=wb:=by
 obtain⟨_,h⟩:=h.b;rcases h with ⟨h,_⟩|⟨g,cap,cur,fz,h,DJ,hg,_⟩
 ·cases h
 ·cases h;exact⟨cur,fz,hg,DJ⟩
theorem WEnv.grow_word(h:WEnv a v k w Br Bo Ba Bf wb L word W) (hg:W.grownBy W' (some wb)) {word':List Rd} (hb:aJ W' w.heap.size 109 7 (.slice (some ⟨wb,0,none⟩) word'.length k) word'.length (aL word')):WEnv a v k w Br Bo Ba Bf wb L word' W':=by
 obtain⟨cur,fz,Dz,hlo⟩:=h.wb_at;have kp:∀ {k:Nat} {x:Array Value} {t:TypeId} {f:Nat × Nat},W.heap[k]?=some (.cells x t f)->t≠109->W'.heap[k]?=some (.cells x t f):=fun hk aV=>jw hg hk (fun e=>vM hk Dz aV (kj e).symm)
 refine⟨Below.grown h.old hg h.old.size (fun g e=>by cases e;exact hlo),h.lo,kp h.r (by decide),kp h.a (by decide),kp h.f (by decide),?_,hb⟩;obtain⟨vo,xs,h1,h2,h3⟩:=h.o;refine⟨vo,xs,kp h1 (by decide),h2.keepT fun g o e1 e2=>jw hg e2 (fun e=>h2.ne Dz (by decide) g e1 (kj e).symm),fun i hi=>?_⟩;obtain⟨x,q1,q2⟩:=h3 i hi;exact⟨x,q1,q2.keepT fun g o e1 e2=>jw hg e2 (fun e=>by have h4:=(q2.lt g e1).1;have h5:=kj e;omega)⟩
theorem WEnv.shrink{r:Rd} (h:WEnv a v k w Br Bo Ba Bf wb L (word++[r]) W):WEnv a v k w Br Bo Ba Bf wb L word W:=by
 refine⟨h.old,h.lo,h.r,h.a,h.f,h.o,?_⟩;have hb:=h.b;rw[List.length_append,List.length_singleton,sd]at hb;exact hb.shrink (gF word)
theorem WEnv.put{vo x v':Value} {xs:List Value} {w2:World} (h:WEnv a v k w Br Bo Ba Bf wb L word W) (h1:W.heap[Bo]?=some (.cells #[vo] 162)) (h2:aJ W w.heap.size 39 1 vo L.length xs) (h3:∀ i (hi:i<L.length),∃ x,xs[i]?=some x/\aJ W (wb+1) 109 7 x L[i].length (aL L[i]))
  {l:List Rd} (hx:aJ W (wb+1) 109 7 x l.length (aL l)) (hg:W.grownBy w2 vo.ownBlock) (ho:aJ w2 w.heap.size 39 1 v' (L.length+1) (xs++[x])):WEnv a v k w Br Bo Ba Bf wb (L++[l]) word (w2.setCell ⟨Bo,0,none⟩ v'):=by
 have kp:∀ {k:Nat} {x:Array Value} {t:TypeId} {f:Nat × Nat},W.heap[k]?=some (.cells x t f)->t≠39->w2.heap[k]?=some (.cells x t f):=fun hk aV=>jw hg hk (fun e=>h2.ne hk (fun e=>aV e.symm) _ e rfl)
 have Ab:=kp h1 (by decide);have kp2:∀ {k:Nat} {x:Array Value} {t:TypeId} {f:Nat × Nat},W.heap[k]?=some (.cells x t f)->t≠39->t≠162->(w2.setCell ⟨Bo,0,none⟩ v').heap[k]?=some (.cells x t f):=fun hk aV sS=>bh (kp hk aV) (vM hk h1 sS) _ _
 have ko:∀ {x:Value} {l:List Rd} {b:Nat},aJ W b 109 7 x l.length (aL l)->aJ (w2.setCell ⟨Bo,0,none⟩ v') b 109 7 x l.length (aL l):=fun hq=>(hq.apart h2 (by decide) hg).put (fun g e=>(hq.apart h2 (by decide) hg).ne Ab (by decide) g e) _ _
 have bo:Below w.heap.size w w2:=Below.grown h.old hg h.old.size (fun g e=>(h2.lt g e).1);refine⟨bo.setCell h.lo _,h.lo,kp2 h.r (by decide) (by decide),kp2 h.a (by decide) (by decide),kp2 h.f (by decide) (by decide),⟨v',xs++[x],by rw[bn Ab];rfl,?_,fun i hi=>?_⟩,?_⟩
 ·rw[List.length_append,List.length_singleton];exact ho.put (fun g e=>ho.ne Ab (by decide) g e) _ _
 ·have hl:xs.length=L.length:=by have:=h2.1;omega
  rw[List.length_append,List.length_singleton]at hi;by_cases aG:i<L.length
  ·obtain⟨y,q1,q2⟩:=h3 i aG;refine⟨y,by rw[List.getElem?_append_left (by omega)];exact q1,?_⟩;rw[List.getElem_append_left aG];exact ko q2
  ·obtain rfl:i=L.length:=by omega
   refine⟨x,by rw[<-hl,List.getElem?_append_right (Nat.le_refl _)];simp,?_⟩;have e:(L++[l])[L.length]'(by simp)=l:=by simp
   rw[e];exact ko hx
 ·have hq:=h.b;exact ko (l:=word) hq
end
def gp(a:Adv) (d:Nat) (word:List Rd) (l:List Mv):List (List Rd):=l.flatMap fun m=>(bN a d m.to.toNat).map fun y=>word++(m.r :: y)
theorem zJ(a:Adv) (d s:Nat) (word:List Rd):(bN a (d+1) s).map (word++·)=gp a d word (a.states.getD s []):=by
 simp only[bN,gp,List.map_flatMap,List.map_map];rfl
theorem GT(a:Adv) (d:Nat) (word:List Rd) (l:List Mv) (j:Nat) (h:j<l.length):gp a d word (l.take (j+1))=gp a d word (l.take j)++(bN a d l[j].to.toNat).map ((word++[l[j].r])++·):=by
 unfold gp;rw[List.take_succ_eq_append_getElem h,List.flatMap_append];simp
theorem MK(a:Adv) (d:Nat) (word:List Rd) (l:List Mv) (j:Nat):(gp a d word (l.take j)).length<=(gp a d word l).length:=by
 conv=>rhs;rw[<-List.take_append_drop j l]
 unfold gp;rw[List.flatMap_append,List.length_append];omega
structure WCore (a:Adv) (v:Value) (k:Nat) (w:World) (Br Bo Ba Bf wb B9:Nat) (L:List (List Rd)) (word:List Rd) (m:Mv) (D:Nat->Bool) (x:Nat->Value) (W:World):Prop where
 env:WEnv a v k w Br Bo Ba Bf wb L (bif D 7 then word++[m.r] else word) W
 box:W.heap[B9]?=some (.cells #[.int .i64 m.r.g.n,.int .i64 m.r.g.h0,.int .i64 m.r.g.h1,.int .i64 m.r.g.h2,.int .i64 m.r.g.h3,.int .i64 m.r.g.h4,.int .i64 m.r.f,.int .i64 m.to] 188)
 sb:D 6=true->D 7=false->∃ g,x 6=.slice (some ⟨g,0,none⟩) 1 1/\W.heap[g]?=some (.cells #[.int .i64 m.r.g.n,.int .i64 m.r.g.h0,.int .i64 m.r.g.h1,.int .i64 m.r.g.h2,.int .i64 m.r.g.h3,.int .i64 m.r.g.h4,.int .i64 m.r.f] 109)
section
variable {a : Adv} {v : Value} {k : Nat} {w : World} {Br Bo Ba Bf wb B9 : Nat} {L : List (List Rd)} {word : List Rd} {m : Mv} {D : Nat → Bool} {x : Nat → Value} {W : World}
theorem WCore.other(h:WCore a v k w Br Bo Ba Bf wb B9 L word m D x W) {i:Nat} (u:Value) (h6:6≠i) (h7:7≠i):WCore a v k w Br Bo Ba Bf wb B9 L word m (aZ D i) (gt x i u) W:=by
 refine⟨?_,h.box,?_⟩
 ·simpa only[aZ,if_neg h7] using h.env
 ·simpa only[aZ,gt,if_neg h6,if_neg h7] using h.sb
theorem WCore.build(h:WCore a v k w Br Bo Ba Bf wb B9 L word m D x W):WCore a v k w Br Bo Ba Bf wb B9 L word m (aZ D 6) (gt x 6 (.slice (some ⟨W.heap.size,0,none⟩) 1 1)) (W.alloc (.cells #[.int .i64 m.r.g.n,.int .i64 m.r.g.h0,.int .i64 m.r.g.h1,.int .i64 m.r.g.h2,.int .i64 m.r.g.h3,.int .i64 m.r.g.h4,.int .i64 m.r.f] 109)):=by
 refine⟨?_,aH _ h.box,fun _ _=>⟨W.heap.size,by simp[gt],aA _ _⟩⟩;have:=h.env.up (W':=W.alloc (.cells #[.int .i64 m.r.g.n,.int .i64 m.r.g.h0,.int .i64 m.r.g.h1,.int .i64 m.r.g.h2,.int .i64 m.r.g.h3,.int .i64 m.r.g.h4,.int .i64 m.r.f] 109)) (by go_grown);simpa only[aZ,if_neg (show (7:Nat)≠6 by decide)] using this
theorem WCore.app(h:WCore a v k w Br Bo Ba Bf wb B9 L word m D x W) (h7:D 7=false) {w3:World} (u:Value) (ho:aJ w3 w.heap.size 109 7 (.slice (some ⟨wb,0,none⟩) (word.length+1) k) (word.length+1) (aL word++aL [m.r])) (hg:W.grownBy w3 (some wb)):WCore a v k w Br Bo Ba Bf wb B9 L word m (aZ D 7) (gt x 7 u) w3:=by
 have he:=h.env;rw[h7]at he;obtain⟨cur,fz,Dz,_⟩:=he.wb_at;refine⟨?_,jw hg h.box (fun e=>vM h.box Dz (by decide) (kj e).symm),fun _ e=>by simp[aZ]at e⟩;simp only[aZ,if_true,cond_true];refine he.grow_word hg ?_;rw[List.length_append,List.length_singleton,sd];exact ho
end
def RS(wb:Nat) (word:List Rd):MP:=⟨fun x W=>aJ W (wb+1) 109 7 x word.length (aL word),fun _ _ _ h hb=>h.up hb⟩
def JU(wb:Nat) (word:List Rd):MP:=⟨fun y W=>∃ x g,aJ W (wb+1) 109 7 x word.length (aL word)/\y=.slice (some ⟨g,0,none⟩) 1 1/\W.heap[g]?=some (.cells #[x] 39),fun _ _ _ h hb=>by obtain⟨x,g,h1,h2,h3⟩:=h;exact⟨x,g,h1.up hb,h2,aq hb h3⟩⟩
theorem JV{wb:Nat} {word:List Rd} {W:World} {x:Value} {g:Nat} (h1:aJ W (wb+1) 109 7 x word.length (aL word)) (h3:W.heap[g]?=some (.cells #[x] 39)):(JU wb word).p (.slice (some ⟨g,0,none⟩) 1 1) W:=⟨x,g,h1,rfl,h3⟩
theorem Tryz.infoWordRow:(Tryz.prog.info? 39).map (fun i=>(i.zero,i.size,i.bytes))=some (some (.slice none 0 0),1,24):=by kernel_rfl
theorem GU(a:Adv) (v:Value) (k:Nat) (hk:k<=6) (w:World) (hv:cO w v a.states) (tu:∀ s,s<a.states.length->∀ m∈a.states.getD s [],0<=m.to/\m.to.toNat<a.states.length) (Br Bo Ba Bf wb:Nat) :
  ∀ (d:Nat) (s:Nat) (L:List (List Rd)) (word:List Rd) (W:World),word.length+d=k->s<a.states.length->(∀ r∈word,eD r)->L.length+(bN a d s).length<=1048576->WEnv a v k w Br Bo Ba Bf wb L word W →
   Calls Tryz.prog 140 #[.int .i64 s,.slice (some ⟨wb,0,none⟩) word.length k,.pointer (some ⟨Br,0,none⟩),.pointer (some ⟨Bo,0,none⟩),.pointer (some ⟨Ba,0,none⟩),.pointer (some ⟨Bf,0,none⟩)] W fun e W'=>(∃ u,e=.returned u)/\WEnv a v k w Br Bo Ba Bf wb (L++(bN a d s).map (word++·)) word W':=by
 have HV:=ab hv;clear hv;have Ro:=ab tu;clear tu;intro d;induction d with
 | zero=>
  intro s L word W hd hs cg bi lN;have xD:=ab cg;have yX:=ab lN;have sR:=ab bi;have tr:=ae lN.r 0;obtain⟨vo,xs,h1,h2,h3⟩:=lN.o;have to:=ae h1 0;simp at tr to;have An:(word.length:Int)=k:=by omega
  have HKW:=ab An;have QI:=ab hd;clear cg bi lN hd
  go_enter Tryz.func140,Tryz.ntmps140
  obtain⟨i0,rF,dE,dc,dN⟩:=info_parts Tryz.infoWordRow;have H2:=ab h2;have H3:=ab h3;clear h2 h3;have aG:=(yX.o.wb_at).elim fun _ h=>h.elim fun _ h=>aw h.1
  go_wp2_with fail
  refine oy 4 [14,15,16,17] [MP.eq vo,
   MP.eq (.slice (some ⟨wb,0,none⟩) word.length k),
   RS wb word,
   JU wb word] (by kernel_rfl) (by simp) (by decide) rfl (by kernel_rfl) (by kernel_rfl) (by kernel_rfl) ?step ?tail
  case step=>
   intro x W i o s F hi ho hs hB aN hF;have gU:i=0\/i=1\/i=2\/i=3:=by omega
   rcases gU with rfl|rfl|rfl|rfl
   all_goals (obtain rfl:=kj ho.symm;obtain rfl:=kj hs.symm;simp only[bS,d9,List.setIfInBounds_toArray,List.set_cons_succ,List.set_cons_zero,Nat.reduceAdd]at hF)
   ·clear aN hi ho hs;have t1:=aC hB to;subst hF
    go_wp2_with fail
    exact Ip _ (Below.refl _ _) rfl
   ·clear aN hi ho hs;subst hF
    go_wp2_with fail
    exact Ip _ (Below.refl _ _) rfl
   ·have d1:=PR (aN ⟨1,.data⟩ (by simp) rfl);clear aN hi ho hs;simp only[d1]at hF;subst hF
    go_wp2_with fail
    refine(yu _ word W ((vz yX.o.b (fun i hi=>xD.o _ (List.getElem_mem hi)) (by omega)).up up_round hB) (by omega)).mono ?_;rintro e w9 ⟨u9,rfl,Li,OA⟩;have Of:=ab (Li.base (base':=wb+1) (by have:=hB.size;omega));clear Li
    go_wp2_with fail
    exact Ip _ OA Of.o
   ·have d2:=aN ⟨2,.data⟩ (by simp) rfl;clear aN hi ho hs;obtain⟨a9,c9,e9⟩:=aJ.slice d2;rw[e9]at d2;have HD9:=ab (show aJ W (wb+1) 109 7 (.slice a9 word.length c9) word.length (aL word) from d2);clear d2;simp only[e9]at hF;subst hF
    go_wp2_with fail
    refine tx.mk (.slice (some ⟨W.heap.size,0,none⟩) 1 1) ?_ ?_ ?_
    ·exact(by go_grown)
    ·exact JV (HD9.o.up (by go_grown)) (aA _ _)
    ·first
     | rfl
     | simp only[List.setIfInBounds_toArray,List.set_cons_succ,List.set_cons_zero]
  case tail=>
   intro x W2 F hB aX hF;have d0:x 0=vo:=aX 0 (by omega);have d3:=aX 3 (by omega);obtain⟨x9,g9,Li,e9,hg9⟩:∃ x9 g9,aJ W2 (wb+1) 109 7 x9 word.length (aL word)/\x 3=.slice (some ⟨g9,0,none⟩) 1 1/\W2.heap[g9]?=some (.cells #[x9] 39):=d3;clear aX;simp only[bS,d9,List.setIfInBounds_toArray,List.set_cons_succ,List.set_cons_zero,Nat.reduceAdd]at hF;rw[d0,e9]at hF;subst hF;have Of:=ab Li;have HG9:=ab hg9;have oT:=ab hB;have hz9:=oT.o.size;have hL:=sR.o;simp only[bN,List.length_singleton]at hL;clear Li hg9 hB d0 e9;simp only[List.drop_succ_cons,List.drop_zero];refine eh W2 rfl (.tmp 14) (.tmp 17) 162 rfl w.heap.size 39 i0 _ 1 24 Tryz.underlying162 rF dE dc dN rfl (by decide) _ L.length xs rfl (H2.o.up oT.o) ⟨g9,0,none⟩ 1 1 [x9] rfl rfl (fun j u hj=>?_) (by simpa using Em Of.o) (by unfold maxLen;omega) (by omega) (by have:=yX.o.old.size;omega) ?_
   ·cases j with
    | zero=>simp at hj;subst hj;simp[Addr.add,ae HG9.o]
    | succ j=>simp at hj
   intro v9 w9 hown9 hgrow9 _;have HOW9:=ab hown9;have HGR9:=ab hgrow9;clear hown9 hgrow9;have Ab:=jw HGR9.o (aq oT.o h1) (fun e=>H2.o.ne h1 (by decide) _ e rfl);have tBo:=ae Ab 0;have zBo:=bf Ab 0;simp at tBo;have hBoL:=aw Ab;obtain⟨a9,c9,hv9⟩:=HOW9.o.slice;subst hv9;clear Ab
   go_wp2_with fail
   go_returns
   refine⟨⟨_,rfl⟩,?_⟩;have e9:L++(bN a 0 s).map (word++·)=L++[word]:=by simp[bN]
   rw[e9];exact(yX.o.up oT.o).put (aq oT.o h1) (H2.o.up oT.o) (fun i hi=>by obtain⟨y,q1,q2⟩:=H3.o i hi;exact⟨y,q1,q2.up oT.o⟩) Of.o HGR9.o HOW9.o
 | succ d ih=>
  intro s L word W hd hs cg bi lN;have xD:=ab cg;have yX:=ab lN;have sR:=ab (show L.length+(gp a d word (a.states.getD s [])).length<=1048576 by rw[<-zJ];simpa using bi);have tr:=ae lN.r 0;have ta:=ae lN.a 1;simp at tr ta;obtain⟨pa,ca,rfl,la1,la2,ea⟩:=HV.o.at;obtain⟨b1,o1,rfl,xc,cx0,hx⟩:=ea s hs;rw[Nat.mul_one]at cx0;have cx:=aC lN.old cx0;clear cx0;obtain⟨px,qx,rfl,x1,x2,ex⟩:=hx.at;have EX:=ab ex;have HGD:=ab (aj [] hs);have NR:=ab (Ro.o s hs);rw[HGD.o]at sR NR;rw[zJ,HGD.o];clear hx ex ea bi lN cg;generalize a.states[s]=l at EX x1 x2 cx sR NR;have An:((word.length:Int) == (k:Int))=false:=by simp;omega
  have HKW:=ab An;have QI:=ab hd;clear hd
  go_enter Tryz.func140,Tryz.ntmps140
  go_wp2_with fail
  clear cx ta tr;obtain⟨i1,gi,_,Qx,_⟩:=info_parts Tryz.infoRound
  go_loopw [25] (fun i wr=>∃ j:Nat,j<=l.length/\i=.int .i64 j/\WEnv a (.slice (some ⟨b1,o1,none⟩) a.states.length ca) k w Br Bo Ba Bf wb (L++gp a d word (l.take j)) word wr) (fun i _=>l.length - (intOf i).toNat)
  ·exact⟨0,by omega,rfl,by simpa[gp] using yX.o⟩
  ·
   obtain⟨j,hj,rfl,li⟩:=hrel;have QX:=ab li;by_cases aG:j<l.length
   ·obtain⟨b3,o3,rfl,⟨⟨d0,j0⟩,⟨d1,j1⟩,⟨d2,j2⟩,⟨d3,j3⟩,⟨d4,j4⟩,⟨d5,j5⟩,⟨d6,j6⟩⟩,⟨d7,_⟩⟩:=EX.o j aG
    have HINM:bc (∀ r∈word++[l[j].r],eD r):=ab (fun r hr=>by
     rcases List.mem_append.1 hr with h|h
     ·exact xD.o r h
     ·rw[List.mem_singleton]at h;subst h;exact⟨j0,j1,j2,j3,j4,j5,j6⟩)
    have uN:=GT a d word l j aG;have im:=MK a d word l (j+1);have HM:=ab (NR.o _ (List.getElem_mem aG))
    have xG:(L++gp a d word (l.take j)).length+(bN a d l[j].to.toNat).length<=1048576:=by
     have h9:=sR.o;rw[uN,List.length_append,List.length_map]at im;rw[List.length_append];omega
    have HLJ:=ab xG;have HSN:=ab uN;clear uN im xG j0 j1 j2 j3 j4 j5 j6;generalize l[j]=m at d0 d1 d2 d3 d4 d5 d6 d7 HINM HM HLJ HSN;have HTON:bc (((m.to.toNat:Nat):Int)=m.to):=ab (by have:=HM.o.1;omega)
    replace d0:=aC li.old d0
    replace d1:=aC li.old d1
    replace d2:=aC li.old d2
    replace d3:=aC li.old d3
    replace d4:=aC li.old d4
    replace d5:=aC li.old d5
    replace d6:=aC li.old d6
    replace d7:=aC li.old d7
    clear li
    go_wp2_with fail
    refine eE (fun W1=>WEnv a (.slice (some ⟨b1,o1,none⟩) a.states.length ca) k w Br Bo Ba Bf wb (L++gp a d word (l.take j)) word W1/\W1.heap[wr.heap.size]?=some (.cells #[.int .i64 m.r.g.n,.int .i64 m.r.g.h0,.int .i64 m.r.g.h1,.int .i64 m.r.g.h2,.int .i64 m.r.g.h3,.int .i64 m.r.g.h4,.int .i64 m.r.f,.int .i64 m.to] 188)) ⟨QX.o.up (by go_grown),aA _ _⟩ (fun W1 io=>?_);have HW1:=ab io;clear io d0 d1 d2 d3 d4 d5 d6 d7
    refine vh 8 [29,30,31,32,33,34,35,36] [some (xk Br Bo Ba Bf),
     some (.pointer (some ⟨wr.heap.size,7,none⟩)),
     some (.int .i64 m.to),
     some (.slice (some ⟨wb,0,none⟩) word.length k),
     some (.pointer (some ⟨wr.heap.size,0,none⟩)),
     some (m.r.v),
     none,
     some ((.slice (some ⟨wb,0,none⟩) (word.length+1) k))] (WCore a (.slice (some ⟨b1,o1,none⟩) a.states.length ca) k w Br Bo Ba Bf wb wr.heap.size (L++gp a d word (l.take j)) word m) (by kernel_rfl) rfl (by decide) rfl (by kernel_rfl) (by kernel_rfl) (by kernel_rfl) (fun _=>⟨HW1.o.1.up (by go_grown),aq (by go_grown) HW1.o.2,nofun⟩) ?step ?tail
    case step=>
     intro x W D i o s F hi ho hs hD gY bQ aN hv bC hF;have gU:i=0\/i=1\/i=2\/i=3\/i=4\/i=5\/i=6\/i=7:=by omega
     rcases gU with rfl|rfl|rfl|rfl|rfl|rfl|rfl|rfl
     all_goals (have kC:=gY _ _ hs hD;obtain rfl:=kj ho.symm;obtain rfl:=kj hs.symm)
     ·clear aN hi hv;have e5:F.getD 5 undef=.pointer (some ⟨Bf,0,none⟩):=EM hF (by decide) rfl;clear gY bQ;clear hF kC;have t1:=ae bC.env.f 0;simp at t1;have e5':=kD e5;have HD:=ab hD;have gV:=ab bC;clear hD bC
      go_wp2_with fail
      refine dm.mk _ ri ?_ rfl;exact gV.o.other _ (by decide) (by decide)
     ·clear aN hi hv;have e9:F.getD 9 undef=.pointer (some ⟨wr.heap.size,0,none⟩):=EM hF (by decide) rfl;clear gY bQ;clear hF kC;have e9':=kD e9;have HD:=ab hD;have gV:=ab bC;clear hD bC
      go_wp2_with fail
      refine dm.mk _ ri ?_ rfl;exact gV.o.other _ (by decide) (by decide)
     ·have g1:=aN ⟨1,.data⟩ (by simp) rfl;have d1:=hv 1 _ (by omega) g1 rfl;clear aN hi hv;have e30:=nz hF 1 30 (by decide) rfl (by kernel_rfl) d1;clear gY bQ;clear hF kC d1;have t1:=ae bC.box 7;simp at t1;have e30':=kD e30;have HD:=ab hD;have gV:=ab bC;clear hD bC;clear g1
      go_wp2_with fail
      refine dm.mk _ ri ?_ rfl;exact gV.o.other _ (by decide) (by decide)
     ·clear aN hi hv;have e1:F.getD 1 undef=.slice (some ⟨wb,0,none⟩) word.length k:=EM hF (by decide) rfl;clear gY bQ;clear hF kC;have e1':=kD e1;have HD:=ab hD;have gV:=ab bC;clear hD bC
      go_wp2_with fail
      refine dm.mk _ ri ?_ rfl;exact gV.o.other _ (by decide) (by decide)
     ·clear aN hi hv;have e9:F.getD 9 undef=.pointer (some ⟨wr.heap.size,0,none⟩):=EM hF (by decide) rfl;clear gY bQ;clear hF kC;have e9':=kD e9;have HD:=ab hD;have gV:=ab bC;clear hD bC
      go_wp2_with fail
      refine dm.mk _ ri ?_ rfl;exact gV.o.other _ (by decide) (by decide)
     ·have g4:=aN ⟨4,.data⟩ (by simp) rfl;have d4:=hv 4 _ (by omega) g4 rfl;clear aN hi hv;have e33:=nz hF 4 33 (by decide) rfl (by kernel_rfl) d4;clear gY bQ;clear hF kC d4;have t1:=ae bC.box;have e33':=kD e33;have HD:=ab hD;have gV:=ab bC;clear hD bC;clear g4
      go_wp2_with fail
      refine dm.mk _ ri ?_ rfl;exact gV.o.other _ (by decide) (by decide)
     ·have g5:=aN ⟨5,.data⟩ (by simp) rfl;have d5:=hv 5 _ (by omega) g5 rfl;clear aN hi hv;have e34:=nz hF 5 34 (by decide) rfl (by kernel_rfl) d5;clear gY bQ;clear hF kC d5;have e34':=kD e34;have HD:=ab hD;have gV:=ab bC;clear hD bC;clear g5
      go_wp2_with fail
      refine dm.mk _ (fun c hc=>by cases hc) ?_ rfl;exact gV.o.build
     ·have g3:=aN ⟨3,.data⟩ (by simp) rfl;have d3:=hv 3 _ (by omega) g3 rfl;have g6:=aN ⟨6,.data⟩ (by simp) rfl;clear aN hi hv;have e32:=nz hF 3 32 (by decide) rfl (by kernel_rfl) d3;have e35:=nz hF 6 35 (by decide) rfl (by kernel_rfl) rfl;clear gY bQ;clear hF kC d3;obtain⟨gb,qx,Fz⟩:=bC.sb g6 hD;rw[qx]at e35;have hrow:=bC.env.b;rw[hD]at hrow;have HROW4:=ab (show aJ W w.heap.size 109 7 (.slice (some ⟨wb,0,none⟩) word.length k) word.length (aL word) from hrow)
      have bM:∀ j u',(aL [m.r])[j]?=some u'->W.cell? (Addr.add ⟨gb,0,none⟩ j)=some u':=fun j u' hj=>by
       have e1:(Addr.add ⟨gb,0,none⟩ j)=⟨gb,j,none⟩:=by unfold Addr.add;split<;>simp_all
       rw[e1,ae Fz];simpa[aL] using hj
      have fV:=ab bM;clear bM hrow Fz qx;have e32':=kD e32;have e35':=kD e35;have HD:=ab hD;have gV:=ab bC;clear hD bC;clear g3;clear g6;refine vA rfl (.tmp 32) (.tmp 35) 39 rfl w.heap.size 109 i1 7 Tryz.underlying39 gi Qx wb k word.length (aL word) e32 HROW4.o ⟨gb,0,none⟩ 1 1 (aL [m.r]) e35 rfl fV.o (sa _) (by have:=QI.o;omega) ?_;intro w3 gq gz _;refine dm.mk _ ri ?_ rfl;exact gV.o.app HD.o _ gq gz
    case tail=>
     intro x W' D F aX hv bC hF;have x0:=hv 0 _ (by omega) rfl;have x1:=hv 1 _ (by omega) rfl;have x2:=hv 2 _ (by omega) rfl;have x3:=hv 3 _ (by omega) rfl;have x4:=hv 4 _ (by omega) rfl;have x5:=hv 5 _ (by omega) rfl;have x7:=hv 7 _ (by omega) rfl;have lc:=bC.env;rw[aX 7 (by omega)]at lc;have HE9:=ab (show WEnv a (.slice (some ⟨b1,o1,none⟩) a.states.length ca) k w Br Bo Ba Bf wb (L++gp a d word (l.take j)) (word++[m.r]) W' from lc);simp only[bS,d9,List.setIfInBounds_toArray,List.set_cons_succ,List.set_cons_zero,Nat.reduceAdd,x0,x1,x2,x3,x4,x5,x7]at hF;generalize x 6=y6 at hF;subst hF;clear hv aX bC lc x0 x1 x2 x3 x4 x5 x7;simp only[List.drop_succ_cons,List.drop_zero];have br:=ih m.to.toNat (L++gp a d word (l.take j)) (word++[m.r]) W' (by have:=QI.o;simp;omega) HM.o.2 HINM.o (HLJ.o) HE9.o;rw[List.length_append,List.length_singleton,HTON.o]at br;have dg:=ab br;clear br ih
     go_wp2_with fail
     refine dg.o.mono ?_;rintro e w9 ⟨⟨u9,rfl⟩,lc⟩;have HE10:=ab lc;clear lc
     go_wp2_with fail
     go_roundw
     ·
      refine⟨j+1,by omega,by go_num,?_⟩;rw[HSN.o,<-List.append_assoc];exact HE10.o.shrink
     ·simp[intOf];omega
   ·obtain rfl:j=l.length:=by omega
    rw[List.take_length]at QX;clear li
    go_wp2_with fail
    go_returns
    exact⟨⟨_,rfl⟩,QX.o⟩
theorem CB(P:Program) (w:World) (a:Addr) (m:Mode) (g:Fn) (b c:Array Value):(store a (.func g b c) m).run P w=stored P w a (.func g b c) m:=run_store P w a _ m rfl
attribute [local go_sem] CB
theorem JW(cs:Array Value) (m:Nat):(madeCells cs m).size=m:=by simp[madeCells]
theorem GV(n:Nat) (hn:n<=4096) (w:World):(Instr.makeSlice 162 (.int .i64 0) (.int .i64 (n:Int))).run Tryz.prog w=.ok (.slice (some ⟨w.heap.size,0,none⟩) 0 n) (w.alloc (.cells (madeCells (Value.slice none 0 0).cells n) 39)):=by
 obtain⟨i,hi,dE,dc,dN⟩:=info_parts Tryz.infoWordRow;have:=run_make (P:=Tryz.prog) w 162 39 i (.slice none 0 0) Tryz.underlying162 hi dE .i64 .i64 0 (n:Int) (by omega) (by omega) (by rw[dN];omega) (by omega);rw[this,dc,Nat.mul_one];rfl
theorem En(k:Nat) (hk:k<=6) (w:World):(Instr.makeSlice 39 (.int .i64 0) (.int .i64 (k:Int))).run Tryz.prog w=.ok (.slice (some ⟨w.heap.size,0,none⟩) 0 k) (w.alloc (.cells (madeCells (Value.agg #[.int .i64 0,.int .i64 0,.int .i64 0,.int .i64 0,.int .i64 0,.int .i64 0,.int .i64 0]).cells (k * 7)) 109)):=by
 obtain⟨i,hi,dE,dc,dN⟩:=info_parts Tryz.infoRound;have:=run_make (P:=Tryz.prog) w 39 109 i _ Tryz.underlying39 hi dE .i64 .i64 0 (k:Int) (by omega) (by omega) (by rw[dN];omega) (by omega);rw[this,dc];rfl
theorem CC{W:World} {base g n k:Nat} {e:TypeId} {cs:Array Value} (h:W.heap[g]?=some (.cells (madeCells cs (n * k)) e)) (hb:base<=g) (hn:n<=1048576):aJ W base e k (.slice (some ⟨g,0,none⟩) 0 n) 0 []:=
 ⟨by simp,.inr ⟨g,n,_,(0,0),rfl,hb,h,fun i _ h=>by have:=h.2;simp at this,by omega,by unfold maxLen;omega,JW _ _,by simp⟩⟩
def Qe(base k:Nat):MP:=⟨fun v W=>∃ g,base<=g/\v=.slice (some ⟨g,0,none⟩) 0 k/\aJ W base 109 7 (.slice (some ⟨g,0,none⟩) 0 k) 0 [],fun _ _ _ h hb=>by obtain⟨g,h1,h2,h3⟩:=h;exact⟨g,h1,h2,h3.up hb⟩⟩
theorem Pz{base k g:Nat} {W:World} (h1:base<=g) (h3:aJ W base 109 7 (.slice (some ⟨g,0,none⟩) 0 k) 0 []):(Qe base k).p (.slice (some ⟨g,0,none⟩) 0 k) W:=⟨g,h1,rfl,h3⟩
theorem JX{w:World} {v:Value} {l:List (List Mv)} (h:cO w v l):∀ s,∀ m∈l.getD s [],eD m.r:=fun s m hm=>by
 by_cases hs:s<l.length
 ·rw[aj [] hs]at hm;obtain⟨pa,ca,rfl,_,_,ea⟩:=h.at;obtain⟨_,_,_,x,_,hx⟩:=ea s hs;obtain⟨px,qx,rfl,_,_,ex⟩:=hx.at;obtain⟨j,hj,rfl⟩:=List.getElem_of_mem hm;obtain⟨_,_,_,⟨⟨_,j0⟩,⟨_,j1⟩,⟨_,j2⟩,⟨_,j3⟩,⟨_,j4⟩,⟨_,j5⟩,⟨_,j6⟩⟩,_⟩:=ex j hj;exact⟨j0,j1,j2,j3,j4,j5,j6⟩
 ·rw[List.getD_eq_getElem?_getD,List.getElem?_eq_none (by omega)]at hm;simp at hm
theorem ML(a:Adv) (h:∀ s,∀ m∈a.states.getD s [],eD m.r) (k:Nat):∀ s,∀ x∈bN a k s,∀ r∈x,eD r:=by
 induction k with
 | zero=>intro s x hx r hr;simp[bN]at hx;subst hx;simp at hr
 | succ k ih=>
  intro s x hx r hr;simp only[bN,List.mem_flatMap,List.mem_map]at hx;obtain⟨m,hm,y,hy,rfl⟩:=hx;rcases List.mem_cons.1 hr with rfl|hr
  ·exact h s m hm
  ·exact ih _ y hy r hr
def fP(a:Adv) (r:Int):List (List Rd) × Int:=if (bx 4096 a r).2≠0 then([],(bx 4096 a r).2) else(bN a r.toNat 0,0)
theorem xl{a:Adv} {r:Int} (h:(bx 4096 a r).2=0):advE a=0/\0<=r/\r<=6/\(bN a r.toNat 0).length<=4096/\(bx 4096 a r).1=(bN a r.toNat 0).length:=by
 unfold bx at h ⊢;by_cases h1:advE a=0
 ·rw[if_neg (by simpa using h1)]at h ⊢;by_cases h2:r<0\/6<r
  ·rw[if_pos h2]at h;cases h
  ·rw[if_neg h2]at h ⊢;have hn:=qj (L:=4096) (by omega) a (fun s hs m hm=>(pG h1 s hs m hm).2) (by have:=(cZ h1).1;omega) r.toNat;by_cases h3:4096<dy 4096 a r.toNat
   ·rw[if_pos h3]at h;cases h
   ·rw[if_neg h3];refine⟨h1,by omega,by omega,?_,?_⟩
    ·omega
    ·show dy 4096 a r.toNat=_
     omega
 ·rw[if_pos h1]at h;exact absurd h h1
theorem JY(a:Adv) (v:Value) (r:Int) (w:World) (hv:cO w v a.states) (HCT:∀ W,Below w.heap.size w W->Calls Tryz.prog 139 #[.agg #[.int .i64 a.n,v],.int .i64 r,.int .i64 4096] W fun e w'=>e=.returned (.tuple #[.int .i64 (bx 4096 a r).1,.int .i64 (bx 4096 a r).2])/\Below W.heap.size W w') :
  Calls Tryz.prog 82 #[.agg #[.int .i64 a.n,v],.int .i64 r] w fun e w'=>∃ u,e=.returned (.tuple #[u,.int .i64 (fP a r).2])/\fu 1 (o8 7 ki) w' u (fP a r).1/\(∀ ad n c,u=.slice (some ad) n c->w.heap.size<=ad.block)/\kN 39 109 7 aL w' w.heap.size u (fP a r).1/\Below w.heap.size w w':=by
 have HV:=ab hv;obtain⟨pa,ca,rfl,_⟩:=hv.at;clear hv
 go_enter Tryz.func82,Tryz.ntmps82
 go_wp2_with fail
 refine dB (fun W=>Below w.heap.size w W/\W.heap[w.heap.size]?=some (.cells #[.int .i64 a.n,.slice pa a.states.length ca] 27)/\W.heap[w.heap.size+1]?=some (.cells #[.int .i64 r] 3)) ⟨by go_grown,aH _ (aA _ _),eM _ _ _⟩ (fun W0 dF=>?_);obtain⟨bw,jB,FF⟩:=dF;refine(HCT W0 bw).mono ?_;rintro e w1 ⟨rfl,aK⟩;have vW:=ak bw aK;have rE:=aq aK jB;have oq:=aq aK FF;by_cases he:(bx 4096 a r).2=0
 case neg=>
  have Om:bc (fP a r=([],(bx 4096 a r).2)):=ab (by unfold fP;rw[if_pos he]);generalize (bx 4096 a r).2=x at he Om;have he':(x != 0)=true:=by simpa using he
  clear jB FF rE oq he
  go_wp2_with fail
  go_ret2
  rw[Om.o];exact⟨_,rfl,⟨none,0,rfl,⟨by simp,by omega,fun _=>rfl⟩,by simp,fun i x hx=>by simp at hx⟩,(fun ad n c e=>by cases e),kN.nil _ _,vW⟩
 obtain⟨ha,k8,uO,bi,rg⟩:=xl he;obtain⟨k,rfl⟩:∃ k:Nat,r=(k:Int):=⟨r.toNat,by omega⟩;rw[Int.toNat_natCast]at bi rg;have Om:bc (fP a k=(bN a k 0,0)):=ab (by unfold fP;rw[if_neg (by simpa using he),Int.toNat_natCast]);have Ro:=ab (pG ha);have HAOK:=ab (cZ ha);rw[he,rg];have hk:k<=6:=by omega
 have sR:=ab bi;generalize hn:(bN a k 0).length=n at bi;have HN:=ab hn;have tq:=GV n bi;clear hn he rg ha k8 uO;have dc:=vW.size;have Oq:=ab rE;have N8:=ab oq;clear jB FF rE oq
 go_wp2_with fail
 refine eE (fun W=>Below w.heap.size w W/\W.heap[w.heap.size]?=some (.cells #[.int .i64 a.n,.slice pa a.states.length ca] 27)/\W.heap[w.heap.size+1]?=some (.cells #[.int .i64 k] 3)/\W.heap[w1.heap.size]?=some (.cells (madeCells (Value.slice none 0 0).cells n) 39)/\W.heap[w1.heap.size+1]?=some (.cells #[.slice (some ⟨w1.heap.size,0,none⟩) 0 n] 162)/\W.heap[w1.heap.size+1+1]?=some (.cells #[xk (w.heap.size+1) (w1.heap.size+1) w.heap.size (w1.heap.size+1+1)] 230)) ?_ (fun W2 hW2=>?_)
 ·exact⟨((vW.alloc dc _).alloc (by simp only[World.size_alloc];omega) _).alloc (by simp only[World.size_alloc];omega) _,aH _ (aH _ (aH _ Oq.o)),aH _ (aH _ (aH _ N8.o)),aH _ (aH _ (aA _ _)),aH _ (eM _ _ _),qt _ _ _ _⟩
 obtain⟨g1,g2,g3,g4,g5,g6⟩:=hW2;have G1:=ab g1;have G2:=ab g2;have G3:=ab g3;have G4:=ab g4;have G5:=ab g5;have G6:=ab g6;have dN:=g1.size;clear g1 g2 g3 g4 g5 g6 tq
 refine oy 3 [22,23,24] [MP.eq (xk (w.heap.size+1) (w1.heap.size+1) w.heap.size (w1.heap.size+1+1)),
  MP.eq (.int .i64 k),
  Qe w.heap.size k] (by kernel_rfl) (by simp) (by decide) rfl (by kernel_rfl) (by kernel_rfl) (by kernel_rfl) ?step ?tail
 case step=>
  intro x W i o s F hi ho hs hB aN hF;have gU:i=0\/i=1\/i=2:=by omega
  rcases gU with rfl|rfl|rfl
  all_goals (obtain rfl:=kj ho.symm;obtain rfl:=kj hs.symm;simp only[bS,d9,List.setIfInBounds_toArray,List.set_cons_succ,List.set_cons_zero,Nat.reduceAdd]at hF)
  ·clear aN hi ho hs;have t1:=ae (aq hB G6.o) 0;simp at t1;subst hF
   go_wp2_with fail
   exact Ip _ (Below.refl _ _) rfl
  ·clear aN hi ho hs;have t1:=ae (aq hB G3.o) 0;simp at t1;subst hF
   go_wp2_with fail
   exact Ip _ (Below.refl _ _) rfl
  ·have d1:=PR (aN ⟨1,.data⟩ (by simp) rfl);clear aN hi ho hs;have tq:=En k hk;simp only[d1]at hF;subst hF
   go_wp2_with fail
   refine tx.mk (.slice (some ⟨W.heap.size,0,none⟩) 0 k) ?_ ?_ ?_
   ·exact(by go_grown)
   ·exact Pz (by have:=hB.size;omega) (CC (aA _ _) (by have:=hB.size;omega) (by omega))
   ·first
    | rfl
    | simp only[List.setIfInBounds_toArray,List.set_cons_succ,List.set_cons_zero]
 case tail=>
  intro x W3 F hB aX hF;have d0:x 0=(xk (w.heap.size+1) (w1.heap.size+1) w.heap.size (w1.heap.size+1+1)):=aX 0 (by omega);have d1:x 1=.int .i64 k:=aX 1 (by omega);have d2:=aX 2 (by omega);obtain⟨wb,Dz,e2,how⟩:∃ g,w.heap.size<=g/\x 2=.slice (some ⟨g,0,none⟩) 0 k/\aJ W3 w.heap.size 109 7 (.slice (some ⟨g,0,none⟩) 0 k) 0 []:=d2;clear aX;simp only[bS,d9,List.setIfInBounds_toArray,List.set_cons_succ,List.set_cons_zero,Nat.reduceAdd]at hF;rw[d0,d1,e2]at hF;subst hF;have oT:=ab hB;have HOW:=ab how;clear hB how d0 d1 e2;simp only[List.drop_succ_cons,List.drop_zero]
  have lN:WEnv a (.slice pa a.states.length ca) k w (w.heap.size+1) (w1.heap.size+1) w.heap.size (w1.heap.size+1+1) wb [] [] W3:=
   ⟨ak G1.o oT.o,by omega,aq oT.o G3.o,aq oT.o G2.o,aq oT.o G6.o,⟨_,[],aq oT.o G5.o,CC (n:=n) (cs:=(Value.slice none 0 0).cells) (by rw[Nat.mul_one];exact aq oT.o G4.o) (by omega) (by omega),fun i hi=>by simp at hi⟩,HOW.o⟩
  have br:=GU a _ k hk w HV.o Ro.o _ _ _ _ wb k 0 [] [] W3 (by simp) (by have:=HAOK.o.1;omega) (fun r hr=>by simp at hr) (by have:=HN.o;simp;omega) lN;simp only[List.length_nil,List.nil_append,List.map_id']at br;have dg:=ab br;clear br lN
  go_wp2_with fail
  refine dg.o.mono ?_;rintro e w9 ⟨⟨u9,rfl⟩,lc⟩;have hbw9:=lc.old;obtain⟨vo,xs,q1,q2,q3⟩:=lc.o;obtain⟨wcur,wfz,hw9,hwlo⟩:=lc.wb_at;have t1:=ae q1 0;simp at t1;have HRES:bc (fu 1 (o8 7 ki) w9 vo (bN a k 0)):=ab (kN.sl (base:=w.heap.size) ⟨xs,q2,fun i hi=>by obtain⟨y,p1,p2⟩:=q3 i hi;exact⟨y,p1,p2.base (by omega)⟩⟩ (fun y l hl hy=>vz hy (fun i hi=>ML a (JX HV.o) k 0 l hl _ (List.getElem_mem hi)) (by have:=qh a k 0 l hl;omega)) (by have:=HN.o;omega))
  have HLO9:bc (∀ ad n c,vo=.slice (some ad) n c->w.heap.size<=ad.block):=ab (fun ad n c e=>by
   rcases q2.2 with ⟨e2,_⟩|⟨g,cap,cur,fz,e2,h1,_⟩
   ·rw[e2]at e;cases e
   ·rw[e2]at e;cases e;exact h1)
  have HFR:bc (kN 39 109 7 aL w9 w.heap.size vo (bN a k 0)):=ab ⟨xs,q2,fun i hi=>by obtain⟨y,p1,p2⟩:=q3 i hi;exact⟨y,p1,p2.base (by omega)⟩⟩;obtain⟨av,cv,rfl⟩:=q2.slice;clear q1 q2 q3 lc hw9
  go_wp2_with fail
  go_ret2
  rw[Om.o];exact⟨_,rfl,HRES.o,HLO9.o,HFR.o,hbw9⟩
end Go.Proofs.YtiocdkdkndpgkaaGreat
namespace Go.Proofs.YtiocdkdkndpgkaaGreat
theorem zK{t:Tk} {i f:Int} (h:fH t i f=0):taskE t=0/\0<=i/\i.toNat<t.cases.length:=by
 unfold fH at h;split at h
 ·omega
 ·rename_i h1;split at h
  ·omega
  ·exact⟨by simpa using h1,by omega,by omega⟩
theorem Eo{t:Tk} (h:taskE t=0) (i f:Int):(aP t i f).length<=1024/\∀ v∈aP t i f,(v.length:Int)=t.n:=by
 unfold aP;split
 ·simp
 ·rename_i hp;have mL:fH t i f=0:=by simpa using hp
  obtain⟨_,_,h3⟩:=zK mL;rw[aj default h3];exact ES ((dL h).2.2.2.2 _ (List.getElem_mem h3)) f
theorem MM{t:Tr} (h:hZ t=0):t.inp.length<=5/\jl t.inp.length t.word=0/\t.word.length<=6/\(∀ r∈t.word,eD r)/\t.dec.length=t.inp.length/\∀ x∈t.dec,cV x:=by
 have hd:=IE h;unfold hZ at h;split at h
 ·omega
 split at h
 ·omega
 split at h
 ·rename_i q;exact absurd h q
 rename_i h3;have h3:jl t.inp.length t.word=0:=by simpa using h3
 split at h
 ·omega
 split at h
 ·rename_i q;exact absurd h q
 split at h
 ·rename_i q;exact absurd h q
 refine⟨by omega,h3,by omega,fun r hr=>?_,hd,fun x hx=>?_⟩
 ·obtain⟨k,hk,rfl⟩:=List.getElem_of_mem hr;have:=(F9 h3 hk).1;rw[aj default hk]at this;exact Cn this
 ·unfold decisionsE at h;split at h
  ·omega
  obtain⟨k,hk,rfl⟩:=List.getElem_of_mem hx;have:=bH h k hk;unfold wm at this;split at this
  ·omega
  rename_i h5;rw[aj 0 hk]at h5;unfold inB at h5;unfold cV;simp at h5;omega
end Go.Proofs.YtiocdkdkndpgkaaGreat
