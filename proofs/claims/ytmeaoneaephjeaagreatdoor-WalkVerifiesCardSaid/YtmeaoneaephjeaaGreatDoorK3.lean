/-
  A part of the proof: lemmas and contracts that the parts behind it use. Each one's conditions are its own premises.
-/
import Derived.Shelf.Spec.TrailingZeros
import Derived.Test.YtmeaoneaephjeaaGreatDoorRows
import Derived.Test.YtmeaoneaephjeaaGreatDoorTie
import Derived.Test.YtmeaoneaephjeaaGreatDoorCards
import Derived.ProofKit
import Derived.LaidMore
import Derived.OpenShut
import Derived.Stop.Joined
import Derived.SevenTiedAt
import Derived.StillTail
import Derived.Laws.CopyOwn
import Derived.Test.YtmeaoneaephjeaaGreatDoorK2
set_option maxRecDepth 100000
set_option maxHeartbeats 8000000
set_option linter.unusedVariables false
set_option linter.unusedSimpArgs false
namespace Go.Proofs.YtmeaoneaephjeaaGreatDoor
theorem vB(s:Sys) (f:Nat):(cW s f).length=eS s:=by simp[cW,Qi]
theorem my(s:Sys) (f e:Nat) (he:e<eS s):(cW s f).getD e 0=dD (eS s) (byB s) f (eS s) e:=by
 simp[cW,Qi,he]
theorem kM{s:Sys} {f:Nat} (hf:f<eS s):Dist (eS s) (byB s) f fun e=>(cW s f).getD e 0:=by
 have h:=Nw (L:=byB s) hf;refine⟨by rw[my s f f hf];exact h.zero,fun e he h1=>?_,fun e he=>?_,fun e he d h1=>?_,fun e g he hg h1 h2=>?_⟩
 ·rw[my s f e he]at h1;exact h.only e he h1
 ·rw[my s f e he];exact h.low e he
 ·rw[my s f e he]at h1
  obtain⟨g,hg,h2,h3⟩:=h.pred e he d h1;exact⟨g,hg,by rw[my s f g hg];exact h2,h3⟩
 ·rw[my s f g hg]at h1 ⊢;rw[my s f e he];exact h.next e g he hg h1 h2
theorem Dn{s:Sys} {f:Nat} (hf:f<eS s) (e:Nat) (he:e<eS s):(cW s f).getD e 0<eS s:=by
 rw[my s f e he];have hr:=gz (n:=eS s) (L:=byB s) (f:=f) (eS s) e;by_cases h0:0<=dD (eS s) (byB s) f (eS s) e
 ·have h1:=rP (n:=eS s) (L:=byB s) (f:=f) (eS s) e (dD (eS s) (byB s) f (eS s) e).toNat (by omega) (by omega)
  have:=Gz hf _ e he h1;omega
 ·omega
theorem AY{s:Sys} {f:Nat} (hf:f<eS s) {e d:Nat} (he:e<eS s) (h:(cW s f).getD e 0=d+1):gC s (cW s f) d e<eS s/\(cW s f).getD (gC s (cW s f) d e) 0=d/\byB s e (gC s (cW s f) d e)=true/\firstIx (eS s) (fun g=>decide ((cW s f).getD g 0=d)&&byB s e g)=(gC s (cW s f) d e:Nat):=by
 obtain⟨g,hg,h1,h2⟩:=(kM hf).pred e he d h;unfold gC;rcases bD (eS s) (fun g=>decide ((cW s f).getD g 0=d)&&byB s e g) with ⟨_,h3⟩|⟨k,hk,e1,h3,_⟩
 ·have h4:=h3 g hg
  rw[decide_eq_true h1,h2]at h4;cases h4
 ·rw[e1,Int.toNat_natCast]
  simp only[Bool.and_eq_true,decide_eq_true_eq]at h3;exact⟨hk,h3.1,h3.2,rfl⟩
def chainB(s:Sys):Nat->List Lk->Prop
 | _,[]=>True
 | e,y :: r=>0<=y.x/\y.x.toNat<eS s/\0<=y.p/\y.p<nS s/\linkB s y.p.toNat e y.x.toNat=true/\chainB s y.x.toNat r
def pZ(e:Nat):List Lk->Nat
 | []=>e
 | y :: r=>pZ y.x.toNat r
theorem xI{s:Sys}:∀ (l:List Lk) (e:Nat) (m:List Lk),chainB s e l->chainB s (pZ e l) m->chainB s e (l++m)
 | [],_,_,_,h=>h
 | _ :: r,_,m,⟨h1,h2,h3,h4,h5,h6⟩,h=>⟨h1,h2,h3,h4,h5,xI r _ m h6 h⟩
theorem xJ{s:Sys} {f:Nat} (hf:f<eS s):∀ (d e:Nat),e<eS s->(cW s f).getD e 0=d->chainB s e (kb s (cW s f) d e)/\pZ e (kb s (cW s f) d e)=f/\(kb s (cW s f) d e).length=d
 | 0,e,he,h=>⟨trivial,(kM hf).only e he h,rfl⟩
 | d+1,e,he,h=>by
  obtain⟨h1,h2,h3,_⟩:=AY hf he (by rw[h];rfl);obtain⟨h4,h5,h6⟩:=uj h3;obtain⟨h7,h8,h9⟩:=xJ hf d _ h1 h2;refine⟨⟨by dsimp only;omega,by dsimp only;rw[Int.toNat_natCast];exact h1,h4,h5,?_,?_⟩,?_,?_⟩
  ·dsimp only;rw[Int.toNat_natCast];exact h6
  ·dsimp only;rw[Int.toNat_natCast];exact h7
  ·show pZ (gC s (cW s f) d e:Int).toNat _=f
   rw[Int.toNat_natCast];exact h8
  ·show (kb s (cW s f) d (gC s (cW s f) d e)).length+1=d+1
   rw[h9]
def GG(s:Sys) (e f:Nat):Prop:=0<=(cW s f).getD e 0
theorem Kd{s:Sys} {e f:Nat} (he:e<eS s) (hf:f<eS s) (h:GG s e f):chainB s e (jW s e f)/\pZ e (jW s e f)=f/\(jW s e f).length<eS s:=by
 have h1:=Dn hf e he;obtain⟨h2,h3,h4⟩:=xJ hf ((cW s f).getD e 0).toNat e he (by unfold GG at h;omega);exact⟨h2,h3,by unfold jW;rw[h4];omega⟩
theorem end_mem:∀ (l:List Lk) (e:Nat),pZ e l∈e :: bY l
 | [],e=>by simp[pZ]
 | y :: r,e=>by
  have h:=end_mem r y.x.toNat
  show pZ y.x.toNat r∈e :: (y.x.toNat :: bY r)
  exact List.mem_cons_of_mem _ h
theorem vD(l m:List Lk):bY (l++m)=bY l++bY m:=by simp[bY]
theorem Ke{s:Sys}:∀ (l:List Nat) (e:Nat),e<eS s->(∀ m∈l,m<eS s)->(∀ a∈e :: l,∀ b∈e :: l,GG s a b)->chainB s e (lg s e l)/\(∀ m∈l,m∈e :: bY (lg s e l))/\(lg s e l).length<=l.length * (eS s - 1)
 | [],e,_,_,_=>⟨trivial,fun m hm=>by simp at hm,by simp[lg]⟩
 | m :: r,e,he,hl,hn=>by
  have hm:=hl m (by simp);obtain⟨h1,h2,h3⟩:=Kd he hm (hn e (by simp) m (by simp));obtain⟨h4,h5,h6⟩:=Ke r m hm (fun x hx=>hl x (by simp[hx])) (fun a ha b hb=>hn a (List.mem_cons_of_mem _ ha) b (List.mem_cons_of_mem _ hb));have Pp:=end_mem (jW s e m) e;rw[h2]at Pp
  have hme2:m∈e :: bY (lg s e (m :: r)):=by
   show m∈e :: bY (jW s e m++lg s m r)
   rw[vD];rcases List.mem_cons.1 Pp with h|h
   ·rw[h];simp
   ·exact List.mem_cons_of_mem _ (List.mem_append_left _ h)
  refine⟨xI _ _ _ h1 (by rw[h2];exact h4),fun x hx=>?_,?_⟩
  ·rcases List.mem_cons.1 hx with rfl|hx
   ·exact hme2
   ·rcases List.mem_cons.1 (h5 x hx) with rfl|h
    ·exact hme2
    ·show x∈e :: bY (jW s e m++lg s m r)
     rw[vD];exact List.mem_cons_of_mem _ (List.mem_append_right _ h)
  ·show (jW s e m++lg s m r).length<=(r.length+1) * (eS s - 1)
   rw[List.length_append,Nat.succ_mul];omega
theorem GH{q:Nat->Nat->Bool} (hs:∀ a b,q a b=q b a) (ht:∀ a b c,q a b=true->q b c=true->q a c=true) (n i k:Nat) (hi:i<n) (hk:k<n):(ig q n).getD i 0=(ig q n).getD k 0↔i=k\/q i k=true:=by
 have e:ig q n=ig (fun a b=>decide (a=b) || q a b) n:=qH fun i _ k hk=>by rw[decide_eq_false (by omega)];rfl
 rw[e,Eo (q:=fun a b=>decide (a=b) || q a b) (fun a=>by simp) (fun a b=>by rw[hs,decide_eq_decide.2 (eq_comm (a:=a))]) n (fun a b c _ _ _ h1 h2=>by
  simp only[Bool.or_eq_true,decide_eq_true_eq]at h1 h2 ⊢;rcases h1 with rfl|h1
  ·exact h2
  ·rcases h2 with rfl|h2
   ·exact .inr h1
   ·exact .inr (ht a b c h1 h2)) i k hi hk]
 simp
theorem zX{s:Sys} (h:SysOk s) {R:Nat->Nat->Prop} (hr:∀ a,R a a) (h0:∀ p a b,p<nS s->a<eS s->b<eS s->linkB s p a b=true->R a b) (h1:∀ a b c,R a b->R b c->R a c):∀ m,m<nS s->∀ i k,i<eS s->k<eS s->(gp s m).getD i 0=(gp s m).getD k 0->R i k
 | 0,hm,i,k,hi,hk,e=>by
  rcases (GH (vz s 0) (fun a b c=>zV) (eS s) i k hi hk).1 e with rfl|e
  ·exact hr i
  ·exact h0 0 i k hm hi hk e
 | m+1,hm,i,k,hi,hk,e=>by
  have hl:=ir s m;unfold gp qI at e;rw[hl]at e;have bX:=oB (vy (gp s m) (iI s (m+1)));rw[Eo (fun a=>vu _ _ a a (By _ _ a)) (fun a b=>bX _ a b) (eS s) (fun a b c _ hb _ h2 h3=>jf _ _ a b c hb h2 h3) i k hi hk]at e
  have key:∀ m' x y,m'<=eS s->x<eS s->y<eS s->iQ (fQ (gp s m) (iI s (m+1))) m' x y=true->R x y:=by
   intro m';induction m' with
   | zero=>
    intro x y _ hx hy h2;unfold iQ fQ at h2;simp only[Bool.or_eq_true,decide_eq_true_eq]at h2;rcases h2 with h2|h2
    ·exact zX h hr h0 h1 m (by omega) x y hx hy h2
    ·rcases (GH (vz s (m+1)) (fun a b c=>zV) (eS s) x y hx hy).1 h2 with rfl|h2
     ·exact hr x
     ·exact h0 (m+1) x y hm hx hy h2
   | succ m' ih=>
    intro x y hm' hx hy h2;rw[iQ]at h2;simp only[Bool.or_eq_true,Bool.and_eq_true]at h2;rcases h2 with h2|⟨h2,h3⟩
    ·exact ih x y (by omega) hx hy h2
    ·exact h1 _ _ _ (ih x m' (by omega) hx (by omega) h2) (ih m' y (by omega) (by omega) hy h3)
  exact key _ i k (Nat.le_refl _) hi hk e
theorem BC{s:Sys} (h:SysOk s) (i k:Nat) (hi:i<eS s) (hk:k<eS s) (e:(aO s).getD i 0=(aO s).getD k 0):GG s i k:=by
 have hn:=h.n
 have hR:=zX h (R:=fun a b=>∀ c,c<eS s->(0<=(cW s c).getD a 0↔0<=(cW s c).getD b 0)) (fun a c _=>Iff.rfl) (fun p a b hp ha hb hl c hc=>by
  have hd:=kM hc;have gw:byB s a b=true:=dV _ p _ hp hl
  exact⟨fun h1=>(hd.next b a hb ha h1 (by rw[GD];exact gw)).1,fun h1=>(hd.next a b ha hb h1 gw).1⟩) (fun a b c h1 h2 x hx=>(h1 x hx).trans (h2 x hx)) (nS s - 1) (by omega) i k hi hk e
 unfold GG;rw[hR k hk];have:=(kM hk).zero;omega
theorem vE{parts:List Int} {k:Int} {e:Nat}:e∈eG parts k↔e<parts.length/\parts.getD e 0=k:=by simp[eG]
theorem Va{s:Sys} (h:SysOk s) (k:Int) (a:Nat) (r:List Nat) (e:eG (aO s) k=a :: r):a<eS s/\chainB s a (lg s a r)/\(∀ m∈a :: r,m∈bY (jD s (a :: r)))/\(jD s (a :: r)).length<=1+r.length * (eS s - 1)/\r.length<eS s:=by
 have hm:∀ m∈a :: r,m<eS s/\(aO s).getD m 0=k:=fun m hm=>by
  rw[<-e,vE,gB]at hm;exact hm
 have ha:=(hm a (by simp)).1;obtain⟨h1,h2,h3⟩:=Ke r a ha (fun m h=>(hm m (by simp[h])).1) (fun x hx y hy=>BC h x y (hm x hx).1 (hm y hy).1 (by rw[(hm x hx).2,(hm y hy).2]));refine⟨ha,h1,fun m h4=>?_,?_,?_⟩
 ·have ev:bY (jD s (a :: r))=a :: bY (lg s a r):=by simp[bY,jD]
  rw[ev];rcases List.mem_cons.1 h4 with rfl|h4
  ·simp
  ·exact h2 m h4
 ·simp only[jD,List.length_cons];omega
 ·have h4:=congrArg List.length e
  have h5:(eG (aO s) k).length<=eS s:=by
   exact Nat.le_trans (List.length_filter_le _ _) (by rw[List.length_range,gB];exact Nat.le_refl _)
  rw[List.length_cons]at h4;omega
theorem zY(s:Sys) (p:Lk) (l:List Lk) (i:Nat):linkE s (p :: l) (i+2)=linkE s l (i+1):=by
 unfold linkE;simp only[List.getD_cons_succ,Nat.add_sub_cancel,show i+2 - 1=i+1 by omega];rw[if_neg (show ¬ (i+2=0) by omega),if_neg (show ¬ (i+1=0) by omega)]
theorem ND(s:Sys) (p y:Lk) (r:List Lk):linkE s (p :: y :: r) 1=0↔0<=y.x/\y.x.toNat<eS s/\0<=y.p/\y.p<nS s/\linkB s y.p.toNat p.x.toNat y.x.toNat=true:=by
 unfold linkE;rw[show (p :: y :: r).getD 1 default=y from rfl,show (p :: y :: r).getD (1 - 1) default=p from rfl,if_neg (show ¬ (1=0) by omega)];constructor
 ·intro h
  split at h
  ·omega
  split at h
  ·omega
  split at h
  ·rename_i h3;exact⟨by omega,by omega,by omega,by omega,h3⟩
  ·omega
 ·rintro⟨h1,h2,h3,h4,h5⟩
  rw[if_neg (by omega),if_neg (by omega),if_pos h5]
theorem rQ(s:Sys):∀ (l:List Lk) (p:Lk),chainB s p.x.toNat l↔∀ i,i<l.length->linkE s (p :: l) (i+1)=0
 | [],p=>⟨fun _ i hi=>by simp at hi,fun _=>trivial⟩
 | y :: r,p=>by
  have ih:=rQ s r y;have h1:=ND s p y r;constructor
  ·rintro⟨a1,a2,a3,a4,a5,a6⟩ i hi
   cases i with
   | zero=>exact h1.2 ⟨a1,a2,a3,a4,a5⟩
   | succ i=>rw[zY];exact ih.1 a6 i (by simpa using hi)
  ·intro h
   obtain⟨a1,a2,a3,a4,a5⟩:=h1.1 (h 0 (by simp));exact⟨a1,a2,a3,a4,a5,ih.2 fun i hi=>by rw[<-zY s p];exact h (i+1) (by simpa using hi)⟩
theorem oD(s:Sys) (w:List Lk):walkE s w=0↔∃ a:Nat,∃ r,w=⟨a,-1⟩ :: r/\a<eS s/\chainB s a r/\w.length<=4096:=by
 constructor
 ·intro h
  unfold walkE at h;split at h
  ·omega
  rename_i h1;split at h
  ·omega
  rename_i h2;have h3:=eV h
  match w,h1,h2,h3 with
  | y :: r,_,h2,h3=>
   have h4:=h3 0 (by simp);unfold linkE at h4;rw[List.getD_cons_zero]at h4;split at h4
   ·omega
   rename_i h5;rw[if_pos rfl]at h4;split at h4
   ·omega
   rename_i h6;refine⟨y.x.toNat,r,?_,by omega,(rQ s r y).2 fun i hi=>h3 (i+1) (by simpa using hi),by omega⟩;obtain⟨x,p⟩:=y;dsimp only at h5 h6 ⊢;rw[show p=-1 by omega,show ((x.toNat:Nat):Int)=x by omega]
 ·rintro⟨a,r,rfl,h1,h2,h3⟩
  unfold walkE;rw[if_neg (by simp),if_neg (by omega),cH];intro j hj;cases j with
  | zero=>
   unfold linkE;rw[List.getD_cons_zero,if_neg (by dsimp only;omega),if_pos rfl,if_neg (by simp)]
  | succ j=>exact(rQ s r ⟨a,-1⟩).1 (by dsimp only;rw[Int.toNat_natCast];exact h2) j (by simpa using hj)
theorem vF{s:Sys}:∀ (l:List Lk) (e i:Nat),chainB s e l->chainB s e (l.take i)
 | [],_,i,_=>by simp[chainB]
 | y :: r,e,0,_=>trivial
 | y :: r,e,i+1,⟨h1,h2,h3,h4,h5,h6⟩=>⟨h1,h2,h3,h4,h5,vF r _ i h6⟩
theorem BD{s:Sys}:∀ (l:List Lk) (e i:Nat),chainB s e l->chainB s (pZ e (l.take i)) (l.drop i)
 | [],_,i,_=>by simp[chainB]
 | y :: r,e,0,h=>h
 | y :: r,e,i+1,⟨_,_,_,_,_,h6⟩=>BD r _ i h6
theorem end_at:∀ (l:List Lk) (a:Nat) (i:Nat),i<=l.length->pZ a (l.take i)=(((⟨a,-1⟩:Lk) :: l).getD i default).x.toNat
 | l,a,0,_=>by simp[pZ]
 | [],a,i+1,h=>by simp at h
 | y :: r,a,i+1,h=>by
  have ih:=end_at r y.x.toNat i (by simpa using h);rw[List.getD_cons_succ,List.take_succ_cons]
  show pZ y.x.toNat (r.take i)=_
  rw[ih];cases i with
  | zero=>simp;omega
  | succ i=>rw[List.getD_cons_succ,List.getD_cons_succ]
structure Less (s:Sys) (w c:List Lk):Prop where
 walk:walkE s w=0->walkE s c=0
 len:c.length<w.length
 vis:∀ e∈bY c,e∈bY w
theorem NE(w:List Lk) (i:Nat) (hi:i<w.length):(w.getD i default).x.toNat∈bY w:=by
 unfold bY;rw[show w.getD i default=w[i] by simp[hi]];exact List.mem_map_of_mem (List.getElem_mem hi)
theorem vG{w c:List Lk} (h:∀ y∈c,y∈w):∀ e∈bY c,e∈bY w:=fun e he=>by
 unfold bY at he ⊢;obtain⟨y,hy,rfl⟩:=List.mem_map.1 he;exact List.mem_map_of_mem (h y hy)
theorem xK{s:Sys} {w c:List Lk} (hc:c∈dr s w) (h0:0<c.length):Less s w c:=by
 unfold dr at hc;rcases List.mem_cons.1 hc with rfl|hc
 ·have hl:w.dropLast.length=w.length - 1:=List.length_dropLast
  refine⟨fun h=>?_,by omega,vG fun y hy=>(List.dropLast_sublist w).subset hy⟩;obtain⟨a,r,rfl,h1,h2,h3⟩:=(oD s w).1 h;rw[List.length_cons]at hl h3;have hr:r≠[]:=fun e=>by rw[e]at hl;simp at hl;rw[e]at h0;simp at h0
  refine(oD s _).2 ⟨a,r.dropLast,List.dropLast_cons_of_ne_nil hr,h1,?_,by rw[hl];omega⟩;rw[List.dropLast_eq_take];exact vF _ _ _ h2
 rcases List.mem_append.1 hc with hc|hc
 ·split at hc
  ·rename_i h4
   rw[List.mem_singleton]at hc
   match w,h4 with
   | y :: z :: r,h4=>
    have hc:c=⟨z.x,-1⟩ :: r:=by rw[hc];rfl
    subst hc;refine⟨fun h=>?_,by simp,?_⟩
    ·obtain⟨a,r',e,h1,h2,h3⟩:=(oD s _).1 h
     injection e with e1 e2
     subst e2;obtain⟨a1,a2,_,_,_,a6⟩:=h2;exact(oD s _).2 ⟨z.x.toNat,r,by rw[show ((z.x.toNat:Nat):Int)=z.x by omega],a2,a6,by simp at h3 ⊢;omega⟩
    ·intro e he
     simp only[bY,List.map_cons,List.mem_cons]at he ⊢;exact .inr he
  ·simp at hc
 ·obtain⟨i,hi,hc⟩:=List.mem_flatMap.1 hc
  obtain⟨j,hj,hc⟩:=List.mem_filterMap.1 hc;have hi:=List.mem_range.1 hi;have hj:=List.mem_range.1 hj;have wT:w.length - 1 - j<w.length:=by omega
  have jw:i+2<=w.length - 1 - j:=by omega
  generalize w.length - 1 - j=k at hc wT jw;clear hj;unfold l3 at hc;split at hc
  ·rename_i gw
   injection hc with hc
   subst hc;refine⟨fun h=>?_,by simp;omega,fun e he=>?_⟩
   ·obtain⟨a,r,rfl,h1,h2,h3⟩:=(oD s w).1 h
    obtain⟨b1,b2,b3⟩:=uj gw;have fM:k<=r.length:=by simp at wT;omega
    have Pv:i<=r.length:=by omega
    have e1:=end_at r a i Pv;have e2:=end_at r a k fM
    have cS:0<=(((⟨a,-1⟩:Lk) :: r).getD k default).x/\(((⟨a,-1⟩:Lk) :: r).getD k default).x.toNat<eS s:=by
     obtain⟨k',rfl⟩:∃ k',k=k'+1:=⟨k - 1,by omega⟩;have h4:=(rQ s r ⟨a,-1⟩).1 (by dsimp only;rw[Int.toNat_natCast];exact h2) k' (by omega);unfold linkE at h4;split at h4
     ·omega
     ·omega
    refine(oD s _).2 ⟨a,r.take i++⟨(((⟨a,-1⟩:Lk) :: r).getD k default).x,byP s (((⟨a,-1⟩:Lk) :: r).getD i default).x.toNat (((⟨a,-1⟩:Lk) :: r).getD k default).x.toNat⟩ :: r.drop k,rfl,h1,?_,by simp at h3 wT ⊢;omega⟩;refine xI _ _ _ (vF _ _ _ h2) ⟨cS.1,cS.2,b1,b2,?_,?_⟩
    ·rw[e1];exact b3
    ·have h5:=BD r a k h2
     rw[e2]at h5;exact h5
   ·unfold bY at he
    rw[List.map_append,List.map_cons]at he;rcases List.mem_append.1 he with he|he
    ·exact vG (c:=w.take (i+1)) (fun y hy=>List.mem_of_mem_take hy) e he
    ·rcases List.mem_cons.1 he with rfl|he
     ·exact NE w k wT
     ·exact vG (c:=w.drop (k+1)) (fun y hy=>List.mem_of_mem_drop hy) e he
  ·cases hc
theorem mz{s:Sys} {w c:List Lk} (h:nextW s w=some c):c∈dr s w/\0<c.length/\contraB s c=true/\Less s w c:=by
 have h1:=List.mem_of_find?_eq_some h;have h2:=List.find?_some h;unfold dB at h2;simp only[Bool.and_eq_true,decide_eq_true_eq]at h2;exact⟨h1,h2.1,h2.2,xK h1 h2.1⟩
theorem zZ(s:Sys):∀ (k:Nat) (w:List Lk),w.length<=k->lJ s (k+1) w=lJ s k w
 | 0,w,h=>by
  show (match nextW s w with|some c=>lJ s 0 c|none=>w)=w
  cases hn:nextW s w with
  | none=>rfl
  | some c=>have:=(mz hn).2.2.2.len;omega
 | k+1,w,h=>by
  show (match nextW s w with|some c=>lJ s (k+1) c|none=>w)=match nextW s w with|some c=>lJ s k c|none=>w
  cases hn:nextW s w with
  | none=>rfl
  | some c=>exact zZ s k c (by have:=(mz hn).2.2.2.len;omega)
theorem NF(s:Sys) (w:List Lk) (k:Nat) (h:w.length<=k):lJ s k w=fW s w:=by
 obtain⟨d,rfl⟩:∃ d,k=w.length+d:=⟨k - w.length,by omega⟩;clear h;induction d with
 | zero=>rfl
 | succ d ih=>rw[<-ih];exact zZ s (w.length+d) w (by omega)
theorem BE{s:Sys} {w:List Lk} (h:nextW s w=none):fW s w=w:=by
 unfold fW;cases w.length with
 | zero=>rfl
 | succ k=>rw[lJ,h]
theorem BF{s:Sys} {w c:List Lk} (h:nextW s w=some c):fW s w=fW s c:=by
 have hl:=(mz h).2.2.2.len;unfold fW;obtain⟨k,hk⟩:∃ k,w.length=k+1:=⟨w.length - 1,by omega⟩;rw[hk,lJ,h];exact NF s c k (by omega)
theorem mW(s:Sys) (w:List Lk) (i:Nat):linkE s w i=0↔0<=(w.getD i default).x/\(w.getD i default).x.toNat<eS s/\(i=0->(w.getD i default).p=-1)/\(0<i->0<=(w.getD i default).p/\(w.getD i default).p<nS s/\linkB s (w.getD i default).p.toNat (w.getD (i - 1) default).x.toNat (w.getD i default).x.toNat=true):=by
 unfold linkE;generalize w.getD i default=y;generalize w.getD (i - 1) default=z;constructor
 ·intro h
  split at h
  ·omega
  split at h
  ·split at h
   ·omega
   ·exact⟨by omega,by omega,fun _=>by omega,fun h'=>by omega⟩
  ·split at h
   ·omega
   split at h
   ·rename_i h1;exact⟨by omega,by omega,fun h'=>by omega,fun _=>⟨by omega,by omega,h1⟩⟩
   ·omega
 ·rintro⟨h1,h2,h3,h4⟩
  rw[if_neg (by omega)];split
  ·rename_i h5;rw[if_neg (by have:=h3 h5;omega)]
  ·rename_i h5
   obtain⟨h6,h7,h8⟩:=h4 (by omega);rw[if_neg (by omega),if_pos h8]
theorem qM(s:Sys) (w:List Lk):walkE s w=0↔0<w.length/\w.length<=4096/\∀ i,i<w.length->linkE s w i=0:=by
 unfold walkE;constructor
 ·intro h
  split at h
  ·omega
  split at h
  ·omega
  ·exact⟨by omega,by omega,eV h⟩
 ·rintro⟨h1,h2,h3⟩
  rw[if_neg (by omega),if_neg (by omega),cH _ _ h3]
theorem vH(s:Sys) (e:Nat) (he:e<eS s):(dm s).getD e 0=comB s (eG (aO s) ((aO s).getD e 0)):=by simp[dm,he]
end Go.Proofs.YtmeaoneaephjeaaGreatDoor
namespace Go.Proofs.YtmeaoneaephjeaaGreatDoor
open Go.RowKit Go Go.Shelf
def GI(w:World) (b o:Nat) (x:Lk):Prop:=fU w b o x.x/\fU w b (o+1) x.p
theorem up_link:Up GI:=fun _ _ _ _ _ hb h=>⟨up_int _ _ _ _ _ hb h.1,up_int _ _ _ _ _ hb h.2⟩
abbrev aU:=eM 2 GI
abbrev Lk.c(y:Lk):Array Value:=#[.int .i64 y.x,.int .i64 y.p]
abbrev Lk.v(y:Lk):Value:=.agg y.c
def bF(l:List Lk):List Value:=l.flatMap fun y=>y.c.toList
theorem eY(xs:List Lk):(bF xs).length=xs.length * 2:=by
 induction xs with
 | nil=>rfl
 | cons a r ih=>
  have:bF (a :: r)=a.c.toList++bF r:=rfl;rw[this,List.length_append,ih];simp;omega
theorem jj(a b:List Lk):bF (a++b)=bF a++bF b:=by simp[bF]
theorem mX(xs:List Lk):∀ u∈bF xs,u.oneCell'=true:=by
 intro u hu;obtain⟨x,_,hx⟩:=List.mem_flatMap.1 hu;simp at hx;rcases hx with h|h<;>subst h<;>rfl
def fc(s:Sys) (e:Nat):List Int:=(List.range (nS s)).map fun p=>if hasB (fltS s e) p then -1 else finS s e p
def q6(s:Sys):List (List Int):=(List.range (eS s)).map (fc s)
def Do(s:Sys):List Int:=(List.range (eS s)).map fun e=>((gV s e:Nat):Int)
structure FinAt (w:World) (B:Nat) (s:Sys):Prop where
 ex:∃ vl,w.heap[B]?=some (.cells #[.int .i64 (nS s),vl] 201)/\dR w vl (q6 s)
theorem FinAt.up{w w':World} {B:Nat} {s:Sys} (h:FinAt w B s) (hb:Below w.heap.size w w'):FinAt w' B s:=by
 obtain⟨vl,h1,h2⟩:=h.ex;exact⟨vl,af hb h1,h2.up up_ints hb⟩
structure ScAt (w:World) (B:Nat) (s:Sys):Prop where
 ex:∃ vc vs vt ve vv vl,w.heap[B]?=some (.cells (bE s.prob vc vs s.n vt ve++#[vv,vl]) 98)/\IsSys w s vc vs vt ve/\aY w vv (Do s)/\aY w vl (aO s)
theorem ScAt.up{w w':World} {B:Nat} {s:Sys} (h:ScAt w B s) (hb:Below w.heap.size w w'):ScAt w' B s:=by
 obtain⟨vc,vs,vt,ve,vv,vl,h1,h2,h3,h4⟩:=h.ex;exact⟨vc,vs,vt,ve,vv,vl,af hb h1,h2.up hb,h3.up up_int hb,h4.up up_int hb⟩
end Go.Proofs.YtmeaoneaephjeaaGreatDoor
namespace Go.Proofs.YtmeaoneaephjeaaGreatDoor
open Go.ChangeShapes Go.WideShapes Go.ChangeAt Go.RowKit Go Go.Deep
section
variable {H : Type} {enc : TypeId × Value → H} {w : World}
theorem XP{l:List Value} (h:l.length=2):∃ c0 c1,l=[c0,c1]:=by
 match l,h with
 | [c0,c1],_=>exact⟨c0,c1,rfl⟩
theorem XQ{l:List Value} (h:l.length=3):∃ c0 c1 c2,l=[c0,c1,c2]:=by
 match l,h with
 | [c0,c1,c2],_=>exact⟨c0,c1,c2,rfl⟩
theorem XR{l:List Value} (h:l.length=5):∃ c0 c1 c2 c3 c4,l=[c0,c1,c2,c3,c4]:=by
 match l,h with
 | [c0,c1,c2,c3,c4],_=>exact⟨c0,c1,c2,c3,c4,rfl⟩
theorem XS{l:List Value} (h:l.length=8):∃ c0 c1 c2 c3 c4 c5 c6 c7,l=[c0,c1,c2,c3,c4,c5,c6,c7]:=by
 match l,h with
 | [c0,c1,c2,c3,c4,c5,c6,c7],_=>exact⟨c0,c1,c2,c3,c4,c5,c6,c7,rfl⟩
theorem XG{l:List Value} (h:l.length=10):∃ a c0 c1 c2,l=a++[c0,c1,c2]/\a.length=7:=by
 match l,h with
 | [b0,b1,b2,b3,b4,b5,b6,c0,c1,c2],_=>exact⟨[b0,b1,b2,b3,b4,b5,b6],c0,c1,c2,rfl,rfl⟩
theorem Tryz.cView:Tryz.prog.cellsOf 190=8:=by kernel_rfl
theorem Tryz.cHeard:Tryz.prog.cellsOf 137=5:=by kernel_rfl
theorem Tryz.cViews:Tryz.prog.cellsOf 30=1:=by kernel_rfl
theorem Tryz.cTable:Tryz.prog.cellsOf 32=2:=by kernel_rfl
theorem Tryz.cExec:Tryz.prog.cellsOf 89=3:=by kernel_rfl
theorem Tryz.cExecs:Tryz.prog.cellsOf 33=1:=by kernel_rfl
theorem Tryz.cRounds:Tryz.prog.cellsOf 87=1:=by kernel_rfl
theorem Tryz.cSystem:Tryz.prog.cellsOf 35=10:=by kernel_rfl
theorem Tryz.cLink:Tryz.prog.cellsOf 75=2:=by kernel_rfl
theorem Tryz.cLinks:Tryz.prog.cellsOf 54=1:=by kernel_rfl
theorem opn_view:tY enc w 190 8 Bv:=fun fuel cs x b off h hz hc=>by
 obtain⟨hl,n,hf⟩:=gy Tryz.underlying190 h hz;rw[Tryz.cView]at hl;obtain⟨c0,c1,c2,c3,c4,c5,c6,c7,rfl⟩:=XS hl;obtain⟨y0,r0,_⟩:=hf 0 _ rfl;obtain⟨y1,r1,_⟩:=hf 1 _ rfl;obtain⟨y2,r2,_⟩:=hf 2 _ rfl;obtain⟨y3,r3,_⟩:=hf 3 _ rfl;change fA enc w n 3 (([c0,c1,c2,c3,c4,c5,c6,c7].drop 0).take (Tryz.prog.cellsOf 3)) y0 at r0;change fA enc w n 3 (([c0,c1,c2,c3,c4,c5,c6,c7].drop 1).take (Tryz.prog.cellsOf 3)) y1 at r1;change fA enc w n 3 (([c0,c1,c2,c3,c4,c5,c6,c7].drop 2).take (Tryz.prog.cellsOf 3)) y2 at r2;change fA enc w n 137 (([c0,c1,c2,c3,c4,c5,c6,c7].drop 3).take (Tryz.prog.cellsOf 137)) y3 at r3;rw[Tryz.cInt]at r0 r1 r2;rw[Tryz.cHeard]at r3;obtain⟨m0,e0,_,w0⟩:=DataW.trod_int Tryz.underlying3 r0;obtain⟨m1,e1,_,w1⟩:=DataW.trod_int Tryz.underlying3 r1;obtain⟨m2,e2,_,w2⟩:=DataW.trod_int Tryz.underlying3 r2;have ha:=(xp (enc:=enc) (w:=w) Tryz.underlying137 Tryz.underlying3 Tryz.cInt Tryz.cHeard _ _ _ r3).2;obtain⟨m3,e3,w3⟩:=ha 0 (by omega);obtain⟨m4,e4,w4⟩:=ha 1 (by omega);obtain⟨m5,e5,w5⟩:=ha 2 (by omega);obtain⟨m6,e6,w6⟩:=ha 3 (by omega);obtain⟨m7,e7,w7⟩:=ha 4 (by omega);simp at e0 e1 e2 e3 e4 e5 e6 e7;subst e0 e1 e2 e3 e4 e5 e6 e7;exact⟨⟨m0,m1,m2,m3,m4,m5,m6,m7⟩,⟨hc 0 (by omega),mR w0⟩,⟨hc 1 (by omega),mR w1⟩,⟨hc 2 (by omega),mR w2⟩,⟨hc 3 (by omega),w3⟩,⟨hc 4 (by omega),w4⟩,⟨hc 5 (by omega),w5⟩,⟨hc 6 (by omega),w6⟩,hc 7 (by omega),w7⟩
theorem opn_ex:tY enc w 89 3 Qg:=fun fuel cs x b off h hz hc=>by
 obtain⟨hl,n,hf⟩:=gy Tryz.underlying89 h hz;rw[Tryz.cExec]at hl;obtain⟨c0,c1,c2,rfl⟩:=XQ hl;obtain⟨y0,r0,_⟩:=hf 0 _ rfl;obtain⟨y1,r1,z1⟩:=hf 1 _ rfl;obtain⟨y2,r2,z2⟩:=hf 2 _ rfl;change fA enc w n 3 (([c0,c1,c2].drop 0).take (Tryz.prog.cellsOf 3)) y0 at r0;change fA enc w n 87 (([c0,c1,c2].drop 1).take (Tryz.prog.cellsOf 87)) y1 at r1;change fA enc w n 56 (([c0,c1,c2].drop 2).take (Tryz.prog.cellsOf 56)) y2 at r2;change lH 87 y1.1 at z1;change lH 56 y2.1 at z2;rw[Tryz.cInt]at r0;rw[Tryz.cRounds]at r1;rw[Tryz.cVecs]at r2;obtain⟨m0,e0,_,w0⟩:=DataW.trod_int Tryz.underlying3 r0;obtain⟨v1,l1,e1,g1⟩:=mq Tryz.underlying87 Tryz.cRound (by omega) (of_decide_eq_true (by kernel_rfl)) opn_round r1 z1;obtain⟨v2,l2,e2,g2⟩:=mq Tryz.underlying56 Tryz.cInts (by omega) (of_decide_eq_true (by kernel_rfl)) opn_ints r2 z2;simp at e0 e1 e2;subst e0 e1 e2;exact⟨⟨m0,l1,l2⟩,⟨hc 0 (by omega),mR w0⟩,⟨_,hc 1 (by omega),g1⟩,⟨_,hc 2 (by omega),g2⟩⟩
theorem opn_link:tY enc w 75 2 GI:=fun fuel cs x b off h hz hc=>by
 obtain⟨hl,n,hf⟩:=gy Tryz.underlying75 h hz;rw[Tryz.cLink]at hl;obtain⟨c0,c1,rfl⟩:=XP hl;obtain⟨y0,r0,_⟩:=hf 0 _ rfl;obtain⟨y1,r1,_⟩:=hf 1 _ rfl;change fA enc w n 3 (([c0,c1].drop 0).take (Tryz.prog.cellsOf 3)) y0 at r0;change fA enc w n 3 (([c0,c1].drop 1).take (Tryz.prog.cellsOf 3)) y1 at r1;rw[Tryz.cInt]at r0 r1;obtain⟨m0,e0,_,w0⟩:=DataW.trod_int Tryz.underlying3 r0;obtain⟨m1,e1,_,w1⟩:=DataW.trod_int Tryz.underlying3 r1;simp at e0 e1;subst e0 e1;exact⟨⟨m0,m1⟩,⟨hc 0 (by omega),mR w0⟩,⟨hc 1 (by omega),mR w1⟩⟩
theorem Qs{fuel:Nat} {cs:List Value} {x:DataW H × List MemPlace} (h:fA enc w fuel 35 cs x) (hz:lH 35 x.1) :
  ∃ (s:Sys) (vc vs vt ve:Value),cs=(bE s.prob vc vs s.n vt ve).toList/\IsSys w s vc vs vt ve:=by
 obtain⟨hl,n,hf⟩:=gy Tryz.underlying35 h hz;rw[Tryz.cSystem]at hl;obtain⟨a,c0,c1,c2,rfl,ha⟩:=XG hl;obtain⟨y0,r0,z0⟩:=hf 0 _ rfl;obtain⟨y1,r1,z1⟩:=hf 1 _ rfl;obtain⟨y2,r2,z2⟩:=hf 2 _ rfl;change fA enc w n 29 (((a++[c0,c1,c2]).drop 0).take (Tryz.prog.cellsOf 29)) y0 at r0;change fA enc w n 32 (((a++[c0,c1,c2]).drop 7).take (Tryz.prog.cellsOf 32)) y1 at r1;change fA enc w n 33 (((a++[c0,c1,c2]).drop 9).take (Tryz.prog.cellsOf 33)) y2 at r2;change lH 29 y0.1 at z0;change lH 32 y1.1 at z1;change lH 33 y2.1 at z2;rw[Tryz.cProb,List.drop_zero,<-ha,List.take_left']at r0
 rotate_left
 ·rfl
 rw[Tryz.cTable,<-ha,List.drop_left']at r1
 rotate_left
 ·rfl
 rw[Tryz.cExecs,show 9=a.length+2 by omega,List.drop_append]at r2;simp at r1 r2;obtain⟨p,vc,vs,rfl,g1,g2⟩:=Nd r0 z0;obtain⟨_,n1,ez⟩:=gy Tryz.underlying32 r1 z1;obtain⟨u0,s0,_⟩:=ez 0 _ rfl;obtain⟨u1,s1,q1⟩:=ez 1 _ rfl;change fA enc w n1 3 (([c0,c1].drop 0).take (Tryz.prog.cellsOf 3)) u0 at s0;change fA enc w n1 30 (([c0,c1].drop 1).take (Tryz.prog.cellsOf 30)) u1 at s1;change lH 30 u1.1 at q1;rw[Tryz.cInt]at s0;rw[Tryz.cViews]at s1;obtain⟨m0,e0,_,w0⟩:=DataW.trod_int Tryz.underlying3 s0;obtain⟨v1,l1,e1,g3⟩:=mq Tryz.underlying30 Tryz.cView (by omega) (of_decide_eq_true (by kernel_rfl)) opn_view s1 q1;obtain⟨v2,l2,e2,g4⟩:=mq Tryz.underlying33 Tryz.cExec (by omega) (of_decide_eq_true (by kernel_rfl)) opn_ex r2 z2;simp at e0 e1 e2;subst e0 e1 e2;exact⟨⟨p,m0,l1,l2⟩,vc,vs,_,_,rfl,g1,g2,g3,g4⟩
theorem NG{fuel:Nat} {cs:List Value} {x:DataW H × List MemPlace} (h:fA enc w fuel 58 cs x) (hz:lH 58 x.1) :
  ∃ (c:Ct) (vw:Value) (pv:Option Addr) (cv:Nat) (pl:Option Addr) (cl:Nat) (pp:Option Addr) (cp:Nat),cs=[.int .i64 c.kind,vw,.slice pv c.nv cv,.slice pl c.nl cl,.slice pp c.np cp]/\aU w vw c.walk:=by
 obtain⟨hl,n,hf⟩:=gy Tryz.underlying58 h hz;rw[show Tryz.prog.cellsOf 58=5 by kernel_rfl]at hl;obtain⟨c0,c1,c2,c3,c4,rfl⟩:=XR hl;obtain⟨y0,r0,_⟩:=hf 0 _ rfl;obtain⟨y1,r1,z1⟩:=hf 1 _ rfl;obtain⟨y2,r2,_⟩:=hf 2 _ rfl;obtain⟨y3,r3,_⟩:=hf 3 _ rfl;obtain⟨y4,r4,_⟩:=hf 4 _ rfl;change fA enc w n 3 (([c0,c1,c2,c3,c4].drop 0).take (Tryz.prog.cellsOf 3)) y0 at r0;change fA enc w n 54 (([c0,c1,c2,c3,c4].drop 1).take (Tryz.prog.cellsOf 54)) y1 at r1;change fA enc w n 38 (([c0,c1,c2,c3,c4].drop 2).take (Tryz.prog.cellsOf 38)) y2 at r2;change fA enc w n 55 (([c0,c1,c2,c3,c4].drop 3).take (Tryz.prog.cellsOf 55)) y3 at r3;change fA enc w n 56 (([c0,c1,c2,c3,c4].drop 4).take (Tryz.prog.cellsOf 56)) y4 at r4;change lH 54 y1.1 at z1;rw[Tryz.cInt]at r0;rw[Tryz.cLinks]at r1;rw[Tryz.cInts]at r2;rw[show Tryz.prog.cellsOf 55=1 by kernel_rfl]at r3;rw[Tryz.cVecs]at r4
 have sl:∀ {t e:TypeId} {n:Nat} {c:Value} {y:DataW H × List MemPlace},Tryz.prog.underlying t=some (.slice e)->fA enc w n t [c] y->∃ p n c',c=.slice p n c':=fun hu hr=>by
  rcases open_slice hu hr with ⟨e1,_⟩|⟨a,len,cap,m,n,D,Pl,e1,_⟩
  ·simp at e1;exact⟨_,_,_,e1⟩
  ·simp at e1;exact⟨_,_,_,e1⟩
 obtain⟨m0,e0,_,w0⟩:=DataW.trod_int Tryz.underlying3 r0;obtain⟨v1,l1,e1,g1⟩:=mq Tryz.underlying54 Tryz.cLink (by omega) (of_decide_eq_true (by kernel_rfl)) opn_link r1 z1;obtain⟨p2,n2,k2,rfl⟩:=sl Tryz.underlying38 r2;obtain⟨p3,n3,k3,rfl⟩:=sl Tryz.underlying55 r3;obtain⟨p4,n4,k4,rfl⟩:=sl Tryz.underlying56 r4;simp at e0 e1;subst e0 e1;exact⟨⟨m0,l1,n2,n3,n4⟩,_,p2,k2,p3,k3,p4,k4,rfl,g1⟩
end
end Go.Proofs.YtmeaoneaephjeaaGreatDoor
namespace Go.Proofs.YtmeaoneaephjeaaGreatDoor
open Go.RowKit Go Go.Shelf
attribute [local go_sem] Oper.semAt_some
abbrev ii(w:World):Prop:=TabAt 1 Lib.deBruijn64tab w
theorem ii.up{w w':World} (h:ii w) (hb:Below w.heap.size w w'):ii w':=fun j hj=>ai hb (h j hj)
theorem ii.keep{w w':World} (h:ii w) (hb:iZ w.heap.size w w'):ii w':=fun j hj=>hb.cell (h j hj)
theorem Uf(x k idx:Nat) (w:World) (cS:((x:Int) == 0)=false)
  (key:IntKind.u64.wrap (bits BinOp.and IntKind.u64 (x:Int) (IntKind.u64.wrap (-(x:Int))) * 285870213051353865) / 288230376151711744=(idx:Int))
  (hi:idx<64) (hk:k<64) (eB:w.cell? ⟨1,idx,none⟩=some (.int .u8 k)) :
  Calls Tryz.prog 178 #[.int .u64 x] w fun e w'=>e=.returned (.int .i64 k)/\w=w':=by
 go_enter Tryz.func178,Tryz.ntmps178
 go_wp2_with (simp only[key])
 go_ret
 exact⟨rfl,rfl⟩
def vI(l:List Int):List Value:=l.map (Value.int .i64)
theorem aD.ints{w:World} {base:Nat} {v:Value} {l:List Int} (h:aD w base 3 1 v l.length (vI l)) (hl:l.length<=1048576) (hr:∀ x∈l,bI x):aY w v l:=by
 rcases h.2 with ⟨rfl,h0⟩|⟨g,cap,cur,fz,rfl,_,hg,_,jO,pT,_,ht⟩
 ·have:l=[]:=List.eq_nil_of_length_eq_zero h0
  subst this;exact⟨none,0,rfl,⟨by simp,by omega,fun _=>rfl⟩,by simp,fun i x hx=>by simp at hx⟩
 ·refine⟨some ⟨g,0,none⟩,cap,rfl,⟨jO,by unfold maxLen at pT;omega,fun e=>by cases e⟩,by omega,fun i x hx=>⟨g,0,rfl,?_,hr x (List.mem_of_getElem? hx)⟩⟩
  rw[Nat.zero_add,Nat.mul_one,ab hg];have h1:(vI l)[i]?=some (.int .i64 x):=by unfold vI;rw[List.getElem?_map,hx];rfl
  rw[<-ht,List.getElem?_take]at h1;split at h1
  ·simpa using h1
  ·cases h1
end Go.Proofs.YtmeaoneaephjeaaGreatDoor
namespace Go.Proofs.YtmeaoneaephjeaaGreatDoor
open Go.ChangeShapes Go.WideShapes Go.ChangeAt Go.WideMaps Go.WideElems Go.RowKit Go
set_option linter.unusedVariables false
abbrev BG {H : Type} : List (String × DataW H) := [("math/bits.deBruijn32tab", Rows.laid_math_bits_deBruijn32tab), ("math/bits.deBruijn64tab", Rows.laid_math_bits_deBruijn64tab)]
theorem Tryz.g64 : Tryz.prog.globalNamed "math/bits.deBruijn64tab" = some 1 := by kernel_rfl
theorem Tryz.t64:(Tryz.prog.globals[1]?).map (·.type)=some 268:=by kernel_rfl
theorem Tryz.cU8:Tryz.prog.cellsOf 5=1:=by kernel_rfl
theorem Qt(os:Os) (args:Array Value):laidMetH Tryz.prog BG ((World.doorLaid Tryz.prog 400 os).forCall (fun _ _=>0) ⟨#[],args,[]⟩).memory:=
 laidMetH_of_parts3 (fuel:=8) (laidMet_of_run' 8 (by kernel_rfl) (by kernel_rfl)) (by kernel_rfl) (by kernel_rfl)
theorem XH{H:Type}:(Rows.laid_math_bits_deBruijn64tab:DataW H)=.agg (Lib.deBruijn64tab.map fun n:Nat=>.lit (.int .u8 ((n:Nat):Int))):=rfl
theorem Qu{H:Type} (tab:List Nat) (i:Nat) (hi:i<tab.length) (m:Int) (h:(tab.map fun n:Nat=>(DataW.lit (.int .u8 ((n:Nat):Int)):DataW H))[i]?=some (.lit (.int .u8 m))):m=((tab.getD i 0:Nat):Int):=by
 rw[List.getElem?_map,List.getElem?_eq_getElem hi]at h;rw[ap 0 hi];injection h with h
 injection h with h
 injection h with _ h
 exact h.symm
theorem Ug{W:World} (h:laidMetH Tryz.prog BG W):ii W:=by
 rw[MakeChecks.laidMetH_plain _ _ _ (by kernel_rfl)]at h;obtain⟨ps,⟨g1,t1,cs1,f1,p1,q1,_,_,_,_,⟨g0,t0,cs0,f0,p0,q0,sO,ht0,TA,K4,_⟩,_⟩,_⟩:=h;obtain rfl:=cU (Tryz.g64.symm.trans sO);obtain rfl:=cU (Tryz.t64.symm.trans ht0);rw[XH]at K4;obtain⟨xs,m1,rfl,dj,cK,ic,jr⟩:=DataW.trod_array Tryz.underlying268 K4;simp only[Prod.mk.injEq,DataW.agg.injEq]at dj;intro i hi;have hi64:i<64:=hi;have h2:=jr i hi;rw[Tryz.cU8,Nat.mul_one,List.getElem?_eq_getElem (by omega)]at h2;obtain⟨m,e1,e2,_⟩:=DataW.trod_int Tryz.underlying5 h2;have hc:=World.var?_cell sO TA i;have h3:((cs0.toList.drop i).take 1)[0]?=cs0[i]?:=by simp
 rw[e1]at h3;have h4:cs0[i]?=some (.int .u8 m):=h3.symm.trans rfl;rw[h4]at hc;rw[hc]
 have h5:(xs.map (·.1))[i]?=some (.lit (.int .u8 m)):=by
  rw[List.getElem?_map,List.getElem?_eq_getElem (by omega),e2];rfl
 rw[<-dj.1]at h5;rw[Qu _ i hi m h5]
theorem Tryz.own:ownKnob Tryz.prog.godebug=none:=by kernel_rfl
theorem Tryz.laidOut:laidOutB Tryz.prog=true:=by kernel_rfl
end Go.Proofs.YtmeaoneaephjeaaGreatDoor
namespace Go.Proofs.YtmeaoneaephjeaaGreatDoor
open Go.RowKit Go Go.Shelf
theorem Qv{n k:Nat} {p:Nat->Bool} (hk:k<n) (h:p k=true):anyLt n p=true:=dV n k p hk h
def bz(D:Nat->Bool) (i:Nat):Nat->Bool:=fun j=>if j=i then true else D j
theorem xL(D:Nat->Bool) (i:Nat) (hi:D i=false) (l:List Nat):l.countP (fun j=>!bz D i j)+(if i∈l then 1 else 0)<=l.countP (fun j=>!D j):=by
 induction l with
 | nil=>simp
 | cons x t ih=>
  rw[List.countP_cons,List.countP_cons];by_cases hx:x=i
  ·subst hx
   have h1:(!bz D x x)=false:=by simp[bz]
   have h2:(!D x)=true:=by simp[hi]
   rw[h1,h2];simp only[List.mem_cons,true_or,if_true]
   have:t.countP (fun j=>!bz D x j)<=t.countP (fun j=>!D j):=by
    refine Nat.le_trans ?_ ih;omega
   simp;omega
  ·have h1:(!bz D i x)=!D x:=by simp[bz,hx]
   rw[h1]
   have hm:(if i∈x :: t then 1 else 0)=(if i∈t then 1 else 0):=by
    have:i∈x :: t↔i∈t:=by simp[Ne.symm hx]
    simp only[this]
   rw[hm];omega
def vJ(ops:Array Oper) (n:Nat):Bool:=
 (List.range (n+1)).all (fun i=>match ops[i]? with|some o=>o.after.all fun e=>decide (e.on<i)|none=>false) &&
 (List.range n).all (fun j=>match ops[n]? with|some o=>o.after.any fun e=>Region.binds .any e&&decide (e.on=j)|none=>false)
theorem BH{ops:Array Oper} {n:Nat} (h:vJ ops n=true) {i:Nat} {o:Oper} (hi:i<n+1) (ho:ops[i]?=some o):∀ e∈o.after,e.on<i:=by
 simp only[vJ,Bool.and_eq_true,List.all_eq_true]at h;have:=h.1 i (List.mem_range.2 hi);rw[ho]at this;intro e he;have:=Array.all_eq_true'.1 this e he;simpa using this
theorem Lu{ops:Array Oper} {n:Nat} (h:vJ ops n=true) {o:Oper} (ho:ops[n]?=some o) {j:Nat} (hj:j<n):∃ e∈o.after,Region.binds .any e=true/\e.on=j:=by
 simp only[vJ,Bool.and_eq_true,List.all_eq_true]at h;have:=h.2 j (List.mem_range.2 hj);rw[ho]at this;obtain⟨e,he,h2⟩:=Array.any_eq_true'.1 this;simp at h2;exact⟨e,he,h2.1,h2.2⟩
theorem dW{P:Program} {ops:Array Oper} {Q:Exit->Act->World->Prop} {i:Nat} {K K':Act->World->Prop} {a:Act} {w:World} (h:∀ a w,K a w->K' a w) (hh:wpOp P ops Q i K a w):wpOp P ops Q i K' a w:=by
 unfold wpOp at hh ⊢;split at hh
 ·exact h _ _ hh
 ·split at hh
  ·rename_i hw
   rw[if_pos hw];rcases hh with hh|hh
   ·exact .inl (Oper.wp_mono h hh)
   ·exact .inr hh
  ·rename_i hw
   rw[if_neg hw];exact h _ _ hh
theorem Lv{P:Program} {ops:Array Oper} {Q:Exit->Act->World->Prop} {n:Nat} (hn:ops.size=n+1) (hB:vJ ops n=true) (Inv:(Nat->Bool)->Act->World->Prop)
  (dC:∀ D a w i o,i<n->ops[i]?=some o->D i=false->(∀ e∈o.after,Region.binds .any e=true->D e.on=true)->Inv D a w->wpOp P ops Q i (fun a' w'=>Inv (bz D i) a' w') a w)
  (gY:∀ D a w,(∀ j,j<n->D j=true)->Inv D a w->wpOp P ops Q n (fun a' w'=>Q .normal a' w') a w) :
  ∀ (fuel:Nat) (L:Array Bool) (a:Act) (w:World),L.size=n+1->(List.range (n+1)).countP (fun j=>!L.getD j false)<=fuel →
   ((L.getD n true=false/\Inv (fun j=>L.getD j false) a w)\/((∀ j,j<n+1->L.getD j false=true)/\Q .normal a w))->wpAny P .any ops Q fuel L a w:=by
 intro fuel;induction fuel with
 | zero=>
  rintro L a w hL hc (⟨h1,_⟩|⟨h1,h2⟩)
  ·have h3:(List.range (n+1)).countP (fun j=>!L.getD j false)=0:=by omega
   rw[List.countP_eq_zero]at h3;have:=h3 n (List.mem_range.2 (by omega));rw[show L.getD n false=L.getD n true by simp[Array.getD,hL]]at this;rw[h1]at this;simp at this
  ·refine⟨?_,h2⟩
   refine List.eq_nil_iff_forall_not_mem.2 fun j hj=>?_
   obtain⟨xl,o,ho,_⟩:=mem_ready.1 hj;have uE:j<n+1:=by have:=(Array.getElem?_eq_some_iff.1 ho).1;omega
   have:=h1 j uE;rw[show L.getD j false=L.getD j true by simp[Array.getD,hL,uE]]at this;rw[xl]at this;cases this
 | succ fuel ih=>
  rintro L a w hL hc (⟨h1,h2⟩|⟨h1,h2⟩)
  ·have hDn:L.getD n false=false:=by rw[show L.getD n false=L.getD n true by simp[Array.getD,hL]];exact h1
   refine⟨fun hr=>?_,fun i hi=>?_⟩
   ·exfalso
    have key:∀ j,j<n+1->L.getD j false=true:=by
     intro j;induction j using Nat.strongRecOn with
     | ind j ihj=>
      intro hj;cases hv:L.getD j false with
      | true=>rfl
      | false=>
       exfalso;obtain⟨o,ho⟩:∃ o,ops[j]?=some o:=⟨ops[j]'(by omega),Array.getElem?_eq_getElem _⟩
       have:j∈Region.ready .any ops L:=mem_ready.2 ⟨by rw[show L.getD j true=L.getD j false by simp[Array.getD,hL,hj]];exact hv,o,ho,fun e he _=>by
        have:=BH hB hj ho e he
        exact ihj e.on this (by omega)⟩
       rw[hr]at this;cases this
    have:=key n (by omega);rw[hDn]at this;cases this
   ·obtain⟨n8,o,ho,aj⟩:=mem_ready.1 hi
    have cP:i<n+1:=by have:=(Array.getElem?_eq_some_iff.1 ho).1;omega
    have E':L.getD i false=false:=by rw[show L.getD i false=L.getD i true by simp[Array.getD,hL,cP]];exact n8
    have tU:(fun j=>(L.setIfInBounds i true).getD j false)=bz (fun j=>L.getD j false) i:=by
     funext j
     unfold bz;by_cases pW:j=i
     ·subst pW;simp[Array.getD,hL,cP]
     ·rw[if_neg pW]
      simp only[Array.getD,Array.size_setIfInBounds];split
      ·exact Array.getElem_setIfInBounds_ne _ (Ne.symm pW)
      ·rfl
    have nF:(List.range (n+1)).countP (fun j=>!(L.setIfInBounds i true).getD j false)<=fuel:=by
     have h3:=xL (fun j=>L.getD j false) i E' (List.range (n+1));rw[if_pos (List.mem_range.2 cP)]at h3
     have h4:(fun j=>!(L.setIfInBounds i true).getD j false)=fun j=>!bz (fun j=>L.getD j false) i j:=by
      funext j;rw[<-tU]
     rw[h4];omega
    by_cases az:i<n
    ·refine dW (fun a' w' h=>ih (L.setIfInBounds i true) a' w' (by simpa using hL) nF (.inl ⟨?_,by rw[tU];exact h⟩)) (dC (fun j=>L.getD j false) a w i o az ho E' aj h2)
     have h5:=congrFun tU n;unfold bz at h5;rw[if_neg (by omega)]at h5;dsimp only at h5;rw[hDn]at h5;rw[show (L.setIfInBounds i true).getD n true=(L.setIfInBounds i true).getD n false by simp[Array.getD,hL]];exact h5
    ·obtain rfl:i=n:=by omega
     have aP:∀ j,j<i->L.getD j false=true:=fun j hj=>by
      obtain⟨e,he,hb,rfl⟩:=Lu hB ho hj;exact aj e he hb
     refine dW (fun a' w' h=>ih (L.setIfInBounds i true) a' w' (by simpa using hL) nF (.inr ⟨fun j hj=>?_,h⟩)) (gY (fun j=>L.getD j false) a w aP h2);have:=congrFun tU j;rw[this];unfold bz;by_cases pW:j=i
     ·simp[pW]
     ·rw[if_neg pW];exact aP j (by omega)
  ·have hr:Region.ready .any ops L=[]:=by
    refine List.eq_nil_iff_forall_not_mem.2 fun j hj=>?_
    obtain⟨xl,o,ho,_⟩:=mem_ready.1 hj;have uE:j<n+1:=by have:=(Array.getElem?_eq_some_iff.1 ho).1;omega
    have:=h1 j uE;rw[show L.getD j false=L.getD j true by simp[Array.getD,hL,uE]]at this;rw[xl]at this;cases this
   exact⟨fun _=>h2,fun i hi=>by rw[hr]at hi;cases hi⟩
theorem Dp{P:Program} {id:Nat} {l:List Oper} {Q:Exit->Act->World->Prop} {a:Act} {w:World} (n:Nat) (hm:P.follows .mixedOrders=true) (hn:l.toArray.size=n+1) (hB:vJ l.toArray n=true) (Inv:(Nat->Bool)->Act->World->Prop)
  (h0:Inv (fun _=>false) a w.drew)
  (dC:∀ D a w i o,i<n->l.toArray[i]?=some o->D i=false->(∀ e∈o.after,Region.binds .any e=true->D e.on=true)->Inv D a w->wpOp P l.toArray Q i (fun a' w'=>Inv (bz D i) a' w') a w)
  (gY:∀ D a w,(∀ j,j<n->D j=true)->Inv D a w->wpOp P l.toArray Q n (fun a' w'=>Q .normal a' w') a w):(Code.region id l.toArray true).wp P Q a w:=by
 refine wp_region_any hm ?_;refine Lv hn hB Inv dC gY _ _ _ _ (by rw[Array.size_replicate,hn]) ?_ (.inl ⟨?_,?_⟩)
 ·rw[hn];exact Nat.le_trans List.countP_le_length (by simp)
 ·simp[Array.getD,hn]
 ·have:(fun j=>(Array.replicate l.toArray.size false).getD j false)=fun _=>false:=by
   funext j
   simp only[Array.getD];split<;>simp
  rw[this];exact h0
theorem NH{P:Program} {o:Oper} {a:Act} {K next:Act->World->Prop} {Q:Exit->Act->World->Prop} {r:Result Next} (h:o.upon P a next (Exit.then K Q) r):o.upon P a next Q r:=by
 cases r with
 | ok x w'=>
  cases x with
  | enter f args=>
   refine Calls.mono h ?_;rintro e w'' he;cases e with
   | returned v=>exact he
   | panicked ch=>exact he
   | outgrown=>exact he
  | _=>exact h
 | halt x w'=>cases x<;>exact h
theorem js{P:Program} {ops:Array Oper} {Q:Exit->Act->World->Prop} {i:Nat} {o:Oper} {K:Act->World->Prop} {a:Act} {w:World} (ho:ops[i]?=some o)
  (h:wpList P ops (Exit.then K Q) [o] a w):wpOp P ops Q i K a w:=by
 unfold wpOp;rw[ho];unfold wpList at h;dsimp only;split at h
 ·rename_i hw
  rw[if_pos hw];rcases h with h|⟨h1,h2⟩
  ·exact .inl (NH h)
  ·exact .inr ⟨h1,h2⟩
 ·rename_i hw
  rw[if_neg hw];exact h
structure MP where
 p:Value->World->Prop
 up:∀ v W W',p v W->Below W.heap.size W W'->p v W'
def MP.any:MP:=⟨fun _ _=>True,fun _ _ _ _ _=>trivial⟩
def MP.eq(c:Value):MP:=⟨fun v _=>v=c,fun _ _ _ h _=>h⟩
def cA(x:Nat->Value) (i:Nat) (v:Value):Nat->Value:=fun j=>if j=i then v else x j
theorem ff(x:Nat->Value) (i:Nat) (v:Value):cA x i v i=v:=by simp[cA]
theorem fK(x:Nat->Value) {i j:Nat} (v:Value) (h:j≠i):cA x i v j=x j:=by simp[cA,h]
def cJ(x:Nat->Value):List Nat->Nat->Array Value->Array Value
 | [],_,T=>T
 | s :: r,j,T=>cJ x r (j+1) (T.setIfInBounds s (x j))
def bd(T:Array Value) (S:List Nat) (x:Nat->Value):Array Value:=cJ x S 0 T
theorem lL(x:Nat->Value) (S:List Nat):∀ (j:Nat) (T:Array Value) (k:Nat),k∉S->(cJ x S j T)[k]?=T[k]?:=by
 induction S with
 | nil=>intro j T k _;rfl
 | cons s r ih=>
  intro j T k hk;simp at hk;unfold cJ;rw[ih _ _ _ hk.2,Array.getElem?_setIfInBounds_ne (Ne.symm hk.1)]
theorem iJ(x:Nat->Value) (S:List Nat):∀ (j:Nat) (T:Array Value),(cJ x S j T).size=T.size:=by
 induction S with
 | nil=>intro j T;rfl
 | cons s r ih=>intro j T;unfold cJ;rw[ih];simp
theorem mY(x:Nat->Value) (S:List Nat) (hS:S.Nodup):∀ (j:Nat) (T:Array Value) (i s:Nat),S[i]?=some s->s<T.size->(cJ x S j T)[s]?=some (x (j+i)):=by
 induction S with
 | nil=>intro j T i s h;simp at h
 | cons s0 r ih=>
  intro j T i s h hs;rw[List.nodup_cons]at hS;unfold cJ;cases i with
  | zero=>
   simp at h;subst h;rw[lL _ _ _ _ _ hS.1,Array.getElem?_setIfInBounds_self_of_lt (by exact hs)];simp
  | succ i=>
   simp at h;rw[ih hS.2 (j+1) _ i s h (by simpa using hs)];congr 2;omega
theorem ij(T:Array Value) (S:List Nat) (hS:S.Nodup) (x:Nat->Value) (i s:Nat) (v:Value) (hi:S[i]?=some s):bd T S (cA x i v)=(bd T S x).setIfInBounds s v:=by
 unfold bd;apply Array.ext_getElem?;intro k;by_cases y9:k=s
 ·subst y9
  by_cases az:k<T.size
  ·rw[mY _ _ hS _ _ _ _ hi az,Array.getElem?_setIfInBounds_self_of_lt (by rw[iJ];exact az)]
   simp[cA]
  ·rw[Array.getElem?_eq_none (by rw[iJ];omega),Array.getElem?_eq_none (by rw[Array.size_setIfInBounds,iJ];omega)]
 ·rw[Array.getElem?_setIfInBounds_ne (Ne.symm y9)]
  by_cases hm:k∈S
  ·obtain⟨i',qo⟩:=List.mem_iff_getElem?.1 hm
   by_cases az:k<T.size
   ·rw[mY _ _ hS _ _ _ _ qo az,mY _ _ hS _ _ _ _ qo az]
    have:i'≠i:=fun e=>by subst e;rw[hi]at qo;exact y9 (cU qo).symm
    simp[cA,this]
   ·rw[Array.getElem?_eq_none (by rw[iJ];omega),Array.getElem?_eq_none (by rw[iJ];omega)]
  ·rw[lL _ _ _ _ _ hm,lL _ _ _ _ _ hm]
theorem it(T:Array Value) (S:List Nat) (hS:S.Nodup) (x:Nat->Value) (hx:∀ i s,S[i]?=some s->s<T.size->x i=T[s]!):bd T S x=T:=by
 unfold bd;apply Array.ext_getElem?;intro k;by_cases hm:k∈S
 ·obtain⟨i,hi⟩:=List.mem_iff_getElem?.1 hm
  by_cases az:k<T.size
  ·rw[mY _ _ hS _ _ _ _ hi az,Nat.zero_add,hx i k hi az]
   simp[az]
  ·rw[Array.getElem?_eq_none (by rw[iJ];omega),Array.getElem?_eq_none (by omega)]
 ·rw[lL _ _ _ _ _ hm]
def aQ(F:Array Value) (d:List Deferred) (r:MP) (s:Nat) (W:World) (a':Act) (W':World):Prop:=
 ∃ v,a'={ tmps:=F.setIfInBounds s v,defers:=d }/\Below W.heap.size W W'/\r.p v W'
theorem aQ.mk{F:Array Value} {d:List Deferred} {r:MP} {s:Nat} {W:World} {a':Act} {W':World} (v:Value) (hb:Below W.heap.size W W') (hr:r.p v W') (ha:a'={ tmps:=F.setIfInBounds s v,defers:=d }):aQ F d r s W a' W':=⟨v,ha,hb,hr⟩
theorem Uh{P:Program} {id:Nat} {l:List Oper} {Q:Exit->Act->World->Prop} {T:Array Value} {d:List Deferred} {w:World} (n:Nat) (S:List Nat) (Rs:List MP) (hm:P.follows .mixedOrders=true) (hn:l.toArray.size=n+1) (hS:S.Nodup) (qp:S.length=n) (hB:vJ l.toArray n=true)
  (dC:∀ x W i o s F,i<n->l.toArray[i]?=some o->S[i]?=some s->Below w.heap.size w W->(∀ e∈o.after,Region.binds .any e=true->(Rs.getD e.on MP.any).p (x e.on) W)->F=bd T S x →
   wpList P l.toArray (Exit.then (aQ F d (Rs.getD i MP.any) s W) Q) [o] { tmps:=F,defers:=d } W)
  (zx:∀ x W o F,l.toArray[n]?=some o->Below w.heap.size w W->(∀ j,j<n->(Rs.getD j MP.any).p (x j) W)->F=bd T S x->wpList P l.toArray Q [o] { tmps:=F,defers:=d } W) :
  (Code.region id l.toArray true).wp P Q { tmps:=T,defers:=d } w:=by
 refine Dp n hm hn hB (fun D a W=>∃ x,a={ tmps:=bd T S x,defers:=d }/\Below w.heap.size w W/\∀ j,j<n->D j=true->(Rs.getD j MP.any).p (x j) W) ?_ ?_ ?_
 ·refine⟨fun i=>T[S.getD i 0]!,?_,(Below.refl _ _).drew,fun j _ h=>by cases h⟩
  rw[it T S hS];intro i s hi hs;rw[List.getD_eq_getElem?_getD,hi];rfl
 ·rintro D a W i o hi ho hD aj ⟨x,rfl,hb,hx⟩
  obtain⟨s,hs⟩:∃ s,S[i]?=some s:=⟨S[i],List.getElem?_eq_getElem (by omega)⟩;refine dW ?_ (js ho (dC x W i o s _ hi ho hs hb (fun e he kw=>hx e.on (by have:=BH hB (by omega) ho e he;omega) (aj e he kw)) rfl));rintro a' W' ⟨v,rfl,fd,hr⟩;refine⟨cA x i v,by rw[ij T S hS x i s v hs],ae hb fd,fun j hj hDj=>?_⟩;by_cases e:j=i
  ·subst e;rw[ff];exact hr
  ·rw[fK _ _ e]
   refine(Rs.getD j MP.any).up _ _ _ (hx j hj ?_) fd;simpa[bz,e] using hDj
 ·rintro D a W aP ⟨x,rfl,hb,hx⟩
  obtain⟨o,ho⟩:∃ o,l.toArray[n]?=some o:=⟨l.toArray[n],Array.getElem?_eq_getElem (by omega)⟩;refine js ho ?_;have he:Exit.then (fun a' w'=>Q .normal a' w') Q=Q:=by funext e a w;cases e<;>rfl
  rw[he];exact zx x W o _ ho hb (fun j hj=>hx j hj (aP j hj)) rfl
def F9(ops:Array Oper) (n:Nat):Bool:=
 (List.range n).all (fun i=>match ops[i]? with|some o=>o.after.all fun e=>decide (e.on<i)|none=>false)
theorem BI{ops:Array Oper} {n:Nat} (h:F9 ops n=true) {i:Nat} {o:Oper} (hi:i<n) (ho:ops[i]?=some o):∀ e∈o.after,e.on<i:=by
 simp only[F9,List.all_eq_true]at h;have:=h i (List.mem_range.2 hi);rw[ho]at this;intro e he;have:=Array.all_eq_true'.1 this e he;simpa using this
theorem NI{P:Program} {ops:Array Oper} {Q:Exit->Act->World->Prop} {n:Nat} (hn:ops.size=n) (hB:F9 ops n=true) (Inv:(Nat->Bool)->Act->World->Prop)
  (dC:∀ D a w i o,i<n->ops[i]?=some o->D i=false->(∀ e∈o.after,Region.binds .any e=true->D e.on=true)->Inv D a w->wpOp P ops Q i (fun a' w'=>Inv (bz D i) a' w') a w)
  (gY:∀ D a w,(∀ j,j<n->D j=true)->Inv D a w->Q .normal a w) :
  ∀ (fuel:Nat) (L:Array Bool) (a:Act) (w:World),L.size=n->(List.range n).countP (fun j=>!L.getD j false)<=fuel->Inv (fun j=>L.getD j false) a w->wpAny P .any ops Q fuel L a w:=by
 have MG:∀ L:Array Bool,L.size=n->(∀ j,j<n->L.getD j false=true)->Region.ready .any ops L=[]:=by
  intro L hL h1;refine List.eq_nil_iff_forall_not_mem.2 fun j hj=>?_
  obtain⟨xl,o,ho,_⟩:=mem_ready.1 hj;have uE:j<n:=by have:=(Array.getElem?_eq_some_iff.1 ho).1;omega
  have:=h1 j uE;rw[show L.getD j false=L.getD j true by simp[Array.getD,hL,uE]]at this;rw[xl]at this;cases this
 intro fuel;induction fuel with
 | zero=>
  intro L a w hL hc h1;have h3:(List.range n).countP (fun j=>!L.getD j false)=0:=by omega
  rw[List.countP_eq_zero]at h3;have aP:∀ j,j<n->L.getD j false=true:=fun j hj=>by simpa using h3 j (List.mem_range.2 hj)
  exact⟨MG L hL aP,gY _ a w aP h1⟩
 | succ fuel ih=>
  intro L a w hL hc h2;refine⟨fun hr=>?_,fun i hi=>?_⟩
  ·refine gY _ a w ?_ h2
   intro j;induction j using Nat.strongRecOn with
   | ind j ihj=>
    intro hj;cases hv:L.getD j false with
    | true=>rfl
    | false=>
     exfalso;obtain⟨o,ho⟩:∃ o,ops[j]?=some o:=⟨ops[j]'(by omega),Array.getElem?_eq_getElem _⟩
     have:j∈Region.ready .any ops L:=mem_ready.2 ⟨by rw[show L.getD j true=L.getD j false by simp[Array.getD,hL,hj]];exact hv,o,ho,fun e he _=>by
      have:=BI hB hj ho e he
      exact ihj e.on this (by omega)⟩
     rw[hr]at this;cases this
  ·obtain⟨n8,o,ho,aj⟩:=mem_ready.1 hi
   have cP:i<n:=by have:=(Array.getElem?_eq_some_iff.1 ho).1;omega
   have E':L.getD i false=false:=by rw[show L.getD i false=L.getD i true by simp[Array.getD,hL,cP]];exact n8
   have tU:(fun j=>(L.setIfInBounds i true).getD j false)=bz (fun j=>L.getD j false) i:=by
    funext j
    unfold bz;by_cases pW:j=i
    ·subst pW;simp[Array.getD,hL,cP]
    ·rw[if_neg pW]
     simp only[Array.getD,Array.size_setIfInBounds];split
     ·exact Array.getElem_setIfInBounds_ne _ (Ne.symm pW)
     ·rfl
   have nF:(List.range n).countP (fun j=>!(L.setIfInBounds i true).getD j false)<=fuel:=by
    have h3:=xL (fun j=>L.getD j false) i E' (List.range n);rw[if_pos (List.mem_range.2 cP)]at h3
    have h4:(fun j=>!(L.setIfInBounds i true).getD j false)=fun j=>!bz (fun j=>L.getD j false) i j:=by
     funext j;rw[<-tU]
    rw[h4];omega
   exact dW (fun a' w' h=>ih (L.setIfInBounds i true) a' w' (by simpa using hL) nF (by rw[tU];exact h)) (dC (fun j=>L.getD j false) a w i o cP ho E' aj h2)
theorem wC{P:Program} {id:Nat} {l:List Oper} {Q:Exit->Act->World->Prop} {T:Array Value} {d:List Deferred} {w:World} (n:Nat) (S:List Nat) (Rs:List MP) (hm:P.follows .mixedOrders=true) (hn:l.toArray.size=n) (hS:S.Nodup) (qp:S.length=n) (hB:F9 l.toArray n=true)
  (dC:∀ x W i o s F,i<n->l.toArray[i]?=some o->S[i]?=some s->Below w.heap.size w W->(∀ e∈o.after,Region.binds .any e=true->(Rs.getD e.on MP.any).p (x e.on) W)->F=bd T S x →
   wpList P l.toArray (Exit.then (aQ F d (Rs.getD i MP.any) s W) Q) [o] { tmps:=F,defers:=d } W)
  (gY:∀ x W F,Below w.heap.size w W->(∀ j,j<n->(Rs.getD j MP.any).p (x j) W)->F=bd T S x->Q .normal { tmps:=F,defers:=d } W) :
  (Code.region id l.toArray true).wp P Q { tmps:=T,defers:=d } w:=by
 refine wp_region_any hm ?_;refine NI hn hB (fun D a W=>∃ x,a={ tmps:=bd T S x,defers:=d }/\Below w.heap.size w W/\∀ j,j<n->D j=true->(Rs.getD j MP.any).p (x j) W) ?_ ?_ _ _ _ _ (by rw[Array.size_replicate,hn]) ?_ ?_
 ·rintro D a W i o hi ho hD aj ⟨x,rfl,hb,hx⟩
  obtain⟨s,hs⟩:∃ s,S[i]?=some s:=⟨S[i],List.getElem?_eq_getElem (by omega)⟩;refine dW ?_ (js ho (dC x W i o s _ hi ho hs hb (fun e he kw=>hx e.on (by have:=BI hB hi ho e he;omega) (aj e he kw)) rfl));rintro a' W' ⟨v,rfl,fd,hr⟩;refine⟨cA x i v,by rw[ij T S hS x i s v hs],ae hb fd,fun j hj hDj=>?_⟩;by_cases e:j=i
  ·subst e;rw[ff];exact hr
  ·rw[fK _ _ e]
   refine(Rs.getD j MP.any).up _ _ _ (hx j hj ?_) fd;simpa[bz,e] using hDj
 ·rintro D a W aP ⟨x,rfl,hb,hx⟩
  exact gY x W _ hb (fun j hj=>hx j hj (aP j hj)) rfl
 ·rw[hn];exact Nat.le_trans List.countP_le_length (by simp)
 ·refine⟨fun i=>T[S.getD i 0]!,?_,(Below.refl _ _).drew,fun j hj h=>?_⟩
  ·rw[it T S hS]
   intro i s hi hs;rw[List.getD_eq_getElem?_getD,hi];rfl
  ·exfalso
   simp only[Array.getD]at h;split at h<;>simp at h
end Go.Proofs.YtmeaoneaephjeaaGreatDoor
namespace Go.Proofs.YtmeaoneaephjeaaGreatDoor
open Go.RowKit Go Go.Shelf
theorem kD{F:Array Value} {d:List Deferred} {r:MP} {s:Nat} {W:World} {a':Act} {W':World} (v:Value) (hb:Below W.heap.size W W') (hr:r.p v W') (ha:a'={ tmps:=F.setIfInBounds s v,defers:=d }:=by simp only[List.setIfInBounds_toArray,List.set_cons_succ,List.set_cons_zero]):aQ F d r s W a' W':=⟨v,ha,hb,hr⟩
theorem oE{c v:Value} {W:World} (h:(MP.eq c).p v W):v=c:=h
def kg(ops:Array Oper) (n:Nat):Bool:=
 (List.range n).all (fun i=>match ops[i]? with|some o=>o.after.all fun e=>!Region.binds .any e || decide (e.on<i)|none=>false)
theorem tj{ops:Array Oper} {n:Nat} (h:kg ops n=true) {i:Nat} {o:Oper} (hi:i<n) (ho:ops[i]?=some o):∀ e∈o.after,Region.binds .any e=true->e.on<i:=by
 simp only[kg,List.all_eq_true]at h;have:=h i (List.mem_range.2 hi);rw[ho]at this;intro e he hb;have:=Array.all_eq_true'.1 this e he;rw[hb]at this;simpa using this
theorem qN{P:Program} {ops:Array Oper} {Q:Exit->Act->World->Prop} {n:Nat} (hn:ops.size=n) (hB:kg ops n=true) (Inv:(Nat->Bool)->Act->World->Prop)
  (dC:∀ D a w i o,i<n->ops[i]?=some o->D i=false->(∀ e∈o.after,Region.binds .any e=true->D e.on=true)->Inv D a w->wpOp P ops Q i (fun a' w'=>Inv (bz D i) a' w') a w)
  (gY:∀ D a w,(∀ j,j<n->D j=true)->Inv D a w->Q .normal a w) :
  ∀ (fuel:Nat) (L:Array Bool) (a:Act) (w:World),L.size=n->(List.range n).countP (fun j=>!L.getD j false)<=fuel->Inv (fun j=>L.getD j false) a w->wpAny P .any ops Q fuel L a w:=by
 have MG:∀ L:Array Bool,L.size=n->(∀ j,j<n->L.getD j false=true)->Region.ready .any ops L=[]:=by
  intro L hL h1;refine List.eq_nil_iff_forall_not_mem.2 fun j hj=>?_
  obtain⟨xl,o,ho,_⟩:=mem_ready.1 hj;have uE:j<n:=by have:=(Array.getElem?_eq_some_iff.1 ho).1;omega
  have:=h1 j uE;rw[show L.getD j false=L.getD j true by simp[Array.getD,hL,uE]]at this;rw[xl]at this;cases this
 intro fuel;induction fuel with
 | zero=>
  intro L a w hL hc h1;have h3:(List.range n).countP (fun j=>!L.getD j false)=0:=by omega
  rw[List.countP_eq_zero]at h3;have aP:∀ j,j<n->L.getD j false=true:=fun j hj=>by simpa using h3 j (List.mem_range.2 hj)
  exact⟨MG L hL aP,gY _ a w aP h1⟩
 | succ fuel ih=>
  intro L a w hL hc h2;refine⟨fun hr=>?_,fun i hi=>?_⟩
  ·refine gY _ a w ?_ h2
   intro j;induction j using Nat.strongRecOn with
   | ind j ihj=>
    intro hj;cases hv:L.getD j false with
    | true=>rfl
    | false=>
     exfalso;obtain⟨o,ho⟩:∃ o,ops[j]?=some o:=⟨ops[j]'(by omega),Array.getElem?_eq_getElem _⟩
     have:j∈Region.ready .any ops L:=mem_ready.2 ⟨by rw[show L.getD j true=L.getD j false by simp[Array.getD,hL,hj]];exact hv,o,ho,fun e he lP=>by
      have:=tj hB hj ho e he lP
      exact ihj e.on this (by omega)⟩
     rw[hr]at this;cases this
  ·obtain⟨n8,o,ho,aj⟩:=mem_ready.1 hi
   have cP:i<n:=by have:=(Array.getElem?_eq_some_iff.1 ho).1;omega
   have E':L.getD i false=false:=by rw[show L.getD i false=L.getD i true by simp[Array.getD,hL,cP]];exact n8
   have tU:(fun j=>(L.setIfInBounds i true).getD j false)=bz (fun j=>L.getD j false) i:=by
    funext j
    unfold bz;by_cases pW:j=i
    ·subst pW;simp[Array.getD,hL,cP]
    ·rw[if_neg pW]
     simp only[Array.getD,Array.size_setIfInBounds];split
     ·exact Array.getElem_setIfInBounds_ne _ (Ne.symm pW)
     ·rfl
   have nF:(List.range n).countP (fun j=>!(L.setIfInBounds i true).getD j false)<=fuel:=by
    have h3:=xL (fun j=>L.getD j false) i E' (List.range n);rw[if_pos (List.mem_range.2 cP)]at h3
    have h4:(fun j=>!(L.setIfInBounds i true).getD j false)=fun j=>!bz (fun j=>L.getD j false) i j:=by
     funext j;rw[<-tU]
    rw[h4];omega
   exact dW (fun a' w' h=>ih (L.setIfInBounds i true) a' w' (by simpa using hL) nF (by rw[tU];exact h)) (dC (fun j=>L.getD j false) a w i o cP ho E' aj h2)
def bR(F:Array Value) (d:List Deferred) (V:List (Option Value)) (Core:(Nat->Bool)->(Nat->Value)->World->Prop) (D:Nat->Bool) (i s:Nat) (x:Nat->Value) (a':Act) (W':World):Prop:=
 ∃ v,a'={ tmps:=F.setIfInBounds s v,defers:=d }/\(∀ c,V.getD i none=some c->v=c)/\Core (bz D i) (cA x i v) W'
theorem bR.mk{F:Array Value} {d:List Deferred} {V:List (Option Value)} {Core:(Nat->Bool)->(Nat->Value)->World->Prop} {D:Nat->Bool} {i s:Nat} {x:Nat->Value} {a':Act} {W':World} (v:Value) (hv:∀ c,V.getD i none=some c->v=c) (hc:Core (bz D i) (cA x i v) W') (ha:a'={ tmps:=F.setIfInBounds s v,defers:=d }):bR F d V Core D i s x a' W':=⟨v,ha,hv,hc⟩
theorem ul{T:Array Value} {S:List Nat} {x:Nat->Value} {k:Nat} (hk:k∉S):(bd T S x).getD k undef=T.getD k undef:=by
 have:=lL x S 0 T k hk;simp only[Array.getD_eq_getD_getElem?];exact congrArg (fun o=>Option.getD o undef) this
theorem GJ{T:Array Value} {S:List Nat} {x:Nat->Value} {i s:Nat} (hS:S.Nodup) (hi:S[i]?=some s):bd T S x=(bd T S x).setIfInBounds s (x i):=by
 have h:=ij T S hS x i s (x i) hi
 have e:cA x i (x i)=x:=by
  funext j
  by_cases e:j=i
  ·subst e;exact ff _ _ _
  ·exact fK _ _ e
 rw[e]at h;exact h
theorem lM{T:Array Value} {S:List Nat} {x:Nat->Value} {i k:Nat} (hS:S.Nodup) (hi:S[i]?=some k) (hT:k<T.size):(bd T S x).getD k undef=x i:=by
 rw[GJ (x:=x) hS hi];have:k<(bd T S x).size:=by unfold bd;rw[iJ];exact hT
 simp[Array.getD,this]
theorem pB{P:Program} {ops:Array Oper} {o:Oper} {a:Act} {w:World} {Q:Exit->Act->World->Prop} (y:Operand) (hg:o.guard=none) (ho:o.op=.move y) (h:Q .normal (a.put o.dst (a.eval y)) w):wpList P ops Q [o] a w:=by
 refine wpList_plain hg fun _ hK=>?_
 unfold Oper.wp execOp;simp only[ho,Sem.run_pure];exact hK _ _ h
end Go.Proofs.YtmeaoneaephjeaaGreatDoor
namespace Go.Proofs.YtmeaoneaephjeaaGreatDoor
open Go.RowKit Go Go.Shelf
theorem fg{F T:Array Value} {S:List Nat} {x:Nat->Value} (hF:F=bd T S x) (i k:Nat) {v:Value} (hS:S.Nodup) (hi:S[i]?=some k) (hT:Nat.ble (k+1) T.size=true) (hv:x i=v):F.getD k undef=v:=by
  rw[<-hv,hF];exact lM hS hi (Nat.le_of_ble_eq_true hT)
theorem ln{F T:Array Value} {S:List Nat} {x:Nat->Value} {k:Nat} {v:Value} (hF:F=bd T S x) (hk:k∉S) (hv:T.getD k undef=v):F.getD k undef=v:=by
  rw[hF,ul hk];exact hv
theorem dx{F:Array Value} {k:Nat} {v:Value} (h:F.getD k undef=v):F[k]?.getD undef=v:=by rw[<-h,Array.getD_eq_getD_getElem?]
theorem JJ{P:Program} {l:List Oper} {Q:Exit->Act->World->Prop} {T:Array Value} {d:List Deferred} {w:World} (n:Nat) (S:List Nat) (V:List (Option Value)) (Core:(Nat->Bool)->(Nat->Value)->World->Prop) (hn:l.toArray.size=n) (hS:S.Nodup) (qp:S.length=n) (hB:kg l.toArray n=true)
  (h0:∀ x,Core (fun _=>false) x w.drew)
  (dC:∀ x W D i o s F,i<n->l.toArray[i]?=some o->S[i]?=some s->D i=false->(∀ j s',S[j]?=some s'->D j=false->x j=T[s']!)->(∀ j o',l.toArray[j]?=some o'->D j=true->∀ e∈o'.after,Region.binds .any e=true->D e.on=true)->(∀ e∈o.after,Region.binds .any e=true->D e.on=true)->(∀ j c,j<n->D j=true->V.getD j none=some c->x j=c)->Core D x W->F=bd T S x →
   wpList P l.toArray (Exit.then (bR F d V Core D i s x) Q) [o] { tmps:=F,defers:=d } W)
  (gY:∀ x W D F,(∀ j,j<n->D j=true)->(∀ j c,j<n->V.getD j none=some c->x j=c)->Core D x W->F=bd T S x->Q .normal { tmps:=F,defers:=d } W) :
  wpAny P .any l.toArray Q l.toArray.size (Array.replicate l.toArray.size false) { tmps:=T,defers:=d } w.drew:=by
 refine qN hn hB (fun D a W=>∃ x,a={ tmps:=bd T S x,defers:=d }/\(∀ j s,S[j]?=some s->D j=false->x j=T[s]!)/\(∀ j o',l.toArray[j]?=some o'->D j=true->∀ e∈o'.after,Region.binds .any e=true->D e.on=true)/\(∀ j c,j<n->D j=true->V.getD j none=some c->x j=c)/\Core D x W) ?_ ?_ _ _ _ _ (by rw[Array.size_replicate,hn]) ?_ ?_
 ·rintro D a W i o hi ho hD aj ⟨x,rfl,dA,bU,hv,hc⟩
  obtain⟨s,hs⟩:∃ s,S[i]?=some s:=⟨S[i],List.getElem?_eq_getElem (by omega)⟩;refine dW ?_ (js ho (dC x W D i o s _ hi ho hs hD dA bU aj hv hc rfl));rintro a' W' ⟨v,rfl,Jp,kH⟩;refine⟨cA x i v,by rw[ij T S hS x i s v hs],fun j sj hsj hDj=>?_,fun j oj VU hDj e he hb=>?_,fun j c hj hDj hV=>?_,kH⟩
  ·by_cases e:j=i
   ·subst e;simp[bz]at hDj
   ·rw[fK _ _ e]
    exact dA j sj hsj (by simpa[bz,e] using hDj)
  ·have wS:D e.on=true:=by
    by_cases ej:j=i
    ·subst ej
     rw[ho]at VU;cases VU;exact aj e he hb
    ·exact bU j oj VU (by simpa[bz,ej] using hDj) e he hb
   unfold bz;split
   ·rfl
   ·exact wS
  by_cases e:j=i
  ·subst e;rw[ff];exact Jp c hV
  ·rw[fK _ _ e]
   exact hv j c hj (by simpa[bz,e] using hDj) hV
 ·rintro D a W aP ⟨x,rfl,_,_,hv,hc⟩
  exact gY x W D _ aP (fun j c hj hV=>hv j c hj (aP j hj) hV) hc rfl
 ·rw[hn];exact Nat.le_trans List.countP_le_length (by simp)
 ·refine⟨fun i=>T[S.getD i 0]!,?_,fun j s hs _=>by(show T[S.getD j 0]! = _;rw[List.getD_eq_getElem?_getD,hs];rfl),fun j o' _ h=>?_,fun j c hj h=>?_,?_⟩
  ·rw[it T S hS]
   intro i s hi hs;rw[List.getD_eq_getElem?_getD,hi];rfl
  ·exfalso
   simp only[Array.getD]at h;split at h<;>simp at h
  ·exfalso
   simp only[Array.getD]at h;split at h<;>simp at h
  ·have:(fun j=>(Array.replicate l.toArray.size false).getD j false)=fun _=>false:=by
    funext j
    simp only[Array.getD];split<;>simp
   rw[this];exact h0 _
theorem BJ{P:Program} {id:Nat} {l:List Oper} {Q:Exit->Act->World->Prop} {T:Array Value} {d:List Deferred} {w:World} (n:Nat) (S:List Nat) (V:List (Option Value)) (Core:(Nat->Bool)->(Nat->Value)->World->Prop) (hm:P.follows .mixedOrders=true) (hn:l.toArray.size=n) (hS:S.Nodup) (qp:S.length=n) (hB:kg l.toArray n=true)
  (h0:∀ x,Core (fun _=>false) x w.drew)
  (dC:∀ x W D i o s F,i<n->l.toArray[i]?=some o->S[i]?=some s->D i=false->(∀ j s',S[j]?=some s'->D j=false->x j=T[s']!)->(∀ j o',l.toArray[j]?=some o'->D j=true->∀ e∈o'.after,Region.binds .any e=true->D e.on=true)->(∀ e∈o.after,Region.binds .any e=true->D e.on=true)->(∀ j c,j<n->D j=true->V.getD j none=some c->x j=c)->Core D x W->F=bd T S x →
   wpList P l.toArray (Exit.then (bR F d V Core D i s x) Q) [o] { tmps:=F,defers:=d } W)
  (gY:∀ x W D F,(∀ j,j<n->D j=true)->(∀ j c,j<n->V.getD j none=some c->x j=c)->Core D x W->F=bd T S x->Q .normal { tmps:=F,defers:=d } W) :
  (Code.region id l.toArray true).wp P Q { tmps:=T,defers:=d } w:=
 wp_region_any hm (JJ n S V Core hn hS qp hB h0 dC gY)
theorem Ep{ops:Array Oper} {t j:Nat} (h:Region.waitsFor .any ops t j=true) {o:Oper} (ho:ops[t]?=some o):∃ e∈o.after,Region.binds .any e=true/\e.on=j:=by
 unfold Region.waitsFor at h;rw[ho]at h;obtain⟨e,he,h2⟩:=Array.any_eq_true'.1 h;simp at h2;exact⟨e,he,by grind⟩
theorem xM{P:Program} {l:List Oper} {Q:Exit->Act->World->Prop} {i:Nat} {a:Act} {w:World} (hi:i<l.length) (h:wpList P l.toArray Q (l.drop i) a w):wpOp P l.toArray Q i (fun a' w'=>wpList P l.toArray Q (l.drop (i+1)) a' w') a w:=by
 rw[List.drop_eq_getElem_cons hi]at h;unfold wpList at h;unfold wpOp;rw[show l.toArray[i]?=some l[i] by simp[hi]];exact h
theorem oF{P:Program} {l:List Oper} {Q:Exit->Act->World->Prop} (n:Nat) (hn:n<l.length) (hB:kg l.toArray l.length=true) (hs:Region.sinkB .any l.toArray n=true) (hc:Region.chainB .any l.toArray n=true) (Inv:(Nat->Bool)->Act->World->Prop)
  (dC:∀ D a w i o,i<n->l.toArray[i]?=some o->D i=false->(∀ j o',l.toArray[j]?=some o'->D j=true->∀ e∈o'.after,Region.binds .any e=true->D e.on=true)->(∀ e∈o.after,Region.binds .any e=true->D e.on=true)->Inv D a w->wpOp P l.toArray Q i (fun a' w'=>Inv (bz D i) a' w') a w)
  (htail:∀ D a w,(∀ j,j<n->D j=true)->Inv D a w->wpList P l.toArray Q (l.drop n) a w) {a:Act} {w:World} (h0:Inv (fun _=>false) a w) :
  wpAny P .any l.toArray Q l.toArray.size (Array.replicate l.toArray.size false) a w:=by
 have eK:l.toArray.size=l.length:=by simp
 refine qN (n:=l.length) eK hB (fun D a W=>(∀ j o',l.toArray[j]?=some o'->D j=true->∀ e∈o'.after,Region.binds .any e=true->D e.on=true) ∧
  (((∀ t,n<=t->D t=false)/\Inv D a W)\/∃ k,n<k/\(∀ j,j<k->D j=true)/\(∀ t,k<=t->D t=false)/\wpList P l.toArray Q (l.drop k) a W)) ?_ ?_ _ _ _ _ (by simp) (by simp only[Array.size_replicate,eK];exact Nat.le_trans List.countP_le_length (by simp)) ?_
 ·rintro D a W i o hi ho hD aj ⟨bU,Xp⟩
  have RD:∀ j o',l.toArray[j]?=some o'->bz D i j=true->∀ e∈o'.after,Region.binds .any e=true->bz D i e.on=true:=by
   intro j o' uI hj e he hb;unfold bz at hj ⊢;by_cases h1:e.on=i
   ·simp[h1]
   ·rw[if_neg h1]
    by_cases h2:j=i
    ·subst h2
     rw[ho]at uI;cases uI;exact aj e he hb
    ·rw[if_neg h2]at hj
     exact bU j o' uI hj e he hb
  have hchain:∀ t o',n<t->l.toArray[t]?=some o'->∃ e∈o'.after,Region.binds .any e=true/\e.on=t - 1:=by
   intro t o' ht uI;have IP:t<l.toArray.size:=(Array.getElem?_eq_some_iff.1 uI).1;unfold Region.chainB at hc;have:=List.all_eq_true.1 hc t (List.mem_range.2 IP);simp only[Bool.or_eq_true,decide_eq_true_eq]at this;rcases this with h|h
   ·omega
   ·exact Ep h uI
  rcases Xp with ⟨ht,aS⟩|⟨k,hk,aP,jo,hl⟩
  ·by_cases cP:i<n
   ·refine dW (fun a' w' h=>⟨RD,.inl ⟨fun t O9=>?_,h⟩⟩) (dC D a W i o cP ho hD bU aj aS)
    unfold bz;rw[if_neg (by omega)];exact ht t O9
   ·have hin':i=n:=by
     by_cases e:i=n
     ·exact e
     ·exfalso
      obtain⟨e1,zf,aG,h1⟩:=hchain i o (by omega) ho;have h2:=aj e1 zf aG;rw[h1,ht _ (by omega)]at h2;cases h2
    subst hin'
    have hallj:∀ d j,j<i->i - j<=d->D j=true:=by
     intro d;induction d with
     | zero=>intro j hj hd;omega
     | succ d ih=>
      intro j hj hd;unfold Region.sinkB at hs;have:=List.all_eq_true.1 hs j (List.mem_range.2 hj);obtain⟨j',qC,h3⟩:=List.any_eq_true.1 this;simp only[Bool.and_eq_true,decide_eq_true_eq]at h3;have hj'':=List.mem_range.1 qC;obtain⟨o',uI⟩:∃ o',l.toArray[j']?=some o':=⟨l.toArray[j']'(by omega),Array.getElem?_eq_getElem _⟩;obtain⟨e1,zf,aG,h1⟩:=Ep h3.2 uI;by_cases e:j'=i
      ·subst e
       rw[ho]at uI;cases uI;have:=aj e1 zf aG
       rwa [h1]at this
      ·have:=bU j' o' uI (ih j' (by omega) (by omega)) e1 zf aG
       rwa [h1]at this
    have hallj':∀ j,j<i->D j=true:=fun j hj=>hallj (i - j) j hj (Nat.le_refl _)
    refine dW (fun a' w' h=>⟨RD,.inr ⟨i+1,by omega,fun j hj=>?_,fun t O9=>?_,h⟩⟩) (xM hn (htail D a W hallj' aS))
    ·unfold bz
     split
     ·rfl
     ·exact hallj' j (by omega)
    ·unfold bz
     rw[if_neg (by omega)];exact ht t (by omega)
  ·have jw:i=k:=by
    by_cases e:i=k
    ·exact e
    ·exfalso
     have:k<=i:=by
      by_cases h:i<k
      ·rw[aP i h]at hD;cases hD
      ·omega
     obtain⟨e1,zf,aG,h1⟩:=hchain i o (by omega) ho;have h2:=aj e1 zf aG;rw[h1,jo _ (by omega)]at h2;cases h2
   subst jw;refine dW (fun a' w' h=>⟨RD,.inr ⟨i+1,by omega,fun j hj=>?_,fun t O9=>?_,h⟩⟩) (xM hi hl)
   ·unfold bz
    split
    ·rfl
    ·exact aP j (by omega)
   ·unfold bz
    rw[if_neg (by omega)];exact jo t (by omega)
 ·rintro D a W aP ⟨bU,Xp⟩
  rcases Xp with ⟨ht,_⟩|⟨k,hk,_,jo,hl⟩
  ·have:=aP n hn
   rw[ht n (Nat.le_refl _)]at this;cases this
  ·have lW:l.length<=k:=by
    by_cases h:k<l.length
    ·have:=aP k h
     rw[jo k (Nat.le_refl _)]at this;cases this
    ·omega
   rw[List.drop_of_length_le lW]at hl;exact hl
 ·have hf:(fun j=>(Array.replicate l.toArray.size false).getD j false)=fun _=>false:=by
   funext j
   simp only[Array.getD];split<;>simp
  rw[hf];exact⟨fun j o' _ h=>(by cases h),.inl ⟨fun _ _=>rfl,h0⟩⟩
theorem dJ{P:Program} {id:Nat} {l:List Oper} {Q:Exit->Act->World->Prop} {T:Array Value} {d:List Deferred} {w:World} (n:Nat) (S:List Nat) (Rs:List MP) (hm:P.follows .mixedOrders=true) (hn:n<l.length) (hS:S.Nodup) (qp:S.length=n)
  (hB:kg l.toArray l.length=true) (hs:Region.sinkB .any l.toArray n=true) (hc:Region.chainB .any l.toArray n=true)
  (dC:∀ x W i o s F,i<n->l.toArray[i]?=some o->S[i]?=some s->Below w.heap.size w W->(∀ e∈o.after,Region.binds .any e=true->(Rs.getD e.on MP.any).p (x e.on) W)->F=bd T S x →
   wpList P l.toArray (Exit.then (aQ F d (Rs.getD i MP.any) s W) Q) [o] { tmps:=F,defers:=d } W)
  (zx:∀ x W F,Below w.heap.size w W->(∀ j,j<n->(Rs.getD j MP.any).p (x j) W)->F=bd T S x->wpList P l.toArray Q (l.drop n) { tmps:=F,defers:=d } W) :
  (Code.region id l.toArray true).wp P Q { tmps:=T,defers:=d } w:=by
 refine wp_region_any hm (oF n hn hB hs hc (fun D a W=>∃ x,a={ tmps:=bd T S x,defers:=d }/\Below w.heap.size w W/\∀ j,j<n->D j=true->(Rs.getD j MP.any).p (x j) W) ?_ ?_ ?_)
 ·rintro D a W i o hi ho hD bU aj ⟨x,rfl,hb,hx⟩
  obtain⟨s,Aw⟩:∃ s,S[i]?=some s:=⟨S[i],List.getElem?_eq_getElem (by omega)⟩;refine dW ?_ (js ho (dC x W i o s _ hi ho Aw hb (fun e he kw=>hx e.on (by have:=tj hB (by omega) ho e he kw;omega) (aj e he kw)) rfl));rintro a' W' ⟨v,rfl,fd,hr⟩;refine⟨cA x i v,by rw[ij T S hS x i s v Aw],ae hb fd,fun j hj hDj=>?_⟩;by_cases e:j=i
  ·subst e;rw[ff];exact hr
  ·rw[fK _ _ e]
   refine(Rs.getD j MP.any).up _ _ _ (hx j hj ?_) fd;simpa[bz,e] using hDj
 ·rintro D a W aP ⟨x,rfl,hb,hx⟩
  exact zx x W _ hb (fun j hj=>hx j hj (aP j hj)) rfl
 ·refine⟨fun i=>T[S.getD i 0]!,?_,(Below.refl _ _).drew,fun j _ h=>by cases h⟩
  rw[it T S hS];intro i s hi hs;rw[List.getD_eq_getElem?_getD,hi];rfl
theorem mi{P:Program} {id:Nat} {l:List Oper} {Q:Exit->Act->World->Prop} {T:Array Value} {d:List Deferred} {w:World} (n:Nat) (S:List Nat) (V:List (Option Value)) (Core:(Nat->Bool)->(Nat->Value)->World->Prop) (hm:P.follows .mixedOrders=true) (hn:decide (n<l.length)=true) (hS:S.Nodup) (qp:S.length=n)
  (hB:kg l.toArray l.length=true) (hs:Region.sinkB .any l.toArray n=true) (hc:Region.chainB .any l.toArray n=true)
  (h0:∀ x,Core (fun _=>false) x w.drew)
  (dC:∀ x W D i o s F,i<n->l.toArray[i]?=some o->S[i]?=some s->D i=false->(∀ j s',S[j]?=some s'->D j=false->x j=T[s']!)->(∀ j o',l.toArray[j]?=some o'->D j=true->∀ e∈o'.after,Region.binds .any e=true->D e.on=true)->(∀ e∈o.after,Region.binds .any e=true->D e.on=true)->(∀ j c,j<n->D j=true->V.getD j none=some c->x j=c)->Core D x W->F=bd T S x →
   wpList P l.toArray (Exit.then (bR F d V Core D i s x) Q) [o] { tmps:=F,defers:=d } W)
  (gY:∀ x W D F,(∀ j,j<n->D j=true)->(∀ j c,j<n->V.getD j none=some c->x j=c)->Core D x W->F=bd T S x->wpList P l.toArray Q (l.drop n) { tmps:=F,defers:=d } W) :
  (Code.region id l.toArray true).wp P Q { tmps:=T,defers:=d } w:=by
 have ze:n<l.length:=by simpa using hn
 refine wp_region_any hm (oF n ze hB hs hc (fun D a W=>∃ x,a={ tmps:=bd T S x,defers:=d }/\(∀ j s,S[j]?=some s->D j=false->x j=T[s]!)/\(∀ j c,j<n->D j=true->V.getD j none=some c->x j=c)/\Core D x W) ?_ ?_ ?_)
 ·rintro D a W i o hi ho hD bU aj ⟨x,rfl,dA,hv,qq⟩
  obtain⟨s,Aw⟩:∃ s,S[i]?=some s:=⟨S[i],List.getElem?_eq_getElem (by omega)⟩;refine dW ?_ (js ho (dC x W D i o s _ hi ho Aw hD dA bU aj hv qq rfl));rintro a' W' ⟨v,rfl,Jp,kH⟩;refine⟨cA x i v,by rw[ij T S hS x i s v Aw],fun j sj hsj hDj=>?_,fun j c hj hDj hV=>?_,kH⟩
  ·by_cases e:j=i
   ·subst e;simp[bz]at hDj
   ·rw[fK _ _ e]
    exact dA j sj hsj (by simpa[bz,e] using hDj)
  ·by_cases e:j=i
   ·subst e;rw[ff];exact Jp c hV
   ·rw[fK _ _ e]
    exact hv j c hj (by simpa[bz,e] using hDj) hV
 ·rintro D a W aP ⟨x,rfl,_,hv,qq⟩
  exact gY x W D _ aP (fun j c hj hV=>hv j c hj (aP j hj) hV) qq rfl
 ·refine⟨fun i=>T[S.getD i 0]!,?_,fun j s hsj _=>by(show T[S.getD j 0]! = _;rw[List.getD_eq_getElem?_getD,hsj];rfl),fun j c _ h=>(by cases h),h0 _⟩
  rw[it T S hS];intro i s hi eK;rw[List.getD_eq_getElem?_getD,hi];rfl
theorem xm{P:Program} {yl nn:Nat} {id:Nat} {l:List Oper} {Q:Exit->Act->World->Prop} {T:Array Value} {d:List Deferred} {w:World} (n:Nat) (S:List Nat) (V:List (Option Value)) (Core:(Nat->Bool)->(Nat->Value)->World->Prop) (hm:P.follows .mixedOrders=true) (hn:decide (n<l.length)=true) (hS:S.Nodup) (qp:S.length=n)
  (hB:kg l.toArray l.length=true) (hs:Region.sinkB .any l.toArray n=true) (hc:Region.chainB .any l.toArray n=true) (hQ:¬ LetsOut Q) (hd:oz l.toArray=true)
  (h0:∀ x,Core (fun _=>false) x w.drew)
  (dC:∀ x W D i o s F,i<n->l.toArray[i]?=some o->S[i]?=some s->D i=false->(∀ j s',S[j]?=some s'->D j=false->x j=T[s']!)->(∀ j o',l.toArray[j]?=some o'->D j=true->∀ e∈o'.after,Region.binds .any e=true->D e.on=true)->(∀ e∈o.after,Region.binds .any e=true->D e.on=true)->(∀ j c,j<n->D j=true->V.getD j none=some c->x j=c)->Core D x W->F=bd T S x →
   wpList P l.toArray (Exit.then (bR F d V Core D i s x) Q) [o] { tmps:=F,defers:=d } W)
  (gY:∀ x W D F,(∀ j,j<n->D j=true)->(∀ j c,j<n->V.getD j none=some c->x j=c)->Core D x W->F=bd T S x->wpList P l.toArray Q (l.drop n) { tmps:=F,defers:=d } W) :
  (Code.region id l.toArray true).wpIn (Fence.wide.inRound yl) nn P Q { tmps:=T,defers:=d } w:=by
 have ze:n<l.length:=by simpa using hn
 refine wpIn_region_any hm (mh hd hQ _ _ _ _ (oF n ze hB hs hc (fun D a W=>∃ x,a={ tmps:=bd T S x,defers:=d }/\(∀ j s,S[j]?=some s->D j=false->x j=T[s]!)/\(∀ j c,j<n->D j=true->V.getD j none=some c->x j=c)/\Core D x W) ?_ ?_ ?_))
 ·rintro D a W i o hi ho hD bU aj ⟨x,rfl,dA,hv,qq⟩
  obtain⟨s,Aw⟩:∃ s,S[i]?=some s:=⟨S[i],List.getElem?_eq_getElem (by omega)⟩;refine dW ?_ (js ho (dC x W D i o s _ hi ho Aw hD dA bU aj hv qq rfl));rintro a' W' ⟨v,rfl,Jp,kH⟩;refine⟨cA x i v,by rw[ij T S hS x i s v Aw],fun j sj hsj hDj=>?_,fun j c hj hDj hV=>?_,kH⟩
  ·by_cases e:j=i
   ·subst e;simp[bz]at hDj
   ·rw[fK _ _ e]
    exact dA j sj hsj (by simpa[bz,e] using hDj)
  ·by_cases e:j=i
   ·subst e;rw[ff];exact Jp c hV
   ·rw[fK _ _ e]
    exact hv j c hj (by simpa[bz,e] using hDj) hV
 ·rintro D a W aP ⟨x,rfl,_,hv,qq⟩
  exact gY x W D _ aP (fun j c hj hV=>hv j c hj (aP j hj) hV) qq rfl
 ·refine⟨fun i=>T[S.getD i 0]!,?_,fun j s hsj _=>by(show T[S.getD j 0]! = _;rw[List.getD_eq_getElem?_getD,hsj];rfl),fun j c _ h=>(by cases h),h0 _⟩
  rw[it T S hS];intro i s hi eK;rw[List.getD_eq_getElem?_getD,hi];rfl
theorem aJ{F T:Array Value} {S:List Nat} {x:Nat->Value} (hF:F=bd T S x) (i k:Nat) (v:Value) (hS:S.Nodup) (hi:S[i]?=some k) (hT:decide (k<T.size)=true) (hv:x i=v):F.getD k undef=v/\F[k]?.getD undef=v:=by
 have h:F.getD k undef=v:=by rw[hF,lM hS hi (of_decide_eq_true hT)];exact hv
 exact⟨h,by rw[<-h,Array.getD_eq_getD_getElem?]⟩
theorem bT{F T:Array Value} {S:List Nat} {x:Nat->Value} (hF:F=bd T S x) (k:Nat) (v:Value) (hk:k∉S) (hv:T.getD k undef=v):F.getD k undef=v/\F[k]?.getD undef=v:=by
 have h:F.getD k undef=v:=by rw[hF,ul hk];exact hv
 exact⟨h,by rw[<-h,Array.getD_eq_getD_getElem?]⟩
theorem cY{F T:Array Value} {S:List Nat} {x:Nat->Value} (hF:F=bd T S x) (i k:Nat) (v:Value) (hS:S.Nodup) (hi:S[i]?=some k) (hT:decide (k<T.size)=true) (hv:x i=v):F[k]?=some v:=by
 rw[<-hv,hF,bd,mY _ _ hS _ _ _ _ hi (of_decide_eq_true hT),Nat.zero_add]
theorem Qw{P:Program} {l:List Oper} {Q:Exit->Act->World->Prop} {T:Array Value} {d:List Deferred} {w:World} (n:Nat) (S:List Nat) (Rs:List MP) (hn:l.toArray.size=n) (hS:S.Nodup) (qp:S.length=n) (hB:kg l.toArray n=true)
  (dC:∀ x W i o s F,i<n->l.toArray[i]?=some o->S[i]?=some s->Below w.heap.size w W->(∀ e∈o.after,Region.binds .any e=true->(Rs.getD e.on MP.any).p (x e.on) W)->F=bd T S x →
   wpList P l.toArray (Exit.then (aQ F d (Rs.getD i MP.any) s W) Q) [o] { tmps:=F,defers:=d } W)
  (gY:∀ x W F,Below w.heap.size w W->(∀ j,j<n->(Rs.getD j MP.any).p (x j) W)->F=bd T S x->Q .normal { tmps:=F,defers:=d } W) :
  wpAny P .any l.toArray Q l.toArray.size (Array.replicate l.toArray.size false) { tmps:=T,defers:=d } w.drew:=by
 refine qN hn hB (fun D a W=>∃ x,a={ tmps:=bd T S x,defers:=d }/\Below w.heap.size w W/\∀ j,j<n->D j=true->(Rs.getD j MP.any).p (x j) W) ?_ ?_ _ _ _ _ (by rw[Array.size_replicate,hn]) ?_ ?_
 ·rintro D a W i o hi ho hD aj ⟨x,rfl,hb,hx⟩
  obtain⟨s,hs⟩:∃ s,S[i]?=some s:=⟨S[i],List.getElem?_eq_getElem (by omega)⟩;refine dW ?_ (js ho (dC x W i o s _ hi ho hs hb (fun e he kw=>hx e.on (by have:=tj hB hi ho e he kw;omega) (aj e he kw)) rfl));rintro a' W' ⟨v,rfl,fd,hr⟩;refine⟨cA x i v,by rw[ij T S hS x i s v hs],ae hb fd,fun j hj hDj=>?_⟩;by_cases e:j=i
  ·subst e;rw[ff];exact hr
  ·rw[fK _ _ e]
   refine(Rs.getD j MP.any).up _ _ _ (hx j hj ?_) fd;simpa[bz,e] using hDj
 ·rintro D a W aP ⟨x,rfl,hb,hx⟩
  exact gY x W _ hb (fun j hj=>hx j hj (aP j hj)) rfl
 ·rw[hn];exact Nat.le_trans List.countP_le_length (by simp)
 ·refine⟨fun i=>T[S.getD i 0]!,?_,(Below.refl _ _).drew,fun j hj h=>?_⟩
  ·rw[it T S hS]
   intro i s hi hs;rw[List.getD_eq_getElem?_getD,hi];rfl
  ·exfalso
   simp only[Array.getD]at h;split at h<;>simp at h
theorem zG{yl nn:Nat} {P:Program} {id:Nat} {l:List Oper} {Q:Exit->Act->World->Prop} {T:Array Value} {d:List Deferred} {w:World} (n:Nat) (S:List Nat) (Rs:List MP) (hm:P.follows .mixedOrders=true) (hn:l.toArray.size=n) (hS:S.Nodup) (qp:S.length=n) (hB:kg l.toArray n=true) (hQ:¬ LetsOut Q) (hd:oz l.toArray=true)
  (dC:∀ x W i o s F,i<n->l.toArray[i]?=some o->S[i]?=some s->Below w.heap.size w W->(∀ e∈o.after,Region.binds .any e=true->(Rs.getD e.on MP.any).p (x e.on) W)->F=bd T S x →
   wpList P l.toArray (Exit.then (aQ F d (Rs.getD i MP.any) s W) Q) [o] { tmps:=F,defers:=d } W)
  (gY:∀ x W F,Below w.heap.size w W->(∀ j,j<n->(Rs.getD j MP.any).p (x j) W)->F=bd T S x->Q .normal { tmps:=F,defers:=d } W) :
  (Code.region id l.toArray true).wpIn (Fence.wide.inRound yl) nn P Q { tmps:=T,defers:=d } w:=wpIn_region_any hm (mh hd hQ _ _ _ _ (Qw n S Rs hn hS qp hB dC gY))
def gr(A A':World) (T T':Nat->Prop):Prop:=(∀ k,T k->T' k)/\∀ k,T' k->T k\/(A.heap.size<=k/\k<A'.heap.size)
theorem gr.refl(A A':World) (T:Nat->Prop):gr A A' T T:=⟨fun _ h=>h,fun _ h=>.inl h⟩
def SG(P:Program) (g:Nat) (lb:Array Value) (E:Nat->Array Value->(Nat->Prop)->World->Prop) (N:Nat) (S:Nat->Prop) (w:World):Prop:=
 ∀ (l:Nat) (J Jx:Nat->(Nat->Prop)->World->Prop) (W:World),Below w.heap.size w W->l<W.heap.size →
  (∀ i T T' A A',J i T A->Below A.heap.size A A'->gr A A' T T'->J i T' A')->(∀ i T T' A A',Jx i T A->Below A.heap.size A A'->gr A A' T T'->Jx i T' A') →
  (∀ i T W1 args,i<N->E i args T W1->J i T W1->YieldAt Fence.wide 0 P l args W1 fun e W'=>
   W1.heap.size<=W'.heap.size/\(∀ k,T k->W'.heap[k]?=W1.heap[k]?)/\((e=.returned (.bool true)/\J (i+1) T W')\/(e=.returned (.bool false)/\Jx (i+1) T W'))) →
  J 0 S W →
  Calls P g (#[.func (.yield l) #[] #[]]++lb) W fun e W'=>(∃ v,e=.returned v)/\∃ T,J N T W'\/∃ i,i<=N/\Jx i T W'
theorem Lw{P:Program} {g:Operand} {ps:Array Tmp} {assign body:Code} {Q:Exit->Act->World->Prop} {a:Act} {w:World}
  {gf:Nat} {lb:Array Value} (hg:a.eval g=.func (.func gf) #[] lb) (eg:∀ args w,(callFunc gf args).run P w=.ok (.enter gf args) w)
  {E:Nat->Array Value->(Nat->Prop)->World->Prop} {N:Nat} {S:Nat->Prop} {w0:World} (da:SG P gf lb E N S w0) (aC:Below w0.heap.size w0 w) (hS:∀ k,S k->k<w.heap.size) (yv:∀ i args T W,E i args T W->args.size=ps.size)
  (I:Nat->(Nat->Prop)->World->Prop) (Ix:Code->Nat->(Nat->Prop)->World->Prop)
  (hI:∀ i T T' A A',I i T A->Chg w.heap.size A A'->gr A A' T T'->I i T' A') (sC:∀ c i T T' A A',Ix c i T A->Chg w.heap.size A A'->gr A A' T T'->Ix c i T' A') (h0:I 0 S w)
  (kS:∀ l i T W args,i<N->w.heap.size<l->l<W.heap.size->¬ T l->E i args T W->I i T W →
   assign.wpIn (Fence.wide.inRound l) 0 P (Exit.then (fun a1 W1=>Bod w.heap.size T W W1/\∃ Ax:World->Prop,cI w.heap.size Ax/\Ax W1/\∀ W2,Ax W2->(∃ r,W2.heap[l]?=some (.loop r))->body.wpIn (Fence.wide.inRound l) 0 P (Lm w.heap.size T (fun i=>I i T) (fun c i=>Ix c i T) (i+1) W2) a1 W2) (fun _ _ _=>False))
    { tmps:=(ps.zip args).foldl (fun t (p,v)=>t.setIfInBounds p v) a.tmps,defers:=[] } W)
  (wj:∀ D T W,w.heap.size<=D->I N T W->W.heap[D]?=some (.deferred (some []))->Q .normal { a with defers:=gZ D :: a.defers } W)
  (wh:∀ D c i T W,w.heap.size<=D->i<=N->Ix c i T W->W.heap[D]?=some (.deferred (some []))->c.wp P Q { a with defers:=gZ D :: a.defers } W) :
  (Code.rangeFunc g ps assign body).wp P Q a w:=by
 refine(wpIn_wide (n:=0)).1 (wpIn_rangeFunc ?_);intro fn _;obtain⟨rec,j7⟩:∃ rec:Loop,rec={ state:=.ready,pending:=none,fn,tmps:=a.tmps,params:=ps,assign,body,defers:=w.heap.size }:=⟨_,rfl⟩;obtain⟨W1,cC⟩:∃ W1,(w.alloc (.deferred (some []))).alloc (.loop rec)=W1:=⟨_,rfl⟩
 have Js:W1.heap[w.heap.size+1]?=some (.loop rec):=by
  rw[<-cC];have:=ak (w.alloc (.deferred (some []))) (.loop rec);rwa [World.size_alloc]at this
 have Ji:W1.heap[w.heap.size]?=some (.deferred (some [])):=by rw[<-cC];exact am _ (ak w _)
 have bP:W1.heap.size=w.heap.size+2:=by rw[<-cC];simp
 have rq:Below w.heap.size w W1:=by rw[<-cC];exact((Below.refl _ w).alloc (Nat.le_refl _) _).alloc (by simp) _
 have Py:¬ S (w.heap.size+1):=fun h=>by have:=hS _ h;omega
 refine⟨w.heap.size+1,[gZ w.heap.size],W1,{ target:=.fn (.func gf) lb,args:=#[.func (.yield (w.heap.size+1)) #[] #[]] },W1,gf,
  #[.func (.yield (w.heap.size+1)) #[] #[]]++lb,W1,?_,?_,fun _ _=>trivial,?_,fun h=>(by simp[Fence.wide]at h),?_⟩
 ·rw[<-cC,j7];exact run_enterLoop_outer _ _ _ _ _
 ·simp only[resolve,hg]
  simp[go_sem]
 ·simp[invoke,go_sem,eg]
 ·refine(callsIn_wide (n:=0 - 1)).2 ?_
  refine(da (w.heap.size+1)
   (fun i T W=>I i T W/\W.heap[w.heap.size+1]?=some (.loop rec)/\W.heap[w.heap.size]?=some (.deferred (some []))/\¬ T (w.heap.size+1))
   (fun i T W=>∃ c,Ix c i T W/\W.heap[w.heap.size+1]?=some (.loop { rec with state:=.done,pending:=some c })/\W.heap[w.heap.size]?=some (.deferred (some [])))
   W1 (ae aC rq) (by omega)
   (fun i T T' A A' h hb hw=>⟨hI i T T' A A' h.1 (.of_below hb) hw,af hb h.2.1,af hb h.2.2.1,fun ht=>by
    rcases hw.2 _ ht with h1|h1
    ·exact h.2.2.2 h1
    ·have:=ar h.2.1;have:=h1.1;omega⟩)
   (fun i T T' A A' h hb hw=>by obtain⟨c,h1,h2,h3⟩:=h;exact⟨c,sC c i T T' A A' h1 (.of_below hb) hw,af hb h2,af hb h3⟩)
   ?_ ⟨hI 0 S S _ _ h0 (.of_below rq) (gr.refl _ _ _),Js,Ji,Py⟩).mono ?_
  ·rintro i T W args hi hE ⟨Iz,hl,hk,hT⟩
   refine Gp (B:=w.heap.size) (S:=T) (ps:=ps) (assign:=assign) (body:=body) (tmps:=a.tmps) (i:=i) (I:=fun i=>I i T) (Ix:=fun c i=>Ix c i T) _ (by omega) hT (by rw[j7];simp) hl (yv i args T W hE) (kS _ i T W args hi (by omega) (ar hl) hT hE Iz) ?_ ?_
   ·intro W3 W4 _ cg ny hc ri lF
    exact⟨cg.size,cg.keep,.inl ⟨rfl,hI _ _ _ _ _ ri hc (gr.refl _ _ _),ny,lF _ _ (Nat.le_refl _) (by omega) hk rfl,hT⟩⟩
   ·intro c W3 W4 _ cg ny hc ri lF
    exact⟨cg.size,cg.keep,.inr ⟨rfl,c,sC _ _ _ _ _ _ ri hc (gr.refl _ _ _),ny,lF _ _ (Nat.le_refl _) (by omega) hk rfl⟩⟩
  ·rintro e W2 ⟨⟨v,rfl⟩,T,(⟨hi,hl,hk,_⟩|⟨i,cP,c,hi,hl,hk⟩)⟩
   ·exact⟨none,_,by have:=run_endLoop (P:=P) hl (by rw[j7];simp);rw[this,j7],wj _ T _ (Nat.le_refl _) (hI _ _ _ _ _ hi (Chg.put _ hl (by omega) rfl) (gr.refl _ _ _)) ((World.putObj_heap_other (by omega)).trans hk)⟩
   ·exact⟨some c,_,by have:=run_endLoop (P:=P) hl (by simp);rw[this],wpIn_wide.2 (wh _ c i T _ (Nat.le_refl _) cP (sC _ _ _ _ _ _ hi (Chg.put _ hl (by omega) rfl) (gr.refl _ _ _)) ((World.putObj_heap_other (by omega)).trans hk))⟩
theorem aD.keepT{w w':World} {base sz:Nat} {e:TypeId} {v:Value} {n:Nat} {xs:List Value} (h:aD w base e sz v n xs) (hk:∀ g o,v.ownBlock=some g->w.heap[g]?=some o->w'.heap[g]?=some o):aD w' base e sz v n xs:=by
 obtain⟨hl,h⟩:=h;refine⟨hl,?_⟩;rcases h with h|⟨g,cap,cur,fz,rfl,h2,h3,h4⟩
 ·exact .inl h
 ·exact .inr ⟨g,cap,cur,fz,rfl,h2,hk g _ rfl h3,h4⟩
theorem zn(k:Nat) (h:k<=30):(1:Int)<=2 ^ k/\(2:Int) ^ k<=1073741824:=by
 have h1:2 ^ k<=2 ^ 30:=Nat.pow_le_pow_right (by decide) h;have h2:1<=2 ^ k:=Nat.one_le_two_pow;have e:((2 ^ k:Nat):Int)=2 ^ k:=by simp
 rw[<-e];omega
theorem qO(n:Nat) (h:n<=30) (w:World) :
  Calls Tryz.prog 88 #[.int .i64 n] w fun e w'=>e=.returned (.int .i64 (2 ^ n))/\w=w':=by
 go_enter Tryz.func88,Tryz.ntmps88
 go_wp2
 go_loop [3,4] (fun o i=>∃ k:Nat,k<=n/\i=.int .i64 k/\o=.int .i64 (2 ^ k)) (fun _ i=>n - (intOf i).toNat)
 case atStart=>exact⟨0,by omega,rfl,rfl⟩
 case round=>
  obtain⟨k,hk,rfl,rfl⟩:=hrel;have hp:=zn k (by omega);have HS:Hid ((2:Int) ^ (k+1)=2 ^ k * 2):=by(have h:(2:Int) ^ (k+1)=2 ^ k * 2:=Int.pow_succ _ _);exact h
  have HK:Hid ((2:Int) ^ k=2 ^ k):=by exact rfl
  generalize hx:(2:Int) ^ k=x at hp HS;have HX:=aa hx;clear hx;by_cases az:k<n
  ·go_wp2
   go_round
   case rel=>exact⟨k+1,by omega,by go_num,by rw[HS.out]⟩
   case measure=>simp[intOf];omega
  ·go_wp2
   go_ret
   obtain rfl:k=n:=by omega
   exact⟨aA HX.out.symm,rfl⟩
theorem Qx(set:Int) (p:Nat) (h:0<=set):(Int.tmod (Int.tdiv set (2 ^ p)) 2 == 1)=hasB set p:=by
 unfold hasB;rw[Int.tdiv_eq_ediv_of_nonneg h,Int.tmod_eq_emod_of_nonneg (Int.ediv_nonneg h (by have:=Int.pow_pos (n:=2) (m:=p) (by decide);omega))]
theorem jX(set:Int) (p:Nat) (h:p<=30) (h0:0<=set) (h1:set<=9223372036854775807) (w:World) :
  Calls Tryz.prog 47 #[.int .i64 set,.int .i64 p] w fun e w'=>e=.returned (.bool (hasB set p))/\w=w':=by
 have hp:=zn p h;have HD:=aa (Qx set p h0);have hc:=fun w=>qO p h w
 have HC:=aa hc;clear hc;generalize (2:Int) ^ p=x at hp HD HC
 go_enter Tryz.func47,Tryz.ntmps47
 go_wp2_with (go_at_call 88;refine(HC.out _).mono ?_;rintro e w' ⟨rfl,rfl⟩)
 go_ret
 refine⟨aN ?_,rfl⟩;rw[<-HD.out,Int.tdiv_eq_ediv_of_nonneg h0,Int.tmod_eq_emod_of_nonneg (Int.ediv_nonneg h0 (by omega))]
theorem Er(n:Nat) (h:n<=30) (w:World) :
  Calls Tryz.prog 60 #[.int .i64 n] w fun e w'=>e=.returned (.int .i64 (2 ^ n - 1))/\w=w':=by
 have hp:=zn n h;have HC:=aa (fun w=>qO n h w);generalize (2:Int) ^ n=x at hp HC
 go_enter Tryz.func60,Tryz.ntmps60
 go_wp2_with (go_at_call 88;refine(HC.out _).mono ?_;rintro e w' ⟨rfl,rfl⟩)
 go_ret
 exact⟨rfl,rfl⟩
theorem BK(n:Int) (w:World) :
  Calls Tryz.prog 215 #[.int .i64 n] w fun e w'=>e=.returned (.int .i64 (iF n))/\w=w':=by
 go_enter Tryz.func215,Tryz.ntmps215
 go_wp2
 all_goals
  go_ret
  refine⟨aA ?_,rfl⟩
  go_light
  unfold iF
  grind
theorem Ui(f:Int) (n:Nat) (h:0<=f):f / 2 ^ n≠0↔2 ^ n<=f:=by
 have hp:(0:Int)<2 ^ n:=Int.pow_pos (by decide);constructor
 ·intro h1
  rcases Int.lt_or_le f (2 ^ n) with h2|h2
  ·exact absurd (Int.ediv_eq_zero_of_lt h h2) h1
  ·exact h2
 ·intro h1 h2
  have:(1:Int)<=f / 2 ^ n:=(Int.le_ediv_iff_mul_le hp).2 (by omega);omega
theorem FS(n set:Int) (w:World) :
  Calls Tryz.prog 209 #[.int .i64 n,.int .i64 set] w fun e w'=>e=.returned (.int .i64 (jQ n set))/\w=w':=by
 by_cases hn:n<1\/5<n
 ·have hp:iF n=1:=by unfold iF;rw[if_pos hn]
  have HP:Hid (jQ n set=1):=by(have h:jQ n set=1:=by(unfold jQ;rw[hp];rfl));exact h
  have HC:=aa (BK n);rw[hp]at HC;clear hp
  go_enter Tryz.func209,Tryz.ntmps209
  go_wp2_with (go_at_call 215;refine(HC.out _).mono ?_;rintro e w' ⟨rfl,rfl⟩)
  go_ret
  exact⟨aA HP.out.symm,rfl⟩
 ·have hp:iF n=0:=by unfold iF;rw[if_neg hn]
  obtain⟨m,rfl⟩:∃ m:Nat,n=m:=⟨n.toNat,by omega⟩
  have HP:Hid (jQ m set=if set<0\/2 ^ m<=set then 2 else 0):=by
   have h:jQ m set=if set<0\/2 ^ m<=set then 2 else 0:=by
    unfold jQ;rw[hp,Int.toNat_natCast,if_neg (by simp)];by_cases h0:set<0
    ·simp[h0]
    ·have:=Ui set m (by omega)
     simp only[this]
   exact h
  have HC:=aa (BK m);rw[hp]at HC;have lA:=aa (fun w=>qO m (by omega) w);generalize (2:Int) ^ m=x at HP lA;clear hp hn
  go_enter Tryz.func209,Tryz.ntmps209
  go_wp2_with (first|(go_at_call 215;refine(HC.out _).mono ?_;rintro e w' ⟨rfl,rfl⟩)|(go_at_call 88;refine(lA.out _).mono ?_;rintro e w' ⟨rfl,rfl⟩))
  all_goals
   go_ret
   refine⟨aA ?_,rfl⟩;rw[HP.out]
   go_light
   grind
theorem JK(a b:Int) (h1:0<=a/\a<=9223372036854775807) (h2:0<=b/\b<=9223372036854775807) (w:World) :
  Calls Tryz.prog 188 #[.int .i64 a,.int .i64 b] w fun e w'=>e=.returned (.bool (iE a b))/\w=w':=by
 have HV:Hid (iE a b=!anyLt 5 fun p=>hasB a p&&!hasB b p):=by exact rfl
 go_enter Tryz.func188,Tryz.ntmps188
 go_wp2
 go_loop [5] (fun i=>∃ k:Nat,k<=5/\i=.int .i64 k/\∀ j,j<k->(hasB a j&&!hasB b j)=false) (fun i=>5 - (intOf i).toNat)
 case atStart=>exact⟨0,by omega,rfl,by simp⟩
 case round=>
  obtain⟨k,hk,rfl,aS⟩:=hrel;have H:=aa aS;clear aS;by_cases az:k<5
  ·have C1:=aa (fun w=>jX a k (by omega) h1.1 h1.2 w)
   have C2:=aa (fun w=>jX b k (by omega) h2.1 h2.2 w);cases hx:hasB a k with
   | false=>
    rw[hx]at C1;have HX:=aa hx;clear hx
    go_wp2_with (go_at_call 47;refine(C1.out _).mono ?_;rintro e w' ⟨rfl,rfl⟩)
    go_round
    case rel=>exact⟨k+1,by omega,by go_num,aT H.out (by rw[HX.out];rfl)⟩
    case measure=>simp[intOf];omega
   | true=>
    rw[hx]at C1;have HX:=aa hx;clear hx;cases hy:hasB b k with
    | false=>
     rw[hy]at C2;have HY:=aa hy;clear hy
     go_wp2_with fail
     refine(C1.out _).mono ?_;rintro e w' ⟨rfl,rfl⟩
     go_wp2_with fail
     refine(C2.out _).mono ?_;rintro e w' ⟨rfl,rfl⟩
     go_wp2_with fail
     go_ret
     exact⟨aN (by rw[HV.out,dV 5 k _ az (by rw[HX.out,HY.out];rfl)];rfl),rfl⟩
    | true=>
     rw[hy]at C2;have HY:=aa hy;clear hy
     go_wp2_with fail
     refine(C1.out _).mono ?_;rintro e w' ⟨rfl,rfl⟩
     go_wp2_with fail
     refine(C2.out _).mono ?_;rintro e w' ⟨rfl,rfl⟩
     go_wp2_with fail
     go_round
     case rel=>exact⟨k+1,by omega,by go_num,aT H.out (by rw[HX.out,HY.out];rfl)⟩
     case measure=>simp[intOf];omega
  ·go_wp2
   go_ret
   exact⟨aN (by rw[HV.out,eD];rfl;intro j hj;exact H.out j (by omega)),rfl⟩
structure KeyKit {K:Type} [DecidableEq K] (P:Program) (kt:TypeId) (enc:K->Value):Prop where
 eq:∀ a b w,(Op.equal kt (enc a) (enc b)).run P w=.ok (decide (a=b)) w
 check:∀ em a w,(Instr.checkKey em 10000 kt (enc a)).run P w=.ok () w
 und:∃ fs,P.underlying kt=some (.struct fs)
def lN{K:Type} (enc:K->Value) (w:World) (b:Nat) (f:List (K × Value)):Prop:=
 ∃ es clock,w.heap[b]?=some (.map es clock)/\es.toList.map (fun e=>(e.key,e.val))=f.map (fun p=>(enc p.1,p.2))
def kN{K:Type} [DecidableEq K] (f:List (K × Value)) (r:K):Option Value:=(f.find? fun p=>decide (r=p.1)).map (·.2)
theorem lN.up{K:Type} {enc:K->Value} {A A':World} {b:Nat} {f:List (K × Value)} (h:lN enc A b f) (hb:Below A.heap.size A A'):lN enc A' b f:=by
 obtain⟨es,clock,h1,hf⟩:=h;exact⟨es,clock,af hb h1,hf⟩
theorem z5{K:Type} [DecidableEq K] {P:Program} {kt:TypeId} {enc:K->Value} (kit:KeyKit P kt enc) (r:K) (w:World):∀ (f:List (K × Value)) (es:List MapEntry) (i:Nat),es.map (fun e=>(e.key,e.val))=f.map (fun p=>(enc p.1,p.2)) →
  (kN f r=none->(Instr.findAsking kt (enc r) es i).run P w=.ok none w)/\(∀ x,kN f r=some x->∃ j,(Instr.findAsking kt (enc r) es i).run P w=.ok (some (j,x)) w)
 | [],es,i,h=>by
  obtain rfl:es=[]:=by simpa using h
  exact⟨fun _=>rfl,fun x hx=>by simp[kN]at hx⟩
 | p :: f,es,i,h=>by
  cases es with
  | nil=>simp at h
  | cons e es=>
   simp only[List.map_cons,List.cons.injEq,Prod.mk.injEq]at h;obtain⟨⟨hk,hv⟩,h⟩:=h;have ih:=z5 kit r w f es (i+1) h;unfold Instr.findAsking;by_cases hr:r=p.1
   ·subst hr
    refine⟨fun hn=>by simp[kN]at hn,fun x hx=>?_⟩;have hx':p.2=x:=by simpa[kN] using hx
    refine⟨i,?_⟩;simp[Sem.run_bind,hk,kit.eq,hv,hx']
   ·have e1:kN (p :: f) r=kN f r:=by simp[kN,hr]
    rw[e1];refine⟨fun hn=>?_,fun x hx=>?_⟩
    ·simp[Sem.run_bind,hk,kit.eq,hr,ih.1 hn]
    ·obtain⟨j,hj⟩:=ih.2 x hx
     exact⟨j,by simp[Sem.run_bind,hk,kit.eq,hr,hj]⟩
theorem GK{K:Type} [DecidableEq K] {P:Program} {kt:TypeId} {enc:K->Value} (kit:KeyKit P kt enc) (r:K) (w:World) (f:List (K × Value)) (es:List MapEntry) (h:es.map (fun e=>(e.key,e.val))=f.map (fun p=>(enc p.1,p.2))) :
  (kN f r=none->(Instr.findKey kt (enc r) es).run P w=.ok none w)/\(∀ x,kN f r=some x->∃ j,(Instr.findKey kt (enc r) es).run P w=.ok (some (j,x)) w):=by
 have hA:=z5 kit r w f es 0 h;obtain⟨fs,hu⟩:=kit.und;unfold Instr.findKey;cases es with
 | nil=>
  obtain rfl:f=[]:=by simpa using h.symm
  refine⟨fun _=>?_,fun x hx=>by simp[kN]at hx⟩;simp[run_underlying hu,Instr.findNow]
 | cons e es=>
  have hn:Instr.findNow (.struct fs) (enc r) (e :: es) 0=none:=by simp[Instr.findNow,Instr.sameNow]
  simp only[Sem.run_bind,run_underlying hu,Result.andThen_ok,hn];exact hA
theorem GL{K:Type} [DecidableEq K] {P:Program} {kt mt vt:TypeId} {z:Value} {enc:K->Value} (kit:KeyKit P kt enc) (hm:P.underlying mt=some (.map kt vt)) (hz:∀ w,(zeroValue vt).run P w=.ok z w) {w:World} {b:Nat} {f:List (K × Value)} (h:lN enc w b f) (r:K) :
  (Instr.lookup mt (.map (some b)) (enc r) true).run P w=.ok (.tuple #[(kN f r).getD z,.bool (kN f r).isSome]) w:=by
 obtain⟨es,clock,hb,iN⟩:=h;have hF:=GK kit r w f es.toList iN;have hg:(getObj b).run P w=.ok (.map es clock) w:=by simp[getObj,Sem.run,hb]
 unfold Instr.lookup;cases hn:kN f r with
 | none=>simp[Sem.run_bind,run_underlying hm,hg,kit.check,hF.1 hn,hz]
 | some x=>
  obtain⟨j,hj⟩:=hF.2 x hn;simp[run_underlying hm,hg,kit.check,hj]
theorem Uj{K:Type} [DecidableEq K] {P:Program} {kt mt vt:TypeId} {enc:K->Value} (kit:KeyKit P kt enc) (hm:P.underlying mt=some (.map kt vt)) {w:World} {b:Nat} {f:List (K × Value)} (h:lN enc w b f) (r:K) (x:Value) (hn:kN f r=none) :
  ∃ o,(Instr.mapUpdate mt (.map (some b)) (enc r) x).run P w=.ok () (w.putObj b o)/\lN enc (w.putObj b o) b (f++[(r,x)]):=by
 obtain⟨es,clock,hb,iN⟩:=h;have hF:=GK kit r w f es.toList iN;have hg:(getObj b).run P w=.ok (.map es clock) w:=by simp[getObj,Sem.run,hb]
 have hs:∀ o,(setObj b o).run P w=.ok () (w.putObj b o):=fun o=>by simp[setObj,Sem.run,hb,World.putObj]
 refine⟨_,?_,es.push { key:=enc r,val:=x,born:=clock },clock+1,World.putObj_heap_same (ar hb),?_⟩
 ·unfold Instr.mapUpdate
  simp[run_underlying hm,hg,kit.check,hF.1 hn,hs]
 ·simp[iN]
theorem F'(P:Program) (t:TypeId) (w:World):(Instr.makeMap t none).run P w=.ok (.map (some w.heap.size)) (w.alloc (.map #[] 0)):=rfl
def hC(f:Nat->Int) (q:Nat):Array Value:=((List.range 5).map fun j=>Value.int .i64 (if j<q then f j else 0)).toArray
theorem Dq(f:Nat->Int) (q:Nat):(hC f q).size=5:=by simp[hC]
theorem GM(f:Nat->Int) (q j:Nat) (hj:j<5):(hC f q)[j]?=some (.int .i64 (if j<q then f j else 0)):=by simp[hC,hj]
theorem Vb(f:Nat->Int) (q:Nat) (hq:q<5):(hC f q).setIfInBounds q (.int .i64 (f q))=hC f (q+1):=by
 apply Array.ext_getElem?;intro j;rw[Array.getElem?_setIfInBounds];by_cases hj:j<5
 ·rw[GM _ _ _ hj,GM _ _ _ hj]
  by_cases e:q=j
  ·subst e;rw[if_pos rfl,if_pos (by rw[Dq];exact hj),if_pos (by omega)]
  ·rw[if_neg e]
   by_cases h:j<q
   ·rw[if_pos h,if_pos (by omega)]
   ·rw[if_neg h,if_neg (by omega)]
 ·have h1:(hC f q)[j]?=none:=by rw[Array.getElem?_eq_none];rw[Dq];omega
  have h2:(hC f (q+1))[j]?=none:=by rw[Array.getElem?_eq_none];rw[Dq];omega
  rw[h1,h2,if_neg (by omega)]
theorem Dr(f:Nat->Int):hC f 0=#[.int .i64 0,.int .i64 0,.int .i64 0,.int .i64 0,.int .i64 0]:=rfl
theorem Uk(f:Nat->Int):hC f 5=#[.int .i64 (f 0),.int .i64 (f 1),.int .i64 (f 2),.int .i64 (f 3),.int .i64 (f 4)]:=rfl
theorem JL(tmps:Array Value) (f:Func) (s:Nat) (hf:f.results=#[.cell s 137]) (B:Nat) (W:World) (x0 x1 x2 x3 x4:Int) (ty:TypeId) (h1:tmps[s]?.getD undef=.pointer (some ⟨B,0,none⟩)) (hb:W.heap[B]?=some (.cells #[.int .i64 x0,.int .i64 x1,.int .i64 x2,.int .i64 x3,.int .i64 x4] ty)) :
  (results f tmps).run Tryz.prog W=.ok (.agg #[.int .i64 x0,.int .i64 x1,.int .i64 x2,.int .i64 x3,.int .i64 x4]) W:=by
 have t1:=ab hb;simp[results,hf,go_sem,h1,t1]
end Go.Proofs.YtmeaoneaephjeaaGreatDoor
namespace Go.Proofs.YtmeaoneaephjeaaGreatDoor
open Go.RowKit Go Go.Shelf
attribute [local go_sem] Oper.semAt_some
def bJ(l:List Int):Array Value:=(l.map (Value.int .i64)).toArray
def fC(n:Nat) (f:Nat->Int) (q:Nat):Array Value:=((List.range n).map fun j=>Value.int .i64 (if j<q then f j else 0)).toArray
theorem oG(n:Nat) (f:Nat->Int) (q:Nat):(fC n f q).size=n:=by simp[fC]
theorem mZ(n:Nat) (f:Nat->Int) (q j:Nat) (hj:j<n):(fC n f q)[j]?=some (.int .i64 (if j<q then f j else 0)):=by simp[fC,hj]
theorem xN(n:Nat) (f:Nat->Int) (q:Nat) (hq:q<n):(fC n f q).setIfInBounds q (.int .i64 (f q))=fC n f (q+1):=by
 apply Array.ext_getElem?;intro j;rw[Array.getElem?_setIfInBounds];by_cases hj:j<n
 ·rw[mZ _ _ _ _ hj,mZ _ _ _ _ hj]
  by_cases e:q=j
  ·subst e;rw[if_pos rfl,if_pos (by rw[oG];exact hj),if_pos (by omega)]
  ·rw[if_neg e]
   by_cases h:j<q
   ·rw[if_pos h,if_pos (by omega)]
   ·rw[if_neg h,if_neg (by omega)]
 ·have h1:(fC n f q)[j]?=none:=by rw[Array.getElem?_eq_none];rw[oG];omega
  have h2:(fC n f (q+1))[j]?=none:=by rw[Array.getElem?_eq_none];rw[oG];omega
  rw[h1,h2,if_neg (by omega)]
theorem q7(n:Nat) (f:Nat->Int):fC n f n=bJ ((List.range n).map f):=by
 unfold fC bJ;rw[List.map_map];congr 1;refine List.map_congr_left fun j hj=>?_
 rw[if_pos (List.mem_range.1 hj)];rfl
theorem Ul(f:Nat->Int) (n:Nat):madeCells (Value.int .i64 0).cells n=fC n f 0:=by
 apply Array.ext
 ·simp[madeCells,fC]
 ·intro i h1 h2
  simp[madeCells,fC,Value.cells,Nat.mod_one]
theorem BL(f:Nat->Int) (n:Nat) (hn:n<=65536) (w:World):(Instr.makeSlice 38 (.int .i64 (n:Int)) (.int .i64 (n:Int))).run Tryz.prog w=.ok (.slice (some ⟨w.heap.size,0,none⟩) n n) (w.alloc (.cells (fC n f 0) 3)):=by
 have hinfo:(Tryz.prog.info? 3).map (fun i=>(i.zero,i.size,i.bytes))=some (some (.int .i64 0),1,8):=by kernel_rfl
 obtain⟨i,hi,cf,bP,cj⟩:=info_parts hinfo;have:=run_make (P:=Tryz.prog) w 38 3 i (.int .i64 0) Tryz.underlying38 hi cf .i64 .i64 (n:Int) (n:Int) (by omega) (by omega) (by rw[cj];omega) (by omega);rw[this,bP,Nat.mul_one];simp only[Int.toNat_natCast,Ul f]
theorem kO(f:Nat->Int) (n:Nat) (hn:n<=256) (w:World):(Instr.makeSlice 38 (.int .i64 (n:Int)) (.int .i64 (n:Int))).run Tryz.prog w=.ok (.slice (some ⟨w.heap.size,0,none⟩) n n) (w.alloc (.cells (fC n f 0) 3)):=BL f n (by omega) w
theorem vK{W:World} {B:Nat} {now:List Int} {n:Nat} (hl:now.length=n) (hn:n<=256) (h:W.heap[B]?=some (.cells (bJ now) 3)) (hr:∀ i,i<now.length->bI (now.getD i 0)):aY W (.slice (some ⟨B,0,none⟩) n n) now:=by
 subst hl;refine⟨some ⟨B,0,none⟩,now.length,rfl,⟨Nat.le_refl _,by omega,fun e=>by cases e⟩,by omega,fun i x hx=>⟨B,0,rfl,?_⟩⟩;obtain⟨hi,rfl⟩:=List.getElem?_eq_some_iff.1 hx;refine⟨?_,?_⟩
 ·rw[ab h,Nat.zero_add,Nat.mul_one]
  simp[bJ,hi]
 ·have:=hr i hi
  rwa [ap 0 hi]at this
theorem wD(v:Value) (l:List Int) (x:Int) (w:World) (hv:aY w v l) :
  Calls Tryz.prog 48 #[v,.int .i64 x] w fun e w'=>e=.returned (.int .i64 (firstIx l.length fun i=>decide (x=l.getD i 0)))/\Below w.heap.size w w':=by
 obtain⟨pa,ca,rfl,la1,la2,ea⟩:=hv.at;have EA:=aa ea;clear hv ea;generalize hr:(firstIx l.length fun i=>decide (x=l.getD i 0))=r;have HR:=aa hr;clear hr
 go_enter Tryz.func48,Tryz.ntmps48
 go_wp2
 go_loop [8] (fun i=>∃ k:Nat,k<=l.length/\i=.int .i64 k/\∀ j,j<k->decide (x=l.getD j 0)=false) (fun i=>l.length - (intOf i).toNat)
 case atStart=>exact⟨0,by omega,rfl,by simp⟩
 case round=>
  obtain⟨k,hk,rfl,aS⟩:=hrel;have H:=aa aS;clear aS;by_cases az:k<l.length
  ·obtain⟨b1,o1,rfl,h1⟩:=EA.out k az
   rw[Nat.mul_one]at h1;have c1:=h1.1;have HG:=aa (ap 0 az);clear h1;generalize l[k]=y at c1 HG;by_cases cO:x=y
   ·subst cO
    go_wp2
    go_ret
    exact⟨aA (by rw[<-HR.out,dF _ k _ az H.out (by rw[HG.out];simp)]),Below.refl _ _⟩
   ·have hxy':(x == y)=false:=by simpa using cO
    have HX:Hid (decide (x=l.getD k 0)=false):=by(have h:decide (x=l.getD k 0)=false:=by(rw[HG.out];simpa using cO));exact h
    clear cO
    go_wp2
    go_round
    case rel=>exact⟨k+1,by omega,by go_num,aT H.out HX.out⟩
    case measure=>simp[intOf];omega
  ·go_wp2
   go_ret
   exact⟨aA (by rw[<-HR.out,eC];intro j hj;exact H.out j (by omega)),Below.refl _ _⟩
theorem Dt(l:List Int) (x:Int):(anyLt l.length fun i=>decide (x=l.getD i 0))=l.contains x:=by
 rw[Bool.eq_iff_iff,kI,List.contains_iff_mem];constructor
 ·rintro⟨k,hk,h⟩
  simp only[decide_eq_true_eq]at h;rw[ap 0 hk]at h;rw[h];exact List.getElem_mem hk
 ·intro h
  obtain⟨k,hk,rfl⟩:=List.getElem_of_mem h;exact⟨k,hk,by rw[ap 0 hk];simp⟩
theorem AZ(v:Value) (l:List Int) (x:Int) (w:World) (hv:aY w v l) :
  Calls Tryz.prog 33 #[v,.int .i64 x] w fun e w'=>e=.returned (.bool (l.contains x))/\Below w.heap.size w w':=by
 have HC:=aa (wD v l x w hv);have HA:Hid (l.contains x=decide (0<=firstIx l.length fun i=>decide (x=l.getD i 0))):=by(have h:l.contains x=decide (0<=firstIx l.length fun i=>decide (x=l.getD i 0)):=by(rw[oT,Dt]));exact h
 generalize (firstIx l.length fun i=>decide (x=l.getD i 0))=r at HC HA;obtain⟨pa,ca,rfl,_⟩:=hv.at;clear hv
 go_enter Tryz.func33,Tryz.ntmps33
 go_wp2_with fail
 refine HC.out.mono ?_;rintro e w1 ⟨rfl,aG⟩
 go_wp2_with fail
 go_ret
 exact⟨aN HA.out.symm,aG⟩
theorem GN{α:Type} {k:Nat} {R:World->Nat->Nat->α->Prop} {W:World} {B n:Nat} {cs:Array Value} {t:TypeId} {xs:List (List α)} (h:W.heap[B]?=some (.cells cs t)) (hn:n=xs.length) (hs:xs.length<=256) (he:∀ i (hi:i<xs.length),∃ v,cs[i]?=some v/\eM k R W v xs[i]):eM 1 (mf k R) W (.slice (some ⟨B,0,none⟩) n n) xs:=by
 subst hn;refine⟨some ⟨B,0,none⟩,xs.length,rfl,⟨Nat.le_refl _,by omega,fun e=>by cases e⟩,by omega,fun i x hx=>⟨B,0,rfl,?_⟩⟩;obtain⟨hi,rfl⟩:=List.getElem?_eq_some_iff.1 hx;obtain⟨v,h1,h2⟩:=he i hi;exact⟨v,by rw[Nat.zero_add,Nat.mul_one,ab h];exact h1,h2⟩
theorem BM(l:List Obj) (w:World) {k:Nat} {o:Obj} (h:w.heap[k]?=some o):(l.foldl World.alloc w).heap[k]?=some o:=by
 induction l generalizing w with
 | nil=>exact h
 | cons a r ih=>exact ih _ (am _ h)
theorem Lx(l:List Obj) (w:World) (i:Nat) {o:Obj} (h:l[i]?=some o):(l.foldl World.alloc w).heap[w.heap.size+i]?=some o:=by
 induction l generalizing w i with
 | nil=>simp at h
 | cons a r ih=>
  cases i with
  | zero=>
   simp at h;subst h;exact BM r _ (ak w a)
  | succ i=>
   have:=ih (w.alloc a) i (by simpa using h);rw[World.size_alloc]at this;rw[show w.heap.size+(i+1)=w.heap.size+1+i by omega];exact this
theorem NJ{l:List Int} (h:∀ x∈l,-2<x/\x<100):∀ i,i<l.length->bI (l.getD i 0):=fun i hi=>by
 have:=h _ (List.getElem_mem hi);rw[ap 0 hi];unfold bI;omega
theorem ib{W:World} {B:Nat} (l:List Int) (h:W.heap[B]?=some (.cells (bJ l) 3)) (hn:l.length<=256) (hs:∀ x∈l,-2<x/\x<100):aY W (.slice (some ⟨B,0,none⟩) l.length l.length) l:=vK rfl hn h (NJ hs)
theorem NK{α:Type} {k:Nat} {R:World->Nat->Nat->α->Prop} {W:World} {B:Nat} {a b:Value} {t:TypeId} {x y:List α} (h:W.heap[B]?=some (.cells #[a,b] t)) (ha:eM k R W a x) (hb:eM k R W b y):eM 1 (mf k R) W (.slice (some ⟨B,0,none⟩) 2 2) [x,y]:=
 GN h rfl (by simp) fun i hi=>by
  rcases (show i=0\/i=1 by simp at hi;omega) with rfl|rfl
  ·exact⟨a,rfl,ha⟩
  ·exact⟨b,rfl,hb⟩
theorem xO{α:Type} {k:Nat} {R:World->Nat->Nat->α->Prop} {W:World} {B:Nat} {a:Value} {t:TypeId} {x:List α} (h:W.heap[B]?=some (.cells #[a] t)) (ha:eM k R W a x):eM 1 (mf k R) W (.slice (some ⟨B,0,none⟩) 1 1) [x]:=
 GN h rfl (by simp) fun i hi=>by
  obtain rfl:i=0:=by simp at hi;omega
  exact⟨a,rfl,ha⟩
abbrev iC(l:List Int):Obj:=.cells (bJ l) 3
abbrev sV(B n:Nat):Value:=.slice (some ⟨B,0,none⟩) n n
end Go.Proofs.YtmeaoneaephjeaaGreatDoor
namespace Go.Proofs.YtmeaoneaephjeaaGreatDoor
open Go.RowKit Go Go.Shelf
def tk(tb:List Vw):List (Vw × Value):=tb.zipIdx.map fun x=>(x.1,Value.int .i64 (x.2:Nat))
theorem NL(tb:List Vw) (v:Vw):tk (tb++[v])=tk tb++[(v,.int .i64 (tb.length:Nat))]:=by
 unfold tk;rw[List.zipIdx_append];simp
theorem Qy(v:Vw) (tb:List Vw):∀ k:Nat,(((tb.zipIdx k).map fun x=>(x.1,Value.int .i64 ((x.2:Nat):Int))).find? fun p=>decide (v=p.1))=if v∈tb then some (v,.int .i64 ((k+tb.idxOf v:Nat):Int)) else none:=by
 induction tb with
 | nil=>intro k;simp
 | cons a r ih=>
  intro k;rw[List.zipIdx_cons,List.map_cons,List.find?_cons];by_cases h:v=a
  ·subst h
   simp
  ·have h2:decide (v=(a,Value.int .i64 ((k:Nat):Int)).1)=false:=by simpa using h
   rw[h2];have h3:=ih (k+1);simp only at h3 ⊢;rw[h3];have h4:(a == v)=false:=by simpa using fun e=>h e.symm
   by_cases hm:v∈r
   ·rw[if_pos hm,if_pos (by simp[hm]),List.idxOf_cons,h4]
    simp only[cond_false];rw[show k+1+List.idxOf v r=k+(List.idxOf v r+1) by omega]
   ·rw[if_neg hm,if_neg (by simp[hm,h])]
theorem Qz(tb:List Vw) (v:Vw):kN (tk tb) v=if v∈tb then some (.int .i64 (tb.idxOf v:Nat)) else none:=by
 unfold kN tk;have h:=Qy v tb 0;simp only[Nat.zero_add]at h;rw[h];split<;>rfl
structure KeepT (ts:List TypeId) (ms:List Nat) (base:Nat) (w w':World):Prop where
 old:Below base w w'
 keep:∀ (k:Nat) (c:Array Value) (t:TypeId) (f:Nat × Nat),w.heap[k]?=some (.cells c t f)->t∉ts->w'.heap[k]?=some (.cells c t f)
 oth:∀ (k:Nat) (o:Obj),w.heap[k]?=some o->o.isCells=false->k∉ms->w'.heap[k]?=some o
section
variable {ts : List TypeId} {ms : List Nat} {base : Nat} {w w' w'' : World}
theorem KeepT.refl(ts:List TypeId) (base:Nat) (w:World):KeepT ts ms base w w:=⟨Below.refl _ _,fun _ _ _ _ h _=>h,fun _ _ h _ _=>h⟩
theorem KeepT.trans(h:KeepT ts ms base w w') (k:KeepT ts ms base w' w''):KeepT ts ms base w w'':=
 ⟨⟨k.old.os.trans h.old.os,k.old.tape.trans h.old.tape,k.old.output.trans h.old.output,Nat.le_trans h.old.size k.old.size,fun j hj=>(k.old.block j hj).trans (h.old.block j hj)⟩,fun j c t f h1 h2=>k.keep j c t f (h.keep j c t f h1 h2) h2,fun j o h1 h2 h3=>k.oth j o (h.oth j o h1 h2 h3) h2 h3⟩
theorem KeepT.of_below(ts:List TypeId) (h:Below w.heap.size w w') (hb:base<=w.heap.size):KeepT ts ms base w w':=
 ⟨⟨h.os,h.tape,h.output,h.size,fun j hj=>h.block j (by omega)⟩,fun _ _ _ _ h1 _=>af h h1,fun _ _ h1 _ _=>af h h1⟩
theorem KeepT.drew(h:KeepT ts ms base w w'):KeepT ts ms base w w'.drew:=⟨h.old.drew,h.keep,h.oth⟩
theorem KeepT.mono{us:List TypeId} {ns:List Nat} (h:KeepT ts ms base w w') (hs:∀ t,t∈ts->t∈us) (hm:∀ t,t∈ms->t∈ns):KeepT us ns base w w':=⟨h.old,fun k c t f h1 h2=>h.keep k c t f h1 (fun e=>h2 (hs t e)),fun k o h1 h2 h3=>h.oth k o h1 h2 (fun e=>h3 (hm k e))⟩
theorem KeepT.own{b k n:Nat} {e:TypeId} {v:Value} {xs:List Value} (h:KeepT ts ms base w w') (ho:aD w b e k v n xs) (he:e∉ts):aD w' b e k v n xs:=by
 obtain⟨hl,ho⟩:=ho;refine⟨hl,?_⟩;rcases ho with ho|⟨g,cap,cur,fz,h1,h2,h3,h4⟩
 ·exact .inl ho
 ·exact .inr ⟨g,cap,cur,fz,h1,h2,h.keep _ _ _ _ h3 he,h4⟩
theorem KeepT.fresh{α:Type} {to ti:TypeId} {k:Nat} {flat:List α->List Value} {b:Nat} {v:Value} {l:List (List α)} (h:KeepT ts ms base w w') (hf:bW to ti k flat w b v l) (h1:to∉ts) (h2:ti∉ts):bW to ti k flat w' b v l:=by
 obtain⟨xs,q1,q2⟩:=hf;exact⟨xs,h.own q1 h1,fun i hi=>by obtain⟨x,p1,p2⟩:=q2 i hi;exact⟨x,p1,h.own p2 h2⟩⟩
theorem KeepT.grown{b k n:Nat} {e:TypeId} {v:Value} {xs:List Value} (h:KeepT ts ms base w w') (ho:aD w' b e k v n xs) (he:e∈ts) (hb:base<=b) (hs:base<=w.heap.size) (hg:w'.grownBy w'' v.ownBlock):KeepT ts ms base w w'':=by
 refine⟨Below.grown h.old hg (Nat.le_trans hs h.old.size) (fun g e=>Nat.le_trans hb (ho.lt g e).1),fun j c t f h1 h2=>?_,fun j o h1 h2 h3=>?_⟩
 ·have h3:=h.keep j c t f h1 h2
  exact(hg.block j (ar h3) (fun e'=>ho.ne h3 (fun e=>h2 (e ▸ he)) j e'.symm rfl)).trans h3
 ·have h4:=h.oth j o h1 h2 h3
  exact(hg.block j (ar h4) (fun e'=>ho.isCells h4 h2 e')).trans h4
theorem KeepT.set{B o:Nat} {c:Array Value} {t:TypeId} {f:Nat × Nat} (h:KeepT ts ms base w w') (hB:w'.heap[B]?=some (.cells c t f)) (ht:t∈ts) (hb:base<=B) (v:Value):KeepT ts ms base w (w'.setCell ⟨B,o,none⟩ v):=by
 refine⟨h.old.setCell hb v,fun j c' t' f' h1 h2=>?_,fun j o' h1 h2 h3=>aH (h.oth j o' h1 h2 h3) ?_ o v⟩
 ·have h3:=h.keep j c' t' f' h1 h2
  refine aH h3 ?_ o v;rintro rfl;rw[hB]at h3;cases h3;exact h2 ht
 ·rintro rfl
  have h4:=h.oth _ o' h1 h2 h3;rw[hB]at h4;cases h4;cases h2
theorem KeepT.put{B:Nat} {o o':Obj} (h:KeepT ts ms base w w') (hB:w'.heap[B]?=some o) (ho:o.isCells=false) (hb:base<=B) (hm:B∈ms):KeepT ts ms base w (w'.putObj B o'):=by
 refine⟨eE hb h.old,fun j c' t' f' h1 h2=>?_,fun j o2 h1 h2 h3=>(World.putObj_heap_other (fun e=>h3 (by rw[e];exact hm))).trans (h.oth j o2 h1 h2 h3)⟩;have h3:=h.keep j c' t' f' h1 h2;refine(World.putObj_heap_other ?_).trans h3;rintro rfl;rw[hB]at h3;cases h3;cases ho
end
structure CAppS (w Wr:World) (base:Nat) (ty:TypeId) (sz:Nat) (vd:Value) (p m:Nat) (ds news:List Value) (ib ia:Nat) (D:Nat->Bool) (x:Nat->Value) (W:World):Prop where
 lo:base<=w.heap.size
 old:KeepT [ty] [] base w W
 size:Wr.heap.size<=W.heap.size
 kept:∀ (k:Nat) (o:Obj),Wr.heap[k]?=some o->vd.ownBlock≠some k->W.heap[k]?=some o
 rd:aD W base ty sz (bif D ia then x ia else vd) (bif D ia then p+m else p) (bif D ia then ds++news else ds)
 sb:D ib=true->D ia=false->∃ g,x ib=.slice (some ⟨g,0,none⟩) m m/\W.heap[g]?=some (.cells news.toArray ty)/\vd.ownBlock≠some g
section
variable {w Wr : World} {base : Nat} {ty : TypeId} {sz : Nat} {vd : Value} {p m : Nat} {ds news : List Value} {ib ia : Nat} {D : Nat → Bool} {x : Nat → Value} {W : World}
theorem CAppS.start{x:Nat->Value} (h0:base<=w.heap.size) (hb:KeepT [ty] [] base w W) (hs:Wr.heap.size<=W.heap.size) (hk:∀ (k:Nat) (o:Obj),Wr.heap[k]?=some o->vd.ownBlock≠some k->W.heap[k]?=some o) (hr:aD W base ty sz vd p ds):CAppS w Wr base ty sz vd p m ds news ib ia (fun _=>false) x W:=⟨h0,hb,hs,hk,hr,nofun⟩
theorem CAppS.grow{W':World} (h:CAppS w Wr base ty sz vd p m ds news ib ia D x W) (hb:Below W.heap.size W W'):CAppS w Wr base ty sz vd p m ds news ib ia D x W':=
 ⟨h.lo,h.old.trans (.of_below _ hb (Nat.le_trans h.lo h.old.old.size)),Nat.le_trans h.size hb.size,fun k o h1 h3=>af hb (h.kept k o h1 h3),h.rd.up hb,
  fun h1 h2=>by obtain⟨g,e,q1,q2⟩:=h.sb h1 h2;exact⟨g,e,af hb q1,q2⟩⟩
theorem CAppS.other(h:CAppS w Wr base ty sz vd p m ds news ib ia D x W) {i:Nat} (v:Value) (h1:ib≠i) (h2:ia≠i):CAppS w Wr base ty sz vd p m ds news ib ia (bz D i) (cA x i v) W:=by
 refine⟨h.lo,h.old,h.size,h.kept,?_,?_⟩
 ·simpa only[bz,cA,if_neg h2] using h.rd
 ·simpa only[bz,cA,if_neg h2,if_neg h1] using h.sb
theorem CAppS.app(h:CAppS w Wr base ty sz vd p m ds news ib ia D x W) (ha:D ia=false) {v':Value} {w3:World} (ho:aD w3 base ty sz v' (p+m) (ds++news)) (hg:W.grownBy w3 vd.ownBlock) :
  CAppS w Wr base ty sz vd p m ds news ib ia (bz D ia) (cA x ia v') w3:=by
 have rd:=h.rd;rw[ha]at rd;have dT:∀ (k:Nat) (o:Obj),W.heap[k]?=some o->vd.ownBlock≠some k->w3.heap[k]?=some o:=fun k o hk hn=>(hg.block k (ar hk) (fun e=>hn e.symm)).trans hk
 refine⟨h.lo,h.old.grown rd (by simp) (Nat.le_refl _) h.lo hg,Nat.le_trans h.size hg.size,fun k o h1 h3=>dT k o (h.kept k o h1 h3) h3,?_,fun _ e=>by simp[bz]at e⟩;simpa[bz,cA] using ho
theorem CAppS.build(h:CAppS w Wr base ty sz vd p m ds news ib ia D x W) (h1:ia≠ib):CAppS w Wr base ty sz vd p m ds news ib ia (bz D ib) (cA x ib (.slice (some ⟨W.heap.size,0,none⟩) m m)) (W.alloc (.cells news.toArray ty)):=by
 have g:=h.grow (W':=W.alloc (.cells news.toArray ty)) (by go_grown);refine⟨g.lo,g.old,g.size,g.kept,?_,fun _ h4=>⟨W.heap.size,by simp[cA],ak _ _,fun e=>?_⟩⟩
 ·simpa only[bz,cA,if_neg h1] using g.rd
 ·have h4':D ia=false:=by simpa only[bz,if_neg h1] using h4
  have r:=h.rd;rw[h4']at r;have:=(r.lt _ e).2;omega
end
end Go.Proofs.YtmeaoneaephjeaaGreatDoor
