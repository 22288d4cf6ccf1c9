/-
  A part of the proof: lemmas and contracts that the parts behind it use. Each one's conditions are its own premises.
-/
import Derived.Test.YtiocdkdkndpgkaaGreatN5
set_option maxRecDepth 100000
set_option maxHeartbeats 8000000
set_option linter.unusedVariables false
set_option linter.unusedSimpArgs false
namespace Go.Proofs.YtiocdkdkndpgkaaGreat
open Go.RowKit Go Go.Shelf
theorem Mk{op:BinOp} {x y:Value} {c:Value->Prop} {els:Prop} (h:mC op x y c False):mC op x y c els:=by
 unfold mC at h ⊢;cases x<;>cases y<;>first|exact h.elim|skip
 ·cases op<;>first|exact h|(refine⟨h.1,?_⟩;have h:=h.2;unfold yw at h ⊢;first|exact h|exact h.elim)
 ·cases op<;>first|exact h|exact h.elim
theorem Pc{op:UnOp} {x:Value} {c:Value->Prop} {els:Prop} (h:sf op x c False):sf op x c els:=by
 unfold sf at h ⊢;cases op<;>cases x<;>first|exact h|exact h.elim
theorem Pd{x y:AV} {c c':Value->Value->Prop} {els:Prop} (hc:∀ a b,c a b->c' a b) (h:oE x y c False):oE x y c' els:=by
 unfold oE at h ⊢;split at h
 ·exact hc _ _ h
 ·exact h.elim
theorem Pe{x:AV} {c c':Value->Prop} {els:Prop} (hc:∀ a,c a->c' a) (h:one x c False):one x c' els:=by
 unfold one at h ⊢;split at h
 ·exact hc _ h
 ·exact h.elim
theorem zw{n:Nat}:∀ {ps:List (Nat × AV)} {L:List (List D)} {k k':List (List D)->Prop},(∀ L,k L->k' L)->pg n ps L k->pg n ps L k'
 | [],L,k,k',hk,h=>hk _ h
 | (i,x) :: r,L,k,k',hk,h=>by
  unfold pg at h ⊢;refine⟨h.1,h.2.1,h.2.2.1,?_⟩;have h:=h.2.2.2;split at h
  ·exact zw hk h
  ·exact h.elim
theorem ks{x:Option AV} {d:Nat} {k k':Nat->Prop} (hk:∀ n,k n->k' n) (h:ka x d k):ka x d k':=by
 unfold ka at h ⊢;split at h
 ·exact hk _ h
 ·split at h
  ·exact⟨h.1,hk _ h.2⟩
  ·exact h.elim
theorem GD{P:Program} {s:AS} {t:TypeId} {x:AV} {lo hi:Option AV} {k:AV->Prop} {k':AV->AS->Prop} (hk:∀ y,k y->k' y s) (h:lH P t x lo hi k):kS P s t x lo hi k':=by
 unfold lH at h;split at h
 ·exact h.elim
 ·unfold kS at h ⊢;split at h
  ·exact⟨h.1,h.2.1,h.2.2.1,ks (fun _ h=>ks (fun _ h=>⟨h.1,hk _ h.2⟩) h) h.2.2.2⟩
  ·exact⟨h.1,h.2.1,h.2.2.1,h.2.2.2.1,h.2.2.2.2.1,ks (fun _ h=>ks (fun _ h=>⟨h.1,hk _ h.2⟩) h) h.2.2.2.2.2⟩
  ·exact⟨h.1,ks (fun _ h=>ks (fun _ h=>⟨h.1,hk _ h.2⟩) h) h.2⟩
  ·exact⟨h.1,h.2.1,h.2.2.1,h.2.2.2.1,h.2.2.2.2.1,hk _ h.2.2.2.2.2⟩
  ·rename_i h0;exact(h0 _ _ rfl).elim
  ·exact h.elim
theorem Ce{K:Cx} {g:FuncId} {l:List AV} {s:AS} {k:AV->Prop} {k':AV->AS->Prop} (hk:∀ y,k y->k' y s) (h:oJ K g l k):iK K g l s k':=by
 obtain⟨ds,r,rfl,h1,h2⟩:=h;exact BP h1 (hk _ h2)
theorem zx{K:Cx} {o:Oper} {s:AS} {k:AV->Prop} (h:du K o s k):dG K o s fun s'=>∃ y,k y/\s'=s.put o.dst y:=by
 unfold du at h;unfold dG;split at h<;>rename_i ho<;>simp only[ho]
 ·exact⟨_,h,rfl⟩
 ·exact⟨_,h,rfl⟩
 ·unfold oE at h;unfold wK;split at h
  ·rename_i t _ e _;split at h
   ·rw[e];exact⟨_,h,rfl⟩
   ·exact h.elim
  ·exact h.elim
 ·obtain⟨h1,h2,h3⟩:=h;rw[h1];refine⟨h2,?_⟩;simp only[Bool.false_eq_true,if_false];split at h3
  ·rename_i e;rw[e];exact⟨_,h3,rfl⟩
  ·exact h3.elim
 ·exact(Cc _ _ _).mono (fun y hy=>⟨y,hy,rfl⟩) h
 ·obtain⟨h1,h⟩:=h;rw[h1];unfold nk;split at h
  ·rename_i e;rw[e];exact⟨h.1,h.2.1,h.2.2.1,h.2.2.2.1,h.2.2.2.2.1,zw (fun L hL=>by simp only[Bool.false_eq_true,if_false];exact⟨_,hL,rfl⟩) h.2.2.2.2.2⟩
  ·exact h.elim
 ·exact(E5 _ _ _ _).mono (fun y hy=>⟨y,hy,rfl⟩) h
 ·exact⟨h.1,_,h.2,rfl⟩
 ·exact Pd (fun a b h=>Mk ((E8 _ _ _).mono (k':=fun y=>∃ z,k z/\s.put o.dst y=s.put o.dst z) (fun y hy=>⟨y,hy,rfl⟩) h)) h
 ·exact Pe (fun a h=>Pc ((Jh _ _).mono (k':=fun y=>∃ z,k z/\s.put o.dst y=s.put o.dst z) (fun y hy=>⟨y,hy,rfl⟩) h)) h
 ·exact(E7 _ _ _ _).mono (fun y hy=>⟨y,hy,rfl⟩) h
 ·exact⟨_,h,rfl⟩
 ·exact GD (fun y hy=>⟨y,hy,rfl⟩) h
 ·exact(Ca _ _ _ _).mono (fun y hy=>⟨y,hy,rfl⟩) h
 ·exact(B7 _ _ _ _).mono (fun y hy=>⟨y,hy,rfl⟩) h
 ·exact(Cb _ _ _ _ _).mono (fun y hy=>⟨y,hy,rfl⟩) h
 ·exact(B8 _ _ _ _).mono (fun y hy=>⟨y,hy,rfl⟩) h
 ·exact(wW _ _).mono (fun y hy=>⟨y,hy,rfl⟩) h
 ·rename_i mt x i;obtain⟨X,dec,kt,vt,z,enc,r,f,q,h1,h2,h3,h4,h5,h6,h7⟩:=h;obtain⟨d,op,ty,pos,af,g⟩:=o;dsimp only at ho;subst ho;exact B5 (u:=.mk) h1 h2 h3 r f q h4 h5 h6 ⟨_,h7,rfl⟩
 ·unfold wO;split at h<;>rename_i hc<;>(try simp only[hc])
  ·split at h
   ·exact(qL (c:=fun kk a b k=>k (.d (.v (.int kk (if b<a then b else a))))) fun _ _ _=>.pt _).mono (k':=fun y=>∃ z,k z/\s.put o.dst y=s.put o.dst z) (fun y hy=>⟨y,hy,rfl⟩) h
   ·exact(qL (c:=fun kk a b k=>k (.d (.v (.int kk (if b > a then b else a))))) fun _ _ _=>.pt _).mono (k':=fun y=>∃ z,k z/\s.put o.dst y=s.put o.dst z) (fun y hy=>⟨y,hy,rfl⟩) h
   ·split at h
    ·rename_i e1 e2;simp only[e1,e2];exact(Jg _ _ _).mono (fun y hy=>⟨y,hy,rfl⟩) h
    ·exact h.elim
   ·exact h.elim
  ·unfold nO at h;unfold mX;split at h
   ·rename_i e;rw[e];exact⟨h.1,h.2.1,Ce (fun y hy=>⟨y,hy,rfl⟩) h.2.2⟩
   ·rename_i e;rw[e];exact Ce (fun y hy=>⟨y,hy,rfl⟩) h
   ·exact h.elim
  ·exact h.elim
 ·exact h.elim
theorem Jk{P:Program} {s s':AS} (h:∀ r,s.blk r=s'.blk r):iJ P s=iJ P s':=by
 funext t x k
 unfold iJ;split
 ·rfl
 ·rw[h]
 ·rfl
theorem yE{P:Program} {s s':AS} (h:∀ r,s.blk r=s'.blk r):cN P s=cN P s':=by
 funext t x i k
 unfold cN;split
 ·congr 1;apply propext;split
  ·exact Iff.rfl
  ·rw[h]
  ·exact Iff.rfl
 ·rfl
theorem mZ{K:Cx} {o:Oper} {s s':AS} (h:∀ x∈o.op.operands,s.ev x=s'.ev x) (hb:∀ r,s.blk r=s'.blk r):du K o s=du K o s':=by
 have pairs:∀ ps:Array (Nat × Operand),(∀ x∈ps.toList.map (·.2),s.ev x=s'.ev x)->(ps.toList.map fun p=>(p.1,s.ev p.2))=(ps.toList.map fun p=>(p.1,s'.ev p.2)):=fun ps hp=>
  List.map_congr_left fun p hm=>by rw[hp p.2 (List.mem_map.2 ⟨p,hm,rfl⟩)]
 have arr:∀ xs:Array Operand,(∀ x∈xs,s.ev x=s'.ev x)->xs.toList.map s.ev=xs.toList.map s'.ev:=fun xs hx=>List.map_congr_left fun x hm=>hx x (by simpa using hm)
 funext k
 obtain⟨dst,op,ty,pos,af,g⟩:=o;have hl:=Jk (P:=K.P) hb;have hi:=yE (P:=K.P) hb;have Oa:=Jd (P:=K.P) hb;cases op<;>simp only[Op.operands]at h<;>simp only[du]
 case build t ps=>rw[pairs ps fun x hx=>h x (by simpa using hx)]
 case buildSlice t n ps=>rw[pairs ps fun x hx=>h x (by simpa using hx)]
 case makeFunc f a c=>rw[arr a fun x hx=>h x (by simp[hx]),arr c fun x hx=>h x (by simp[hx])]
 case slice t x lo hi mx=>
  cases mx<;>simp only
  have e1:lo.map s.ev=lo.map s'.ev:=by cases lo<;>simp_all
  have e2:hi.map s.ev=hi.map s'.ev:=by cases hi<;>simp_all
  rw[e1,e2,h x (by simp)]
 case call c=>
  have ha:=arr c.args fun x hx=>h x (by simp[Call.operands,hx])
  cases hc:c.callee with
  | value f=>simp only[ha,h f (by simp[Call.operands,hc])]
  | invoke r m=>rfl
  | builtin b=>
   cases b<;>simp only[ha]
   split
   ·rename_i x t e1 e2
    rw[h x (by
     have:x∈c.args.toList:=by rw[e1];simp
     simp only[Call.operands,Array.mem_append]
     exact .inr (by simpa using this))]
   ·rfl
 case lookup mt x i b=>
  cases b<;>simp only
  rw[Oa,h x (by simp),h i (by simp)]
 all_goals (first|rfl|(simp_all;done))
def Ml(o:Oper) (acc:List Nat):Nat:=o.after.toList.foldl (fun s e=>if Region.binds .any e then s ||| 2 ^ e.on ||| acc.getD e.on 0 else s) 0
def msk:List Oper->List Nat->List Nat
 | [],acc=>acc
 | o :: l,acc=>msk l (acc++[Ml o acc])
def dI(l:List Oper) (D:Nat->Bool):Prop:=∀ j o',l[j]?=some o'->D j=true->∀ e∈o'.after,Region.binds .any e=true->D e.on=true
theorem Eb(n j:Nat):(2 ^ n).testBit j=true->j=n:=fun h=>by
 rw[Nat.testBit_two_pow]at h;have:=of_decide_eq_true h;omega
theorem Mm{l:List Oper} {D:Nat->Bool} (hD:dI l D) {acc:List Nat} (je:∀ i,D i=true->∀ j,(acc.getD i 0).testBit j=true->D j=true) {o:Oper} (ho:∀ e∈o.after,Region.binds .any e=true->D e.on=true) (j:Nat) (h:(Ml o acc).testBit j=true):D j=true:=by
 unfold Ml at h
 have key:∀ (es:List Edge) (s:Nat),(∀ e∈es,Region.binds .any e=true->D e.on=true)->(∀ j,s.testBit j=true->D j=true)->∀ j,(es.foldl (fun s e=>if Region.binds .any e then s ||| 2 ^ e.on ||| acc.getD e.on 0 else s) s).testBit j=true->D j=true:=by
  intro es;induction es with
  | nil=>intro s _ hs j hj;exact hs j hj
  | cons e es ih=>
   intro s he hs j hj;refine ih _ (fun e' h'=>he e' (List.mem_cons_of_mem _ h')) ?_ j hj;intro j hj;dsimp only at hj;split at hj
   ·rename_i hb;simp only[Nat.testBit_or,Bool.or_eq_true]at hj;have hDe:=he e List.mem_cons_self hb;rcases hj with (hj|hj)|hj
    ·exact hs j hj
    ·rw[Eb _ _ hj];exact hDe
    ·exact je _ hDe j hj
   ·exact hs j hj
 exact key _ 0 (fun e he=>ho e (by simpa using he)) (fun j hj=>by simp at hj) j h
theorem lI{l:List Oper} {D:Nat->Bool} (hD:dI l D):∀ (r:List Oper) (acc:List Nat) (k:Nat),acc.length=k->(∀ i,(h:i<r.length)->l[k+i]?=some r[i])->(∀ i,D i=true->∀ j,(acc.getD i 0).testBit j=true->D j=true)->∀ i,D i=true->∀ j,((msk r acc).getD i 0).testBit j=true->D j=true
 | [],acc,k,_,_,je=>je
 | o :: r,acc,k,hk,hl,je=>by
  unfold msk;refine lI hD r _ (k+1) (by simp[hk]) (fun i hi=>?_) ?_
  ·have:=hl (i+1) (by simp;omega);simpa[Nat.add_assoc,Nat.add_comm 1 i] using this
  ·intro i hi j hj;by_cases h:i<acc.length
   ·rw[List.getD_eq_getElem?_getD,List.getElem?_append_left h,<-List.getD_eq_getElem?_getD]at hj;exact je i hi j hj
   ·by_cases h2:i=acc.length
    ·subst h2;rw[List.getD_eq_getElem?_getD,List.getElem?_append_right (Nat.le_refl _)]at hj;simp only[Nat.sub_self,List.getElem?_cons_zero,Option.getD_some]at hj;have ho:=hl 0 (by simp);rw[Nat.add_zero,<-hk]at ho;exact Mm hD je (hD _ _ ho hi) j hj
    ·rw[List.getD_eq_getElem?_getD,List.getElem?_eq_none (by simp;omega)]at hj;simp at hj
theorem vG{l:List Oper} {D:Nat->Bool} (hD:dI l D) {i:Nat} {o:Oper} (ho:l[i]?=some o) (aN:∀ e∈o.after,Region.binds .any e=true->D e.on=true) (na:∀ e∈o.after,Region.binds .any e=true->e.on<i) {j:Nat} (h:((msk l []).getD i 0).testBit j=true) (tw:j≠i):D j=true:=by
 have hD':dI l (aZ D i):=fun q o' hq hDq e he hb=>by
  unfold aZ at hDq ⊢;split at hDq
  ·rename_i e1;subst e1;rw[ho]at hq;cases hq;rw[if_neg (by have:=na e he hb;omega)];exact aN e he hb
  ·split
   ·rfl
   ·exact hD q o' hq hDq e he hb
 have:=lI hD' l [] 0 rfl (fun q hq=>by rw[Nat.zero_add];exact List.getElem?_eq_getElem hq) (fun _ _ j hj=>by simp at hj) i (by unfold aZ;simp) j h;unfold aZ at this
 rwa [if_neg tw]at this
def RJ(o:Oper):Bool:=match o.op with|.defer _=>false|_=>true
def qM(l:List Oper) (n:Nat):Bool:=
 let M:=msk l []
 decide (n<=l.length)&&iR l.toArray l.length&&l.all RJ&&(decide (n=l.length) || (Region.sinkB .any l.toArray n&&Region.chainB .any l.toArray n)) &&
 (List.range n).all fun i=>(List.range n).all fun j=>i == j || match l[i]?,l[j]? with
  | some oi,some oj=>(match oj.dst with
   | some t=>!((oi.looksAt l.toArray).contains t || oi.dst == some t) || (if j<i then(M.getD i 0).testBit j else(M.getD j 0).testBit i)
   | none=>true)
  | _,_=>true
section
variable (s : AS) (hd : List Oper) (ys : Nat → AV)
def sD(D:Nat->Bool):Nat->AS
 | 0=>s
 | i+1=>match hd[i]? with
  | some o=>if D i then(sD D i).put o.dst (ys i) else sD D i
  | none=>sD D i
def gD(D:Nat->Bool) (t:Nat):Nat->AV
 | 0=>s.get t
 | i+1=>if D i=true/\(hd[i]?).bind (·.dst)=some t/\t<s.n then ys i else gD D t i
theorem bP(D:Nat->Bool):∀ i,(sD s hd ys D i).n=s.n/\(sD s hd ys D i).H=s.H/\(sD s hd ys D i).nx=s.nx/\(sD s hd ys D i).yc=s.yc
 | 0=>⟨rfl,rfl,rfl,rfl⟩
 | i+1=>by
  obtain⟨h1,h2,h3,h4⟩:=bP D i;unfold sD;split
  ·rename_i o ho;split
   ·unfold AS.put;split
    ·split
     ·exact⟨h1,h2,h3,h4⟩
     ·exact⟨h1,h2,h3,h4⟩
    ·exact⟨h1,h2,h3,h4⟩
   ·exact⟨h1,h2,h3,h4⟩
  ·exact⟨h1,h2,h3,h4⟩
theorem yF(s:AS) (d:Option Nat) (y:AV) (t:Nat):(s.put d y).get t=if d=some t/\t<s.n then y else s.get t:=by
 unfold AS.put;cases d with
 | none=>simp
 | some d=>
  dsimp only;split
  ·rename_i hd;simp only[AS.get,lk];by_cases e:t=d
   ·subst e;simp[hd]
   ·rw[if_neg e,if_neg (by simp[Ne.symm e])]
  ·rename_i hd;rw[if_neg];rintro⟨e,h⟩;cases e;exact hd h
theorem fi(D:Nat->Bool) (t:Nat):∀ i,(sD s hd ys D i).get t=gD s hd ys D t i
 | 0=>rfl
 | i+1=>by
  have ih:=fi D t i;obtain⟨h1,_⟩:=bP s hd ys D i;unfold sD gD;cases ho:hd[i]? with
  | none=>rw[if_neg (by simp)];exact ih
  | some o=>
   by_cases db:D i=true
   ·simp only[db,if_true,true_and,Option.bind_some,yF,h1,ih]
   ·simp only[db,Bool.false_eq_true,if_false,false_and,ih]
end
theorem Sat.ext{K:Cx} {σ:Sg} {G:Gh} {s s':AS} {a:Act} {w:World} (hs:Sat K σ G s a w) (h1:s'.n=s.n) (h2:s'.H=s.H) (h3:s'.nx=s.nx) (h5:s'.yc=s.yc) (h4:∀ t,s'.get t=s.get t):Sat K σ G s' a w:=by
 have hb:∀ r,s'.blk r=s.blk r:=fun r=>by unfold AS.blk;rw[h2]
 exact⟨hs.size.trans h1.symm,fun t=>by rw[h4];exact hs.slot t,fun r k hr=>hs.own r k (by rw[<-hb];exact hr),fun r r' k k' o o' q1 q2=>hs.inj r r' k k' o o' (by rw[<-hb];exact q1) (by rw[<-hb];exact q2),fun r hr=>hs.next r (by omega),hs.gsub,hs.gold,hs.gnew,hs.gcell,hs.below,hs.marks,hs.pr,(let ⟨C,c1,c2,c3,c4⟩:=hs.inv;⟨C,fun k ⟨r,b,o,f1,f2⟩=>c1 k ⟨r,b,o,by rw[<-hb];exact f1,f2⟩,c2,c3,by rw[h5];exact c4⟩),hs.js⟩
def wZ(K:Cx) (ops:List Oper):List Oper->AS->(AS->Prop)->Prop
 | [],s,k=>k s
 | o :: l,s,k=>dr ops.toArray o s (du K o s fun y=>wZ K ops l (s.put o.dst y) k) (wZ K ops l (s.put o.dst (.d (.v undef))) k)
def Mn(K:Cx) (ops:List Oper) (o:Oper) (s:AS) (y:AV):Prop:=dr ops.toArray o s (du K o s fun z=>z=y) (y=.d (.v undef))
theorem zy{ops:Array Oper} {o:Oper} {s:AS} {A B A' B':Prop} (h1:A->A') (h2:B->B') (h:dr ops o s A B):dr ops o s A' B':=by
 unfold dr at h ⊢;split at h
 ·exact h1 h
 ·split at h
  ·unfold gB at h ⊢;split at h
   ·rename_i b _;unfold Br at h ⊢;split at h
    ·rename_i hw;rw[if_pos hw];exact h1 h
    ·rename_i hw;rw[if_neg hw];exact h2 h
   ·exact h2 h
   ·exact h.elim
  ·exact h.elim
theorem E'{ops:Array Oper} {o:Oper} {s:AS} {A B:Prop} (h:dr ops o s A B):(A/\∀ A' B':Prop,A'->dr ops o s A' B')\/(B/\∀ A' B':Prop,B'->dr ops o s A' B'):=by
 unfold dr at h;split at h
 ·rename_i e;exact .inl ⟨h,fun A' B' h'=>by unfold dr;rw[e];exact h'⟩
 ·rename_i g want e;split at h
  ·rename_i d hd;unfold gB at h;split at h
   ·rename_i b hb;unfold Br at h;split at h
    ·rename_i hw;exact .inl ⟨h,fun A' B' h'=>by unfold dr gB Br;simp only[e,hd,hb,hw,if_true];exact h'⟩
    ·rename_i hw;exact .inr ⟨h,fun A' B' h'=>by unfold dr gB Br;simp only[e,hd,hb,hw];exact h'⟩
   ·rename_i b hb;exact .inr ⟨h,fun A' B' h'=>by unfold dr gB;simp only[e,hd,hb];exact h'⟩
   ·exact h.elim
  ·exact h.elim
theorem nP(s:AS) (o:Oper) (l:List Oper) (ys:Nat->AV):∀ i,sD s (o :: l) ys (fun _=>true) (i+1)=sD (s.put o.dst (ys 0)) l (fun j=>ys (j+1)) (fun _=>true) i
 | 0=>rfl
 | i+1=>by
  have ih:=nP s o l ys i;rw[sD,ih]
  conv=>rhs;rw[sD]
  simp only[List.getElem?_cons_succ,if_true]
theorem Jl{K:Cx} {ops:List Oper}:∀ {hd:List Oper} {s:AS} {k:AS->Prop},wZ K ops hd s k->∃ ys:Nat->AV,(∀ (i:Nat) o,hd[i]?=some o->Mn K ops o (sD s hd ys (fun _=>true) i) (ys i))/\k (sD s hd ys (fun _=>true) hd.length)
 | [],s,k,h=>⟨fun _=>.any,fun i o e=>by simp at e,h⟩
 | o :: l,s,k,h=>by
  have key:∀ y,Mn K ops o s y->wZ K ops l (s.put o.dst y) k->∃ ys:Nat->AV,(∀ (i:Nat) o',(o :: l)[i]?=some o'->Mn K ops o' (sD s (o :: l) ys (fun _=>true) i) (ys i))/\k (sD s (o :: l) ys (fun _=>true) (o :: l).length):=by
   intro y hy hr;obtain⟨ys,h1,h2⟩:=Jl hr;refine⟨fun i=>if i=0 then y else ys (i - 1),fun i o' e=>?_,?_⟩
   ·cases i with
    | zero=>simp at e;subst e;exact hy
    | succ i=>
     rw[nP];have:=h1 i o' (by simpa using e);simpa using this
   ·rw[List.length_cons,nP];simpa using h2
  rcases E' h with ⟨h1,h2⟩|⟨h1,h2⟩
  ·obtain⟨y,h3,h4⟩:=(nr K o s _).1 h1;exact key y (h2 _ _ h4) h3
  ·exact key _ (h2 _ _ rfl) h1
theorem Cf{l:List Oper} {n i:Nat} (h:i<n):(l.take n)[i]?=l[i]?:=by rw[List.getElem?_take,if_pos h]
theorem Cg{ops:Array Oper} {o:Oper} {s s':AS} {A B:Prop} (hn:s'.n=s.n) (h:∀ t∈o.looksAt ops,s'.get t=s.get t) (q:dr ops o s A B):dr ops o s' A B:=by
 unfold dr at q ⊢;split at q
 ·exact q
 ·rename_i g want e;split at q
  ·rename_i d hd;have h1:=h d (by simp[Oper.looksAt,e,hd]);unfold AS.ev at q ⊢;dsimp only at q ⊢;rw[hn,h1];exact q
  ·exact q.elim
theorem Mp{K:Cx} {l:List Oper} {n:Nat} {s:AS} {Q:Exit->Act->World->Prop} (hL:¬ LetsOut Q) {k:AS->Prop} {σ:Sg} {G:Gh} {a:Act} {w:World} (hB:qM l n=true) (h:wZ K l (l.take n) s k)
  (dh:∀ σ G s a w,k s->Sat K σ G s a w->wpListIn K.fence 0 K.P l.toArray Q (l.drop n) a w) (hs:Sat K σ G s a w):wpAnyIn K.fence 0 K.P .any l.toArray Q l.toArray.size (Array.replicate l.toArray.size false) a w:=by
 unfold qM at hB;simp only[Bool.and_eq_true,decide_eq_true_eq]at hB;obtain⟨⟨⟨⟨hn,na⟩,oX⟩,Am⟩,xV⟩:=hB;have bi:(l.take n).length=n:=by simp;omega
 obtain⟨ys,Dr,hk⟩:=Jl h;rw[bi]at hk
 have xU:∀ {i o},l[i]?=some o->∀ e∈o.after,Region.binds .any e=true->e.on<i:=fun {i o} ho e he hb=>by
  have hi:i<l.length:=(List.getElem?_eq_some_iff.1 ho).1;exact jK na hi (by simpa using ho) e he hb
 have v4:∀ {i j oi oj t},i<n->j<n->i≠j->l[i]?=some oi->l[j]?=some oj->oj.dst=some t->(t∈oi.looksAt l.toArray\/oi.dst=some t)->if j<i then(((msk l []).getD i 0).testBit j)=true else(((msk l []).getD j 0).testBit i)=true:=by
  intro i j oi oj t hi hj p6 Oe DE hd ht;have h1:=List.all_eq_true.1 (List.all_eq_true.1 xV i (List.mem_range.2 hi)) j (List.mem_range.2 hj);simp only[Oe,DE,hd]at h1;have h2:(i == j)=false:=by simpa using p6
  have h3:((oi.looksAt l.toArray).contains t || oi.dst == some t)=true:=by
   rcases ht with ht|ht
   ·simp[ht]
   ·simp[ht]
  rw[h2,h3]at h1;split
  ·rename_i e;rw[if_pos e]at h1;simpa using h1
  ·rename_i e;rw[if_neg e]at h1;simpa using h1
 have jE:∀ i,i<n->(l.take n)[i]?=l[i]?:=fun i hi=>Cf hi
 let SD:(Nat->Bool)->AS:=fun D=>sD s (l.take n) ys D n
 have later:∀ {D:Nat->Bool},dI l D->∀ {i o t},i<n->l[i]?=some o->D i=false->(t∈o.looksAt l.toArray\/o.dst=some t)->∀ m,i<=m->m<=n->gD s (l.take n) ys D t m=gD s (l.take n) ys D t i:=by
  intro D hD i o t hi ho db ht m;induction m with
  | zero=>intro h1 _;have:i=0:=by omega
          subst this;rfl
  | succ m ih=>
   intro h1 h2;by_cases e:i=m+1
   ·rw[e]
   ·rw[gD,ih (by omega) (by omega),if_neg];rintro⟨ld,jf,_⟩;by_cases e2:m=i
    ·subst e2;rw[db]at ld;cases ld
    ·rw[jE m (by omega)]at jf;cases jg:l[m]? with
     | none=>rw[jg]at jf;cases jf
     | some om=>
      rw[jg]at jf;have:=v4 hi (by omega) (Ne.symm e2) ho jg jf ht;rw[if_neg (by omega)]at this;have:=lI hD l [] 0 rfl (fun q hq=>by rw[Nat.zero_add];exact List.getElem?_eq_getElem hq) (fun _ _ j hj=>by simp at hj) m ld i this;rw[db]at this;cases this
 have agree:∀ {D:Nat->Bool},dI l D->∀ {i o t},i<n->l[i]?=some o->D i=false->(∀ e∈o.after,Region.binds .any e=true->D e.on=true)->(t∈o.looksAt l.toArray\/o.dst=some t)->(SD D).get t=(sD s (l.take n) ys (fun _=>true) i).get t:=by
  intro D hD i o t hi ho db aN ht
  show (sD s (l.take n) ys D n).get t=_
  rw[fi,fi,later hD hi ho db ht n (by omega) (Nat.le_refl _)]
  have:∀ m,m<=i->gD s (l.take n) ys D t m=gD s (l.take n) ys (fun _=>true) t m:=by
   intro m;induction m with
   | zero=>intro _;rfl
   | succ m ih=>
    intro hm;rw[gD,gD,ih (by omega)];by_cases hd:((l.take n)[m]?).bind (·.dst)=some t/\t<s.n
    ·have ld:D m=true:=by
      have tf:=hd.1;rw[jE m (by omega)]at tf;cases jg:l[m]? with
      | none=>rw[jg]at tf;cases tf
      | some om=>
       rw[jg]at tf;have:=v4 hi (by omega) (by omega) ho jg tf ht;rw[if_pos (by omega)]at this;exact vG hD ho aN (xU ho) this (by omega)
     rw[if_pos ⟨ld,hd⟩,if_pos ⟨rfl,hd⟩]
    ·rw[if_neg (fun e=>hd e.2),if_neg (fun e=>hd e.2)]
  exact this i (Nat.le_refl _)
 have grown:∀ {D:Nat->Bool},dI l D->∀ {i o},i<n->l[i]?=some o->D i=false->∀ t,(SD (aZ D i)).get t=((SD D).put o.dst (ys i)).get t:=by
  intro D hD i o hi ho db t;have n9:(SD D).n=s.n:=(bP s _ ys D n).1;rw[yF,n9]
  show (sD s (l.take n) ys (aZ D i) n).get t=if o.dst=some t/\t<s.n then ys i else(sD s (l.take n) ys D n).get t
  rw[fi,fi]
  have low:∀ m,m<=i->gD s (l.take n) ys (aZ D i) t m=gD s (l.take n) ys D t m:=by
   intro m;induction m with
   | zero=>intro _;rfl
   | succ m ih=>
    intro hm;rw[gD,gD,ih (by omega)];have:aZ D i m=D m:=by unfold aZ;rw[if_neg (by omega)]
    rw[this]
  by_cases hd:o.dst=some t/\t<s.n
  ·rw[if_pos hd]
   have:∀ m,i+1<=m->m<=n->gD s (l.take n) ys (aZ D i) t m=ys i:=by
    intro m;induction m with
    | zero=>intro h1;omega
    | succ m ih=>
     intro h1 h2;by_cases e:m=i
     ·subst e;rw[gD,if_pos];refine⟨by unfold aZ;simp,?_,hd.2⟩;rw[jE m (by omega),ho];exact hd.1
     ·rw[gD,if_neg]
      ·exact ih (by omega) (by omega)
      ·rintro⟨ld,jf,_⟩;have NM:D m=true:=by unfold aZ at ld;rwa [if_neg e]at ld
       rw[jE m (by omega)]at jf;cases jg:l[m]? with
       | none=>rw[jg]at jf;cases jf
       | some om=>
        rw[jg]at jf;have:=v4 hi (by omega) (Ne.symm e) ho jg jf (.inr hd.1);rw[if_neg (by omega)]at this;have:=lI hD l [] 0 rfl (fun q hq=>by rw[Nat.zero_add];exact List.getElem?_eq_getElem hq) (fun _ _ j hj=>by simp at hj) m NM i this;rw[db]at this;cases this
   exact this n (by omega) (Nat.le_refl _)
  ·rw[if_neg hd]
   have:∀ m,m<=n->gD s (l.take n) ys (aZ D i) t m=gD s (l.take n) ys D t m:=by
    intro m;induction m with
    | zero=>intro _;rfl
    | succ m ih=>
     intro hm;rw[gD,gD,ih (by omega)];by_cases e:m=i
     ·subst e;rw[jE m (by omega),ho];rw[if_neg (fun q=>hd ⟨q.2.1,q.2.2⟩),if_neg (fun q=>hd ⟨q.2.1,q.2.2⟩)]
     ·have:aZ D i m=D m:=by unfold aZ;rw[if_neg e]
      rw[this]
   exact this n (Nat.le_refl _)
 have step:∀ D a w i o,i<n->l.toArray[i]?=some o->D i=false->dI l D->(∀ e∈o.after,Region.binds .any e=true->D e.on=true)->(∃ σ G,Sat K σ G (SD D) a w)->wpOpIn K.fence 0 K.P l.toArray Q i (fun a' w'=>∃ σ G,Sat K σ G (SD (aZ D i)) a' w') a w:=by
  rintro D a w i o hi ho db hD aN ⟨σ,G,hs⟩;have cT:l[i]?=some o:=by simpa using ho
  have bO:=Dr i o (by rw[jE i hi];exact cT);have K1:∀ t,(t∈o.looksAt l.toArray\/o.dst=some t)->(SD D).get t=(sD s (l.take n) ys (fun _=>true) i).get t:=fun t ht=>agree hD hi cT db aN ht
  have uY:(SD D).n=(sD s (l.take n) ys (fun _=>true) i).n:=(bP s _ ys D n).1.trans (bP s _ ys _ i).1.symm;have h1:=Cg uY (fun t ht=>K1 t (.inl ht)) bO
  have fin:∀ {σ G a w},Sat K σ G ((SD D).put o.dst (ys i)) a w->Sat K σ G (SD (aZ D i)) a w:=fun {σ G a w} q=>by
   obtain⟨e1,e2,e3,e4⟩:=bP s (l.take n) ys D n;obtain⟨f1,f2,f3,f4⟩:=bP s (l.take n) ys (aZ D i) n
   have hp:((SD D).put o.dst (ys i)).n=s.n/\((SD D).put o.dst (ys i)).H=s.H/\((SD D).put o.dst (ys i)).nx=s.nx/\((SD D).put o.dst (ys i)).yc=s.yc:=by
    unfold AS.put;split
    ·split<;>exact⟨e1,e2,e3,e4⟩
    ·exact⟨e1,e2,e3,e4⟩
   exact q.ext (f1.trans hp.1.symm) (f2.trans hp.2.1.symm) (f3.trans hp.2.2.1.symm) (f4.trans hp.2.2.2.symm) (grown hD hi cT db)
  unfold wpOpIn;simp only[ho];rcases tL hs h1 with ⟨h2,h3⟩|⟨h2,h3⟩
  ·rw[if_pos h2]
   have h4:du K o (SD D) fun z=>z=ys i:=by
    rw[mZ (s':=sD s (l.take n) ys (fun _=>true) i)]
    ·exact h3
    ·intro x hx;cases x with
     | tmp t=>
      have:=K1 t (.inl (List.mem_append_left _ (List.mem_filterMap.2 ⟨.tmp t,by simpa using hx,rfl⟩)));unfold AS.ev;dsimp only;rw[uY,this]
     | const v=>rfl
     | global g=>rfl
     | func f=>rfl
    ·intro r;unfold AS.blk;rw[show (SD D).H=s.H from(bP s _ ys D n).2.1,(bP s _ ys _ i).2.1]
   have Ow:qH o=true:=by
    have:=List.all_eq_true.1 oX o (List.mem_of_getElem? cT);exact this
   refine i9 Ow hL ?_ (qG (zx h4) σ G a w hs Q);rintro a' w' ⟨σ',G',s',⟨y,rfl,rfl⟩,q⟩;exact⟨σ',G',fin q⟩
  ·rw[if_neg (by rw[h2];decide)];refine⟨fun _ _=>(by unfold Cx.fence;split<;>trivial),σ,G,fin ?_⟩;rw[h3];exact hs.put o.dst (.d (.v _))
 have done:∀ D,(∀ j,j<n->D j=true)->∀ {σ G a w},Sat K σ G (SD D) a w->Sat K σ G (sD s (l.take n) ys (fun _=>true) n) a w:=by
  intro D aX σ G a w q;obtain⟨e1,e2,e3,e4⟩:=bP s (l.take n) ys D n;obtain⟨f1,f2,f3,f4⟩:=bP s (l.take n) ys (fun _=>true) n;refine q.ext (f1.trans e1.symm) (f2.trans e2.symm) (f3.trans e3.symm) (f4.trans e4.symm) fun t=>?_
  show _=(sD s (l.take n) ys D n).get t
  rw[fi,fi]
  have:∀ m,m<=n->gD s (l.take n) ys (fun _=>true) t m=gD s (l.take n) ys D t m:=by
   intro m;induction m with
   | zero=>intro _;rfl
   | succ m ih=>intro hm;rw[gD,gD,ih (by omega),aX m (by omega)]
  exact this n (Nat.le_refl _)
 have h0:∃ σ G,Sat K σ G (SD fun _=>false) a w:=by
  refine⟨σ,G,hs.ext (bP _ _ _ _ _).1 (bP _ _ _ _ _).2.1 (bP _ _ _ _ _).2.2.1 (bP _ _ _ _ _).2.2.2 fun t=>?_⟩;rw[show SD (fun _=>false)=sD s (l.take n) ys (fun _=>false) n from rfl,fi]
  have:∀ m,gD s (l.take n) ys (fun _=>false) t m=s.get t:=by
   intro m;induction m with
   | zero=>rfl
   | succ m ih=>rw[gD,ih,if_neg (by simp)]
  exact this n
 by_cases u7:n<l.length
 ·have Dh:Region.sinkB .any l.toArray n=true/\Region.chainB .any l.toArray n=true:=by
   rcases Bool.or_eq_true _ _ ▸ Am with h|h
   ·have:=of_decide_eq_true h;omega
   ·simpa using h
  refine nB n u7 na Dh.1 Dh.2 (fun D a w=>∃ σ G,Sat K σ G (SD D) a w) ?_ ?_ h0
  ·intro D a w i o hi ho db bQ aN bB;exact step D a w i o hi ho db (fun j o' hj ig e he hb=>bQ j o' (by simpa using hj) ig e he hb) aN bB
  ·rintro D a w aX ⟨σ,G,q⟩;exact dh _ _ _ _ _ hk (done D aX q)
 ·have NA:n=l.length:=by omega
  have bA:l.toArray.size=l.length:=by simp
  refine nA (n:=l.length) bA na (fun D a w=>dI l D/\∃ σ G,Sat K σ G (SD D) a w) ?_ ?_ _ _ _ _ (by simp) (by simp only[Array.size_replicate,bA];exact Nat.le_trans List.countP_le_length (by simp)) ?_
  ·rintro D a w i o hi ho db aN ⟨bQ,bB⟩;have cT:l[i]?=some o:=by simpa using ho
   refine wpOpIn_mono (fun a' w' h=>⟨?_,h⟩) (step D a w i o (by omega) ho db bQ aN bB);intro j o' hj ig e he hb;unfold aZ at ig ⊢;split
   ·rfl
   ·split at ig
    ·rename_i e2;subst e2;rw[cT]at hj;cases hj;exact aN e he hb
    ·exact bQ j o' hj ig e he hb
  ·rintro D a w aX ⟨_,σ,G,q⟩;have:=dh _ _ _ _ _ hk (done D (fun j hj=>aX j (by omega)) q);rw[NA,List.drop_length]at this;exact this
  ·have hf:(fun j=>(Array.replicate l.toArray.size false).getD j false)=fun _=>false:=by
    funext j
    simp only[Array.getD];split<;>simp
   rw[hf];exact⟨fun j o' _ h=>(by cases h),h0⟩
theorem Pf{K:Cx} {id:Nat} {l:List Oper} {Q:Exit->AS->Prop} {u} {s:AS} (n:Nat) (hm:K.P.follows .mixedOrders=true) (hB:qM l n=true) (h:wZ K l (l.take n) s fun s'=>i8 K l.toArray (l.drop n) s' (Q .normal)):AW K (.region id l.toArray true) Q u s:=fun σ G a w hs=>by
 have eL:Sat K σ G s a { w with drawn:=w.drawn+1 }:=hs.world (Below.refl _ w).drew;exact wpIn_region_any hm (Mp (Q:=gL K Q) gL.noOut hB h (fun σ G s a w h1 h2=>nm gL.noOut (fun σ G s a w q1 q2=>⟨σ,G,s,q1,q2⟩) _ _ _ _ _ _ h1 h2) eL)
structure DS (K:Cx) (all:List Oper) (l:List Oper) (k:AS->Prop) (u:Tq (K,all,l,k)) (n:Nat) (s:AS):Prop where
 h:wZ K all (l.take n) s fun s'=>i8 K all.toArray (l.drop n) s' k
structure RT (K:Cx) (o:Oper) (k:AV->Prop) (u:Tq (K,o,k)) (s:AS):Prop where
 h:du K o s k
theorem aO{K:Cx} {id:Nat} {l:List Oper} {Q:Exit->AS->Prop} {u} {s:AS} (n:Nat) (h:DS K l l (Q .normal) .mk n s) (hB:qM l n=true:=by kernel_rfl) (hm:K.P.follows .mixedOrders=true:=by kernel_rfl):AW K (.region id l.toArray true) Q u s:=Pf n hm hB h.h
section
variable (K : Cx) (all : List Oper) (k : AS → Prop) (s : AS) (d : Option Nat) (op : Op) (ty : TypeId) (pos : String) (af : Array Edge) (l : List Oper) (n : Nat)
@[simp] theorem DS_zero (u):DS K all l k u 0 s=OS K all l k .mk s:=propext ⟨fun h=>h.h,fun h=>⟨h⟩⟩
@[simp] theorem DS_plain (u):DS K all (⟨d,op,ty,pos,af,none⟩ :: l) k u (n+1) s=RT K ⟨d,op,ty,pos,af,none⟩ (fun y=>DS K all l k .mk n (s.put d y)) .mk s:=propext ⟨fun h=>⟨(nr K ⟨d,op,ty,pos,af,none⟩ s).mono (k:=fun y=>wZ K all (l.take n) (s.put d y) fun s'=>i8 K all.toArray (l.drop n) s' k) (fun _ hy=>⟨hy⟩) h.h⟩,fun h=>⟨show du K ⟨d,op,ty,pos,af,none⟩ s (fun y=>wZ K all (l.take n) (s.put d y) fun s'=>i8 K all.toArray (l.drop n) s' k) from(nr K _ s).mono (fun _ hy=>hy.h) h.h⟩⟩
@[simp] theorem DS_guard (g:Nat) (want:Bool) (u):DS K all (⟨d,op,ty,pos,af,some (g,want)⟩ :: l) k u (n+1) s =
  gO all g s want (RT K ⟨d,op,ty,pos,af,some (g,want)⟩ (fun y=>DS K all l k .mk n (s.put d y)) .mk s) (DS K all l k .mk n (s.put d (.d (.v undef)))) .mk:=by
 have e:∀ A B:Prop,dr all.toArray ⟨d,op,ty,pos,af,some (g,want)⟩ s A B=gO all g s want A B .mk:=fun A B=>by
  simp only[dr,gO,gdst_eq];rw[List.getElem?_toArray];cases (all[g]?).bind (·.dst)<;>rfl
 rw[<-e];exact propext ⟨fun h=>zy (fun h=>⟨(nr K _ s).mono (fun _ hy=>⟨hy⟩) h⟩) (fun h=>⟨h⟩) h.h,fun h=>⟨zy (fun h=>(nr K _ s).mono (fun _ hy=>hy.h) h.h) (fun h=>h.h) h⟩⟩
end
section
variable (K : Cx) (s : AS) (k : AV → Prop) (d : Option Nat) (ty : TypeId) (pos : String) (af : Array Edge) (g : Option (Nat × Bool))
@[simp] theorem rt_move (x:Operand) (u):RT K ⟨d,.move x,ty,pos,af,g⟩ k u s=ju (s.ev x) k .mk:=propext ⟨fun h=>h.h,fun h=>⟨h⟩⟩
@[simp] theorem rt_assign (x:Operand) (u):RT K ⟨d,.assign x,ty,pos,af,g⟩ k u s=ju (s.ev x) k .mk:=propext ⟨fun h=>h.h,fun h=>⟨h⟩⟩
@[simp] theorem rt_box (t:TypeId) (x:Operand) (u):RT K ⟨d,.box t x,ty,pos,af,g⟩ k u s=wX (own K d) (s.ev x).cells (Lz k .mk):=propext ⟨fun h=>h.h,fun h=>⟨h⟩⟩
@[simp] theorem rt_build (t:TypeId) (ps:Array (Nat × Operand)) (u):RT K ⟨d,.build t ps,ty,pos,af,g⟩ k u s=kR K.P t (ps.toList.map fun p=>(p.1,s.ev p.2)) (Lz k .mk):=propext ⟨fun h=>h.h,fun h=>⟨h⟩⟩
@[simp] theorem rt_bslice (t:TypeId) (n:Nat) (ps:Array (Nat × Operand)) (u):RT K ⟨d,.buildSlice t n ps,ty,pos,af,g⟩ k u s=wY K.P (own K d) t n (ps.toList.map fun p=>(p.1,s.ev p.2)) (Lz k .mk):=propext ⟨fun h=>h.h,fun h=>⟨h⟩⟩
@[simp] theorem rt_load (t:TypeId) (a:Operand) (u):RT K ⟨d,.load t a,ty,pos,af,g⟩ k u s=iJ K.P s t (s.ev a) (Lz k .mk):=propext ⟨fun h=>h.h,fun h=>⟨h⟩⟩
@[simp] theorem rt_nil (x:Operand) (u):RT K ⟨d,.nilCheck x,ty,pos,af,g⟩ k u s=(lW (s.ev x)=true/\ju (s.ev x) k .mk):=propext ⟨fun h=>h.h,fun h=>⟨h⟩⟩
@[simp] theorem rt_bin (op:BinOp) (t t':TypeId) (x y:Operand) (u):RT K ⟨d,.binOp op t x y t',ty,pos,af,g⟩ k u s=oE (s.ev x) (s.ev y) (L2 (fun a b=>mC op a b (Lz (fun u=>k (.d (.v u))) .mk) False) .mk) False:=propext ⟨fun h=>h.h,fun h=>⟨h⟩⟩
@[simp] theorem rt_un (op:UnOp) (t:TypeId) (x:Operand) (u):RT K ⟨d,.unOp op t x,ty,pos,af,g⟩ k u s=one (s.ev x) (Lz (fun a=>sf op a (Lz (fun u=>k (.d (.v u))) .mk) False) .mk) False:=propext ⟨fun h=>h.h,fun h=>⟨h⟩⟩
@[simp] theorem rt_conv (t t':TypeId) (x:Operand) (u):RT K ⟨d,.convert t t' x,ty,pos,af,g⟩ k u s=qE K.P t t' (s.ev x) (Lz k .mk):=propext ⟨fun h=>h.h,fun h=>⟨h⟩⟩
@[simp] theorem rt_func (f:Fn) (a c:Array Operand) (u):RT K ⟨d,.makeFunc f a c,ty,pos,af,g⟩ k u s=ju (mkFn f (a.toList.map s.ev) (c.toList.map s.ev)) k .mk:=propext ⟨fun h=>h.h,fun h=>⟨h⟩⟩
@[simp] theorem rt_slice (t:TypeId) (x:Operand) (lo hi:Option Operand) (u):RT K ⟨d,.slice t x lo hi none,ty,pos,af,g⟩ k u s=lH K.P t (s.ev x) (lo.map s.ev) (hi.map s.ev) (Lz k .mk):=propext ⟨fun h=>h.h,fun h=>⟨h⟩⟩
@[simp] theorem rt_faddr (t:TypeId) (x:Operand) (f:Nat) (u):RT K ⟨d,.fieldAddr t x f,ty,pos,af,g⟩ k u s=fM K.P t (s.ev x) f (Lz k .mk):=propext ⟨fun h=>h.h,fun h=>⟨h⟩⟩
@[simp] theorem rt_field (t:TypeId) (x:Operand) (f:Nat) (u):RT K ⟨d,.field t x f,ty,pos,af,g⟩ k u s=mg K.P t (s.ev x) f (Lz k .mk):=propext ⟨fun h=>h.h,fun h=>⟨h⟩⟩
@[simp] theorem rt_iaddr (t:TypeId) (x i:Operand) (u):RT K ⟨d,.indexAddr t x i,ty,pos,af,g⟩ k u s=cN K.P s t (s.ev x) (s.ev i) (Lz k .mk):=propext ⟨fun h=>h.h,fun h=>⟨h⟩⟩
@[simp] theorem rt_index (t:TypeId) (x i:Operand) (u):RT K ⟨d,.index t x i,ty,pos,af,g⟩ k u s=kP K.P t (s.ev x) (s.ev i) (Lz k .mk):=propext ⟨fun h=>h.h,fun h=>⟨h⟩⟩
@[simp] theorem rt_extract (x:Operand) (i:Nat) (u):RT K ⟨d,.extract x i,ty,pos,af,g⟩ k u s=gM (s.ev x) i (Lz k .mk):=propext ⟨fun h=>h.h,fun h=>⟨h⟩⟩
@[simp] theorem rt_len (x:Operand) (t:TypeId) (u):RT K ⟨d,.call ⟨.builtin .len,#[x],#[t]⟩,ty,pos,af,g⟩ k u s=qz K.P t (s.ev x) (Lz k .mk):=propext ⟨fun h=>h.h,fun h=>⟨h⟩⟩
@[simp] theorem rt_min (args:Array Operand) (ts:Array TypeId) (u):RT K ⟨d,.call ⟨.builtin .min,args,ts⟩,ty,pos,af,g⟩ k u s=jt (args.toList.map s.ev) (I3 (fun kk a b=>k (.d (.v (.int kk (if b<a then b else a))))) .mk):=propext ⟨fun h=>h.h,fun h=>⟨h⟩⟩
@[simp] theorem rt_max (args:Array Operand) (ts:Array TypeId) (u):RT K ⟨d,.call ⟨.builtin .max,args,ts⟩,ty,pos,af,g⟩ k u s=jt (args.toList.map s.ev) (I3 (fun kk a b=>k (.d (.v (.int kk (if b > a then b else a))))) .mk):=propext ⟨fun h=>h.h,fun h=>⟨h⟩⟩
@[simp] theorem rt_call (f:Operand) (args:Array Operand) (ts:Array TypeId) (u):RT K ⟨d,.call ⟨.value f,args,ts⟩,ty,pos,af,g⟩ k u s=nO K (s.ev f) (args.toList.map s.ev) (Lz k .mk):=propext ⟨fun h=>h.h,fun h=>⟨h⟩⟩
theorem RY{X:Type} [dec:DecidableEq X] {kt vt mt:TypeId} {z:Value} {enc:X->Value} {m i:Operand} {u} (kit:KeyKit K.P kt enc) (hm:K.P.underlying mt=some (.map kt vt)) (hz:∀ w,(zeroValue vt).run K.P w=.ok z w) (r:Nat) (f:List (X × D)) (q:X)
  (h1:s.ev m=.mp r) (h2:s.blk r=some (.map (cR enc f))) (h3:(s.ev i).conc=some (enc q)) (h:k (.d (.tup [(cI f q).getD (.v z),.v (.bool (cI f q).isSome)]))):RT K ⟨d,.lookup mt m i true,ty,pos,af,g⟩ k u s:=⟨⟨X,dec,kt,vt,z,enc,r,f,q,kit,hm,hz,h1,h2,h3,h⟩⟩
@[simp] theorem rt_pick (c a b:Operand) (u):RT K ⟨d,.pick c a b,ty,pos,af,g⟩ k u s=tN (s.ev c) (s.ev a) (s.ev b) k .mk:=by
 refine(propext ⟨fun h=>h.h,fun h=>⟨h⟩⟩:RT K ⟨d,.pick c a b,ty,pos,af,g⟩ k u s=du K ⟨d,.pick c a b,ty,pos,af,g⟩ s k).trans ?_;simp only[du,oE,tN,wK];rw[show (AV.d (.v undef)).conc=some undef from rfl];cases (s.ev c).conc with
 | none=>rfl
 | some v=>cases v<;>rfl
end
def GE(K:Cx) (g:FuncId) (k:AV->Prop) (_:Tq (K,k)) (ds:List D):Prop:=oJ K g (ds.map AV.d) k
theorem bL{K:Cx} {g:FuncId} {k:AV->Prop} {u} {ds:List D} {r:D} (h:FC K.P g ds r) (hk:k (.d r)):GE K g k u ds:=Mi h hk
def NW(K:Cx) (g:FuncId) (l:List AV) (k:AV->Prop) (_:Tq (K,l,k)):Option (List D)->Prop
 | some ds=>GE K g k .mk ds
 | none=>oJ K g l k
@[simp] theorem onV_some (K:Cx) (g:FuncId) (l:List AV) (k:AV->Prop) (u) (ds:List D):NW K g l k u (some ds)=GE K g k .mk ds:=rfl
theorem Jm(K:Cx) (g:FuncId) (l:List AV) (k:AV->Prop):oJ K g l k=NW K g l k .mk (allD l):=by
 cases h:allD l with
 | none=>rfl
 | some ds=>rw[allD_eq h];rfl
@[simp] theorem avcall_func (K:Cx) (g:FuncId) (a c:Array Value) (l:List AV) (k:AV->Prop):nO K (.d (.v (.func (.func g) a c))) l k=(a=#[]/\c=#[]/\NW K g l k .mk (allD l)):=by
 rw[<-Jm];rfl
@[simp] theorem avcall_clos (K:Cx) (g:FuncId) (a c:List D) (l:List AV) (k:AV->Prop):nO K (.d (.fn (.func g) a c)) l k=NW K g (a.map AV.d++l++c.map AV.d) k .mk (allD (a.map AV.d++l++c.map AV.d)):=by
 rw[<-Jm];rfl
attribute [simp] wX wY lH
def Bd:Nat->D->Prop
 | 0,_=>True
 | n+1,.fz _ L=>L.length<=140737488355328/\∀ r∈L,∀ x∈r,Bd n x
 | n+1,.agg l=>∀ x∈l,Bd n x
 | n+1,.tup l=>∀ x∈l,Bd n x
 | n+1,.fp _ L _ _=>∀ r∈L,∀ x∈r,Bd n x
 | n+1,.fn _ a c=>(∀ x∈a,Bd n x)/\∀ x∈c,Bd n x
 | _+1,.v _=>True
theorem RD.bd{G:Gh} {x:D} {u:Value} (h:RD G x u):∀ n,Bd n x:=by
 induction h with
 | v x=>intro n;cases n<;>trivial
 | agg l vs h H ih=>
  intro n;cases n with
  | zero=>trivial
  | succ n=>intro x hx;obtain⟨i,hi,rfl⟩:=List.getElem_of_mem hx;exact ih i _ (List.getElem?_eq_getElem hi) n
 | tup l vs h H ih=>
  intro n;cases n with
  | zero=>trivial
  | succ n=>intro x hx;obtain⟨i,hi,rfl⟩:=List.getElem_of_mem hx;exact ih i _ (List.getElem?_eq_getElem hi) n
 | fz s L p c b o cs ty fr hc hs hp H ih=>
  intro n;cases n with
  | zero=>trivial
  | succ n=>
   refine⟨hc.2.2.2,fun r hr x hx=>?_⟩;obtain⟨i,hi,rfl⟩:=List.getElem_of_mem hr;obtain⟨j,hj,rfl⟩:=List.getElem_of_mem hx;exact ih i j _ _ (List.getElem?_eq_getElem hi) (List.getElem?_eq_getElem hj) n
 | fp s L i j b o cs ty fr hi hs hp H ih=>
  intro n;cases n with
  | zero=>trivial
  | succ n=>
   intro r hr x hx;obtain⟨i,hi,rfl⟩:=List.getElem_of_mem hr;obtain⟨j,hj,rfl⟩:=List.getElem_of_mem hx;exact ih i j _ _ (List.getElem?_eq_getElem hi) (List.getElem?_eq_getElem hj) n
 | fn f a c us cs ha hc HA HC ih1 ih2=>
  intro n;cases n with
  | zero=>trivial
  | succ n=>
   refine⟨fun x hx=>?_,fun x hx=>?_⟩
   ·obtain⟨i,hi,rfl⟩:=List.getElem_of_mem hx;exact ih1 i _ (List.getElem?_eq_getElem hi) n
   ·obtain⟨i,hi,rfl⟩:=List.getElem_of_mem hx;exact ih2 i _ (List.getElem?_eq_getElem hi) n
theorem RK(n:Nat) {P:Program} {f:FuncId} {args:List D} {r:D} (h:(∀ x∈args,Bd n x)->FC P f args r) (hc:∀ us w,(callFunc f us).run P w=.ok (.enter f us) w):FC P f args r:=
 ⟨hc,fun G us w hG hs hu=>(h (fun x hx=>by obtain⟨i,hi,rfl⟩:=List.getElem_of_mem hx;exact(hu i _ (List.getElem?_eq_getElem hi)).bd n)).2 G us w hG hs hu⟩
theorem qN(n:Nat) {P:Program} {f:FuncId} {cs:List D} {L:List (List D)} (h:(∀ x∈cs,Bd n x)->SQ P f cs L) (hc:∀ us w,(callFunc f us).run P w=.ok (.enter f us) w):SQ P f cs L:=
 ⟨hc,fun yl J G w lb hJ hG hr hR hj=>(h (fun x hx=>by obtain⟨i,hi,rfl⟩:=List.getElem_of_mem hx;exact(hr.2 i _ (List.getElem?_eq_getElem hi)).bd n)).2 yl J G w lb hJ hG hr hR hj⟩
theorem an{P:Program} {f:FuncId} {fn:Func} {c:Code} {args:List D} {n:Nat} {rs:List ResultVar} {r:D} (hf:P.funcs[f]?=some fn) (hb:fn.body=some c) (hn:fn.ntmps=n) (hr:fn.results.toList=rs) (hc:∀ us w,(callFunc f us).run P w=.ok (.enter f us) w) (mu cut:List Nat) (hl:decide (args.length<=n)=true) (m:Nat)
  (h:(∀ x∈args,Bd m x)->∀ w0 G0,VS ⟨P,w0,G0,none,mu,cut,fun _=>False,fun _ _ _ _=>True,[],#[]⟩ c (RQ P rs (fun x=>lq x r) .mk) .mk ⟨n,iF 0 args,[],0,0⟩):FC P f args r:=
 RK m (fun hm=>RI hf hb hn hr hc mu cut hl (fun w0 G0=>vs (h hm w0 G0))) hc
@[simp] theorem RQ_eq (P:Program) (rs:List ResultVar) (p:D->Prop) (u) (e:Exit) (s:AS):RQ P rs p u e s=BU P rs p e s:=rfl
def kF(s:AS) (ts:List Nat):List (Nat × AV):=ts.map fun t=>(t,s.get t)
def kH(s:AS) (rs:List Nat):List (Nat × Option Blk):=rs.map fun r=>(r,s.blk r)
@[simp] theorem kF_nil (s:AS):kF s []=[]:=rfl
@[simp] theorem kF_cons (s:AS) (t:Nat) (ts:List Nat):kF s (t :: ts)=(t,s.get t) :: kF s ts:=rfl
@[simp] theorem kH_nil (s:AS):kH s []=[]:=rfl
@[simp] theorem kH_cons (s:AS) (t:Nat) (ts:List Nat):kH s (t :: ts)=(t,s.blk t) :: kH s ts:=rfl
def IK(s:AS) (ts rs:List Nat) (nF:List (Nat × AV)) (nH:List (Nat × Option Blk)):AS:=⟨s.n,nF++kF s ts,nH++kH s rs,s.nx,s.yc⟩
@[simp] theorem IK_eq (s:AS) (ts rs:List Nat) (nF:List (Nat × AV)) (nH:List (Nat × Option Blk)):IK s ts rs nF nH=⟨s.n,nF++kF s ts,nH++kH s rs,s.nx,s.yc⟩:=rfl
theorem am{K:Cx} {c:Code} {Q:Exit->AS->Prop} {u} {s:AS} {X:Type} (ts rs:List Nat) (nF:X->List (Nat × AV)) (nH:X->List (Nat × Option Blk)) (μ:X->Nat) (C:X->Prop) (x0:X) (hC:C x0) (h0:sub (List.range s.nx) s (IK s ts rs (nF x0) (nH x0)))
  (h:∀ x,C x->VS K c (TQ (ar (fun x=>IK s ts rs (nF x) (nH x)) μ C x .mk) Q .mk) .mk (IK s ts rs (nF x) (nH x))):AW K (.loop c) Q u s:=E4 _ μ C x0 hC _ h0 h
def IY(s:AS) (ts rs:List Nat) (nF:List (Nat × AV)) (nH:List (Nat × Option Blk)) (y:Nat):AS:=⟨s.n,nF++kF s ts,nH++kH s rs,s.nx,y⟩
@[simp] theorem IY_eq (s:AS) (ts rs:List Nat) (nF:List (Nat × AV)) (nH:List (Nat × Option Blk)) (y:Nat):IY s ts rs nF nH y=⟨s.n,nF++kF s ts,nH++kH s rs,s.nx,y⟩:=rfl
theorem dM{K:Cx} {c:Code} {Q:Exit->AS->Prop} {u} {s:AS} {X:Type} (ts rs:List Nat) (nF:X->List (Nat × AV)) (nH:X->List (Nat × Option Blk)) (Y:X->Nat) (μ:X->Nat) (C:X->Prop) (x0:X) (hC:C x0) (h0:sub (List.range s.nx) s (IY s ts rs (nF x0) (nH x0) (Y x0)))
  (h:∀ x,C x->VS K c (TQ (ar (fun x=>IY s ts rs (nF x) (nH x) (Y x)) μ C x .mk) Q .mk) .mk (IY s ts rs (nF x) (nH x) (Y x))):AW K (.loop c) Q u s:=E4 _ μ C x0 hC _ h0 h
theorem dX{K:Cx} {g:Operand} {ps:Array Tmp} {x y:Code} {Q:Exit->AS->Prop} {u} {s:AS} {gf:FuncId} {c:List D} {L:List (List D)} (hq:SQ K.P gf c L) (ts rs:List Nat) (nF:Nat->List (Nat × AV)) (nH:Nat->List (Nat × Option Blk)) (Cp:Nat->Prop) (ov:Cp 0) (hg:fnOf (s.ev g)=some (gf,c)) (mM:∀ ds∈L,ds.length=ps.size)
  (Dt:K.yl=none\/∃ l0 r0,K.yl=some l0/\(l0,.loop r0)∈K.pr) (hI:sub (List.range s.nx) s (IK s ts rs (nF 0) (nH 0)))
  (h:∀ i ds,L[i]?=some ds->Cp i->∀ l r r' J' pr' fr',(∀ yl L0,oI K.P yl K.J L0->oI K.P yl J' L0)->VS (KR K l r J' pr' fr') x (TQ (VS (KR K l r' J' pr' fr') y (RB s.n (Cp (i+1)) (IK s ts rs (nF (i+1)) (nH (i+1))) Q .mk) .mk) NQ .mk) .mk (ph (base (IK s ts rs (nF i) (nH i))) ps.toList ds))
  (dh:Cp L.length->Q .normal (IK s ts rs (nF L.length) (nH L.length))):AW K (.rangeFunc g ps x y) Q u s:=Mg hq hg mM Dt (fun i=>IK s ts rs (nF i) (nH i)) Cp ov _ hI h dh
attribute [simp] Bd
@[simp] theorem nodup_rng (n:Nat):(List.range n).Nodup:=List.nodup_range
attribute [simp] BF
@[simp] theorem range_zero':List.range 0=[]:=rfl
theorem Se(a b:Int):(if a<b then b else a)=max a b:=by omega
def Mt{X:Type} (n:Nat) (J:X->AS) (C:X->Prop) (_:Tq (J,C)) (s:AS):Prop:=∃ z,C z/\sub (List.range n) s (J z)
theorem Mt.of{X:Type} {n:Nat} {J:X->AS} {C:X->Prop} {u} {s:AS} (z:X) (h:sub (List.range n) s (J z)) (hc:C z):Mt n J C u s:=⟨z,hc,h⟩
theorem Mt.is{X:Type} {n:Nat} {J:X->AS} {e:X} {u} {s:AS} (h:sub (List.range n) s (J e)):Mt n J (fun b=>b=e) u s:=⟨e,rfl,h⟩
def VQ{X:Type} (n:Nat) (J:X->AS) (C:X->Prop) (_:Tq (J,C)):Exit->AS->Prop
 | .normal,s=>∃ z,C z/\sub (List.range n) s (J z)
 | _,_=>False
@[simp] theorem VQ_normal {X:Type} (n:Nat) (J:X->AS) (C:X->Prop) (u) (s:AS):VQ n J C u .normal s=Mt n J C .mk s:=rfl
theorem bj{K:Cx} {id:Nat} {ops:Array Oper} {d:Bool} {y:Code} {Q:Exit->AS->Prop} {u} {s:AS} {X:Type} (ts rs:List Nat) (nF:X->List (Nat × AV)) (nH:X->List (Nat × Option Blk)) (C:X->Prop)
  (h1:VS K (.region id ops d) (VQ s.nx (fun z=>IK s ts rs (nF z) (nH z)) C .mk) .mk s) (h2:∀ z,C z->VS K y Q .mk (IK s ts rs (nF z) (nH z))):AW K (.seq (.region id ops d) y) Q u s:=
 yv (ei.mono (fun e s' q=>by cases e<;>first|exact q.elim|exact fun σ G a w hs=>let ⟨z,h3,h4⟩:=q;vs (h2 z h3) _ _ _ _ (hs.sub h4)) (vc h1))
def iA:Nat->List AV->List (Nat × AV)
 | _,[]=>[]
 | i,x :: l=>(i,x) :: iA (i+1) l
theorem iA_get:∀ (l:List AV) (i t:Nat),lk (iA i l) t=if i<=t then l[t - i]? else none
 | [],i,t=>by simp[iA,lk]
 | x :: l,i,t=>by
  unfold iA lk;rw[iA_get l];by_cases e:t=i
  ·subst e;simp
  ·rw[if_neg e];by_cases e2:i<=t
   ·rw[if_pos e2,if_pos (by omega),show t - i=(t - (i+1))+1 by omega];simp
   ·rw[if_neg e2,if_neg (by omega)]
def w6(n:Nat):List (Nat × AV)->List (Nat × AV)
 | []=>[]
 | (t,x) :: l=>(t+n,x) :: w6 n l
theorem Jn(n:Nat):∀ (l:List (Nat × AV)) (t:Nat),lk (w6 n l) t=if n<=t then lk l (t - n) else none
 | [],t=>by simp[w6,lk]
 | (u,x) :: l,t=>by
  unfold w6 lk;rw[Jn n l];by_cases e:t=u+n
  ·rw[if_pos e,if_pos (by omega),if_pos (by omega)]
  ·rw[if_neg e];by_cases e2:n<=t
   ·rw[if_pos e2,if_pos e2,if_neg (by omega)]
   ·rw[if_neg e2,if_neg e2]
theorem w7{α:Type}:∀ (l m:List (Nat × α)) (t:Nat),lk (l++m) t=match lk l t with|some x=>some x|none=>lk m t
 | [],m,t=>rfl
 | (u,x) :: l,m,t=>by
  rw[List.cons_append,lk,lk];by_cases e:t=u
  ·rw[if_pos e,if_pos e]
  ·rw[if_neg e,if_neg e];exact w7 l m t
abbrev KI(K:Cx) (mu cut:List Nat) (pr:List (Nat × Obj)) (fr:Array Value):Cx:=⟨K.P,K.w0,K.G0,none,mu,cut,K.E,K.J,pr,fr⟩
def NX(P:Program) (rs:List ResultVar) (n m:Nat) (k:AV->AS->Prop) (_:Tq (P,rs,k)):Exit->AS->Prop
 | .ret,s=>s.n=n/\dt P s rs fun l=>k (fv l) ⟨m,und n s.F,s.H,s.nx,s.yc⟩
 | .normal,s=>s.n=n/\dt P s rs fun l=>k (fv l) ⟨m,und n s.F,s.H,s.nx,s.yc⟩
 | _,_=>False
@[simp] theorem InQ_ret (P:Program) (rs:List ResultVar) (n m:Nat) (k:AV->AS->Prop) (u) (s:AS):NX P rs n m k u .ret s=(s.n=n/\dt P s rs fun l=>k (fv l) ⟨m,und n s.F,s.H,s.nx,s.yc⟩):=rfl
@[simp] theorem InQ_normal (P:Program) (rs:List ResultVar) (n m:Nat) (k:AV->AS->Prop) (u) (s:AS):NX P rs n m k u .normal s=(s.n=n/\dt P s rs fun l=>k (fv l) ⟨m,und n s.F,s.H,s.nx,s.yc⟩):=rfl
theorem Mq{K:Cx} {g:FuncId} {fn:Func} {c:Code} {l:List AV} {s:AS} {k:AV->AS->Prop} {n:Nat} {rs:List ResultVar} (hf:K.P.funcs[g]?=some fn) (hb:fn.body=some c) (hn:fn.ntmps=n) (hr:fn.results.toList=rs) (hc:∀ us w,(callFunc g us).run K.P w=.ok (.enter g us) w) (mu cut:List Nat) (hl:decide (l.length<=n)=true)
  (h:∀ pr fr,VS (KI K mu cut pr fr) c (NX K.P rs n s.n k .mk) .mk ⟨n,iA 0 l++w6 n s.F,s.H,s.nx,s.yc⟩):iK K g l s k:=by
 have hl:l.length<=n:=by simpa using hl
 refine⟨hc,fun σ G a w us hs bA gG=>?_⟩;refine cX hf hb ?_;obtain⟨ds,m1,m2,m3⟩:=hs.marks
 have lu:Sat (KI K mu cut (ss ds K.pr) (a.tmps++K.fr)) σ G ⟨n,iA 0 l++w6 n s.F,s.H,s.nx,s.yc⟩ { tmps:=us++Array.replicate (fn.ntmps - us.size) undef,defers:=[] } w:=by
  obtain⟨C,c1,c2,c3,c4⟩:=hs.inv;have gr:(us++Array.replicate (fn.ntmps - us.size) undef).size=n:=by rw[Array.size_append,Array.size_replicate];omega
  refine⟨gr,fun t=>?_,hs.own,hs.inj,hs.next,hs.gsub,hs.gold,hs.gnew,hs.gcell,hs.below,⟨[],rfl,bY.nil _ _,fun _ h=>by cases h⟩,fun p hp=>?_,⟨C,c1,fun p hp=>?_,fun k hk=>(by cases hk),c4⟩,hs.js⟩
  ·show RA σ G ((lk (iA 0 l++w6 n s.F) t).getD .any) (((us++Array.replicate (fn.ntmps - us.size) undef)++(a.tmps++K.fr))[t]?.getD undef)
   rw[w7,iA_get,Jn];simp only[Nat.zero_le,if_true,Nat.sub_zero];cases hq:l[t]? with
   | some x=>
    have ht:=(List.getElem?_eq_some_iff.1 hq).1;rw[Array.getElem?_append_left (by omega),Array.getElem?_append_left (by omega)];exact gG t x hq
   | none=>
    by_cases e:n<=t
    ·rw[if_pos e,Array.getElem?_append_right (by omega),gr];exact hs.slot (t - n)
    ·rw[if_neg e];exact .any _
  ·rcases List.mem_append.1 hp with hp|hp
   ·obtain⟨d,hd,rfl⟩:=List.mem_map.1 hp;exact⟨(m2.2 d hd).2,rfl⟩
   ·exact hs.pr p hp
  ·rcases List.mem_append.1 hp with hp|hp
   ·obtain⟨d,hd,rfl⟩:=List.mem_map.1 hp;exact c3 d (m1 ▸ List.mem_map.2 ⟨d,hd,rfl⟩)
   ·exact c2 p hp
 refine wpIn_wide.1 (wpIn_mono (vc (h _ _) _ _ _ _ lu) ?_);intro e a' w' hq
 have key:∀ σ' G' s',(s'.n=n/\dt K.P s' rs fun l=>k (fv l) ⟨s.n,und n s'.F,s'.H,s'.nx,s'.yc⟩)->Sat (KI K mu cut (ss ds K.pr) (a.tmps++K.fr)) σ' G' s' a' w'->bodyPostM Fence.wide 0 K.P fn (fun e w'=>∃ v σ' G' s' y,e=.returned v/\Sat K σ' G' s' a w'/\RA σ' G' y v/\k y s') .ret a' w':=by
  rintro σ' G' s' ⟨ms,h1⟩ h2;obtain⟨tmps,defers⟩:=a';obtain⟨es,hd,hm,oe⟩:=h2.marks;dsimp only at hd;subst hd;have h3:=h2.taken hm oe;obtain⟨vs,xs,q1,q2,q3,q4⟩:=lG h3 h1;refine jj hm ?_ ⟨_,σ',G',_,fv xs,rfl,?_,pM (vs:=vs.toArray) (by simpa using q2) (fun i x hx=>by simpa using q3 i x hx),q4⟩
  ·unfold results;rw[Sem.run_bind,Array.mapM_eq_mapM_toList]
   show ((Sem.run K.P (List.mapM _ fn.results.toList >>= fun l=>pure l.toArray) _).andThen _)=_
   rw[Sem.run_bind,hr]
   erw [q1]
   rfl
  ·obtain⟨C,c1,c2,c3,c4⟩:=h3.inv;refine⟨hs.size,fun t=>?_,h3.own,h3.inj,h3.next,h3.gsub,h3.gold,h3.gnew,h3.gcell,h3.below,⟨ds,m1,⟨m2.1,fun d hd=>⟨(m2.2 d hd).1,(h3.pr (d,.deferred (some [])) (List.mem_append_left _ (List.mem_map.2 ⟨d,hd,rfl⟩))).1⟩⟩,m3⟩,fun p hp=>h3.pr p (List.mem_append_right _ hp),⟨C,c1,fun p hp=>c2 p (List.mem_append_right _ hp),fun k hk=>?_,c4⟩,h3.js⟩
   ·have:=h3.slot (t+n);have bA:tmps.size=n:=h3.size.trans ms;rw[Array.getElem?_append_right (by show tmps.size<=t+n;omega),show ({ tmps:=tmps,defers:=[] }:Act).tmps.size=n from bA,Nat.add_sub_cancel]at this
    show RA σ' G' ((lk (und n s'.F) t).getD .any) _
    rw[wU];exact this
   ·rw[m1]at hk;obtain⟨d,q1,q2⟩:=List.mem_map.1 hk;have:d=k:=by injection q2 with q2 _;injection q2
    subst this;exact c2 (d,.deferred (some [])) (List.mem_append_left _ (List.mem_map.2 ⟨d,q1,rfl⟩))
 cases e with
 | ret=>obtain⟨σ',G',s',h1,h2⟩:=hq;exact key _ _ _ h1 h2
 | normal=>obtain⟨σ',G',s',h1,h2⟩:=hq;exact key _ _ _ h1 h2
 | exit id=>obtain⟨σ',G',s',h1,h2⟩:=hq;exact h1.elim
 | goto id=>obtain⟨σ',G',s',h1,h2⟩:=hq;exact h1.elim
 | panic c=>exact hq.elim
 | outgrown=>exact hq.elim
theorem jv{K:Cx} {g:FuncId} {fn:Func} {c:Code} {l:List D} {s:AS} {k:AV->AS->Prop} {u} {n:Nat} {rs:List ResultVar} (hf:K.P.funcs[g]?=some fn) (hb:fn.body=some c) (hn:fn.ntmps=n) (hr:fn.results.toList=rs) (hc:∀ us w,(callFunc g us).run K.P w=.ok (.enter g us) w) (mu cut:List Nat) (hl:decide (l.length<=n)=true)
  (h:∀ pr fr,VS (KI K mu cut pr fr) c (NX K.P rs n s.n k .mk) .mk ⟨n,iA 0 (l.map AV.d)++w6 n s.F,s.H,s.nx,s.yc⟩):E0 K g k u l s:=Mq hf hb hn hr hc mu cut (by simpa using hl) h
attribute [simp] iA w6 dt Mc
def FR(P:Program) (f:FuncId) (args:List D) (p:D->Prop):Prop:=
 (∀ us w,(callFunc f us).run P w=.ok (.enter f us) w)/\∀ (G:Gh) (us:Array Value) (w:World),(∀ k o,G k=some o->w.heap[k]?=some o/\o.isCells=true)->us.size=args.length->(∀ (i:Nat) x,args[i]?=some x->RD G x (us[i]?.getD undef)) →
  Calls P f us w fun e w'=>∃ r v G',p r/\e=.returned v/\Below w.heap.size w w'/\Grow G w G' w'/\RD G' r v
theorem Mr{K:Cx} {g:FuncId} {ds:List D} {p:D->Prop} {s:AS} {k:AV->AS->Prop} (h:FR K.P g ds p) (hk:∀ r,p r->k (.d r) s):iK K g (ds.map AV.d) s k:=by
 refine⟨h.1,fun σ G a w us hs bA gG=>?_⟩;refine(h.2 G us w (fun k o e=>⟨hs.gsub k o e,hs.gcell k o e⟩) (by simpa using bA) (fun i x hx=>(gG i (.d x) (by simp[hx])).un)).mono ?_;rintro e w' ⟨r,v,G',q0,rfl,q1,q2,q3⟩;exact⟨v,σ,G',s,.d r,rfl,hs.call q1 q2,.d q3,hk r q0⟩
theorem Jo{K:Cx} {g:FuncId} {k:AV->AS->Prop} {u} {ds:List D} {s:AS} {p:D->Prop} (h:FR K.P g ds p) (hk:∀ r,p r->k (.d r) s):E0 K g k u ds s:=Mr h hk
theorem RM{P:Program} {f:FuncId} {fn:Func} {c:Code} {args:List D} {n:Nat} {rs:List ResultVar} {p:D->Prop} (hf:P.funcs[f]?=some fn) (hb:fn.body=some c) (hn:fn.ntmps=n) (hr:fn.results.toList=rs) (hc:∀ us w,(callFunc f us).run P w=.ok (.enter f us) w) (mu cut:List Nat) (hl:decide (args.length<=n)=true)
  (h:∀ w0 G0,ei ⟨P,w0,G0,none,mu,cut,fun _=>False,fun _ _ _ _=>True,[],#[]⟩ c (BU P rs p) ⟨n,iF 0 args,[],0,0⟩):FR P f args p:=by
 have hl:args.length<=n:=by simpa using hl
 refine⟨hc,fun G us w hG bA gG=>?_⟩;refine cX hf hb ?_
 have lu:Sat ⟨P,w,G,none,mu,cut,fun _=>False,fun _ _ _ _=>True,[],#[]⟩ (fun _=>none) G ⟨n,iF 0 args,[],0,0⟩ { tmps:=us++Array.replicate (fn.ntmps - us.size) undef,defers:=[] } w:=by
  refine⟨by show _=n;rw[Array.size_append,Array.size_replicate];omega,fun t=>?_,fun r k h=>by simp[AS.blk,lk]at h,fun r r' k k' o o' h=>by simp[AS.blk,lk]at h,fun _ _=>rfl,fun k o h=>(hG k o h).1,fun k o h _ _=>h,fun k o h=>h,fun k o h=>(hG k o h).2,⟨rfl,rfl,rfl,Nat.le_refl _,fun _ _ _=>rfl⟩,⟨[],rfl,bY.nil _ _,fun _ h=>by cases h⟩,fun p hp=>(by cases hp),⟨fun _=>False,fun k ⟨r,b,o,h1,_⟩=>(by simp[AS.blk,lk]at h1),fun p hp=>(by cases hp),fun k hk=>(by cases hk),trivial⟩,fun _ _ _ _ _ _ _ _ _ _ _ _ _ _ _ _ _=>trivial⟩;simp only[AS.get,iF_get,Nat.zero_le,if_true,Nat.sub_zero];cases hq:args[t]? with
  | none=>exact .any _
  | some x=>
   have ht:=(List.getElem?_eq_some_iff.1 hq).1;rw[Array.getElem?_append_left (by rw[Array.size_append];omega),Array.getElem?_append_left (by omega)];exact .d (gG t x hq)
 refine wpIn_wide.1 (wpIn_mono (h w G _ _ _ _ lu) ?_);intro e a' w' hq
 have key:∀ σ G' s',dt P s' rs (fun l=>yy s' (fv l) p)->Sat ⟨P,w,G,none,mu,cut,fun _=>False,fun _ _ _ _=>True,[],#[]⟩ σ G' s' a' w'->bodyPostM Fence.wide 0 P fn (fun e w'=>∃ r v G',p r/\e=.returned v/\Below w.heap.size w w'/\Grow G w G' w'/\RD G' r v) .ret a' w':=by
  intro σ G' s' h1 h2;obtain⟨tmps,defers⟩:=a';obtain⟨ds,hd,hm,oe⟩:=h2.marks;dsimp only at hd;subst hd;have h3:=h2.taken hm oe;obtain⟨vs,xs,q1,q2,q3,q4⟩:=lG h3 h1;obtain⟨y,q5,q6⟩:=EZ h3 (pM (vs:=vs.toArray) (by simpa using q2) (fun i x hx=>by simpa using q3 i x hx)) q4;have g:=zr (fun _ h=>h) h3;refine jj hm ?_ ⟨y,_,_,q5,rfl,⟨h3.below.os,h3.below.tape,h3.below.output,h3.below.size,fun k hk=>h3.below.block k hk (fun h=>h)⟩,g,q6⟩;unfold results;rw[Sem.run_bind,Array.mapM_eq_mapM_toList]
  show ((Sem.run P (List.mapM _ fn.results.toList >>= fun l=>pure l.toArray) _).andThen _)=_
  rw[Sem.run_bind,hr]
  erw [q1]
  rfl
 cases e with
 | ret=>obtain⟨σ,G',s',h1,h2⟩:=hq;exact key _ _ _ h1 h2
 | normal=>obtain⟨σ,G',s',h1,h2⟩:=hq;exact key _ _ _ h1 h2
 | exit id=>obtain⟨σ,G',s',h1,h2⟩:=hq;exact h1.elim
 | goto id=>obtain⟨σ,G',s',h1,h2⟩:=hq;exact h1.elim
 | panic c=>exact hq.elim
 | outgrown=>exact hq.elim
theorem xa{P:Program} {f:FuncId} {fn:Func} {c:Code} {args:List D} {n:Nat} {rs:List ResultVar} {p:D->Prop} (hf:P.funcs[f]?=some fn) (hb:fn.body=some c) (hn:fn.ntmps=n) (hr:fn.results.toList=rs) (hc:∀ us w,(callFunc f us).run P w=.ok (.enter f us) w) (mu cut:List Nat) (hl:decide (args.length<=n)=true) (m:Nat)
  (h:(∀ x∈args,Bd m x)->∀ w0 G0,VS ⟨P,w0,G0,none,mu,cut,fun _=>False,fun _ _ _ _=>True,[],#[]⟩ c (RQ P rs p .mk) .mk ⟨n,iF 0 args,[],0,0⟩):FR P f args p:=
 ⟨hc,fun G us w hG hs hu=>(RM hf hb hn hr hc mu cut hl (fun w0 G0=>vs (h (fun x hx=>by obtain⟨i,hi,rfl⟩:=List.getElem_of_mem hx;exact(hu i _ (List.getElem?_eq_getElem hi)).bd m) w0 G0))).2 G us w hG hs hu⟩
theorem su{K:Cx} {ops:Array Oper} {Q:Exit->Act->World->Prop} (hL:¬ LetsOut Q) {k:AS->Prop} {l2:List Oper} (hQ:∀ σ G s a w,k s->Sat K σ G s a w->wpListIn K.fence 0 K.P ops Q l2 a w):∀ (l:List Oper) (s:AS) (σ:Sg) (G:Gh) (a:Act) (w:World),
  i8 K ops l s k->Sat K σ G s a w->wpListIn K.fence 0 K.P ops Q (l++l2) a w
 | [],s,σ,G,a,w,h,hs=>hQ σ G s a w h hs
 | o :: l,s,σ,G,a,w,h,hs=>by
  obtain⟨hd,h⟩:=h;rw[List.cons_append];unfold wpListIn;rcases tL hs h with ⟨h1,h2⟩|⟨h1,h2⟩
  ·rw[if_pos h1];refine Oper.wpIn_mono ?_ (BT hL hd h2 hs);rintro a' w' ⟨σ',G',s',q1,q2⟩;exact su hL hQ l s' σ' G' a' w' q1 q2
  ·rw[if_neg (by rw[h1];decide)];refine⟨fun _ _=>?_,su hL hQ l _ σ G _ w h2 (hs.put o.dst (.d (.v _)))⟩;unfold Cx.fence;split<;>trivial
def OM(K:Cx) (all l:List Oper) (k:AS->Prop) (_:Tq (K,all,l,k)) (n:Nat) (s:AS):Prop:=
 i8 K all.toArray (l.take n) s fun s1=>match l.drop n with|o :: l2=>(o.guard=none/\qH o=true)/\jG K o s1 (fun s2=>i8 K all.toArray l2 s2 k)|[]=>False
section
variable (K : Cx) (all l : List Oper) (k : AS → Prop) (s : AS) (d : Option Nat) (op : Op) (ty : TypeId) (pos : String) (af : Array Edge) (n : Nat)
@[simp] theorem OM_zero (u):OM K all (⟨d,op,ty,pos,af,none⟩ :: l) k u 0 s=(BX op=true/\kT K ⟨d,op,ty,pos,af,none⟩ (OS K all l k .mk) .mk s):=propext ⟨fun h=>⟨h.1.2,h.2⟩,fun h=>⟨⟨rfl,h.1⟩,h.2⟩⟩
@[simp] theorem OM_plain (u):OM K all (⟨d,op,ty,pos,af,none⟩ :: l) k u (n+1) s=(BX op=true/\ST K ⟨d,op,ty,pos,af,none⟩ (OM K all l k .mk n) .mk s):=rfl
end
theorem Pg{K:Cx} {id:Nat} {l:List Oper} {Q:Exit->AS->Prop} {u} {s:AS} (n:Nat) (h:OM K l l (Q .normal) .mk n s):AW K (.region id l.toArray false) Q u s:=by
 refine fun σ G a w hs=>wpIn_region_list ?_
 have key:=su (K:=K) (ops:=l.toArray) (Q:=gL K Q) gL.noOut (l2:=l.drop n) (k:=fun s1=>match l.drop n with|o :: l2=>(o.guard=none/\qH o=true)/\jG K o s1 (fun s2=>i8 K l.toArray l2 s2 (Q .normal))|[]=>False) ?_ (l.take n) s σ G a w h hs
 ·rw[List.take_append_drop]at key;exact key
 intro σ G s1 a w h1 h2;split at h1
 ·rename_i o l2 e;rw[e];obtain⟨⟨hg,hd⟩,h1⟩:=h1;unfold wpListIn;rw[if_pos (by simp[Region.wanted,hg])];refine Oper.wpIn_mono ?_ (i9 hd gL.noOut (fun _ _ h=>h) (h1 σ G a w h2 _));rintro a' w' ⟨σ',G',s',q1,q2⟩;exact nm gL.noOut (fun σ G s a w h1 h2=>⟨σ,G,s,h1,h2⟩) l2 s' σ' G' a' w' q1 q2
 ·exact h1.elim
theorem Jp{K:Cx} {s:AS} {k:AS->Prop} {d:Option Nat} {ty t t':TypeId} {pos:String} {af:Array Edge} {g:Option (Nat × Bool)} {x y:Operand} {u} (a b:Int) (h1:(s.ev x).conc=some (.int .i64 a)) (h2:(s.ev y).conc=some (.int .i64 b)) (h:∀ c:Int,k (s.put d (.d (.v (.int .i64 c))))):kT K ⟨d,.binOp .add t x y t',ty,pos,af,g⟩ k u s:=by
 refine bz fun σ G a' w hs=>⟨.int .i64 (IntKind.i64.wrap (a+b)),.d (.v (.int .i64 (IntKind.i64.wrap (a+b)))),?_,.d (.v _),h _⟩
 simp only[execOp,hs.conc h1,hs.conc h2];rfl
def AS.wo(s:AS) (p:List (Nat × Option Blk) × Nat):AS:=⟨s.n,s.F,p.1,p.2,s.yc⟩
def AS.fxH(R:List (Nat × Option Blk)) (s:AS):AS:=⟨s.n,s.F,R,s.nx,s.yc⟩
def Fx(R H:List (Nat × Option Blk)):Prop:=∀ r b,(lk R r).join=some b->(lk H r).join=some b
def fxB:List (Nat × Option Blk)->AS->Prop
 | [],_=>True
 | (r,some b) :: l,s=>s.blk r=some b/\fxB l s
 | (_,none) :: l,s=>fxB l s
theorem fxB_ok:∀ {R:List (Nat × Option Blk)} {s:AS},fxB R s->Fx R s.H
 | [],_,_=>fun r b e=>by simp[lk]at e
 | (q,some c) :: l,s,⟨h1,h2⟩=>fun r b e=>by
  unfold lk at e;split at e
  ·rename_i hr;subst hr;cases e;exact h1
  ·exact fxB_ok h2 r b e
 | (q,none) :: l,s,h=>fun r b e=>by
  unfold lk at e;split at e
  ·cases e
  ·exact fxB_ok (R:=l) h r b e
def wk(o:Oper):Bool:=o.guard == none&&match o.op with
 | .store ..=>true
 | .alloc _=>true
 | .call c=>(match c.callee with|.builtin .append=>true|_=>false)&&c.args.size == 2&&c.argTypes.size == 2
 | _=>false
structure Twin (o:Oper) (s s':AS):Prop where
 n:s'.n=s.n
 H:s'.H=s.H
 nx:s'.nx=s.nx
 yc:s'.yc=s.yc
 ev:∀ x∈o.op.operands,s'.ev x=s.ev x
theorem Twin.blk{o:Oper} {s s':AS} (h:Twin o s s') (r:Nat):s'.blk r=s.blk r:=by unfold AS.blk;rw[h.H]
theorem xb(s:AS) (r:Nat) (b:Option Blk):s.set r b=s.wo ((r,b) :: s.H,s.nx):=rfl
theorem Jq(s:AS) (b:Blk):s.add b=s.wo ((s.nx,some b) :: s.H,s.nx+1):=rfl
theorem RN{K:Cx} {o:Oper} {s:AS} {k:AS->Prop} (hw:wk o=true) (h:dG K o s k):∃ y p,k ((s.wo p).put o.dst y)/\∀ s',Twin o s s'->dG K o s' (fun t=>t=(s'.wo p).put o.dst y):=by
 obtain⟨dst,op,ty,pos,af,g⟩:=o;unfold wk at hw;cases op with
 | store t a x=>
  unfold dG at h;dsimp only at h ⊢;unfold nM at h;obtain⟨h1,h2,h3,h⟩:=h;split at h
  ·rename_i r i j hp;split at h
   ·rename_i ty st L hb;obtain⟨q1,q2,h⟩:=h;split at h
    ·rename_i ds oN;rw[xb]at h;refine⟨_,_,h,fun s' ht=>?_⟩;have e1:s'.ev a=s.ev a:=ht.ev a (by simp[Op.operands]);have e2:s'.ev x=s.ev x:=ht.ev x (by simp[Op.operands]);unfold dG;dsimp only;unfold nM;rw[e1,e2,hp];dsimp only;rw[ht.blk r,hb];dsimp only;rw[oN];refine⟨h1,h2,h3,q1,q2,?_⟩
     show (s'.set r _).put dst _=_
     rw[xb,ht.H,ht.nx]
    ·exact h.elim
   ·rename_i ty l hb;obtain⟨q1,q2,h⟩:=h;rw[xb]at h;refine⟨_,_,h,fun s' ht=>?_⟩;have e1:s'.ev a=s.ev a:=ht.ev a (by simp[Op.operands]);have e2:s'.ev x=s.ev x:=ht.ev x (by simp[Op.operands]);unfold dG;dsimp only;unfold nM;rw[e1,e2,hp];dsimp only;rw[ht.blk r,hb];refine⟨h1,h2,h3,q1,q2,?_⟩;rw[xb,ht.H,ht.nx]
   ·exact h.elim
  ·exact h.elim
 | alloc t=>
  unfold dG at h;dsimp only at h ⊢;split at h
  ·rename_i z hz;unfold qC at h;simp only[if_true]at h;obtain⟨h1,h⟩:=h;rw[Jq]at h;refine⟨_,_,h,fun s' ht=>?_⟩;unfold dG;dsimp only;rw[hz];unfold qC;simp only[if_true];refine⟨h1,?_⟩;rw[Jq,ht.H,ht.nx]
  ·exact h.elim
 | call c=>
  obtain⟨cal,args,ats⟩:=c;simp only[Bool.and_eq_true,beq_iff_eq]at hw;obtain⟨-,⟨hc,ha⟩,eU⟩:=hw
  have Ig:cal=.builtin .append:=by
   cases cal with
   | builtin b=>cases b<;>first|rfl|(simp at hc)
   | _=>simp at hc
  subst Ig;clear hc;have key:True:=trivial
  ·obtain⟨la⟩:=args;obtain⟨lt⟩:=ats
   match la,lt,ha,eU with
   | [x,y],[t,t'],_,_=>
    change iw K.P s t t' (s.ev x) (s.ev y) (fun y s'=>k (s'.put dst y)) at h;have hx:∀ s',Twin ⟨dst,.call ⟨.builtin .append,#[x,y],#[t,t']⟩,ty,pos,af,g⟩ s s'->s'.ev x=s.ev x/\s'.ev y=s.ev y:=fun s' ht=>⟨ht.ev x (by simp[Op.operands,Call.operands]),ht.ev y (by simp[Op.operands,Call.operands])⟩
    unfold iw at h;obtain⟨h1,h2,h3,h4,h5,h⟩:=h;split at h
    ·rename_i M hM;split at h
     ·rename_i r n hr;split at h
      ·rename_i ty0 st L hb;obtain⟨q1,q2,q3,q4,h⟩:=h;refine⟨_,(((s.set r none).add (.row ty0 st (L++M))).H,s.nx+1),h,fun s' ht=>?_⟩;obtain⟨e1,e2⟩:=hx s' ht;have e0:∀ k,iw K.P s' t t' (s'.ev x) (s'.ev y) (fun y t0=>k (t0.put dst y))=dG K ⟨dst,.call ⟨.builtin .append,#[x,y],#[t,t']⟩,ty,pos,af,g⟩ s' k:=fun _=>rfl
       rw[<-e0];unfold iw
       have QY:si s' (ai K.P (ai K.P t).el).n (s.ev y)=some M:=by
        rw[<-hM];unfold si;split<;>first|rfl|(rw[ht.blk])
       rw[e1,e2,QY,hr];dsimp only;rw[ht.blk r,hb];refine⟨h1,h2,h3,h4,h5,q1,q2,q3,q4,?_⟩;rw[ht.nx,AS.set,AS.add,AS.set,AS.add,AS.wo,ht.H,ht.nx]
      ·exact h.elim
     ·rename_i hr;obtain⟨q1,h⟩:=h;refine⟨_,(((s.add (.row (ai K.P t).el (ai K.P (ai K.P t).el).n M))).H,s.nx+1),h,fun s' ht=>?_⟩;obtain⟨e1,e2⟩:=hx s' ht;have e0:∀ k,iw K.P s' t t' (s'.ev x) (s'.ev y) (fun y t0=>k (t0.put dst y))=dG K ⟨dst,.call ⟨.builtin .append,#[x,y],#[t,t']⟩,ty,pos,af,g⟩ s' k:=fun _=>rfl
      rw[<-e0];unfold iw
      have QY:si s' (ai K.P (ai K.P t).el).n (s.ev y)=some M:=by
       rw[<-hM];unfold si;split<;>first|rfl|(rw[ht.blk])
      rw[e1,e2,QY,hr];refine⟨h1,h2,h3,h4,h5,q1,?_⟩;rw[ht.nx,AS.add,AS.add,AS.wo,ht.H,ht.nx]
     ·exact h.elim
    ·exact h.elim
 | _=>simp at hw
theorem Ms{o:Oper} (hw:wk o=true):o.guard=none:=by
 unfold wk at hw;simp only[Bool.and_eq_true,beq_iff_eq]at hw;exact hw.1
theorem sv(R:List (Nat × Option Blk)) (s:AS) (x:Operand):(s.fxH R).ev x=s.ev x:=by cases x<;>rfl
def WC(K:Cx) (o:Oper) (s:AS) (k:AS->Prop):Prop:=o.guard=none/\∃ y p,(∀ s',Twin o s s'->dG K o s' fun t=>t=(s'.wo p).put o.dst y)/\k ((s.wo p).put o.dst y)
def RZ(K:Cx) (o:Oper) (k:AS->Prop) (_:Tq (K,o,k)) (s:AS):Prop:=WC K o s k
theorem Ch{R:List (Nat × Option Blk)} {K:Cx} {o:Oper} {s:AS} {k:AV->Prop} (hR:Fx R s.H) (h:du K o (s.fxH R) k):du K o s k:=by
 obtain⟨dst,op,ty,pos,af,g⟩:=o;have e:(s.fxH R).ev=s.ev:=funext (sv R s);have hb:∀ r b,(s.fxH R).blk r=some b->s.blk r=some b:=fun r b e=>hR r b e
 cases op with
 | load t a=>
  simp only[du]at h ⊢;rw[e]at h;unfold iJ at h ⊢;split at h
  ·exact h
  ·split at h
   ·rename_i e2;rw[hb _ _ e2];exact h
   ·rename_i e2;rw[hb _ _ e2];exact h
   ·exact h.elim
  ·exact h.elim
 | indexAddr t x i=>
  simp only[du]at h ⊢;rw[e]at h;unfold cN at h ⊢;split at h
  ·refine⟨h.1,?_⟩;have h2:=h.2;split at h2
   ·exact h2
   ·refine⟨h2.1,h2.2.1,?_⟩;have h3:=h2.2.2;split at h3
    ·rename_i e2;rw[hb _ _ e2];exact h3
    ·exact h3.elim
   ·exact h2
  ·exact h.elim
 | lookup mt x i b=>
  cases b
  ·exact h.elim
  simp only[du]at h ⊢;obtain⟨X,dec,kt,vt,z,enc,r,f,q,h1,h2,h3,h4,h5,h6,h7⟩:=h;exact⟨X,dec,kt,vt,z,enc,r,f,q,h1,h2,h3,by rw[<-e];exact h4,hb _ _ h5,by rw[<-e];exact h6,h7⟩
 | slice t x lo hi mx=>
  cases mx
  ·simp only[du,e]at h ⊢;exact h
  ·exact h.elim
 | _=>first|(simp only[du,e]at h ⊢;done)|(simp only[du,e]at h ⊢;exact h)
def fN(K:Cx) (R:List (Nat × Option Blk)) (ops:List Oper):Nat->List Nat->List Oper->AS->(AS->Prop)->Prop
 | _,[],_,s,k=>k s
 | _,_ :: _,[],s,k=>k s
 | nl,f :: fl,o :: l,s,k=>
  if f=2 then(wk o=true/\dG K o s fun s'=>(nl=0\/fxB R s')/\fN K R ops (nl - 1) fl l s' k)\/(wk o=false/\WC K o s fun s'=>(nl=0\/fxB R s')/\fN K R ops (nl - 1) fl l s' k)
  else dr ops.toArray o s (du K o (if f=1 then s else if f=3 then s.fxH R else s.fxH []) fun y=>fN K R ops (nl - 1) fl l (s.put o.dst y) k) (fN K R ops (nl - 1) fl l (s.put o.dst (.d (.v undef))) k)
def Jr(l:List Oper) (nl:Nat) (fl:List Nat):Bool:=
 let M:=msk l []
 (List.range fl.length).all fun i=>(!(fl.getD i 0 == 3) || decide (i<nl))&&(List.range fl.length).all fun j=>i == j || !(fl.getD j 0 == 2&&!(fl.getD i 0 == 0)) || (fl.getD i 0 == 3&&decide (j<nl)) || (if j<i then(M.getD i 0).testBit j else(M.getD j 0).testBit i)
abbrev HN:=List (Nat × Option Blk) × Nat
def xd(K:Cx) (R:List (Nat × Option Blk)) (ops:List Oper) (nl:Nat) (f:Nat) (o:Oper) (s:AS) (p p':HN) (y:AV):Prop:=
 if f=2 then(nl=0\/Fx R p'.1)/\o.guard=none/\∀ s',Twin o (s.wo p) s'->dG K o s' (fun t=>t=(s'.wo p').put o.dst y)
 else p'=p/\dr ops.toArray o (s.wo p) (du K o (if f=1 then s.wo p else if f=3 then(s.wo p).fxH R else(s.wo p).fxH []) fun z=>z=y) (y=.d (.v undef))
theorem sw(s:AS) (p:HN) (d:Option Nat) (y:AV):(s.wo p).put d y=(s.put d y).wo p:=by
 unfold AS.put AS.wo;cases d with
 | none=>rfl
 | some d=>dsimp only;split<;>rfl
theorem Js{K:Cx} {R:List (Nat × Option Blk)} {ops:List Oper}:∀ {nl:Nat} {fl:List Nat} {hd:List Oper} {s:AS} {p:HN} {k:AS->Prop},fl.length=hd.length->fN K R ops nl fl hd (s.wo p) k->∃ (ys:Nat->AV) (Hs:Nat->HN),(∀ (i:Nat) o,hd[i]?=some o->xd K R ops (nl - i) (fl.getD i 0) o (sD s hd ys (fun _=>true) i) (Hs i) (Hs (i+1)) (ys i))/\Hs 0=p/\k ((sD s hd ys (fun _=>true) hd.length).wo (Hs hd.length))
 | _,[],[],s,p,k,_,h=>⟨fun _=>.any,fun _=>p,fun i o e=>by simp at e,rfl,h⟩
 | _,[],_ :: _,_,_,_,e,_=>by simp at e
 | _,_ :: _,[],_,_,_,e,_=>by simp at e
 | nl,f :: fl,o :: l,s,p,k,e,h=>by
  have key:∀ y p',xd K R ops nl f o s p p' y->fN K R ops (nl - 1) fl l ((s.put o.dst y).wo p') k->∃ (ys:Nat->AV) (Hs:Nat->HN),(∀ (i:Nat) o',(o :: l)[i]?=some o'->xd K R ops (nl - i) ((f :: fl).getD i 0) o' (sD s (o :: l) ys (fun _=>true) i) (Hs i) (Hs (i+1)) (ys i))/\Hs 0=p/\k ((sD s (o :: l) ys (fun _=>true) (o :: l).length).wo (Hs (o :: l).length)):=by
   intro y p' hy hr;obtain⟨ys,Hs,h1,h0,h2⟩:=Js (by simpa using e) hr;refine⟨fun i=>if i=0 then y else ys (i - 1),fun i=>if i=0 then p else Hs (i - 1),fun i o' e=>?_,rfl,?_⟩
   ·cases i with
    | zero=>simp at e;subst e;simpa[h0,sD] using hy
    | succ i=>
     rw[nP];have:=h1 i o' (by simpa using e);rw[show nl - 1 - i=nl - (i+1) by omega]at this;simpa using this
   ·rw[List.length_cons,nP];simpa using h2
  unfold fN at h;split at h
  ·rename_i hf
   obtain⟨hw,y,p',⟨h0,h1⟩,h2⟩:o.guard=none/\∃ y p',((nl=0\/fxB R (((s.wo p).wo p').put o.dst y))/\fN K R ops (nl - 1) fl l (((s.wo p).wo p').put o.dst y) k)/\∀ s',Twin o (s.wo p) s'->dG K o s' (fun t=>t=(s'.wo p').put o.dst y):=by
    rcases h with ⟨hw,h⟩|⟨-,h1,y,p',h2,h3⟩
    ·exact⟨Ms hw,RN hw h⟩
    ·exact⟨h1,y,p',h3,h2⟩
   have hfx:nl=0\/Fx R p'.1:=h0.imp id fun h0=>by
    have:=fxB_ok h0;rw[sw]at this;exact this
   exact key y p' (by unfold xd;rw[if_pos hf];exact⟨hfx,hw,fun s' ht=>h2 s' ht⟩) (by rw[<-sw];exact h1)
  ·rename_i hf;rcases E' h with ⟨h1,h2⟩|⟨h1,h2⟩
   ·obtain⟨y,h3,h4⟩:=(nr K o _ _).1 h1;exact key y p (by unfold xd;rw[if_neg hf];exact⟨rfl,h2 _ _ h4⟩) (by rw[<-sw];exact h3)
   ·exact key _ p (by unfold xd;rw[if_neg hf];exact⟨rfl,h2 _ _ rfl⟩) (by rw[<-sw];exact h1)
def hW(fl:List Nat) (Hs:Nat->HN) (D:Nat->Bool):Nat->HN
 | 0=>Hs 0
 | i+1=>if fl.getD i 0=2/\D i=true then Hs (i+1) else hW fl Hs D i
theorem Jt{R:List (Nat × Option Blk)} {K:Cx} {l:List Oper} {n:Nat} {s:AS} {Q:Exit->Act->World->Prop} (hL:¬ LetsOut Q) {k:AS->Prop} {σ:Sg} {G:Gh} {a:Act} {w:World} (nl:Nat) (fl:List Nat) (oO:fl.length=n) (hB:qM l n=true) (Oo:Jr l nl fl=true) (hR:Fx R s.H) (h:fN K R l nl fl (l.take n) s k)
  (dh:∀ σ G s a w,k s->Sat K σ G s a w->wpListIn K.fence 0 K.P l.toArray Q (l.drop n) a w) (hs:Sat K σ G s a w):wpAnyIn K.fence 0 K.P .any l.toArray Q l.toArray.size (Array.replicate l.toArray.size false) a w:=by
 unfold qM at hB;simp only[Bool.and_eq_true,decide_eq_true_eq]at hB;obtain⟨⟨⟨⟨hn,na⟩,oX⟩,Am⟩,xV⟩:=hB;have bi:(l.take n).length=n:=by simp;omega
 have lu:s=s.wo (s.H,s.nx):=rfl;rw[lu]at h;obtain⟨ys,Hs,Dr,Ok,hk⟩:=Js (by rw[oO,bi]) h;rw[bi]at hk
 have xU:∀ {i o},l[i]?=some o->∀ e∈o.after,Region.binds .any e=true->e.on<i:=fun {i o} ho e he hb=>by
  have hi:i<l.length:=(List.getElem?_eq_some_iff.1 ho).1;exact jK na hi (by simpa using ho) e he hb
 have v4:∀ {i j oi oj t},i<n->j<n->i≠j->l[i]?=some oi->l[j]?=some oj->oj.dst=some t->(t∈oi.looksAt l.toArray\/oi.dst=some t)->if j<i then(((msk l []).getD i 0).testBit j)=true else(((msk l []).getD j 0).testBit i)=true:=by
  intro i j oi oj t hi hj p6 Oe DE hd ht;have h1:=List.all_eq_true.1 (List.all_eq_true.1 xV i (List.mem_range.2 hi)) j (List.mem_range.2 hj);simp only[Oe,DE,hd]at h1;have h2:(i == j)=false:=by simpa using p6
  have h3:((oi.looksAt l.toArray).contains t || oi.dst == some t)=true:=by
   rcases ht with ht|ht
   ·simp[ht]
   ·simp[ht]
  rw[h2,h3]at h1;split
  ·rename_i e;rw[if_pos e]at h1;simpa using h1
  ·rename_i e;rw[if_neg e]at h1;simpa using h1
 have jE:∀ i,i<n->(l.take n)[i]?=l[i]?:=fun i hi=>Cf hi
 let SD:(Nat->Bool)->AS:=fun D=>sD s (l.take n) ys D n
 have later:∀ {D:Nat->Bool},dI l D->∀ {i o t},i<n->l[i]?=some o->D i=false->(t∈o.looksAt l.toArray\/o.dst=some t)->∀ m,i<=m->m<=n->gD s (l.take n) ys D t m=gD s (l.take n) ys D t i:=by
  intro D hD i o t hi ho db ht m;induction m with
  | zero=>intro h1 _;have:i=0:=by omega
          subst this;rfl
  | succ m ih=>
   intro h1 h2;by_cases e:i=m+1
   ·rw[e]
   ·rw[gD,ih (by omega) (by omega),if_neg];rintro⟨ld,jf,_⟩;by_cases e2:m=i
    ·subst e2;rw[db]at ld;cases ld
    ·rw[jE m (by omega)]at jf;cases jg:l[m]? with
     | none=>rw[jg]at jf;cases jf
     | some om=>
      rw[jg]at jf;have:=v4 hi (by omega) (Ne.symm e2) ho jg jf ht;rw[if_neg (by omega)]at this;have:=lI hD l [] 0 rfl (fun q hq=>by rw[Nat.zero_add];exact List.getElem?_eq_getElem hq) (fun _ _ j hj=>by simp at hj) m ld i this;rw[db]at this;cases this
 have agree:∀ {D:Nat->Bool},dI l D->∀ {i o t},i<n->l[i]?=some o->D i=false->(∀ e∈o.after,Region.binds .any e=true->D e.on=true)->(t∈o.looksAt l.toArray\/o.dst=some t)->(SD D).get t=(sD s (l.take n) ys (fun _=>true) i).get t:=by
  intro D hD i o t hi ho db aN ht
  show (sD s (l.take n) ys D n).get t=_
  rw[fi,fi,later hD hi ho db ht n (by omega) (Nat.le_refl _)]
  have:∀ m,m<=i->gD s (l.take n) ys D t m=gD s (l.take n) ys (fun _=>true) t m:=by
   intro m;induction m with
   | zero=>intro _;rfl
   | succ m ih=>
    intro hm;rw[gD,gD,ih (by omega)];by_cases hd:((l.take n)[m]?).bind (·.dst)=some t/\t<s.n
    ·have ld:D m=true:=by
      have tf:=hd.1;rw[jE m (by omega)]at tf;cases jg:l[m]? with
      | none=>rw[jg]at tf;cases tf
      | some om=>
       rw[jg]at tf;have:=v4 hi (by omega) (by omega) ho jg tf ht;rw[if_pos (by omega)]at this;exact vG hD ho aN (xU ho) this (by omega)
     rw[if_pos ⟨ld,hd⟩,if_pos ⟨rfl,hd⟩]
    ·rw[if_neg (fun e=>hd e.2),if_neg (fun e=>hd e.2)]
  exact this i (Nat.le_refl _)
 have grown:∀ {D:Nat->Bool},dI l D->∀ {i o},i<n->l[i]?=some o->D i=false->∀ t,(SD (aZ D i)).get t=((SD D).put o.dst (ys i)).get t:=by
  intro D hD i o hi ho db t;have n9:(SD D).n=s.n:=(bP s _ ys D n).1;rw[yF,n9]
  show (sD s (l.take n) ys (aZ D i) n).get t=if o.dst=some t/\t<s.n then ys i else(sD s (l.take n) ys D n).get t
  rw[fi,fi]
  have low:∀ m,m<=i->gD s (l.take n) ys (aZ D i) t m=gD s (l.take n) ys D t m:=by
   intro m;induction m with
   | zero=>intro _;rfl
   | succ m ih=>
    intro hm;rw[gD,gD,ih (by omega)];have:aZ D i m=D m:=by unfold aZ;rw[if_neg (by omega)]
    rw[this]
  by_cases hd:o.dst=some t/\t<s.n
  ·rw[if_pos hd]
   have:∀ m,i+1<=m->m<=n->gD s (l.take n) ys (aZ D i) t m=ys i:=by
    intro m;induction m with
    | zero=>intro h1;omega
    | succ m ih=>
     intro h1 h2;by_cases e:m=i
     ·subst e;rw[gD,if_pos];refine⟨by unfold aZ;simp,?_,hd.2⟩;rw[jE m (by omega),ho];exact hd.1
     ·rw[gD,if_neg]
      ·exact ih (by omega) (by omega)
      ·rintro⟨ld,jf,_⟩;have NM:D m=true:=by unfold aZ at ld;rwa [if_neg e]at ld
       rw[jE m (by omega)]at jf;cases jg:l[m]? with
       | none=>rw[jg]at jf;cases jf
       | some om=>
        rw[jg]at jf;have:=v4 hi (by omega) (Ne.symm e) ho jg jf (.inr hd.1);rw[if_neg (by omega)]at this;have:=lI hD l [] 0 rfl (fun q hq=>by rw[Nat.zero_add];exact List.getElem?_eq_getElem hq) (fun _ _ j hj=>by simp at hj) m NM i this;rw[db]at this;cases this
   exact this n (by omega) (Nat.le_refl _)
  ·rw[if_neg hd]
   have:∀ m,m<=n->gD s (l.take n) ys (aZ D i) t m=gD s (l.take n) ys D t m:=by
    intro m;induction m with
    | zero=>intro _;rfl
    | succ m ih=>
     intro hm;rw[gD,gD,ih (by omega)];by_cases e:m=i
     ·subst e;rw[jE m (by omega),ho];rw[if_neg (fun q=>hd ⟨q.2.1,q.2.2⟩),if_neg (fun q=>hd ⟨q.2.1,q.2.2⟩)]
     ·have:aZ D i m=D m:=by unfold aZ;rw[if_neg e]
      rw[this]
   exact this n (Nat.le_refl _)
 have sX:∀ {i j oi},i<n->j<n->i≠j->l[i]?=some oi->fl.getD j 0=2->fl.getD i 0≠0->¬ (fl.getD i 0=3/\j<nl)->if j<i then(((msk l []).getD i 0).testBit j)=true else(((msk l []).getD j 0).testBit i)=true:=by
  intro i j oi hi hj p6 Oe h1 h2 h6;have h0:=List.all_eq_true.1 Oo i (List.mem_range.2 (by omega));rw[Bool.and_eq_true]at h0;have h3:=List.all_eq_true.1 h0.2 j (List.mem_range.2 (by omega));have h7:(fl.getD i 0 == 3&&decide (j<nl))=false:=by simpa using h6
  have h4:(i == j)=false:=by simpa using p6
  have h5:(fl.getD j 0 == 2&&!(fl.getD i 0 == 0))=true:=by rw[h1];simpa using h2
  rw[h4,h5,h7]at h3;split
  ·rename_i e;rw[if_pos e]at h3;simpa using h3
  ·rename_i e;rw[if_neg e]at h3;simpa using h3
 have H0:∀ i,i<n->fl.getD i 0≠2->Hs (i+1)=Hs i:=by
  intro i hi h1;have:=Dr i l[i] (by rw[jE i hi];exact List.getElem?_eq_getElem (by omega));unfold xd at this;rw[if_neg h1]at this;exact this.1
 have hHfx:∀ i,i<=n->i<=nl->Fx R (Hs i).1:=by
  intro i;induction i with
  | zero=>intro _ _;rw[Ok];exact hR
  | succ i ih=>
   intro hi hl;by_cases h2:fl.getD i 0=2
   ·have:=Dr i l[i] (by rw[jE i (by omega)];exact List.getElem?_eq_getElem (by omega));unfold xd at this;rw[if_pos h2]at this;rcases this.1 with h|h
    ·omega
    ·exact h
   ·rw[H0 i (by omega) h2];exact ih (by omega) (by omega)
 have hWfx0:∀ D,(∀ m,nl<=m->m<n->fl.getD m 0=2->D m=false)->∀ m,m<=n->Fx R (hW fl Hs D m).1:=by
  intro D hD m;induction m with
  | zero=>intro _;exact hHfx 0 (by omega) (by omega)
  | succ m ih=>
   intro hm;unfold hW;split
   ·rename_i h;refine hHfx _ hm ?_;by_cases e:nl<=m
    ·rw[hD m e (by omega) h.1]at h;cases h.2
    ·omega
   ·exact ih (by omega)
 have hupto:∀ {D:Nat->Bool},dI l D->∀ {i o},i<n->l[i]?=some o->D i=false->(∀ e∈o.after,Region.binds .any e=true->D e.on=true)->fl.getD i 0≠0->fl.getD i 0≠3->∀ m,m<=i->hW fl Hs D m=Hs m:=by
  intro D hD i o hi ho db aN h1 FG m;induction m with
  | zero=>intro _;rfl
  | succ m ih=>
   intro hm;unfold hW;by_cases h2:fl.getD m 0=2
   ·have:=sX hi (by omega) (by omega) ho h2 h1 (fun q=>FG q.1);rw[if_pos (by omega)]at this;rw[if_pos ⟨h2,vG hD ho aN (xU ho) this (by omega)⟩]
   ·rw[if_neg (fun e=>h2 e.1),ih (by omega),H0 m (by omega) h2]
 have yU:∀ {D:Nat->Bool},dI l D->∀ {i o},i<n->l[i]?=some o->D i=false->fl.getD i 0≠0->∀ m,i<m->m<n->fl.getD m 0=2->¬ (fl.getD i 0=3/\m<nl)->D m=false:=by
  intro D hD i o hi ho db h1 m h2 h3 h4 FG;have:=sX hi h3 (by omega) ho h4 h1 FG;rw[if_neg (by omega)]at this;cases ld:D m with
  | false=>rfl
  | true=>
   have:=lI hD l [] 0 rfl (fun q hq=>by rw[Nat.zero_add];exact List.getElem?_eq_getElem hq) (fun _ _ j hj=>by simp at hj) m ld i this;rw[db]at this;cases this
 have eU:∀ {D:Nat->Bool},dI l D->∀ {i o},i<n->l[i]?=some o->D i=false->(∀ e∈o.after,Region.binds .any e=true->D e.on=true)->fl.getD i 0≠0->fl.getD i 0≠3->hW fl Hs D n=Hs i:=by
  intro D hD i o hi ho db aN h1 FG
  have key:∀ m,i<=m->m<=n->hW fl Hs D m=Hs i:=by
   intro m;induction m with
   | zero=>intro h2 _;have:i=0:=by omega
           subst this;rfl
   | succ m ih=>
    intro h2 h3;by_cases e:i=m+1
    ·subst e;exact hupto hD hi ho db aN h1 FG _ (Nat.le_refl _)
    ·unfold hW;rw[if_neg,ih (by omega) (by omega)];rintro⟨h4,h5⟩;by_cases e2:m=i
     ·subst e2;rw[db]at h5;cases h5
     ·rw[yU hD hi ho db h1 m (by omega) (by omega) h4 (fun q=>FG q.1)]at h5;cases h5
  exact key n (by omega) (Nat.le_refl _)
 have hnext:∀ {D:Nat->Bool},dI l D->∀ {i o},i<n->l[i]?=some o->D i=false->(∀ e∈o.after,Region.binds .any e=true->D e.on=true)->fl.getD i 0=2->hW fl Hs (aZ D i) n=Hs (i+1):=by
  intro D hD i o hi ho db aN h1
  have key:∀ m,i+1<=m->m<=n->hW fl Hs (aZ D i) m=Hs (i+1):=by
   intro m;induction m with
   | zero=>intro h2;omega
   | succ m ih=>
    intro h2 h3;unfold hW;by_cases e:m=i
    ·subst e;rw[if_pos ⟨h1,by unfold aZ;simp⟩]
    ·rw[if_neg,ih (by omega) (by omega)];rintro⟨h4,h5⟩;unfold aZ at h5;rw[if_neg e,yU hD hi ho db (by omega) m (by omega) (by omega) h4 (by omega)]at h5;cases h5
  exact key n (by omega) (Nat.le_refl _)
 have AU:∀ (D:Nat->Bool) (i:Nat),fl.getD i 0≠2->hW fl Hs (aZ D i) n=hW fl Hs D n:=by
  intro D i h1
  have key:∀ m,hW fl Hs (aZ D i) m=hW fl Hs D m:=by
   intro m;induction m with
   | zero=>rfl
   | succ m ih=>
    unfold hW;rw[ih];by_cases e:m=i
    ·subst e;rw[if_neg (fun q=>h1 q.1),if_neg (fun q=>h1 q.1)]
    ·have:aZ D i m=D m:=by unfold aZ;rw[if_neg e]
     rw[this]
  exact key n
 let WD:(Nat->Bool)->AS:=fun D=>(SD D).wo (hW fl Hs D n)
 have step:∀ D a w i o,i<n->l.toArray[i]?=some o->D i=false->dI l D->(∀ e∈o.after,Region.binds .any e=true->D e.on=true)->(∃ σ G,Sat K σ G (WD D) a w)->wpOpIn K.fence 0 K.P l.toArray Q i (fun a' w'=>∃ σ G,Sat K σ G (WD (aZ D i)) a' w') a w:=by
  rintro D a w i o hi ho db hD aN ⟨σ,G,hs⟩;have cT:l[i]?=some o:=by simpa using ho
  have bO:=Dr i o (by rw[jE i hi];exact cT);have K1:∀ t,(t∈o.looksAt l.toArray\/o.dst=some t)->(SD D).get t=(sD s (l.take n) ys (fun _=>true) i).get t:=fun t ht=>agree hD hi cT db aN ht
  have uY:(SD D).n=(sD s (l.take n) ys (fun _=>true) i).n:=(bP s _ ys D n).1.trans (bP s _ ys _ i).1.symm;have hyc:(SD D).yc=(sD s (l.take n) ys (fun _=>true) i).yc:=(bP s _ ys D n).2.2.2.trans (bP s _ ys _ i).2.2.2.symm
  have pV:∀ x∈o.op.operands,(SD D).ev x=(sD s (l.take n) ys (fun _=>true) i).ev x:=by
   intro x hx;cases x with
   | tmp t=>
    have:=K1 t (.inl (List.mem_append_left _ (List.mem_filterMap.2 ⟨.tmp t,by simpa using hx,rfl⟩)));unfold AS.ev;dsimp only;rw[uY,this]
   | const v=>rfl
   | global g=>rfl
   | func f=>rfl
  have fin:∀ {σ G a w} (p:HN),hW fl Hs (aZ D i) n=p->Sat K σ G (((SD D).wo p).put o.dst (ys i)) a w->Sat K σ G (WD (aZ D i)) a w:=fun {σ G a w} p hp q=>by
   rw[sw]at q;obtain⟨e1,e2,e3,e4⟩:=bP s (l.take n) ys D n;obtain⟨f1,f2,f3,f4⟩:=bP s (l.take n) ys (aZ D i) n
   have Ar:((SD D).put o.dst (ys i)).n=s.n/\((SD D).put o.dst (ys i)).yc=s.yc:=by
    unfold AS.put;split
    ·split<;>exact⟨e1,e4⟩
    ·exact⟨e1,e4⟩
   refine q.ext (f1.trans Ar.1.symm) ?_ ?_ (f4.trans Ar.2.symm) (grown hD hi cT db)
   ·show (hW fl Hs (aZ D i) n).1=p.1;rw[hp]
   ·show (hW fl Hs (aZ D i) n).2=p.2;rw[hp]
  have Ow:qH o=true:=by
   have:=List.all_eq_true.1 oX o (List.mem_of_getElem? cT);exact this
  unfold xd at bO;split at bO
  ·rename_i h2;obtain⟨-,hw,cJ⟩:=bO;have hg:o.guard=none:=hw;have hA:=eU hD hi cT db aN (by omega) (by omega)
   have hT:Twin o ((sD s (l.take n) ys (fun _=>true) i).wo (Hs i)) (WD D):=
    ⟨uY,by show (hW fl Hs D n).1=(Hs i).1;rw[hA],by show (hW fl Hs D n).2=(Hs i).2;rw[hA],hyc,fun x hx=>by
     have:=pV x hx
     cases x<;>first|exact this|rfl⟩
   have h5:=cJ _ hT;unfold wpOpIn;simp only[ho];rw[if_pos (by simp[Region.wanted,hg])];refine i9 Ow hL ?_ (qG h5 σ G a w hs Q);rintro a' w' ⟨σ',G',s',rfl,q⟩;exact⟨σ',G',fin _ (hnext hD hi cT db aN h2) q⟩
  ·rename_i h2;obtain⟨-,bO⟩:=bO;have h1:=Cg (s:=(sD s (l.take n) ys (fun _=>true) i).wo (Hs i)) (s':=WD D) uY (fun t ht=>K1 t (.inl ht)) bO;unfold wpOpIn;simp only[ho];rcases tL hs h1 with ⟨h3,h4⟩|⟨h3,h4⟩
   ·rw[if_pos h3]
    have h5:du K o (WD D) fun z=>z=ys i:=by
     have NF:∀ x∈o.op.operands,(WD D).ev x=((sD s (l.take n) ys (fun _=>true) i).wo (Hs i)).ev x:=fun x hx=>by
      have:=pV x hx;cases x<;>first|exact this|rfl
     by_cases h6:fl.getD i 0=1
     ·rw[if_pos h6]at h4;rw[mZ (s':=(sD s (l.take n) ys (fun _=>true) i).wo (Hs i)) NF]
      ·exact h4
      ·intro r;have hA:=eU hD hi cT db aN (by omega) (by omega);unfold AS.blk
       show (lk (hW fl Hs D n).1 r).join=(lk (Hs i).1 r).join
       rw[hA]
     ·rw[if_neg h6]at h4;by_cases h7:fl.getD i 0=3
      ·rw[if_pos h7]at h4
       have h8:i<nl:=by
        have h0:=List.all_eq_true.1 Oo i (List.mem_range.2 (by omega));rw[Bool.and_eq_true,h7]at h0;simpa using h0.1
       refine Ch (R:=R) (hWfx0 D (fun m h1 h2 h3=>yU hD hi cT db (by omega) m (by omega) h2 h3 (by omega)) n (Nat.le_refl _)) ?_;rw[mZ (s':=((sD s (l.take n) ys (fun _=>true) i).wo (Hs i)).fxH R) (fun x hx=>by rw[sv,sv];exact NF x hx)]
       ·exact h4
       ·intro r;rfl
      ·rw[if_neg h7]at h4;refine Ch (R:=[]) (fun r b e=>by simp[lk]at e) ?_;rw[mZ (s':=((sD s (l.take n) ys (fun _=>true) i).wo (Hs i)).fxH []) (fun x hx=>by rw[sv,sv];exact NF x hx)]
       ·exact h4
       ·intro r;rfl
    refine i9 Ow hL ?_ (qG (zx h5) σ G a w hs Q);rintro a' w' ⟨σ',G',s',⟨y,rfl,rfl⟩,q⟩;exact⟨σ',G',fin _ (AU D i h2) q⟩
   ·rw[if_neg (by rw[h3];decide)];refine⟨fun _ _=>(by unfold Cx.fence;split<;>trivial),σ,G,fin _ (AU D i h2) ?_⟩;rw[h4];exact hs.put o.dst (.d (.v _))
 have hWall:∀ D,(∀ j,j<n->D j=true)->∀ m,m<=n->hW fl Hs D m=Hs m:=by
  intro D aX m;induction m with
  | zero=>intro _;rfl
  | succ m ih=>
   intro hm;unfold hW;by_cases h2:fl.getD m 0=2
   ·rw[if_pos ⟨h2,aX m (by omega)⟩]
   ·rw[if_neg (fun e=>h2 e.1),ih (by omega),H0 m (by omega) h2]
 have done:∀ D,(∀ j,j<n->D j=true)->∀ {σ G a w},Sat K σ G (WD D) a w->Sat K σ G ((sD s (l.take n) ys (fun _=>true) n).wo (Hs n)) a w:=by
  intro D aX σ G a w q;obtain⟨e1,e2,e3,e4⟩:=bP s (l.take n) ys D n;obtain⟨f1,f2,f3,f4⟩:=bP s (l.take n) ys (fun _=>true) n;have hA:=hWall D aX n (Nat.le_refl _);refine q.ext (f1.trans e1.symm) (by show (Hs n).1=(hW fl Hs D n).1;rw[hA]) (by show (Hs n).2=(hW fl Hs D n).2;rw[hA]) (f4.trans e4.symm) fun t=>?_
  show (sD s (l.take n) ys (fun _=>true) n).get t=(sD s (l.take n) ys D n).get t
  rw[fi,fi]
  have:∀ m,m<=n->gD s (l.take n) ys (fun _=>true) t m=gD s (l.take n) ys D t m:=by
   intro m;induction m with
   | zero=>intro _;rfl
   | succ m ih=>intro hm;rw[gD,gD,ih (by omega),aX m (by omega)]
  exact this n (Nat.le_refl _)
 have hWno:∀ m,hW fl Hs (fun _=>false) m=(s.H,s.nx):=by
  intro m;induction m with
  | zero=>exact Ok
  | succ m ih=>unfold hW;rw[if_neg (by simp),ih]
 have h0:∃ σ G,Sat K σ G (WD fun _=>false) a w:=by
  refine⟨σ,G,hs.ext (bP _ _ _ _ _).1 (by show (hW fl Hs (fun _=>false) n).1=_;rw[hWno]) (by show (hW fl Hs (fun _=>false) n).2=_;rw[hWno]) (bP _ _ _ _ _).2.2.2 fun t=>?_⟩
  show (sD s (l.take n) ys (fun _=>false) n).get t=s.get t
  rw[fi]
  have:∀ m,gD s (l.take n) ys (fun _=>false) t m=s.get t:=by
   intro m;induction m with
   | zero=>rfl
   | succ m ih=>rw[gD,ih,if_neg (by simp)]
  exact this n
 by_cases u7:n<l.length
 ·have Dh:Region.sinkB .any l.toArray n=true/\Region.chainB .any l.toArray n=true:=by
   rcases Bool.or_eq_true _ _ ▸ Am with h|h
   ·have:=of_decide_eq_true h;omega
   ·simpa using h
  refine nB n u7 na Dh.1 Dh.2 (fun D a w=>∃ σ G,Sat K σ G (WD D) a w) ?_ ?_ h0
  ·intro D a w i o hi ho db bQ aN bB;exact step D a w i o hi ho db (fun j o' hj ig e he hb=>bQ j o' (by simpa using hj) ig e he hb) aN bB
  ·rintro D a w aX ⟨σ,G,q⟩;exact dh _ _ _ _ _ hk (done D aX q)
 ·have NA:n=l.length:=by omega
  have bA:l.toArray.size=l.length:=by simp
  refine nA (n:=l.length) bA na (fun D a w=>dI l D/\∃ σ G,Sat K σ G (WD D) a w) ?_ ?_ _ _ _ _ (by simp) (by simp only[Array.size_replicate,bA];exact Nat.le_trans List.countP_le_length (by simp)) ?_
  ·rintro D a w i o hi ho db aN ⟨bQ,bB⟩;have cT:l[i]?=some o:=by simpa using ho
   refine wpOpIn_mono (fun a' w' h=>⟨?_,h⟩) (step D a w i o (by omega) ho db bQ aN bB);intro j o' hj ig e he hb;unfold aZ at ig ⊢;split
   ·rfl
   ·split at ig
    ·rename_i e2;subst e2;rw[cT]at hj;cases hj;exact aN e he hb
    ·exact bQ j o' hj ig e he hb
  ·rintro D a w aX ⟨_,σ,G,q⟩;have:=dh _ _ _ _ _ hk (done D (fun j hj=>aX j (by omega)) q);rw[NA,List.drop_length]at this;exact this
  ·have hf:(fun j=>(Array.replicate l.toArray.size false).getD j false)=fun _=>false:=by
    funext j
    simp only[Array.getD];split<;>simp
   rw[hf];exact⟨fun j o' _ h=>(by cases h),h0⟩
theorem RP(s:AS) (rs:List Nat):Fx (kH s rs) s.H:=by
 induction rs with
 | nil=>exact fun r b e=>by simp[kH,lk]at e
 | cons q l ih=>
  intro r b e;rw[kH_cons,lk]at e;split at e
  ·rename_i hr;subst hr;exact e
  ·exact ih r b e
structure DW (K:Cx) (R:List (Nat × Option Blk)) (nl:Nat) (all:List Oper) (fl:List Nat) (l:List Oper) (k:AS->Prop) (u:Tq (K,all,fl,l,k)) (s:AS):Prop where
 h:fN K R all nl fl (l.take fl.length) s fun s'=>i8 K all.toArray (l.drop fl.length) s' k
theorem iL{K:Cx} {id:Nat} {l:List Oper} {Q:Exit->AS->Prop} {u} {s:AS} (rs:List Nat) (nl:Nat) (fl:List Nat) (h:DW K (kH s rs) nl l fl l (Q .normal) .mk s) (hB:qM l fl.length=true:=by kernel_rfl) (Oo:Jr l nl fl=true:=by kernel_rfl) (hm:K.P.follows .mixedOrders=true:=by kernel_rfl):AW K (.region id l.toArray true) Q u s:=fun σ G a w hs=>by
 have eL:Sat K σ G s a { w with drawn:=w.drawn+1 }:=hs.world (Below.refl _ w).drew;exact wpIn_region_any hm (Jt (Q:=gL K Q) gL.noOut nl fl rfl hB Oo (RP s rs) h.h (fun σ G s a w h1 h2=>nm gL.noOut (fun σ G s a w q1 q2=>⟨σ,G,s,q1,q2⟩) _ _ _ _ _ _ h1 h2) eL)
section
variable (K : Cx) (R : List (Nat × Option Blk)) (nl : Nat) (all : List Oper) (fl : List Nat) (k : AS → Prop) (s : AS) (d : Option Nat) (op : Op) (ty : TypeId) (pos : String) (af : Array Edge) (l : List Oper)
theorem lZ(u):DW K R nl all fl l k u=fun s=>fN K R all nl fl (l.take fl.length) s fun s'=>i8 K all.toArray (l.drop fl.length) s' k:=funext fun s=>propext ⟨fun h=>h.h,fun h=>⟨h⟩⟩
theorem Fa{o:Oper} {s:AS} {k:AS->Prop} (h:wk o=true):oG K o s k=dG K o s k:=by
 unfold wk at h;unfold oG;split
 ·rename_i c hc;split
  ·rename_i f hf;simp[hc,hf]at h
  ·rfl
 ·rfl
theorem Ci(o:Oper) (fl:List Nat) (l:List Oper) (s:AS) (k:AS->Prop):fN K R all nl (0 :: fl) (o :: l) s k=dr all.toArray o s (du K o (s.fxH []) fun y=>fN K R all (nl - 1) fl l (s.put o.dst y) k) (fN K R all (nl - 1) fl l (s.put o.dst (.d (.v undef))) k):=by
 rw[fN,if_neg (by decide),if_neg (by decide),if_neg (by decide)]
theorem Ju(o:Oper) (fl:List Nat) (l:List Oper) (s:AS) (k:AS->Prop):fN K R all nl (3 :: fl) (o :: l) s k=dr all.toArray o s (du K o (s.fxH R) fun y=>fN K R all (nl - 1) fl l (s.put o.dst y) k) (fN K R all (nl - 1) fl l (s.put o.dst (.d (.v undef))) k):=by
 rw[fN,if_neg (by decide),if_neg (by decide),if_pos rfl]
theorem Ph(o:Oper) (fl:List Nat) (l:List Oper) (s:AS) (k:AS->Prop):fN K R all nl (1 :: fl) (o :: l) s k=dr all.toArray o s (du K o s fun y=>fN K R all (nl - 1) fl l (s.put o.dst y) k) (fN K R all (nl - 1) fl l (s.put o.dst (.d (.v undef))) k):=by
 rw[fN,if_neg (by decide),if_pos rfl]
theorem AQ(o:Oper) (k:AV->Prop) (u) (s:AS):RT K o k u s=du K o s k:=propext ⟨fun h=>h.h,fun h=>⟨h⟩⟩
@[simp] theorem DW_nil (u):DW K R nl all [] l k u s=OS K all l k .mk s:=propext ⟨fun h=>h.h,fun h=>⟨h⟩⟩
@[simp] theorem DW_write (u):DW K R nl all (2 :: fl) (⟨d,op,ty,pos,af,none⟩ :: l) k u s=((wk ⟨d,op,ty,pos,af,none⟩=true/\ST K ⟨d,op,ty,pos,af,none⟩ (fun s'=>(nl=0\/fxB R s')/\DW K R (nl - 1) all fl l k .mk s') .mk s)\/(wk ⟨d,op,ty,pos,af,none⟩=false/\RZ K ⟨d,op,ty,pos,af,none⟩ (fun s'=>(nl=0\/fxB R s')/\DW K R (nl - 1) all fl l k .mk s') .mk s)):=by
 rw[lZ,lZ]
 show fN K R all nl (2 :: fl) (⟨d,op,ty,pos,af,none⟩ :: l.take fl.length) s _=_
 rw[fN,if_pos rfl];refine propext ⟨fun h=>h.imp (fun h=>⟨h.1,?_⟩) id,fun h=>h.imp (fun h=>⟨h.1,?_⟩) id⟩
 ·show oG K _ _ _
  rw[Fa K h.1];exact h.2
 ·have h2:oG K _ _ _:=h.2;rw[Fa K h.1]at h2;exact h2
@[simp] theorem DW_read (u):DW K R nl all (0 :: fl) (⟨d,op,ty,pos,af,none⟩ :: l) k u s=RT K ⟨d,op,ty,pos,af,none⟩ (fun y=>DW K R (nl - 1) all fl l k .mk (s.put d y)) .mk (s.fxH []):=by
 rw[lZ,AQ]
 show fN K R all nl (0 :: fl) (⟨d,op,ty,pos,af,none⟩ :: l.take fl.length) s _=_
 rw[Ci];simp only[lZ];rfl
@[simp] theorem DW_read1 (u):DW K R nl all (1 :: fl) (⟨d,op,ty,pos,af,none⟩ :: l) k u s=RT K ⟨d,op,ty,pos,af,none⟩ (fun y=>DW K R (nl - 1) all fl l k .mk (s.put d y)) .mk s:=by
 rw[lZ,AQ]
 show fN K R all nl (1 :: fl) (⟨d,op,ty,pos,af,none⟩ :: l.take fl.length) s _=_
 rw[Ph];simp only[lZ];rfl
@[simp] theorem DW_read3 (u):DW K R nl all (3 :: fl) (⟨d,op,ty,pos,af,none⟩ :: l) k u s=RT K ⟨d,op,ty,pos,af,none⟩ (fun y=>DW K R (nl - 1) all fl l k .mk (s.put d y)) .mk (s.fxH R):=by
 rw[lZ,AQ]
 show fN K R all nl (3 :: fl) (⟨d,op,ty,pos,af,none⟩ :: l.take fl.length) s _=_
 rw[Ju];simp only[lZ];rfl
@[simp] theorem DW_guard (g:Nat) (want:Bool) (u):DW K R nl all (0 :: fl) (⟨d,op,ty,pos,af,some (g,want)⟩ :: l) k u s =
  gO all g s want (RT K ⟨d,op,ty,pos,af,some (g,want)⟩ (fun y=>DW K R (nl - 1) all fl l k .mk (s.put d y)) .mk (s.fxH [])) (DW K R (nl - 1) all fl l k .mk (s.put d (.d (.v undef)))) .mk:=by
 have e:∀ A B:Prop,dr all.toArray ⟨d,op,ty,pos,af,some (g,want)⟩ s A B=gO all g s want A B .mk:=fun A B=>by
  simp only[dr,gO,gdst_eq];rw[List.getElem?_toArray];cases (all[g]?).bind (·.dst)<;>rfl
 rw[<-e,lZ,AQ]
 show fN K R all nl (0 :: fl) (⟨d,op,ty,pos,af,some (g,want)⟩ :: l.take fl.length) s _=_
 rw[Ci];simp only[lZ];rfl
end
attribute [simp] AS.fxH fxB wk
theorem Sat.froz{K:Cx} {σ:Sg} {G:Gh} {s:AS} {a:Act} {w:World} (hs:Sat K σ G s a w) {r ty st:Nat} {L:List (List D)} (hb:s.blk r=some (.row ty st L)) (hL:L.length<=140737488355328) :
  ∃ G',Mo σ G σ G'/\(∀ u,RA σ G (.sl r L.length) u->RD G' (.fz st L) u)/\Sat K σ G' (s.set r none) a w:=by
 obtain⟨o,e1,⟨a1,a2,a3,a4,a5,a6⟩,e3⟩:=hs.own _ _ hb
 have iz:∀ r' k',(s.set r none).blk r'=some k'->r'≠r/\s.blk r'=some k':=fun r' k' h=>by
  rw[AS.blk_set]at h;split at h
  ·cases h
  ·rename_i e;exact⟨e,h⟩
 cases bE:o.nil
 ·obtain⟨cs,q1,q2,q3⟩:=a6 bE;obtain⟨tS,Lf⟩:=e3 bE;have hm:Mo σ G σ (fun k=>if k=o.b then some (.cells cs ty (0,0)) else G k):=⟨fun _ _ h=>h,fun k x h=>by rw[if_neg (by intro e;rw[e,Lf]at h;cases h)];exact h⟩
  have gok:∀ k x,(fun k=>if k=o.b then some (.cells cs ty (0,0)) else G k) k=some x->w.heap[k]?=some x/\x.isCells=true:=fun k x h=>by
   dsimp only at h;split at h
   ·rename_i e;subst e;cases h;exact⟨q1,rfl⟩
   ·exact⟨hs.gsub k x h,hs.gcell k x h⟩
  refine⟨_,hm,fun u hu=>?_,hs.size,fun t=>(hs.slot t).mono hm,fun r' k' jC=>?_,fun r1 r2 k1 k2 o1 o2 h1 h2 h3 h4 h5 h6 h7=>hs.inj r1 r2 k1 k2 o1 o2 (iz _ _ h1).2 (iz _ _ h2).2 h3 h4 h5 h6 h7,hs.next,fun k x h=>(gok k x h).1,fun k x h hk hE=>?_,fun k x h=>hm.g _ _ (hs.gnew k x h),fun k x h=>(gok k x h).2,hs.below,hs.marks,hs.pr,?_,hs.js⟩
  ·cases hu with
   | sl ho hn=>
    rw[ho]at e1;cases e1;rw[bE];refine .fz st L _ o.cap o.b 0 cs ty (0,0) ⟨a4,a2,fun e=>(by simp at e),hL⟩ a3 (fun _=>⟨rfl,by simp,?_⟩) (fun i j r x f1 f2=>by rw[Nat.zero_add];exact(q3 i j r x f1 f2).mono hm.g);rw[q2];have:=Nat.mul_le_mul_right st a4;omega
  ·obtain⟨aV,uU⟩:=iz _ _ jC;obtain⟨o',f1,f2,f3⟩:=hs.own _ _ uU;refine⟨o',f1,f2.mono hm (fun _=>rfl),fun hn=>⟨(f3 hn).1,?_⟩⟩;rw[if_neg (fun e=>aV (hs.inj _ _ _ _ _ _ uU hb f1 e1 hn bE e))];exact(f3 hn).2
  ·split at h
   ·rename_i e;subst e;omega
   ·exact hs.gold k x h hk hE
  ·obtain⟨C,c1,c2,c3,c4⟩:=hs.inv;refine⟨C,?_,c2,c3,hs.js _ _ _ _ _ _ _ c4 rfl rfl rfl (Nat.le_refl _) (fun _ _ _=>rfl) hm.g (fun k x h _=>?_) gok (fun _ h=>.inl h)⟩
   ·rintro k ⟨r',b,o',f1,f2,f3,rfl⟩;exact c1 _ ⟨r',b,o',(iz _ _ f1).2,f2,f3,rfl⟩
   ·split at h
    ·rename_i e;subst e;exact .inr (c1 _ ⟨r,_,o,hb,e1,bE,rfl⟩)
    ·exact .inl h
 ·have h0:=a5 bE;have FB:L=[]:=List.eq_nil_of_length_eq_zero (by omega);subst FB;refine⟨G,Mo.refl _ _,fun u hu=>?_,hs.size,hs.slot,fun r' k' jC=>hs.own r' k' (iz _ _ jC).2,fun r1 r2 k1 k2 o1 o2 h1 h2=>hs.inj r1 r2 k1 k2 o1 o2 (iz _ _ h1).2 (iz _ _ h2).2,hs.next,hs.gsub,hs.gold,hs.gnew,hs.gcell,hs.below,hs.marks,hs.pr,?_,hs.js⟩
  ·cases hu with
   | sl ho hn=>
    rw[ho]at e1;cases e1;exact .fz st [] _ o.cap 0 0 #[] 0 (0,0) ⟨by simp,a2,fun _=>h0,by simp⟩ a3 (fun h=>(h rfl).elim) (fun i j r x h=>by simp at h)
  ·obtain⟨C,c1,c2,c3,c4⟩:=hs.inv;refine⟨C,?_,c2,c3,c4⟩;rintro k ⟨r',b,o',f1,f2,f3,rfl⟩;exact c1 _ ⟨r',b,o',(iz _ _ f1).2,f2,f3,rfl⟩
def zz(r st:Nat) (L:List (List D)) (x:AV):AV:=match x with|.sl r' n=>if r'=r/\n=L.length then .d (.fz st L) else x|x=>x
def pO(r st:Nat) (L:List (List D)):List AV->List AV
 | []=>[]
 | x :: l=>zz r st L x :: pO r st L l
def Jv(r st:Nat) (L:List (List D)) (x:AV):AV:=match x with|.agg l=>mkAgg (pO r st L l)|.tup l=>mkTup (pO r st L l)|.fn f a c=>mkFn f (pO r st L a) (pO r st L c)|x=>zz r st L x
def Fb(r st:Nat) (L:List (List D)):List (Nat × AV)->List (Nat × AV)
 | []=>[]
 | (t,x) :: l=>(t,Jv r st L x) :: Fb r st L l
def NY(r st:Nat) (L:List (List D)) (b:Option Blk):Option Blk:=match b with|some (.box ty l)=>some (.box ty (pO r st L l))|b=>b
def Jw(r st:Nat) (L:List (List D)):List (Nat × Option Blk)->List (Nat × Option Blk)
 | []=>[]
 | (q,b) :: l=>(q,NY r st L b) :: Jw r st L l
def AS.frz(s:AS) (r st:Nat) (L:List (List D)):AS:=⟨s.n,Fb r st L s.F,Jw r st L ((r,none) :: s.H),s.nx,s.yc⟩
theorem Jy(r st:Nat) (L:List (List D)):∀ (l:List (Nat × AV)) (t:Nat),(lk (Fb r st L l) t).getD .any=Jv r st L ((lk l t).getD .any)
 | [],t=>rfl
 | (u,x) :: l,t=>by
  unfold Fb;rw[lk,lk];by_cases e:t=u
  ·rw[if_pos e,if_pos e];rfl
  ·rw[if_neg e,if_neg e];exact Jy r st L l t
theorem Jz(r st:Nat) (L:List (List D)):∀ (l:List (Nat × Option Blk)) (t:Nat),(lk (Jw r st L l) t).join=NY r st L ((lk l t).join)
 | [],t=>rfl
 | (u,x) :: l,t=>by
  unfold Jw;rw[lk,lk];by_cases e:t=u
  ·rw[if_pos e,if_pos e];rfl
  ·rw[if_neg e,if_neg e];exact Jz r st L l t
theorem Cj{r st:Nat} {L:List (List D)} {σ:Sg} {G G':Gh} (hm:Mo σ G σ G') (hf:∀ u,RA σ G (.sl r L.length) u->RD G' (.fz st L) u) {x:AV} {u:Value} (h:RA σ G x u):RA σ G' (zz r st L x) u:=by
 unfold zz;split
 ·split
  ·rename_i e;obtain⟨rfl,rfl⟩:=e;exact .d (hf u h)
  ·exact h.mono hm
 ·exact h.mono hm
theorem lJ(r st:Nat) (L:List (List D)):∀ l:List AV,(pO r st L l).length=l.length
 | []=>rfl
 | x :: l=>by simp[pO,lJ r st L l]
theorem tO(r st:Nat) (L:List (List D)):∀ (l:List AV) (i:Nat),(pO r st L l)[i]?=(l[i]?).map (zz r st L)
 | [],i=>by simp[pO]
 | x :: l,i=>by cases i<;>simp[pO,tO r st L l]
theorem P9{r st:Nat} {L:List (List D)} {σ:Sg} {G G':Gh} (hm:Mo σ G σ G') (hf:∀ u,RA σ G (.sl r L.length) u->RD G' (.fz st L) u) {x:AV} {u:Value} (h:RA σ G x u):RA σ G' (Jv r st L x) u:=by
 have key:∀ {l:List AV} {vs:Array Value},(∀ (i:Nat) x,l[i]?=some x->RA σ G x (vs[i]?.getD undef))->∀ (i:Nat) x,(pO r st L l)[i]?=some x->RA σ G' x (vs[i]?.getD undef):=by
  intro l vs H i x hx;rw[tO]at hx;cases hq:l[i]? with
  | none=>rw[hq]at hx;cases hx
  | some y=>rw[hq]at hx;cases hx;exact Cj hm hf (H i y hq)
 unfold Jv;split
 ·cases h with
  | agg l vs hl H=>exact .mkAgg (by rw[lJ];exact hl) (key H)
 ·cases h with
  | tup l vs hl H=>exact .mkTup (by rw[lJ];exact hl) (key H)
 ·cases h with
  | fn f a c us cs ha hc HA HC=>exact .mkFn (by rw[lJ];exact ha) (by rw[lJ];exact hc) (key HA) (key HC)
 ·exact Cj hm hf h
theorem Mu{r st:Nat} {L:List (List D)} {x:AV} (h:x.cell=true):(zz r st L x).cell=true:=by
 unfold zz;split
 ·split
  ·rfl
  ·rfl
 ·exact h
theorem Sat.frz{K:Cx} {σ:Sg} {G:Gh} {s:AS} {a:Act} {w:World} (hs:Sat K σ G s a w) {r ty st:Nat} {L:List (List D)} (hb:s.blk r=some (.row ty st L)) (hL:L.length<=140737488355328) :
  ∃ G',Mo σ G σ G'/\(∀ u,RA σ G (.sl r L.length) u->RD G' (.fz st L) u)/\Sat K σ G' (s.frz r st L) a w:=by
 obtain⟨G',hm,hf,q⟩:=hs.froz hb hL;refine⟨G',hm,hf,q.size,fun t=>?_,fun r' k' jC=>?_,fun r1 r2 k1 k2 o1 o2 h1 h2 h3 h4 h5 h6 h7=>?_,q.next,q.gsub,q.gold,q.gnew,q.gcell,q.below,q.marks,q.pr,?_,q.js⟩
 ·show RA σ G' ((lk (Fb r st L s.F) t).getD .any) _
  rw[Jy];exact P9 hm hf (hs.slot t)
 all_goals have bk:∀ r',(s.frz r st L).blk r'=NY r st L ((s.set r none).blk r'):=fun r'=>Jz r st L ((r,none) :: s.H) r'
 ·rw[bk]at jC;cases hq:(s.set r none).blk r' with
  | none=>rw[hq]at jC;cases jC
  | some b=>
   rw[hq]at jC;obtain⟨o,f1,f2,f3⟩:=q.own _ _ hq;refine⟨o,f1,?_,f3⟩;cases b with
   | row ty s L=>cases jC;exact f2
   | map f=>cases jC;exact f2
   | box ty0 l=>
    cases jC
    have xS:s.blk r'=some (.box ty0 l):=by
     rw[AS.blk_set]at hq;split at hq
     ·cases hq
     ·exact hq
    obtain⟨o2,g1,⟨b1,b2,b3,cs,b4,b5,b6⟩,g3⟩:=hs.own _ _ xS;rw[f1]at g1;cases g1;refine⟨by rw[lJ];exact b1,b2,fun x hx=>?_,cs,b4,by rw[lJ];exact b5,fun j x hx=>?_⟩
    ·obtain⟨j,hj,rfl⟩:=List.getElem_of_mem hx;have h1:=List.getElem?_eq_getElem hj;rw[tO]at h1;cases hz:l[j]? with
     | none=>rw[hz]at h1;cases h1
     | some z=>
      rw[hz]at h1;rw[<-kj h1];exact Mu (b3 z (List.mem_of_getElem? hz))
    ·rw[tO]at hx;cases hz:l[j]? with
     | none=>rw[hz]at hx;cases hx
     | some z=>rw[hz]at hx;cases hx;exact Cj hm hf (b6 j z hz)
 ·have un:∀ r k,(s.frz r st L).blk r=some k->True:=fun _ _ _=>trivial
  have back:∀ r' k',(s.frz r st L).blk r'=some k'->∃ k'',(s.set r none).blk r'=some k'':=fun r' k' h=>by
   rw[bk]at h;cases hq:(s.set r none).blk r' with
   | none=>rw[hq]at h;cases h
   | some b=>exact⟨b,rfl⟩
  obtain⟨_,q1⟩:=back _ _ h1;obtain⟨_,q2⟩:=back _ _ h2;exact q.inj _ _ _ _ _ _ q1 q2 h3 h4 h5 h6 h7
 ·obtain⟨C,c1,c2,c3,c4⟩:=q.inv;refine⟨C,?_,c2,c3,c4⟩;rintro k ⟨r',b,o',f1,f2,f3,rfl⟩;rw[bk]at f1;cases hq:(s.set r none).blk r' with
  | none=>rw[hq]at f1;cases f1
  | some b=>exact c1 _ ⟨r',b,o',hq,f2,f3,rfl⟩
theorem fj{K:Cx} {c:Code} {Q:Exit->AS->Prop} {u} {s:AS} (r ty st:Nat) (L:List (List D)) (hb:s.blk r=some (.row ty st L)) (hL:L.length<=140737488355328) (h:AW K c Q .mk (s.frz r st L)):AW K c Q u s:=fun σ G a w hs=>by
 obtain⟨G',_,_,q⟩:=hs.frz hb hL;exact h _ _ _ _ q
theorem R0{K:Cx} {id:Nat} {l:List Oper} {Q:Exit->AS->Prop} {u} {s:AS} (h:OS K l l (Q .normal) .mk s):AW K (.region id l.toArray false) Q u s:=wP h
attribute [simp] zz pO Jv Fb NY Jw AS.frz
def FO(P:Program) (f:FuncId) (args:List D) (ty st:Nat) (L:List (List D)):Prop:=
 (∀ us w,(callFunc f us).run P w=.ok (.enter f us) w)/\∀ (G:Gh) (us:Array Value) (w:World),(∀ k o,G k=some o->w.heap[k]?=some o/\o.isCells=true)->us.size=args.length->(∀ (i:Nat) x,args[i]?=some x->RD G x (us[i]?.getD undef)) →
  Calls P f us w fun e w'=>∃ G' o,e=.returned (.slice (if o.nil then none else some ⟨o.b,0,none⟩) L.length o.cap)/\Below w.heap.size w w'/\Grow G w G' w'/\iI (fun _=>none) G' w' o (.row ty st L)/\(o.nil=false->w.heap.size<=o.b/\G' o.b=none)
theorem Mw{K:Cx} {g:FuncId} {ds:List D} {ty st:Nat} {L:List (List D)} {s:AS} {k:AV->AS->Prop} (h:FO K.P g ds ty st L) (hk:k (.sl s.nx L.length) (s.add (.row ty st L))):iK K g (ds.map AV.d) s k:=by
 refine⟨h.1,fun σ G a w us hs bA gG=>?_⟩;refine(h.2 G us w (fun k o e=>⟨hs.gsub k o e,hs.gcell k o e⟩) (by simpa using bA) (fun i x hx=>(gG i (.d x) (by simp[hx])).un)).mono ?_;rintro e w' ⟨G',o,rfl,hb,hg,bO,rA⟩;have eL:=hs.call hb hg
 have aG:∀ r' k' o',s.blk r'=some k'->σ r'=some o'->o'.nil=false->o'.b<w.heap.size:=fun r' k' o' h1 h2 h3=>by
  obtain⟨o2,e1,e2,_⟩:=hs.own _ _ h1;rw[h2]at e1;cases e1;obtain⟨ob,e3,_⟩:=e2.at h3;exact aw e3
 obtain⟨C,c1,c2,c3,c4⟩:=hs.inv;have hok':iI σ G' w' o (.row ty st L):=bO
 have q:=eL.adopt (k:=.row ty st L) (o:=o) (fun hn=>⟨Nat.le_trans hs.below.size (rA hn).1,(rA hn).2⟩) (fun r' k' o' h1 h2 h3 h4 h5=>by
  have:=aG r' k' o' h1 h2 h4;have:=(rA h3).1
  omega) hok' ⟨fun n=>C n\/(w.heap.size<=n/\n<w'.heap.size),fun n hn=>.inl (c1 n hn),fun hn=>.inr ⟨(rA hn).1,by obtain⟨ob,e3,_⟩:=bO.at hn;exact aw e3⟩,fun p hp=>.inl (c2 p hp),fun n hn=>.inl (c3 n hn),?_⟩
 ·exact⟨_,_,G',_,.sl s.nx L.length,rfl,q,.sl (f7 _ _ _) bO.2.2.2.1,hk⟩
 ·exact hs.js _ _ _ _ _ _ _ c4 hb.os hb.tape hb.output hb.size (fun k hk _=>hb.block k hk) hg.up (fun k o e hk=>.inl (hg.old k o e hk)) hg.sub (fun _ e=>e)
theorem Ck{K:Cx} {g:FuncId} {k:AV->AS->Prop} {u} {ds:List D} {s:AS} {ty st:Nat} {L:List (List D)} (h:FO K.P g ds ty st L) (hk:k (.sl s.nx L.length) (s.add (.row ty st L))):E0 K g k u ds s:=Mw h hk
def isRow(s:AS) (ty st:Nat) (L:List (List D)) (x:AV):Prop:=match x with|.sl r n=>s.blk r=some (.row ty st L)/\n=L.length|.d (.v (.slice none 0 0))=>L=[]|_=>False
theorem Mx{K:Cx} {σ:Sg} {G:Gh} {s:AS} {a:Act} {w:World} {ty st:Nat} {L:List (List D)} {x:AV} {u:Value} (hs:Sat K σ G s a w) (hx:RA σ G x u) (h:isRow s ty st L x) :
  ∃ o:Own,u=.slice (if o.nil then none else some ⟨o.b,0,none⟩) L.length o.cap/\iI (fun _=>none) G w o (.row ty st L)/\(o.nil=false->K.w0.heap.size<=o.b/\G o.b=none):=by
 unfold isRow at h;split at h
 ·obtain⟨hb,rfl⟩:=h;cases hx with
  | sl ho hn=>
   obtain⟨o',e1,e2,e3⟩:=hs.own _ _ hb;rw[ho]at e1;cases e1;exact⟨_,rfl,e2,e3⟩
 ·subst h;rw[hx.un.val];exact⟨⟨0,0,st,true⟩,rfl,⟨rfl,Nat.zero_le _,(fun _ h=>by cases h),Nat.le_refl _,fun _=>rfl,fun h=>(by cases h)⟩,fun h=>by cases h⟩
 ·exact h.elim
def RO(P:Program) (rs:List ResultVar) (ty st:Nat) (L:List (List D)) (_:Tq (P,rs,L)):Exit->AS->Prop
 | .ret,s=>dt P s rs fun l=>isRow s ty st L (fv l)
 | .normal,s=>dt P s rs fun l=>isRow s ty st L (fv l)
 | _,_=>False
@[simp] theorem RO_ret (P:Program) (rs:List ResultVar) (ty st:Nat) (L:List (List D)) (u) (s:AS):RO P rs ty st L u .ret s=dt P s rs fun l=>isRow s ty st L (fv l):=rfl
@[simp] theorem RO_normal (P:Program) (rs:List ResultVar) (ty st:Nat) (L:List (List D)) (u) (s:AS):RO P rs ty st L u .normal s=dt P s rs fun l=>isRow s ty st L (fv l):=rfl
theorem RR{P:Program} {f:FuncId} {fn:Func} {c:Code} {args:List D} {n:Nat} {rs:List ResultVar} {ty st:Nat} {L:List (List D)} (hf:P.funcs[f]?=some fn) (hb:fn.body=some c) (hn:fn.ntmps=n) (hr:fn.results.toList=rs) (hc:∀ us w,(callFunc f us).run P w=.ok (.enter f us) w) (mu cut:List Nat) (hl:decide (args.length<=n)=true)
  (h:∀ w0 G0,ei ⟨P,w0,G0,none,mu,cut,fun _=>False,fun _ _ _ _=>True,[],#[]⟩ c (RO P rs ty st L .mk) ⟨n,iF 0 args,[],0,0⟩):FO P f args ty st L:=by
 have hl:args.length<=n:=by simpa using hl
 refine⟨hc,fun G us w hG bA gG=>?_⟩;refine cX hf hb ?_
 have lu:Sat ⟨P,w,G,none,mu,cut,fun _=>False,fun _ _ _ _=>True,[],#[]⟩ (fun _=>none) G ⟨n,iF 0 args,[],0,0⟩ { tmps:=us++Array.replicate (fn.ntmps - us.size) undef,defers:=[] } w:=by
  refine⟨by show _=n;rw[Array.size_append,Array.size_replicate];omega,fun t=>?_,fun r k h=>by simp[AS.blk,lk]at h,fun r r' k k' o o' h=>by simp[AS.blk,lk]at h,fun _ _=>rfl,fun k o h=>(hG k o h).1,fun k o h _ _=>h,fun k o h=>h,fun k o h=>(hG k o h).2,⟨rfl,rfl,rfl,Nat.le_refl _,fun _ _ _=>rfl⟩,⟨[],rfl,bY.nil _ _,fun _ h=>by cases h⟩,fun p hp=>(by cases hp),⟨fun _=>False,fun k ⟨r,b,o,h1,_⟩=>(by simp[AS.blk,lk]at h1),fun p hp=>(by cases hp),fun k hk=>(by cases hk),trivial⟩,fun _ _ _ _ _ _ _ _ _ _ _ _ _ _ _ _ _=>trivial⟩;simp only[AS.get,iF_get,Nat.zero_le,if_true,Nat.sub_zero];cases hq:args[t]? with
  | none=>exact .any _
  | some x=>
   have ht:=(List.getElem?_eq_some_iff.1 hq).1;rw[Array.getElem?_append_left (by rw[Array.size_append];omega),Array.getElem?_append_left (by omega)];exact .d (gG t x hq)
 refine wpIn_wide.1 (wpIn_mono (h w G _ _ _ _ lu) ?_);intro e a' w' hq
 have key:∀ σ G' s',dt P s' rs (fun l=>isRow s' ty st L (fv l))->Sat ⟨P,w,G,none,mu,cut,fun _=>False,fun _ _ _ _=>True,[],#[]⟩ σ G' s' a' w'->bodyPostM Fence.wide 0 P fn (fun e w'=>∃ G' o,e=.returned (.slice (if o.nil then none else some ⟨o.b,0,none⟩) L.length o.cap)/\Below w.heap.size w w'/\Grow G w G' w'/\iI (fun _=>none) G' w' o (.row ty st L)/\(o.nil=false->w.heap.size<=o.b/\G' o.b=none)) .ret a' w':=by
  intro σ G' s' h1 h2;obtain⟨tmps,defers⟩:=a';obtain⟨ds,hd,hm,oe⟩:=h2.marks;dsimp only at hd;subst hd;have h3:=h2.taken hm oe;obtain⟨vs,xs,q1,q2,q3,q4⟩:=lG h3 h1;have q5:=pM (vs:=vs.toArray) (by simpa using q2) (fun i x hx=>by simpa using q3 i x hx);obtain⟨o,q6,q7,q8⟩:=Mx h3 q5 q4;have g:Grow G w G' (dK ds w'):=⟨fun k x h=>h3.gnew k x h,fun k x h hk=>h3.gold k x h hk (fun h=>h),fun k x h=>⟨h3.gsub k x h,h3.gcell k x h⟩⟩;refine jj hm ?_ ⟨G',o,congrArg _ q6,⟨h3.below.os,h3.below.tape,h3.below.output,h3.below.size,fun k hk=>h3.below.block k hk (fun h=>h)⟩,g,q7,q8⟩;unfold results;rw[Sem.run_bind,Array.mapM_eq_mapM_toList]
  show ((Sem.run P (List.mapM _ fn.results.toList >>= fun l=>pure l.toArray) _).andThen _)=_
  rw[Sem.run_bind,hr]
  erw [q1]
  rfl
 cases e with
 | ret=>obtain⟨σ,G',s',h1,h2⟩:=hq;exact key _ _ _ h1 h2
 | normal=>obtain⟨σ,G',s',h1,h2⟩:=hq;exact key _ _ _ h1 h2
 | exit id=>obtain⟨σ,G',s',h1,h2⟩:=hq;exact h1.elim
 | goto id=>obtain⟨σ,G',s',h1,h2⟩:=hq;exact h1.elim
 | panic c=>exact hq.elim
 | outgrown=>exact hq.elim
theorem m4{P:Program} {f:FuncId} {fn:Func} {c:Code} {args:List D} {n:Nat} {rs:List ResultVar} {ty st:Nat} {L:List (List D)} (hf:P.funcs[f]?=some fn) (hb:fn.body=some c) (hn:fn.ntmps=n) (hr:fn.results.toList=rs) (hc:∀ us w,(callFunc f us).run P w=.ok (.enter f us) w) (mu cut:List Nat) (hl:decide (args.length<=n)=true) (m:Nat)
  (h:(∀ x∈args,Bd m x)->∀ w0 G0,VS ⟨P,w0,G0,none,mu,cut,fun _=>False,fun _ _ _ _=>True,[],#[]⟩ c (RO P rs ty st L .mk) .mk ⟨n,iF 0 args,[],0,0⟩):FO P f args ty st L:=
 ⟨hc,fun G us w hG hs hu=>(RR hf hb hn hr hc mu cut hl (fun w0 G0=>vs (h (fun x hx=>by obtain⟨i,hi,rfl⟩:=List.getElem_of_mem hx;exact(hu i _ (List.getElem?_eq_getElem hi)).bd m) w0 G0))).2 G us w hG hs hu⟩
theorem FO.fc{P:Program} {f:FuncId} {args:List D} {ty st:Nat} {L:List (List D)} (h:FO P f args ty st L) (hL:L.length<=140737488355328):FC P f args (.fz st L):=by
 refine⟨h.1,fun G us w h1 h2 h3=>(h.2 G us w h1 h2 h3).mono ?_⟩;rintro e w' ⟨G',o,rfl,hb,hg,⟨a1,a2,a3,a4,a5,a6⟩,rA⟩;cases bE:o.nil
 ·obtain⟨cs,q1,q2,q3⟩:=a6 bE;obtain⟨f1,f2⟩:=rA bE
  have up:∀ k x,G' k=some x->(fun k=>if k=o.b then some (.cells cs ty (0,0)) else G' k) k=some x:=fun k x h=>by
   show (if k=o.b then _ else G' k)=_
   rw[if_neg (by intro e;rw[e,f2]at h;cases h)];exact h
  refine⟨_,fun k=>if k=o.b then some (.cells cs ty (0,0)) else G' k,rfl,hb,⟨fun k x h=>up k x (hg.up k x h),fun k x h hk=>?_,fun k x h=>?_⟩,?_⟩
  ·rw[if_neg (by omega)]at h;exact hg.old k x h hk
  ·split at h
   ·rename_i e;subst e;cases h;exact⟨q1,rfl⟩
   ·exact hg.sub k x h
  ·refine .fz st L _ o.cap o.b 0 cs ty (0,0) ⟨a4,a2,fun e=>(by simp at e),hL⟩ a3 (fun _=>⟨rfl,by simp,?_⟩) (fun i j r x g1 g2=>by rw[Nat.zero_add];exact(q3 i j r x g1 g2).mono up);rw[q2];have:=Nat.mul_le_mul_right st a4;omega
 ·have h0:=a5 bE;have FB:L=[]:=List.eq_nil_of_length_eq_zero (by omega);subst FB;exact⟨_,G',rfl,hb,hg,.fz st [] _ o.cap 0 0 #[] 0 (0,0) ⟨by simp,a2,fun _=>h0,by simp⟩ a3 (fun h=>(h rfl).elim) (fun i j r x h=>by simp at h)⟩
attribute [simp] isRow
mutual
def dq:D->D->Prop
 | .v x,.v y=>x=y
 | .v x,.fz _ L=>x=.slice none 0 0/\L=[]
 | .agg l,.agg m=>dqL l m
 | .tup l,.tup m=>dqL l m
 | .fz s L,.fz s' L'=>s=s'/\dqR L L'
 | x,y=>x=y
def dqL:List D->List D->Prop
 | [],[]=>True
 | x :: l,y :: m=>dq x y/\dqL l m
 | _,_=>False
def dqR:List (List D)->List (List D)->Prop
 | [],[]=>True
 | r :: l,t :: m=>dqL r t/\dqR l m
 | _,_=>False
end
def NZ(x y:D):Prop:=le x y/\(x.cell=true->y.cell=true)
theorem vH(x:D):NZ x x:=⟨le_refl _,id⟩
def LL(l m:List D):Prop:=m.length=l.length/\∀ (i:Nat) y,m[i]?=some y->∃ x,l[i]?=some x/\NZ x y
def LR(l m:List (List D)):Prop:=m.length=l.length/\∀ (i:Nat) y,m[i]?=some y->∃ x,l[i]?=some x/\LL x y
theorem LL.cons{x y:D} {l m:List D} (h:NZ x y) (k:LL l m):LL (x :: l) (y :: m):=⟨by simp[k.1],fun i z hz=>by
 cases i with
 | zero=>cases hz;exact⟨x,rfl,h⟩
 | succ i=>exact k.2 i z hz⟩
theorem LR.cons{x y:List D} {l m:List (List D)} (h:LL x y) (k:LR l m):LR (x :: l) (y :: m):=⟨by simp[k.1],fun i z hz=>by
 cases i with
 | zero=>cases hz;exact⟨x,rfl,h⟩
 | succ i=>exact k.2 i z hz⟩
theorem Pi{s:Nat} {L M:List (List D)} (h:LR L M):le (.fz s L) (.fz s M):=fun G v hv=>by
 generalize hX:D.fz s L=X at hv;cases hv with
 | fz s L p c b o cs ty fr hc hs hp H=>
  cases hX
  rw[<-h.1];refine .fz s M p c b o cs ty fr (by rw[h.1];exact hc) (fun r hr=>?_) (fun e=>?_) (fun i j r x e1 e2=>?_)
  ·obtain⟨i,hi,rfl⟩:=List.getElem_of_mem hr;obtain⟨t,q1,q2⟩:=h.2 i _ (List.getElem?_eq_getElem hi);have ht:=hs t (List.mem_of_getElem? q1);refine⟨by rw[q2.1];exact ht.1,fun y hy=>?_⟩;obtain⟨j,hj,rfl⟩:=List.getElem_of_mem hy;obtain⟨x,g1,g2⟩:=q2.2 j _ (List.getElem?_eq_getElem hj);exact g2.2 (ht.2 x (List.mem_of_getElem? g1))
  ·rw[h.1];exact hp (fun e2=>e (by subst e2;exact List.eq_nil_of_length_eq_zero h.1))
  ·obtain⟨t,q1,q2⟩:=h.2 i _ e1;obtain⟨z,g1,g2⟩:=q2.2 j _ e2;exact g2.1 _ _ (H i j t z q1 g1)
 | _=>cases hX
theorem Pj{l m:List D} (h:LL l m):le (.agg l) (.agg m):=fun G v hv=>by
 cases hv with
 | agg l vs hl H=>exact .agg m vs (by rw[h.1];exact hl) fun i y hy=>let ⟨x,q1,q2⟩:=h.2 i y hy;q2.1 _ _ (H i x q1)
theorem Pk{l m:List D} (h:LL l m):le (.tup l) (.tup m):=fun G v hv=>by
 cases hv with
 | tup l vs hl H=>exact .tup m vs (by rw[h.1];exact hl) fun i y hy=>let ⟨x,q1,q2⟩:=h.2 i y hy;q2.1 _ _ (H i x q1)
mutual
theorem dq_le:∀ (x y:D),dq x y->NZ x y
 | .v x,y,h=>by
  cases y<;>simp only[dq]at h<;>first|(subst h;exact vH _)|(obtain⟨rfl,rfl⟩:=h;exact⟨le_nil _,fun _=>rfl⟩)|cases h
 | .agg l,y,h=>by
  cases y<;>simp only[dq]at h<;>first|exact⟨Pj (dqL_le _ _ h),fun e=>by cases e⟩|cases h
 | .tup l,y,h=>by
  cases y<;>simp only[dq]at h<;>first|exact⟨Pk (dqL_le _ _ h),fun e=>by cases e⟩|cases h
 | .fz s L,y,h=>by
  cases y<;>simp only[dq]at h<;>first|(obtain⟨rfl,h⟩:=h;exact⟨Pi (dqR_le _ _ h),fun _=>rfl⟩)|cases h
 | .fp s L i j,y,h=>by
  cases y<;>simp only[dq]at h<;>first|(cases h;exact vH _)|cases h
 | .fn f a c,y,h=>by
  cases y<;>simp only[dq]at h<;>first|(cases h;exact vH _)|cases h
theorem dqL_le:∀ (l m:List D),dqL l m->LL l m
 | [],[],_=>⟨rfl,fun i y h=>by simp at h⟩
 | x :: l,y :: m,h=>LL.cons (dq_le x y h.1) (dqL_le l m h.2)
 | [],_ :: _,h=>h.elim
 | _ :: _,[],h=>h.elim
theorem dqR_le:∀ (l m:List (List D)),dqR l m->LR l m
 | [],[],_=>⟨rfl,fun i y h=>by simp at h⟩
 | x :: l,y :: m,h=>LR.cons (dqL_le x y h.1) (dqR_le l m h.2)
 | [],_ :: _,h=>h.elim
 | _ :: _,[],h=>h.elim
end
theorem FC.dq{P:Program} {f:FuncId} {args:List D} {r r':D} (h:FC P f args r) (hd:YtiocdkdkndpgkaaGreat.dq r r'):FC P f args r':=
 ⟨h.1,fun G us w h1 h2 h3=>(h.2 G us w h1 h2 h3).mono fun _ _ ⟨v,G',q1,q2,q3,q4⟩=>⟨v,G',q1,q2,q3,(dq_le _ _ hd).1 _ _ q4⟩⟩
mutual
theorem dq_refl:∀ x:D,dq x x
 | .v x=>by simp only[YtiocdkdkndpgkaaGreat.dq]
 | .agg l=>by simp only[YtiocdkdkndpgkaaGreat.dq];exact dqL_refl l
 | .tup l=>by simp only[YtiocdkdkndpgkaaGreat.dq];exact dqL_refl l
 | .fz s L=>by simp only[YtiocdkdkndpgkaaGreat.dq];exact⟨trivial,dqR_refl L⟩
 | .fp s L i j=>by simp only[YtiocdkdkndpgkaaGreat.dq]
 | .fn f a c=>by simp only[YtiocdkdkndpgkaaGreat.dq]
theorem dqL_refl:∀ l:List D,dqL l l
 | []=>trivial
 | x :: l=>⟨dq_refl x,dqL_refl l⟩
theorem dqR_refl:∀ l:List (List D),dqR l l
 | []=>trivial
 | x :: l=>⟨dqL_refl x,dqR_refl l⟩
end
end Go.Proofs.YtiocdkdkndpgkaaGreat
