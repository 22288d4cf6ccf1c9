/-
  A part of the proof: lemmas and contracts that the parts behind it use. Each one's conditions are its own premises.
-/
import Derived.Test.YtiocdkdkndpgkaaGreatN10
set_option maxRecDepth 100000
set_option maxHeartbeats 8000000
set_option linter.unusedVariables false
set_option linter.unusedSimpArgs false
namespace Go.Proofs.YtiocdkdkndpgkaaGreat
open Go.RowKit Go
attribute [local simp] bu bv
theorem EE(b:ByteArray) (hb:b.size<=140737488351232):FC Tryz.prog 212 [.v (.string b)] (iD (ckS b.data.toList)):=by
 refine⟨Tryz.call212,fun G us w hG hz hu=>?_⟩;rw[MA (us:=us) hz,(hu 0 _ rfl).val];refine(rY b hb w).mono ?_;rintro e w' ⟨rfl,h⟩;exact⟨_,G,rfl,h,Grow.same hG h,.v _⟩
@[simp] theorem wrap_byte (b:UInt8):IntKind.i64.wrap (b.toNat:Int)=b.toNat:=IntWalk.i64_in _ (by have:=b.toNat_lt;omega)
abbrev M8(lo hi:Int):List D:=[.fp 1 [[iD lo]] 0 0,.fp 1 [[iD hi]] 0 0]
theorem l7(n lo hi:Int):FC Tryz.prog 205 (iD n :: M8 lo hi) (bD (!inB n lo hi)):=by
 refine an Tryz.func205 rfl rfl rfl Tryz.call205 [] [] rfl 1 (fun hb w0 G0=>?_);rw[show (!inB n lo hi)=(decide (n<lo) || decide (hi<n)) by unfold inB;grind];simp
 (refine Bz.split (fun h=>?_) (fun h=>?_)<;>(try simp only[decide_eq_true_eq,decide_eq_false_iff_not,Bool.not_eq_true',Bool.not_eq_false',beq_iff_eq,bne_iff_ne,beq_eq_false_iff_ne,bne_eq_false_iff_eq,Bool.not_not,Bool.and_eq_true,Bool.or_eq_true,Bool.and_eq_false_iff,Bool.or_eq_false_iff]at h))<;>simp[h]
theorem m8(lo hi:Int):FC Tryz.prog 127 [iD lo,iD hi] (.fn (.func 205) [] (M8 lo hi)):=by
 refine an Tryz.func127 rfl rfl rfl Tryz.call127 [] [] rfl 1 (fun hb w0 G0=>?_);simp
theorem Hr(t:Tr) (l:List Int):FC Tryz.prog 209 [aT l,.fp 6 [[aT t.inp,bK t.word,ez t.states,CR t.msgs,aT t.dec,aT t.times]] 0 0] (bD (decide (l.length≠t.inp.length))):=by
 refine an Tryz.func209 rfl rfl rfl Tryz.call209 [] [] rfl 5 (fun hb w0 G0=>?_);simp;omega
theorem Ht(l:List Int):FC Tryz.prog 210 [aT l] (bD (anyLt l.length fun j=>!inB (l.getD j 0) 0 1048576)):=by
 refine an Tryz.func210 rfl rfl rfl Tryz.call210 [] [] rfl 5 (fun hb w0 G0=>?_);simp;refine ap (m8 0 1048576) ?_;simp;refine ap (tQ l _ _ (fun j=>!inB (l.getD j 0) 0 1048576) (fun i h=>by rw[aj 0 h];exact l7 _ _ _)) ?_;simp
theorem yK(t:Tr):FC Tryz.prog 129 [oM t] (iD (statesE t)):=by
 refine an Tryz.func129 rfl rfl rfl Tryz.call129 [] [] rfl 5 (fun hb w0 G0=>?_);simp at hb;generalize hr:statesE t=q;unfold statesE at hr;have h2:=pR t.states 210 [] (fun i=>anyLt (t.states.getD i []).length fun j=>!inB ((t.states.getD i []).getD j 0) 0 1048576) (fun i h=>by rw[aj [] h];exact Ht _);have h1:=pR t.states 209 _ (fun i=>decide ((t.states.getD i []).length≠t.inp.length)) (fun i h=>by rw[aj [] h];exact Hr t _);generalize (anyLt t.states.length fun i=>anyLt (t.states.getD i []).length fun j=>!inB ((t.states.getD i []).getD j 0) 0 1048576)=b2 at hr h2;generalize (anyLt t.states.length fun i=>decide ((t.states.getD i []).length≠t.inp.length))=b1 at hr h1;refine cw (decide ((t.states.length:Int)=t.word.length+1)) (fun d0=>?_) (fun d0=>?_)
 ·have h0:=of_decide_eq_false d0;rw[if_pos (by omega)]at hr;simp[d0];refine vg ?_;rw[<-hr]
 have h0:=of_decide_eq_true d0;rw[if_neg (by omega)]at hr;simp[d0];refine vg ?_;refine ap h1 ?_;cases b1<;>simp at hr ⊢
 ·refine ap (N2 h2) ?_;cases b2<;>simp at hr ⊢<;>rw[<-hr]
 ·rw[<-hr]
theorem t6(t:Tr):FC Tryz.prog 131 [oM t] (iD (decisionsE t)):=by
 refine an Tryz.func131 rfl rfl rfl Tryz.call131 [] [] rfl 5 (fun hb w0 G0=>?_);simp at hb;generalize hr:decisionsE t=q;unfold decisionsE at hr;refine cw (decide ((t.dec.length:Int)=t.inp.length)) (fun d0=>?_) (fun d0=>?_)
 ·have h0:=of_decide_eq_false d0;rw[if_pos (.inl (by omega))]at hr;simp[d0];rw[<-hr]
 have h0:=of_decide_eq_true d0;refine cw (decide ((t.times.length:Int)=t.inp.length)) (fun d1=>?_) (fun d1=>?_)
 ·have h1:=of_decide_eq_false d1;rw[if_pos (.inr (by omega))]at hr;simp[d0,d1];rw[<-hr]
 have h1:=of_decide_eq_true d1;rw[if_neg (by omega)]at hr;simp[d0,d1];refine am [1,22,23] [] (fun k:Nat=>[(24,.d (iD k))]) (fun _=>[]) (fun k=>t.dec.length - k) (fun k=>k<=t.dec.length/\ay k (wm t)=0) 0 ⟨by omega,rfl⟩ (by simp) (fun k hk=>?_);obtain⟨hk,hj⟩:=hk;simp
 (refine Bz.split (fun h=>?_) (fun h=>?_)<;>(try simp only[decide_eq_true_eq,decide_eq_false_iff_not,Bool.not_eq_true',Bool.not_eq_false',beq_iff_eq,bne_iff_ne,beq_eq_false_iff_ne,bne_eq_false_iff_eq,Bool.not_not,Bool.and_eq_true,Bool.or_eq_true,Bool.and_eq_false_iff,Bool.or_eq_false_iff]at h))
 ·have h2:k<t.times.length:=by omega
  have hE:wm t k=if (!inB t.times[k] (-1) t.word.length || !inB t.dec[k] (-1) 7)=true then 2 else if (decide (t.dec[k]=-1) != decide (t.times[k]=-1))=true then 3 else 0:=by unfold wm;rw[aj 0 h,aj 0 h2]
  generalize eK:(decide (t.dec[k]=-1) != decide (t.times[k]=-1))=b3 at hE;simp[h];refine aO 16 ?_;simp;refine bL (m8 (-1) t.word.length) ?_;simp[h2];have ho1:=l7 t.times[k] (-1) t.word.length;have ho2:=l7 t.dec[k] (-1) 7;generalize inB t.times[k] (-1) t.word.length=b1 at ho1 hE;generalize inB t.dec[k] (-1) 7=b2 at ho2 hE;refine bL ho1 ?_;cases b1<;>simp at hE ⊢
  ·rw[<-hr,aF h hj (by rw[hE];decide),hE]
  refine bL (m8 (-1) 7) ?_;simp;refine bL ho2 ?_;cases b2<;>simp at hE ⊢
  ·rw[<-hr,aF h hj (by rw[hE];decide),hE]
  simp[h2];refine P' (decide (t.dec[k]=-1)) (decide (t.times[k]=-1)) (fun a b w=>by cases a<;>cases b<;>kernel_rfl) (by simp) (by simp) ?_;rw[eK];cases b3<;>simp at hE ⊢
  ·exact vg (ar.of (k+1) [] (by simp) ⟨⟨h,aY hj hE⟩,by omega⟩)
  ·rw[<-hr,aF h hj (by rw[hE];decide),hE]
 ·have e:k=t.dec.length:=by omega
  subst e;simp;rw[<-hr,hj]
abbrev Ql(x:Nat × Nat × Nat):List D:=[iD x.1,iD x.2.1,iD x.2.2,.v (.string ⟨#[]⟩)]
theorem Hu{gf:FuncId} {c:List D} (L:List (Nat × Nat × Nat)) (hq:SQ Tryz.prog gf c (L.map fun x=>[Kh x])) (hl:L.length<=549755813887):FO Tryz.prog 257 [.v (.slice none 0 0),.fn (.func gf) [] c] 125 4 (L.map Ql):=by
 refine m4 Tryz.func257 rfl rfl rfl Tryz.call257 [2] [0] rfl 1 (fun hb w0 G0=>?_);simp;refine ml 0 125 4 (by simp) ?_;refine vk ?_;simp;refine dX hq [2] [] (fun i=>[]) (fun i=>[(0,some (.row 125 4 ((L.take i).map Ql))),(1,some (.box 40 [.sl 0 i]))]) (fun _=>True) trivial rfl (fun ds h=>by obtain⟨x,_,rfl⟩:=List.mem_map.1 h;rfl) (.inl rfl) (by simp) (fun i ds hi _ l r r' J' pr' fr' _=>?_) (fun _=>?_)
 ·obtain⟨fR,rfl⟩:=List.getElem?_eq_some_iff.1 hi;have jD:i<L.length:=by simpa using fR
  rw[List.getElem_map];have Ag:min i L.length=i:=by omega
  simp[Ag];exact vg ⟨[3,1],by simp;exact kv _ _ _ (by simp[jD])⟩
 ·rw[List.length_map,List.take_length];simp
theorem EF{gf:FuncId} {c:List D} (L:List (Nat × Nat × Nat)) (hq:SQ Tryz.prog gf c (L.map fun x=>[Kh x])) (hl:L.length<=549755813887):FC Tryz.prog 211 [.fn (.func gf) [] c] (.fz 4 (L.map Ql)):=by
 refine FO.fc (ty:=125) ?_ (by simp;omega);refine m4 Tryz.func211 rfl rfl rfl Tryz.call211 [] [] rfl 1 (fun hb w0 G0=>?_);simp;refine Ck (Hu L hq hl) ?_;simp
theorem vQ(t:Tr) (hn5:t.inp.length<=5) (fT:∀ x∈t.msgs,x.bs.size<=140737488351232) (tv:t.word.length<=1000000):FC Tryz.prog 130 [oM t] (iD (messagesE t)):=by
 refine an Tryz.func130 rfl rfl rfl Tryz.call130 [] [] rfl 5 (fun hb w0 G0=>?_);simp at hb;generalize hr:messagesE t=q;unfold messagesE at hr;have NC:=uk t.inp.length t.word;have hq:=xu t.inp.length t.word hn5;have hE0:∀ i,AL t i=(let x:=t.msgs.getD i default;let d:=(placesL t.inp.length t.word).getD i (0,0,0);if x.rd≠d.1\/x.fr≠d.2.1\/x.to≠d.2.2 then 14 else if lA x.bs then 24 else if jV x.bs 0≠x.rd\/jV x.bs 1≠x.fr\/jV x.bs 2≠x.to then 22 else 0):=fun i=>rfl
 generalize placesL t.inp.length t.word=PL at hr hq NC hE0;simp;refine ap (zS t.inp.length t.word) ?_;simp;refine ap (EF PL hq (by omega)) ?_;simp
 (refine Bz.split (fun h0=>?_) (fun h0=>?_)<;>(try simp only[decide_eq_true_eq,decide_eq_false_iff_not,Bool.not_eq_true',Bool.not_eq_false',beq_iff_eq,bne_iff_ne,beq_eq_false_iff_ne,bne_eq_false_iff_eq,Bool.not_not,Bool.and_eq_true,Bool.or_eq_true,Bool.and_eq_false_iff,Bool.or_eq_false_iff]at h0))
 ·rw[if_pos (by omega)]at hr;simp;rw[<-hr]
 rw[if_neg (by omega)]at hr;simp;refine am [1,3,21,22] [] (fun k:Nat=>[(23,.d (iD k))]) (fun _=>[]) (fun k=>t.msgs.length - k) (fun k=>k<=t.msgs.length/\ay k (AL t)=0) 0 ⟨by omega,rfl⟩ (by simp) (fun k hk=>?_);obtain⟨hk,hj⟩:=hk;simp
 (refine Bz.split (fun h=>?_) (fun h=>?_)<;>(try simp only[decide_eq_true_eq,decide_eq_false_iff_not,Bool.not_eq_true',Bool.not_eq_false',beq_iff_eq,bne_iff_ne,beq_eq_false_iff_ne,bne_eq_false_iff_eq,Bool.not_not,Bool.and_eq_true,Bool.or_eq_true,Bool.and_eq_false_iff,Bool.or_eq_false_iff]at h))
 ·have h2:k<PL.length:=by omega
  have hE:=hE0 k;simp only[aj default h,aj (0,0,0) h2]at hE;have mr:=fT t.msgs[k] (List.getElem_mem h);have tt:∀ e:Int,AL t k=e->e≠0->q=e:=fun e h1 h3=>by rw[<-hr,aF h hj (by rw[h1];exact h3),h1]
  have xR:ix PL k=PL[k]:=by simp[ix,h2]
  simp[h];refine vg ?_;refine cw (decide (t.msgs[k].rd=(PL[k].1:Int))) (fun d1=>?_) (fun d1=>?_)
  ·have:=of_decide_eq_false d1;rw[if_pos (.inl this)]at hE;refine aO 29 ?_;simp[h2,xR,d1];exact(tt _ hE (by decide)).symm
  have e1:=of_decide_eq_true d1;refine cw (decide (t.msgs[k].fr=(PL[k].2.1:Int))) (fun d2=>?_) (fun d2=>?_)
  ·have:=of_decide_eq_false d2;rw[if_pos (.inr (.inl this))]at hE;refine aO 29 ?_;simp[h2,xR,d1,d2];exact(tt _ hE (by decide)).symm
  have e2:=of_decide_eq_true d2;refine cw (decide (t.msgs[k].to=(PL[k].2.2:Int))) (fun d3=>?_) (fun d3=>?_)
  ·have:=of_decide_eq_false d3;rw[if_pos (.inr (.inr this))]at hE;refine aO 29 ?_;simp[h2,xR,d1,d2,d3];exact(tt _ hE (by decide)).symm
  have e3:=of_decide_eq_true d3;rw[if_neg (by omega)]at hE;refine aO 29 ?_;simp[h2,xR,d1,d2,d3];refine cw (decide (((t.msgs[k].bs.size:Int) - 2)<4)) (fun d4=>?_) (fun d4=>?_)
  rotate_left
  ·have h4:=of_decide_eq_true d4;have hc:lA t.msgs[k].bs=true:=by unfold lA;rw[Bool.or_eq_true];left;simp;omega
   rw[if_pos hc]at hE;refine aO 24 ?_;simp[d4];exact(tt _ hE (by decide)).symm
  have h4:=of_decide_eq_false d4;refine aO 24 ?_;simp[d4]
  repeat refine vg ?_
  refine bL (EE _ (by simp;omega)) ?_;simp[d4];have g1:=(ix t.msgs[k].bs.data.toList ((t.msgs[k].bs.size:Int) - 2).toNat).toNat_lt;have g2:=(ix t.msgs[k].bs.data.toList ((t.msgs[k].bs.size:Int) - 2+1).toNat).toNat_lt
  repeat refine vg ?_
  have hcor:lA t.msgs[k].bs=!decide (((ckS (List.take ((t.msgs[k].bs.size:Int) - 2).toNat t.msgs[k].bs.data.toList):Nat):Int)=((ix t.msgs[k].bs.data.toList ((t.msgs[k].bs.size:Int) - 2).toNat).toNat:Int) * 256+((ix t.msgs[k].bs.data.toList ((t.msgs[k].bs.size:Int) - 2+1).toNat).toNat:Int)):=by
   have e1:((t.msgs[k].bs.size:Int) - 2).toNat=t.msgs[k].bs.size - 2:=by omega
   have e2:((t.msgs[k].bs.size:Int) - 2+1).toNat=t.msgs[k].bs.size - 1:=by omega
   have e3:decide (t.msgs[k].bs.size<6)=false:=decide_eq_false (by omega);rw[e1,e2];unfold lA jV;rw[e3,Bool.false_or,<-decide_not];rfl
  clear g1 g2;refine cw (decide (((ckS (List.take ((t.msgs[k].bs.size:Int) - 2).toNat t.msgs[k].bs.data.toList):Nat):Int)=((ix t.msgs[k].bs.data.toList ((t.msgs[k].bs.size:Int) - 2).toNat).toNat:Int) * 256+((ix t.msgs[k].bs.data.toList ((t.msgs[k].bs.size:Int) - 2+1).toNat).toNat:Int))) (fun d5=>?_) (fun d5=>?_)
  ·rw[hcor,d5,if_pos (by decide)]at hE;simp[d5];exact(tt _ hE (by decide)).symm
  rw[hcor,d5,if_neg (by decide)]at hE;simp[d5];have b0:jV t.msgs[k].bs 0=((ix t.msgs[k].bs.data.toList 0).toNat:Int):=rfl;have b1:jV t.msgs[k].bs 1=((ix t.msgs[k].bs.data.toList 1).toNat:Int):=rfl;have b2:jV t.msgs[k].bs 2=((ix t.msgs[k].bs.data.toList 2).toNat:Int):=rfl;rw[b0,b1,b2]at hE;refine aO 26 ?_;refine cw (decide (((ix t.msgs[k].bs.data.toList 0).toNat:Int)=t.msgs[k].rd)) (fun d6=>?_) (fun d6=>?_)
  ·rw[if_pos (.inl (of_decide_eq_false d6))]at hE;simp[d6]
   repeat refine vg ?_
   exact(tt _ hE (by decide)).symm
  refine cw (decide (((ix t.msgs[k].bs.data.toList 1).toNat:Int)=t.msgs[k].fr)) (fun d7=>?_) (fun d7=>?_)
  ·rw[if_pos (.inr (.inl (of_decide_eq_false d7)))]at hE;simp[d6,d7]
   repeat refine vg ?_
   exact(tt _ hE (by decide)).symm
  refine cw (decide (((ix t.msgs[k].bs.data.toList 2).toNat:Int)=t.msgs[k].to)) (fun d8=>?_) (fun d8=>?_)
  ·rw[if_pos (.inr (.inr (of_decide_eq_false d8)))]at hE;simp[d6,d7,d8]
   repeat refine vg ?_
   exact(tt _ hE (by decide)).symm
  have c6:=of_decide_eq_true d6;have c7:=of_decide_eq_true d7;have c8:=of_decide_eq_true d8;rw[if_neg (by omega)]at hE;simp[d6,d7,d8]
  repeat refine vg ?_
  exact ar.of (k+1) [] (by simp) ⟨⟨h,aY hj hE⟩,by omega⟩
 ·have e:k=t.msgs.length:=by omega
  subst e;simp;rw[<-hr,hj]
theorem zX(t:Tr) (fT:∀ x∈t.msgs,x.bs.size<=140737488351232):FC Tryz.prog 75 [oM t] (iD (hZ t)):=by
 refine an Tryz.func75 rfl rfl rfl Tryz.call75 [] [] rfl 5 (fun hb w0 G0=>?_);simp at hb;generalize hr:hZ t=q;unfold hZ at hr;have hI:=tQ t.inp 205 (M8 0 7) (fun i=>!inB (t.inp.getD i 0) 0 7) (fun i h=>by rw[aj 0 h];exact l7 _ _ _);generalize (anyLt t.inp.length fun i=>!inB (t.inp.getD i 0) 0 7)=b1 at hI hr;simp;refine cw (decide ((t.inp.length:Int)<1)) (fun d0=>?_) (fun d0=>?_)
 rotate_left
 ·have:=of_decide_eq_true d0;rw[if_pos (.inl (by omega))]at hr;refine aO 12 ?_;simp[d0];rw[<-hr]
 refine cw (decide (5<(t.inp.length:Int))) (fun d1=>?_) (fun d1=>?_)
 rotate_left
 ·have:=of_decide_eq_true d1;rw[if_pos (.inr (by omega))]at hr;refine aO 12 ?_;simp[d0,d1];rw[<-hr]
 have h0:=of_decide_eq_false d0;have h1:=of_decide_eq_false d1;rw[if_neg (by omega)]at hr;refine aO 12 ?_;simp[d0,d1];refine bL (m8 0 7) ?_;simp;refine bL hI ?_;cases b1<;>simp at hr ⊢
 rotate_left
 ·rw[<-hr]
 refine ap (CN t.inp.length t.word) ?_;simp
 (refine Bz.split (fun h3=>?_) (fun h3=>?_)<;>(try simp only[decide_eq_true_eq,decide_eq_false_iff_not,Bool.not_eq_true',Bool.not_eq_false',beq_iff_eq,bne_iff_ne,beq_eq_false_iff_ne,bne_eq_false_iff_eq,Bool.not_not,Bool.and_eq_true,Bool.or_eq_true,Bool.and_eq_false_iff,Bool.or_eq_false_iff]at h3))<;>simp[h3]
 ·rw[if_neg (by simpa using h3)]at hr;rw[<-hr]
 rw[if_pos (by simpa using h3)]at hr
 (refine Bz.split (fun h4=>?_) (fun h4=>?_)<;>(try simp only[decide_eq_true_eq,decide_eq_false_iff_not,Bool.not_eq_true',Bool.not_eq_false',beq_iff_eq,bne_iff_ne,beq_eq_false_iff_ne,bne_eq_false_iff_eq,Bool.not_not,Bool.and_eq_true,Bool.or_eq_true,Bool.and_eq_false_iff,Bool.or_eq_false_iff]at h4))<;>simp[h4]
 ·rw[if_pos (by omega)]at hr;rw[<-hr]
 rw[if_neg (by omega)]at hr;have ou:=yK t;have o6:=vQ t (by omega) fT (by omega);have Q4:=t6 t;generalize statesE t=s1 at hr ou;generalize messagesE t=s2 at hr o6;generalize decisionsE t=s3 at hr Q4;refine am [1,34,35] [] (fun k:Nat=>[(36,.d (iD k))]) (fun _=>[]) (fun k=>3 - k) (fun k=>k<=3/\(0<k->s1=0)/\(1<k->s2=0)/\(2<k->s3=0)) 0 ⟨by omega,by omega,by omega,by omega⟩ (by simp) (fun k hk=>?_);obtain⟨hk,dw,bV,mv⟩:=hk;rcases (by omega:k=0\/k=1\/k=2\/k=3) with e|e|e|e<;>subst e
 ·simp;refine ap ou ?_;simp
  (refine Bz.split (fun h5=>?_) (fun h5=>?_)<;>(try simp only[decide_eq_true_eq,decide_eq_false_iff_not,Bool.not_eq_true',Bool.not_eq_false',beq_iff_eq,bne_iff_ne,beq_eq_false_iff_ne,bne_eq_false_iff_eq,Bool.not_not,Bool.and_eq_true,Bool.or_eq_true,Bool.and_eq_false_iff,Bool.or_eq_false_iff]at h5))
  ·rw[if_neg h5]at hr;simp;rw[<-hr]
  ·simp;exact ar.of 1 [] (by simp) (by omega)
 ·simp;refine ap o6 ?_;have:=dw (by omega);subst this;simp
  (refine Bz.split (fun h5=>?_) (fun h5=>?_)<;>(try simp only[decide_eq_true_eq,decide_eq_false_iff_not,Bool.not_eq_true',Bool.not_eq_false',beq_iff_eq,bne_iff_ne,beq_eq_false_iff_ne,bne_eq_false_iff_eq,Bool.not_not,Bool.and_eq_true,Bool.or_eq_true,Bool.and_eq_false_iff,Bool.or_eq_false_iff]at h5))
  ·rw[if_pos rfl,if_neg h5]at hr;simp;rw[<-hr]
  ·simp;exact ar.of 2 [] (by simp) (by omega)
 ·simp;refine ap Q4 ?_;have:=dw (by omega);subst this;have:=bV (by omega);subst this;simp
  (refine Bz.split (fun h5=>?_) (fun h5=>?_)<;>(try simp only[decide_eq_true_eq,decide_eq_false_iff_not,Bool.not_eq_true',Bool.not_eq_false',beq_iff_eq,bne_iff_ne,beq_eq_false_iff_ne,bne_eq_false_iff_eq,Bool.not_not,Bool.and_eq_true,Bool.or_eq_true,Bool.and_eq_false_iff,Bool.or_eq_false_iff]at h5))
  ·rw[if_pos rfl,if_pos rfl]at hr;simp;rw[<-hr]
  ·simp;exact ar.of 3 [] (by simp) (by omega)
 ·simp;rw[<-hr,if_pos (dw (by omega)),if_pos (bV (by omega)),mv (by omega)]
@[simp] theorem ix_msg (l:List Msg) (i:Nat):ix l i=l.getD i default:=rfl
theorem CS(a b:List Rd):FC Tryz.prog 38 [bK a,bK b] (bD (decide (a=b))):=by
 refine an Tryz.func38 rfl rfl rfl Tryz.call38 [] [] rfl 4 (fun hb w0 G0=>?_);simp at hb;simp
 (refine Bz.split (fun h0=>?_) (fun h0=>?_)<;>(try simp only[decide_eq_true_eq,decide_eq_false_iff_not,Bool.not_eq_true',Bool.not_eq_false',beq_iff_eq,bne_iff_ne,beq_eq_false_iff_ne,bne_eq_false_iff_eq,Bool.not_not,Bool.and_eq_true,Bool.or_eq_true,Bool.and_eq_false_iff,Bool.or_eq_false_iff]at h0))<;>simp[h0]
 ·rintro rfl;simp at h0
 have h0:a.length=b.length:=by omega
 refine am [0,1,12] [] (fun k:Nat=>[(13,.d (iD k))]) (fun _=>[]) (fun k=>a.length - k) (fun k=>k<=a.length/\a.take k=b.take k) 0 (by simp) (by simp[h0]) (fun k hk=>?_);obtain⟨hk,hj⟩:=hk;simp
 (refine Bz.split (fun h=>?_) (fun h=>?_)<;>(try simp only[decide_eq_true_eq,decide_eq_false_iff_not,Bool.not_eq_true',Bool.not_eq_false',beq_iff_eq,bne_iff_ne,beq_eq_false_iff_ne,bne_eq_false_iff_eq,Bool.not_not,Bool.and_eq_true,Bool.or_eq_true,Bool.and_eq_false_iff,Bool.or_eq_false_iff]at h))<;>simp[h]
 ·have h1:k<b.length:=by omega
  refine aO 8 ?_;have ha:k<a.length:=by omega
  simp[h1,ha];refine sE _ _ (decide (a[k]=b[k])) rfl rfl (fun w=>eZ 9996 a[k] b[k] w) ?_;simp
  (refine Bz.split (fun h2=>?_) (fun h2=>?_)<;>(try simp only[decide_eq_true_eq,decide_eq_false_iff_not,Bool.not_eq_true',Bool.not_eq_false',beq_iff_eq,bne_iff_ne,beq_eq_false_iff_ne,bne_eq_false_iff_eq,Bool.not_not,Bool.and_eq_true,Bool.or_eq_true,Bool.and_eq_false_iff,Bool.or_eq_false_iff]at h2))<;>simp[h2]
  ·rintro rfl;exact h2 rfl
  ·refine vg (ar.of (k+1) [] (by simp) ⟨⟨ha,?_⟩,by omega⟩);rw[List.take_succ_eq_append_getElem ha,List.take_succ_eq_append_getElem h1,hj,h2]
 ·have e:k=a.length:=by omega
  subst e;rw[List.take_length,h0,List.take_length]at hj;simp[hj]
theorem Kp(a b:List Msg):FC Tryz.prog 160 [CR a,CR b] (bD (decide (a=b))):=by
 refine an Tryz.func160 rfl rfl rfl Tryz.call160 [] [] rfl 4 (fun hb w0 G0=>?_);simp at hb;simp
 (refine Bz.split (fun h0=>?_) (fun h0=>?_)<;>(try simp only[decide_eq_true_eq,decide_eq_false_iff_not,Bool.not_eq_true',Bool.not_eq_false',beq_iff_eq,bne_iff_ne,beq_eq_false_iff_ne,bne_eq_false_iff_eq,Bool.not_not,Bool.and_eq_true,Bool.or_eq_true,Bool.and_eq_false_iff,Bool.or_eq_false_iff]at h0))<;>simp[h0]
 ·rintro rfl;simp at h0
 have h0:a.length=b.length:=by omega
 refine am [0,1,12] [] (fun k:Nat=>[(13,.d (iD k))]) (fun _=>[]) (fun k=>a.length - k) (fun k=>k<=a.length/\a.take k=b.take k) 0 (by simp) (by simp[h0]) (fun k hk=>?_);obtain⟨hk,hj⟩:=hk;simp
 (refine Bz.split (fun h=>?_) (fun h=>?_)<;>(try simp only[decide_eq_true_eq,decide_eq_false_iff_not,Bool.not_eq_true',Bool.not_eq_false',beq_iff_eq,bne_iff_ne,beq_eq_false_iff_ne,bne_eq_false_iff_eq,Bool.not_not,Bool.and_eq_true,Bool.or_eq_true,Bool.and_eq_false_iff,Bool.or_eq_false_iff]at h))<;>simp[h]
 ·have h1:k<b.length:=by omega
  refine aO 8 ?_;have ha:k<a.length:=by omega
  simp[h1,ha];refine sE a[k].c b[k].c (decide (a[k]=b[k])) rfl rfl (fun w=>L4 9998 a[k] b[k] w) ?_;simp
  (refine Bz.split (fun h2=>?_) (fun h2=>?_)<;>(try simp only[decide_eq_true_eq,decide_eq_false_iff_not,Bool.not_eq_true',Bool.not_eq_false',beq_iff_eq,bne_iff_ne,beq_eq_false_iff_ne,bne_eq_false_iff_eq,Bool.not_not,Bool.and_eq_true,Bool.or_eq_true,Bool.and_eq_false_iff,Bool.or_eq_false_iff]at h2))<;>simp[h2]
  ·rintro rfl;exact h2 rfl
  ·refine vg (ar.of (k+1) [] (by simp) ⟨⟨ha,?_⟩,by omega⟩);rw[List.take_succ_eq_append_getElem ha,List.take_succ_eq_append_getElem h1,hj,h2]
 ·have e:k=a.length:=by omega
  subst e;rw[List.take_length,h0,List.take_length]at hj;simp[hj]
theorem M9(a b:List Int):FC Tryz.prog 159 [aT a,aT b] (bD (eqV a b)):=by
 refine an Tryz.func159 rfl rfl rfl Tryz.call159 [] [] rfl 1 (fun hb w0 G0=>?_);simp;refine ap (fO a b) ?_;simp
theorem M'(a b:List (List Int)) (g:FuncId) (c:List D) (hp:∀ x y,FC Tryz.prog g (aT x :: aT y :: c) (bD (eqV x y))):FC Tryz.prog 158 [ez a,ez b,.fn (.func g) [] c] (bD (decide (a=b))):=by
 refine an Tryz.func158 rfl rfl rfl Tryz.call158 [] [] rfl 4 (fun hb w0 G0=>?_);simp at hb;simp
 (refine Bz.split (fun h0=>?_) (fun h0=>?_)<;>(try simp only[decide_eq_true_eq,decide_eq_false_iff_not,Bool.not_eq_true',Bool.not_eq_false',beq_iff_eq,bne_iff_ne,beq_eq_false_iff_ne,bne_eq_false_iff_eq,Bool.not_not,Bool.and_eq_true,Bool.or_eq_true,Bool.and_eq_false_iff,Bool.or_eq_false_iff]at h0))<;>simp[h0]
 ·rintro rfl;simp at h0
 have h0:a.length=b.length:=by omega
 refine am [0,1,2,15,16] [] (fun k:Nat=>[(17,.d (iD k))]) (fun _=>[]) (fun k=>a.length - k) (fun k=>k<=a.length/\a.take k=b.take k) 0 (by simp) (by simp[h0]) (fun k hk=>?_);obtain⟨hk,hj⟩:=hk;simp
 (refine Bz.split (fun h=>?_) (fun h=>?_)<;>(try simp only[decide_eq_true_eq,decide_eq_false_iff_not,Bool.not_eq_true',Bool.not_eq_false',beq_iff_eq,bne_iff_ne,beq_eq_false_iff_ne,bne_eq_false_iff_eq,Bool.not_not,Bool.and_eq_true,Bool.or_eq_true,Bool.and_eq_false_iff,Bool.or_eq_false_iff]at h))<;>simp[h]
 ·have h1:k<b.length:=by omega
  have ha:k<a.length:=by omega
  simp[h1,ha];refine ap (hp a[k] b[k]) ?_;simp[eqV]
  (refine Bz.split (fun h2=>?_) (fun h2=>?_)<;>(try simp only[decide_eq_true_eq,decide_eq_false_iff_not,Bool.not_eq_true',Bool.not_eq_false',beq_iff_eq,bne_iff_ne,beq_eq_false_iff_ne,bne_eq_false_iff_eq,Bool.not_not,Bool.and_eq_true,Bool.or_eq_true,Bool.and_eq_false_iff,Bool.or_eq_false_iff]at h2))<;>simp
  ·rintro rfl;exact h2 rfl
  ·refine vg (ar.of (k+1) [] (by simp) ⟨⟨ha,?_⟩,by omega⟩);rw[List.take_succ_eq_append_getElem ha,List.take_succ_eq_append_getElem h1,hj,h2]
 ·have e:k=a.length:=by omega
  subst e;rw[List.take_length,h0,List.take_length]at hj;simp[hj]
theorem Qm{P:Program} {f g:FuncId} {x y r:D} (h:FC P f [x,y,.fn (.func g) [] []] r):FC P f [x,y,.v (.func (.func g) #[] #[])] r:=
 ⟨h.1,fun G us w hG hs hu=>h.2 G us w hG hs fun i z hz=>by
  match i,hz with
  | 0,hz=>exact hu 0 z hz
  | 1,hz=>exact hu 1 z hz
  | 2,hz=>
   cases hz
   have:=(hu 2 _ rfl).val;rw[this]
   exact .fn _ _ _ _ _ rfl rfl (fun i x e=>by simp at e) (fun i x e=>by simp at e)⟩
theorem PG(a b:Tr):FC Tryz.prog 90 [oM a,oM b] (bD (sameT a b)):=by
 refine an Tryz.func90 rfl rfl rfl Tryz.call90 [] [] rfl 1 (fun hb w0 G0=>?_);unfold sameT;have h1:=fO a.inp b.inp;have h2:=CS a.word b.word;have h3:=M' a.states b.states 159 [] (fun x y=>M9 x y);have h4:=Kp a.msgs b.msgs;have h5:=fO a.dec b.dec;have h6:=fO a.times b.times;generalize eqV a.inp b.inp=c1 at h1 ⊢;generalize decide (a.word=b.word)=c2 at h2 ⊢;generalize decide (a.states=b.states)=c3 at h3 ⊢;generalize decide (a.msgs=b.msgs)=c4 at h4 ⊢;generalize eqV a.dec b.dec=c5 at h5 ⊢;generalize eqV a.times b.times=c6 at h6 ⊢;simp;refine ap h1 ?_;cases c1<;>simp
 refine ap h2 ?_;cases c2<;>simp
 refine ap (Qm h3) ?_;cases c3<;>simp
 refine ap h4 ?_;cases c4<;>simp
 refine ap h5 ?_;cases c5<;>simp
 refine ap h6 ?_;cases c6<;>simp
theorem Kq(m:Mac) (t:Tr) (fT:∀ x∈t.msgs,x.bs.size<=140737488351232):FC Tryz.prog 32 [eT m,oM t] (iD (tE m t)):=by
 refine an Tryz.func32 rfl rfl rfl Tryz.call32 [] [] rfl 5 (fun hb w0 G0=>?_);generalize hr:tE m t=q;unfold tE at hr;simp;refine ap (mm m) ?_;simp
 (refine Bz.split (fun h0=>?_) (fun h0=>?_)<;>(try simp only[decide_eq_true_eq,decide_eq_false_iff_not,Bool.not_eq_true',Bool.not_eq_false',beq_iff_eq,bne_iff_ne,beq_eq_false_iff_ne,bne_eq_false_iff_eq,Bool.not_not,Bool.and_eq_true,Bool.or_eq_true,Bool.and_eq_false_iff,Bool.or_eq_false_iff]at h0))<;>simp[h0]
 ·rw[if_pos h0]at hr;rw[<-hr]
 rw[if_neg (by omega)]at hr;refine ap (zX t fT) ?_;simp
 (refine Bz.split (fun h1=>?_) (fun h1=>?_)<;>(try simp only[decide_eq_true_eq,decide_eq_false_iff_not,Bool.not_eq_true',Bool.not_eq_false',beq_iff_eq,bne_iff_ne,beq_eq_false_iff_ne,bne_eq_false_iff_eq,Bool.not_not,Bool.and_eq_true,Bool.or_eq_true,Bool.and_eq_false_iff,Bool.or_eq_false_iff]at h1))<;>simp[h1]
 ·rw[if_pos h1]at hr;rw[<-hr]
 rw[if_neg (by omega)]at hr;refine ap (sJ m t.inp t.word) ?_;simp
 (refine Bz.split (fun h2=>?_) (fun h2=>?_)<;>(try simp only[decide_eq_true_eq,decide_eq_false_iff_not,Bool.not_eq_true',Bool.not_eq_false',beq_iff_eq,bne_iff_ne,beq_eq_false_iff_ne,bne_eq_false_iff_eq,Bool.not_not,Bool.and_eq_true,Bool.or_eq_true,Bool.and_eq_false_iff,Bool.or_eq_false_iff]at h2))<;>simp[h2]
 ·rw[if_pos h2]at hr;rw[<-hr]
 rw[if_neg (by omega)]at hr;have hS:pm m t.inp t.word=madeT m t.inp t.word:=by unfold pm;rw[if_pos (by omega)]
 rw[hS];have hs:=PG (madeT m t.inp t.word) t;generalize sameT (madeT m t.inp t.word) t=c at hr hs;refine ap hs ?_;cases c<;>simp at hr ⊢<;>rw[<-hr]
end Go.Proofs.YtiocdkdkndpgkaaGreat
namespace Go.Proofs.YtiocdkdkndpgkaaGreat
def qY(p:Pb) (x:Py) (k j:Nat):List Py:=(((aU p.a).take j).filter fun r=>iH r (x.word.getD k default)&&permB p (x.word.set k r)).map fun r=>⟨x.inp,x.word.set k r⟩
def mF(p:Pb) (x:Py) (k:Nat):List Py:=(List.range k).flatMap (lT p x)
def qZ(p:Pb) (x:Py) (q v:Nat):List Py:=((List.range v).filter fun v=>decide (0<=findE p.t (x.inp.set q (v:Nat)))).map fun v=>⟨x.inp.set q (v:Nat),x.word⟩
def mG(p:Pb) (x:Py) (q:Nat):List Py:=mF p x x.word.length++(List.range q).flatMap (jX p x)
theorem Kr(p:Pb) (x:Py) (k j:Nat) (hj:j<(aU p.a).length):qY p x k (j+1)=qY p x k j++(if iH (aU p.a)[j] (x.word.getD k default)&&permB p (x.word.set k (aU p.a)[j]) then [⟨x.inp,x.word.set k (aU p.a)[j]⟩] else []):=by
 unfold qY;rw[List.take_succ_eq_append_getElem hj,List.filter_append,List.map_append];congr 1;by_cases h:(iH (aU p.a)[j] (x.word.getD k default)&&permB p (x.word.set k (aU p.a)[j]))=true
 ·rw[List.filter_cons,if_pos h,if_pos h];rfl
 ·rw[List.filter_cons,if_neg h,if_neg h];rfl
theorem CT(p:Pb) (x:Py) (k:Nat):qY p x k (aU p.a).length=lT p x k:=by
 unfold qY lT;rw[List.take_length]
theorem Ks(p:Pb) (x:Py) (k:Nat):mF p x (k+1)=mF p x k++lT p x k:=by
 unfold mF;rw[List.range_succ,List.flatMap_append];simp
theorem Kt(p:Pb) (x:Py) (q v:Nat):qZ p x q (v+1)=qZ p x q v++(if decide (0<=findE p.t (x.inp.set q (v:Nat))) then [⟨x.inp.set q (v:Nat),x.word⟩] else []):=by
 unfold qZ;rw[List.range_succ,List.filter_append,List.map_append];congr 1;by_cases h:decide (0<=findE p.t (x.inp.set q (v:Nat)))=true
 ·rw[List.filter_cons,if_pos h,if_pos h];rfl
 ·rw[List.filter_cons,if_neg h,if_neg h];rfl
theorem Ku(p:Pb) (x:Py) (q:Nat):mG p x (q+1)=mG p x q++qZ p x q (x.inp.getD q 0).toNat:=by
 unfold mG;rw[List.range_succ,List.flatMap_append,<-List.append_assoc];simp[qZ,jX]
theorem Na(p:Pb) (x:Py):mG p x x.inp.length=nearS p x:=rfl
def nU(p:Pb) (x:Py) (k j:Nat):List Py:=mF p x k++qY p x k j
theorem Kv(p:Pb) (x:Py) (k:Nat):nU p x k 0=mF p x k:=by simp[nU,qY]
theorem Kw(p:Pb) (x:Py) (k j:Nat) (hj:j<(aU p.a).length):nU p x k (j+1)=nU p x k j++(if iH (aU p.a)[j] (x.word.getD k default)&&permB p (x.word.set k (aU p.a)[j]) then [⟨x.inp,x.word.set k (aU p.a)[j]⟩] else []):=by
 unfold nU;rw[Kr p x k j hj,List.append_assoc]
theorem Nb(p:Pb) (x:Py) (k:Nat):nU p x k (aU p.a).length=mF p x (k+1):=by
 unfold nU;rw[CT,Ks]
def nV(p:Pb) (x:Py) (q v:Nat):List Py:=mG p x q++qZ p x q v
theorem sK(p:Pb) (x:Py) (q:Nat):nV p x q 0=mG p x q:=by simp[nV,qZ]
theorem Kx(p:Pb) (x:Py) (q v:Nat):nV p x q (v+1)=nV p x q v++(if decide (0<=findE p.t (x.inp.set q (v:Nat))) then [⟨x.inp.set q (v:Nat),x.word⟩] else []):=by
 unfold nV;rw[Kt,List.append_assoc]
theorem Nc(p:Pb) (x:Py) (q:Nat):nV p x q (x.inp.getD q 0).toNat=mG p x (q+1):=by
 unfold nV;rw[Ku]
theorem Kz(p:Pb) (x:Py):mG p x 0=mF p x x.word.length:=by simp[mG]
theorem uH{a:Adv} (hN:az a.states<=4096):(aU a).length<=4096:=by
 have h1:=vP ((bT a.states a.states.length).mergeSort fun x y=>!(Go.Proofs.ltOf roundC) y x) ((bT a.states a.states.length).mergeSort fun x y=>!(Go.Proofs.ltOf roundC) y x).length;rw[xw,List.length_mergeSort]at h1;have:=yJ a.states a.states.length;omega
theorem yL{α β:Type} (f:α->List β) (B:Nat):∀ l:List α,(∀ a∈l,(f a).length<=B)->(l.flatMap f).length<=l.length * B
 | [],_=>by simp
 | a :: l,h=>by
  have h1:=h a (by simp);have h2:=yL f B l (fun b hb=>h b (by simp[hb]));rw[List.flatMap_cons,List.length_append,List.length_cons,Nat.add_mul];omega
theorem CU(p:Pb) (x:Py) (k j:Nat):(qY p x k j).length<=j:=by
 unfold qY;rw[List.length_map];exact Nat.le_trans (List.length_filter_le _ _) (by simp;omega)
theorem KA(p:Pb) (x:Py) (k:Nat):(lT p x k).length<=(aU p.a).length:=by rw[<-CT];exact CU _ _ _ _
theorem CV{p:Pb} (x:Py) (k:Nat) (hN:az p.a.states<=4096):(mF p x k).length<=k * 4096:=by
 have:=yL (lT p x) 4096 (List.range k) (fun a _=>Nat.le_trans (KA _ _ _) (uH hN));rw[List.length_range]at this;exact this
theorem CW(p:Pb) (x:Py) (q v:Nat):(qZ p x q v).length<=v:=by
 unfold qZ;rw[List.length_map];exact Nat.le_trans (List.length_filter_le _ _) (by simp)
theorem Nd{p:Pb} (x:Py) (k j:Nat) (hN:az p.a.states<=4096):(nU p x k j).length<=k * 4096+j:=by
 have h1:=CV x k hN;have h2:=CU p x k j;unfold nU;rw[List.length_append];omega
theorem vR{p:Pb} (x:Py) (q v:Nat) (hN:az p.a.states<=4096) (hi:∀ q,(x.inp.getD q 0).toNat<=8):(nV p x q v).length<=x.word.length * 4096+q * 8+v:=by
 have h1:=CV x x.word.length hN;have h2:=CW p x q v
 have h3:=yL (jX p x) 8 (List.range q) (fun a _=>by
  have:=CW p x a (x.inp.getD a 0).toNat
  exact Nat.le_trans this (hi a))
 unfold nV mG;rw[List.length_append,List.length_append];rw[List.length_range]at h3;omega
end Go.Proofs.YtiocdkdkndpgkaaGreat
namespace Go.Proofs.YtiocdkdkndpgkaaGreat
open Go.RowKit Go Go.Shelf
attribute [local go_sem] Oper.semAt_some
theorem CX(p:Pb) (pc:Option Addr) (nc cc:Nat) (ps:Option Addr) (ns cs:Nat) (i:Int) (pu:Option Addr) (nu cu:Nat) (pd:Option Addr) (nd cd:Nat) (f:Int) (w:World) :
  Calls Tryz.prog 214 #[.agg (mf p (.slice pc nc cc) (.slice ps ns cs) i (.slice pu nu cu) (.slice pd nd cd) f)] w fun e w'=>e=.returned (.func (.func 259) #[] #[.pointer (some ⟨w.heap.size,0,none⟩)])/\w'=w.alloc (.cells (mf p (.slice pc nc cc) (.slice ps ns cs) i (.slice pu nu cu) (.slice pd nd cd) f) 157):=by
 go_enter Tryz.func214,Tryz.ntmps214
 go_wp2
 go_ret
 exact⟨rfl,rfl⟩
theorem Nf(p:Pb) (vc vs:Value) (ix:Int) (u:Value) (f:Int) (xv vd:Value) (v dec:List Int) (pr:Nat) (Bp Bx:Nat) (w:World) (hv:mV w xv (v.map (Value.int .i64))) (hp:w.heap[Bp]?=some (.cells #[.int .i64 pr] 3)) (hx:w.heap[Bx]?=some (.cells (mf p vc vs ix u vd f) 157)) (hd:cW w vd dec) (h1:pr<v.length) (h2:pr<dec.length) :
  Calls Tryz.prog 263 #[xv,.pointer (some ⟨Bp,0,none⟩),.pointer (some ⟨Bx,0,none⟩)] w fun e w'=>e=.returned (.bool (v.getD pr 0 != dec.getD pr 0))/\Below w.heap.size w w':=by
 obtain⟨pa,ca,rfl,la1,ea,la3⟩:=hv;rw[List.length_map]at la1 ⊢;obtain⟨pd,cd,rfl,ld1,ld2,ed⟩:=hd.at;obtain⟨b1,o1,rfl,c1⟩:=ea pr (.int .i64 v[pr]) (by simp[h1]);obtain⟨b2,o2,rfl,c2,_⟩:=ed pr h2;rw[Nat.mul_one]at c2;have H1:bc (v.getD pr 0=v[pr]):=aj 0 h1;have H2:bc (dec.getD pr 0=dec[pr]):=aj 0 h2;generalize v[pr]=x at c1 H1;generalize dec[pr]=y at c2 H2;have t1:=ae hp 0;have t2:=ae hx 9;simp at t1 t2;have d1:∀ n,(w.drewN n).cell? ⟨b1,o1+pr,none⟩=some (.int .i64 x):=fun n=>c1
 have d2:∀ n,(w.drewN n).cell? ⟨b2,o2+pr,none⟩=some (.int .i64 y):=fun n=>c2
 have d3:∀ n,(w.drewN n).cell? ⟨Bp,0,none⟩=some (.int .i64 pr):=fun n=>t1
 have d4:∀ n,(w.drewN n).cell? ⟨Bx,9,none⟩=some (.slice (some ⟨b2,o2,none⟩) dec.length cd):=fun n=>t2
 clear ea ed hd hp hx la1 la3 c1 c2 t1 t2
 go_enter Tryz.func263,Tryz.ntmps263
 go_wp2_with fail
 go_quiet (fail)
 go_wp2_with fail
 go_ret
 exact⟨fW (by rw[H1.o,H2.o]),lP (Below.refl _ _) _⟩
structure Rest (base:Nat) (w w':World):Prop where
 os:w'.os=w.os
 tape:w'.tape=w.tape
 output:w'.output=w.output
 size:w.heap.size<=w'.heap.size
 keep:∀ (k:Nat) (o:Obj),w.heap[k]?=some o->(k<base\/∀ c f,o≠.cells c 38 f)->w'.heap[k]?=some o
theorem Rest.below{base:Nat} {w w':World} (h:Rest base w w') (hs:base<=w.heap.size):Below base w w':=
 ⟨h.os,h.tape,h.output,h.size,fun k hk=>by
  have h1:w.heap[k]?=some w.heap[k]:=Array.getElem?_eq_getElem (by omega)
  rw[h.keep k _ h1 (.inl hk),h1]⟩
theorem Rest.cells{base:Nat} {w w':World} (h:Rest base w w') {k:Nat} {c:Array Value} {t:TypeId} {f:Nat × Nat} (hk:w.heap[k]?=some (.cells c t f)) (ht:t≠38):w'.heap[k]?=some (.cells c t f):=
 h.keep k _ hk (.inr fun c' f' e=>ht (by cases e;rfl))
theorem Rest.row{base:Nat} {w w':World} (h:Rest base w w') {v:Value} {n:Nat} {xs:List Value} (hv:w.ownsRow base 3 1 v n xs):w'.ownsRow base 3 1 v n xs:=by
 obtain⟨hl,hv⟩:=hv;refine⟨hl,?_⟩;rcases hv with hv|⟨g,cap,cur,h1,h2,h3,h4⟩
 ·exact .inl hv
 ·exact .inr ⟨g,cap,cur,h1,h2,h.cells h3 (by decide),h4⟩
theorem rx{base:Nat} {w w':World} {v:Value} {n:Nat} {xs:List Value} (hv:w.ownsRow base 38 1 v n xs) (hg:w.grownBy w' v.ownBlock):Rest base w w':=
 ⟨hg.os,hg.tape,hg.output,hg.size,fun k o hk ho=>by
  refine(hg.block k (aw hk) (fun e=>?_)).trans hk;rcases hv.2 with ⟨rfl,_⟩|⟨g,cap,cur,rfl,h2,h3,_⟩
  ·cases e
  ·cases e
   rw[hk]at h3;cases h3;rcases ho with ho|ho
   ·dsimp only at ho;omega
   ·exact ho _ _ rfl⟩
theorem uI{w:World} {base:Nat} {e:TypeId} {v:Value} {n:Nat} {xs:List Value} (h:w.ownsRow base e 1 v n xs) (h1:∀ x∈xs,x.oneCell'=true):mV w v xs:=by
 obtain⟨a,cap,rfl,h2,h3,h4,rfl,h5⟩:=gE h;exact⟨a,cap,rfl,fun e=>⟨by have:=h4 e;omega,h4 e⟩,fun i x hx=>by obtain⟨b,hb,hc⟩:=h5 i x hx;exact⟨b,0,hb,by simpa using hc⟩,h1⟩
theorem yM(g:Nat) (lb:Array Value) (eg:∀ args w,(callFunc g args).run Tryz.prog w=.ok (.enter g args) w) (base:Nat) (v:Value) (ls:List (List Int)) (q:List Int->Bool) (w:World)
  (hf:dD w base v ls) (hn:ls.length<=17592186044416)
  (br:∀ xv l W,l∈ls->Rest base w W->mV W xv (l.map (Value.int .i64))->Calls Tryz.prog g (#[xv]++lb) W fun e W'=>e=.returned (.bool (q l))/\Below W.heap.size W W') :
  Calls Tryz.prog 262 #[v,.func (.func g) #[] lb] w fun e w'=>∃ a c,e=.returned (.slice a (ls.filter fun l=>!q l).length c)/\dD w' base (.slice a (ls.filter fun l=>!q l).length c) (ls.filter fun l=>!q l)/\Rest base w w':=by
 obtain⟨xs,h1,h2⟩:=hf;have hl:xs.length=ls.length:=by have:=h1.1;omega
 rw[<-hl]at h1
 have uP:∀ x∈xs,∃ a n c,x=.slice a n c:=fun x hx=>by
  obtain⟨i,hi,rfl⟩:=List.getElem_of_mem hx;obtain⟨a,c,e,_⟩:=gE (h2 i (by omega) hi);exact⟨a,_,c,e⟩
 refine(yH g lb eg base v xs (fun i=>q (ls.getD i [])) w h1 (by omega) uP ?_).mono ?_
 ·intro i hi W hW;have hr:=rx h1 hW;rw[show ls.getD i []=ls[i] by simp[show i<ls.length by omega]];exact br _ _ _ (List.getElem_mem _) hr (uI (hr.row (h2 i (by omega) hi)) (fun x hx=>by obtain⟨y,_,rfl⟩:=List.mem_map.1 hx;rfl))
 ·rintro e w' ⟨u,rfl,_,ho,hg⟩;have hr:=rx h1 hg;have ef:(ls.filter fun l=>!q l)=(keptIx (fun i=>q (ls.getD i [])) xs.length).map fun i=>ls.getD i []:=by rw[<-Bg q ls [],hl];rfl
  have e0:jW (fun i=>q (ls.getD i [])) xs undef=(keptIx (fun i=>q (ls.getD i [])) xs.length).map fun i=>xs.getD i undef:=rfl
  have hK:∀ j∈keptIx (fun i=>q (ls.getD i [])) xs.length,j<xs.length:=fun j hj=>(J0 hj).1
  rw[e0]at ho;rw[ef];generalize keptIx (fun i=>q (ls.getD i [])) xs.length=K at ho hK;rw[List.length_map]at ho ⊢;obtain⟨a,c,rfl,_⟩:=gE ho;refine⟨a,c,rfl,⟨_,by rw[List.length_map];exact ho,fun i hi hx=>?_⟩,hr⟩;rw[List.length_map]at hi;have hj:=hK K[i] (List.getElem_mem hi);rw[List.getElem_map,List.getElem_map,aj undef hj,aj [] (by omega)];exact hr.row (h2 _ (by omega) hj)
theorem zY{w w':World} {base:Nat} {e:TypeId} {v:Value} {n:Nat} {xs:List Value} (h:w.ownsRow base e 1 v n xs) (hc:∀ k c f,base<=k->w.heap[k]?=some (.cells c e f)->w'.heap[k]?=some (.cells c e f)):w'.ownsRow base e 1 v n xs:=by
 obtain⟨hl,h⟩:=h;refine⟨hl,?_⟩;rcases h with h|⟨g,cap,cur,h1,h2,h3,h4⟩
 ·exact .inl h
 ·exact .inr ⟨g,cap,cur,h1,h2,hc _ _ _ h2 h3,h4⟩
theorem m9{w w':World} {base:Nat} {v:Value} {l:List (List Int)} (h:dD w base v l) (hc:∀ k c t f,base<=k->t=38\/t=3->w.heap[k]?=some (.cells c t f)->w'.heap[k]?=some (.cells c t f)):dD w' base v l:=by
 obtain⟨xs,h1,h2⟩:=h;exact⟨xs,zY h1 fun k c f hk=>hc k c _ f hk (.inl rfl),fun i hi hx=>zY (h2 i hi hx) fun k c f hk=>hc k c _ f hk (.inr rfl)⟩
theorem pn{w:World} {base:Nat} {v:Value} {l:List (List Int)} (h:dD w base v l):∃ a c,v=.slice a l.length c:=by
 obtain⟨xs,h1,_⟩:=h;obtain⟨a,c,e,_⟩:=gE h1;exact⟨a,c,e⟩
theorem KB{w:World} {base:Nat} {v:Value} {l:List (List Int)} (h:dD w base v l):∃ xs,xs.length=l.length/\mV w v xs/\∀ i (hi:i<l.length) (hx:i<xs.length),w.ownsRow base 3 1 xs[i] l[i].length (l[i].map (Value.int .i64)):=by
 obtain⟨xs,h1,h2⟩:=h;have hl:xs.length=l.length:=by have:=h1.1;omega
 refine⟨xs,hl,uI h1 (fun x hx=>?_),h2⟩;obtain⟨i,hi,rfl⟩:=List.getElem_of_mem hx;obtain⟨a,c,e,_⟩:=gE (h2 i (by omega) hi);rw[e];rfl
structure FI (Wm:World) (n0 l B3 Bx By:Nat) (sc:Array Value) (J:Nat->World->Prop) (ls:Nat->List (List Int)) (i:Nat) (W:World):Prop where
 size:n0<=W.heap.size
 j:J i W
 old:CK Wm W
 sx:W.heap[Bx]?=some (.cells sc 157)
 sy:W.heap[By]?=some (.cells sc 157)
 yb:W.heap[n0]?=some (.cells #[.func (.yield l) #[] #[]] 346)
 row:∃ v,W.heap[B3]?=some (.cells #[v] 30)/\dD W n0 v (ls i)
theorem FI.sta{Wm:World} {n0 l B3 Bx By:Nat} {sc:Array Value} {J:Nat->World->Prop} {ls:Nat->List (List Int)} {i B:Nat} (hJ:∀ i A A',J i A->Below n0 A A'->J i A') (hB:n0<=B):cF B (FI Wm n0 l B3 Bx By sc J ls i):=fun A A' hc h=>by
 obtain⟨v,hv,hf⟩:=h.row;exact⟨Nat.le_trans h.size hc.size,hJ _ _ _ h.j (hc.belowN hB h.size),fun k o hk ho=>hc.ck k o (h.old k o hk ho) ho,hc.ck _ _ h.sx rfl,hc.ck _ _ h.sy rfl,hc.ck _ _ h.yb rfl,v,hc.ck _ _ hv rfl,m9 hf fun k c t f _ _ hk=>hc.ck k _ hk rfl⟩
def Sd(n:Nat) (f:Int) (dec:List Int) (L:List (List Int)) (i:Nat) (args:Array Value):Prop:=∃ a c,args=#[.int .i64 ((aW n f).getD i 0),.slice a (fS n f dec L (i+1)).length c]
theorem AJ(p:Pb) (pc:Option Addr) (nc cc:Nat) (ps:Option Addr) (ns cs:Nat) (ix:Int) (pu:Option Addr) (nu cu:Nat) (pd:Option Addr) (cd:Nat) (dec:List Int) (f:Int) (n:Nat) (hn:p.t.n=n) (hn5:n<=5) (ve:dec.length=n) (Wm w:World) (Bx:Nat)
  (hm:Below Wm.heap.size Wm w) (hc:it Wm (.slice pc nc cc) p.t.cases) (hd:cW Wm (.slice pd dec.length cd) dec)
  (hx:w.heap[Bx]?=some (.cells (mf p (.slice pc nc cc) (.slice ps ns cs) ix (.slice pu nu cu) (.slice pd dec.length cd) f) 157))
  (hL:(aP p.t ix f).length<=1024/\∀ v∈aP p.t ix f,v.length=n) :
  Ir Tryz.prog 259 #[.pointer (some ⟨Bx,0,none⟩)] (Sd n f dec (aP p.t ix f)) (aW n f).length (fun k=>k<Wm.heap.size\/k=Bx) w:=by
 intro yl J Jx W hW Dt hJ Ao hY h0;have ip:=aq hW hx;have Lv:=ak hm hW;clear hx hW hm;have HN:=ab hn;clear hn;have HJ:=ab hJ;clear hJ;have Ol:=ab Ao;clear Ao;have HY:=ab hY;clear hY;have HDL:=ab ve;clear ve;have HL:=ab hL;clear hL;have HC:=ab hc;clear hc;have Fq0:=ab ip;have hbx:=aw ip;have t1:=ae ip;clear ip;refine cX Tryz.func259 rfl ?_;simp only[Tryz.ntmps259,List.size_toArray,List.length_cons,List.length_nil,Nat.reduceAdd,Nat.reduceSub,Array.replicate_succ,Array.replicate_zero,List.push_toArray,List.append_toArray,List.nil_append,List.cons_append]
 go_wp2_with fail
 refine dB (fun W0=>Below W.heap.size W W0/\W0.heap[W.heap.size]?=some (.cells #[.func (.yield yl) #[] #[]] 346)) ⟨by go_grown,aA _ _⟩ (fun W0 dF=>?_);obtain⟨bw,hY0⟩:=dF;refine(Ep p.t _ ix f W0 (HC.o.up up_case (ak Lv bw))).mono ?_;rintro e w1 ⟨u,rfl,hu,aK⟩;have hY1:=aq aK hY0;have fo:=ak bw aK;have dE:=bw.size;have dc:=fo.size
 have Fu:dD w1 W.heap.size u (aP p.t ix f):=by
  obtain⟨xs,q1,q2⟩:=hu;exact⟨xs,ku q1 dE,fun i hi hx=>ku (q2 i hi hx) dE⟩
 have HU:=ab Fu;obtain⟨au,cu',rfl⟩:=pn Fu;have HY1:=ab hY1;clear hu Fu hY0 hY1 t1
 go_wp2_with fail
 refine dB (fun W2=>Below w1.heap.size w1 W2/\W2.heap[w1.heap.size]?=some (.cells #[.slice au (aP p.t ix f).length cu'] 30)) ⟨by go_grown,by first|exact aA _ _|(rw[bn (aA _ _)];rfl)⟩ (fun W2 hW2=>?_);obtain⟨bo,K6⟩:=hW2;have uT:=m9 HU.o (fun k c t f _ _ hk=>aq bo hk);obtain⟨xs,FY,FA,hxo⟩:=KB uT;refine(Bu _ xs W2 FA (by have:=HL.o.1;omega)).mono ?_;rintro e w3 ⟨u3,rfl,QZ,eK⟩;have dN:=bo.size;have Ft:=eK.size
 have K2:dD w3 W.heap.size u3 (aP p.t ix f):=
  ⟨xs,ku (by rw[FY]at QZ;exact QZ) (by omega),fun i hi hx=>lM (hxo i hi hx) eK⟩
 have nY:=aq eK K6;have Ox:=aq eK (aq bo (aq fo Fq0.o));have hY3:=aq eK (aq bo HY1.o);have NT:Below W.heap.size W w3:=ak fo (ak bo eK);have c1:=ae nY 0;have f1:=bf nY 0;simp at c1;have t1:=ae Ox;have HF3:=ab K2;obtain⟨a3,c3,rfl⟩:=pn K2;have N':=ab nY;have HX3:=ab Ox;have HY3:=ab hY3;have hbx3:Bx<w3.heap.size:=aw Ox;have hw13:w1.heap.size<w3.heap.size:=aw nY;have hyy:W.heap.size<w1.heap.size:=aw HY1.o;have Nx:¬ Bx=w1.heap.size:=by have:=fo.size;omega
 have hbx1':¬ w1.heap.size=Bx:=by omega
 clear uT FY FA hxo QZ K6 K2 nY Ox hY3
 go_wp2_with fail
 refine dB (fun W4=>Below W.heap.size w3 W4/\FI Wm W.heap.size yl w1.heap.size Bx Bx (mf p (.slice pc nc cc) (.slice ps ns cs) ix (.slice pu nu cu) (.slice pd dec.length cd) f) J (fS n f dec (aP p.t ix f)) 0 W4) ?_ (fun W4 hW4=>?_)
 ·have mq:Below W.heap.size w3 (w3.setCell ⟨w1.heap.size,0,none⟩ (.slice a3 (aP p.t ix f).length c3)):=(Below.refl _ _).setCell (p:=⟨w1.heap.size,0,none⟩) (by dsimp only;omega) _;refine⟨mq,⟨Nat.le_trans NT.size mq.size,?_,?_,?_,?_,?_,?_⟩⟩
  ·exact HJ.o 0 _ _ h0 (NT.trans mq)
  ·exact .of_below ((ak Lv NT).setCell (p:=⟨w1.heap.size,0,none⟩) (by have:=Lv.size;dsimp only;omega) _)
  ·exact bh HX3.o Nx _ _
  ·exact bh HX3.o Nx _ _
  ·exact bh HY3.o (by omega) _ _
  ·refine⟨_,bn N'.o _ _,?_⟩;rw[OT];refine m9 HF3.o fun k c t f _ ht hk=>bh hk (fun e=>?_) _ _
   subst e;have:=N'.o;rw[hk]at this;cases this;rcases ht with ht|ht<;>cases ht
 obtain⟨mq,Q9⟩:=hW4;refine(D7 p _ _ _ _ _ _ _ _ _ _ _ _ _ _ _).mono ?_;rintro e w5 ⟨rfl,rfl⟩;clear t1 c1 f1
 go_wp2_with fail
 refine eE (fun W5=>W4.heap.size<W5.heap.size/\FI Wm W.heap.size yl w1.heap.size Bx W4.heap.size (mf p (.slice pc nc cc) (.slice ps ns cs) ix (.slice pu nu cu) (.slice pd dec.length cd) f) J (fS n f dec (aP p.t ix f)) 0 W5) ?_ (fun W5 hW5=>?_)
 ·have h5:=FI.sta (B:=W.heap.size) HJ.o (Nat.le_refl _) W4 (W4.alloc (.cells (mf p (.slice pc nc cc) (.slice ps ns cs) ix (.slice pu nu cu) (.slice pd dec.length cd) f) 157)) (.of_below (by go_grown)) Q9;exact⟨by simp,⟨h5.size,h5.j,h5.old,h5.sx,aA _ _,h5.yb,h5.row⟩⟩
 obtain⟨hz5,QE⟩:=hW5;have dZ:=BE p _ _ ix _ _ f n HN.o hn5 W5 W4.heap.size QE.sy;have hn5':W.heap.size<=W4.heap.size:=Q9.size;have HF5:=ab QE;have HD:=ab hd;have hz4:=mq.size;clear QE Q9 mq h0 hd
 refine p8 (gf:=258) (lb:=#[.pointer (some ⟨W4.heap.size,0,none⟩)]) rfl (enters_of Tryz.func258 (by kernel_rfl) rfl) dZ (Below.refl _ _) (fun k hk=>by subst hk;exact hz5) (fun i=>rfl)
  (FI Wm W.heap.size yl w1.heap.size Bx W4.heap.size (mf p (.slice pc nc cc) (.slice ps ns cs) ix (.slice pu nu cu) (.slice pd dec.length cd) f) J (fS n f dec (aP p.t ix f)))
  (fun c i W'=>c=.ret/\W.heap.size<=W'.heap.size/\Jx i W')
  (fun i=>FI.sta HJ.o (by omega)) (fun c i=>fun A A' hc h=>⟨h.1,Nat.le_trans h.2.1 hc.size,Ol.o _ _ _ h.2.2 (hc.belowN (by omega) h.2.1)⟩) HF5.o ?round ?done ?stop
 case round=>
  intro l2 i W6 hi dJ hI;unfold Gu;have uS:=pF hi;have Lm:bc ((aW n f).getD i 0=(aW n f)[i]):=aj 0 hi;rw[aj 0 hi];have HSU:=ab (OU n f dec (aP p.t ix f) i hi);generalize (aW n f)[i]=pr at uS Lm HSU;have HI:=ab hI;have hz6:=aw hI.sy;have hs6:=hI.size;clear hI dZ
  gi_wp2
  refine⟨Bod.of_below (fun k hk=>by omega) (by go_grown),fun W'=>FI Wm W.heap.size yl w1.heap.size Bx W4.heap.size (mf p (.slice pc nc cc) (.slice ps ns cs) ix (.slice pu nu cu) (.slice pd dec.length cd) f) J (fS n f dec (aP p.t ix f)) i W'/\W'.heap[W6.heap.size]?=some (.cells #[.int .i64 pr] 3),(FI.sta HJ.o (by omega)).and cF.cells,⟨FI.sta (B:=W.heap.size) HJ.o (Nat.le_refl _) _ _ (.of_below (by go_grown)) HI.o,aA _ _⟩,fun W7 h7 _=>?_⟩;obtain⟨h7,Rf⟩:=h7;obtain⟨v,hv,hf⟩:=h7.row;have hbx7:=aw h7.sx;have hb37:=aw hv;have c1:=ae hv 0;have f1:=bf hv 0;simp at c1
  have HDEL:=ab (yM 263 #[.pointer (some ⟨W6.heap.size,0,none⟩),.pointer (some ⟨Bx,0,none⟩)] (enters_of Tryz.func263 (by kernel_rfl) rfl) W.heap.size v (fS n f dec (aP p.t ix f) i) (fun l=>l.getD pr 0 != dec.getD pr 0) W7 hf
   (Nat.le_trans (List.length_filter_le _ _) (by have:=HL.o.1;omega))
   (fun xv l W8 hl hr Ib=>Nf p _ _ ix _ f xv _ l dec pr W6.heap.size Bx W8 Ib (hr.cells Rf (by decide)) (hr.cells h7.sx (by decide)) (HD.o.ck up_int (fun k o hk ho=>hr.keep k o (h7.old k o hk ho) (.inl (by have:=aw hk;have:=Lv.size;omega)))) (by rw[HL.o.2 l (PU hl)];exact uS.1) (by rw[HDL.o];exact uS.1)))
  have HP7:=ab Rf;have H7:=ab h7;obtain⟨a7,c7,rfl⟩:=pn hf;have HV7:=ab hv;have hb36:w1.heap.size<W6.heap.size:=by obtain⟨v',q1,_⟩:=HI.o.row;exact aw q1
  clear h7 Rf hf hv
  gi_wp2
  refine⟨trivial,rfl,At (HDEL.o.mono ?_)⟩;rintro e w8 ⟨a8,c8,rfl,Ri,DA⟩;rw[<-HSU.o]at Ri ⊢;have Od:=DA.cells HV7.o (by decide);have Q1:=DA.cells H7.o.yb (by decide);have QF:=DA.cells HP7.o (by decide);have hs8:=DA.size;have hs7:=H7.o.size;have gh:Below W.heap.size W7 (w8.setCell ⟨w1.heap.size,0,none⟩ (.slice a8 (fS n f dec (aP p.t ix f) (i+1)).length c8)):=(DA.below hs7).setCell (p:=⟨w1.heap.size,0,none⟩) (by dsimp only;omega) _;obtain⟨fn,tmps,assign,body,hy,hR⟩:=HY.o i _ #[.int .i64 pr,.slice a8 (fS n f dec (aP p.t ix f) (i+1)).length c8] hi ⟨a8,c8,by rw[Lm.o]⟩ (Nat.le_trans hs7 gh.size) (HJ.o i _ _ H7.o.j gh);have HR:=ab hR;have c1:=ae Od 0;have f1:=bf Od 0;have c2:=ae Q1 0;have c3:=ae QF 0;simp at c1 c2 c3;have HB8:=ab Od;have HY8:=ab Q1;have HP8:=ab QF;have HF8:=ab Ri;have HR8:=ab DA;have e1:¬ W.heap.size=w1.heap.size:=by omega
  have e2:¬ W6.heap.size=w1.heap.size:=by omega
  have xL:=ab gh;clear hR Od Q1 QF Ri DA gh
  gi_wp2
  refine⟨rfl,(Au HR.o).mono ?_⟩;rintro e W10 ⟨aS,dh⟩;have hs9:=xL.o.size;have hs10:=aS.1
  have key:∀ k o,W7.heap[k]?=some o->k≠w1.heap.size->(k<W.heap.size\/∀ c f,o≠.cells c 38 f)->((k<Wm.heap.size\/k=Bx)\/W.heap.size<=k)->W10.heap[k]?=some o:=fun k o hk aV ho hS=>by
   have h9:=bh (B:=w1.heap.size) (HR8.o.keep k o hk ho) aV 0 (.slice a8 (fS n f dec (aP p.t ix f) (i+1)).length c8);exact(aS.2 k hS (aw h9)).trans h9
  have vY:Bod W5.heap.size (fun k=>k=W4.heap.size) W7 W10:=⟨Nat.le_trans hs9 hs10,fun k hk=>by
    subst hk
    rw[key _ _ H7.o.sy (by omega) (.inr fun c f e=>by cases e) (.inr hn5'),H7.o.sy],
   fun k o hB hk ho=>key k o hk (by omega) (.inr fun c f e=>by subst e;cases ho) (.inr (by omega))⟩
  rcases dh with ⟨rfl,hj⟩|⟨rfl,hjx⟩
  ·have hfi:FI Wm W.heap.size yl w1.heap.size Bx W4.heap.size (mf p (.slice pc nc cc) (.slice ps ns cs) ix (.slice pu nu cu) (.slice pd dec.length cd) f) J (fS n f dec (aP p.t ix f)) (i+1) W10:=by
    refine⟨by omega,hj,fun k o hk ho=>?_,key _ _ H7.o.sx Nx (.inr fun c f e=>by cases e) (.inl (.inr rfl)),key _ _ H7.o.sy (by omega) (.inr fun c f e=>by cases e) (.inr hn5'),key _ _ H7.o.yb (by omega) (.inr fun c f e=>by cases e) (.inr (Nat.le_refl _)),?_⟩
    ·have h1:=aw hk;have h2:=Lv.size;exact key k o (H7.o.old k o hk ho) (by omega) (.inl (by omega)) (.inl (.inl h1))
    ·have OA:=bn HB8.o 0 (.slice a8 (fS n f dec (aP p.t ix f) (i+1)).length c8);refine⟨_,(aS.2 _ (.inr (by omega)) (aw OA)).trans OA,m9 HF8.o fun k c t fz hk ht hc=>?_⟩
     have h9:=bh (B:=w1.heap.size) hc (fun e=>by
      subst e;have:=HB8.o;rw[hc]at this;cases this
      rcases ht with ht|ht<;>cases ht) 0 (.slice a8 (fS n f dec (aP p.t ix f) (i+1)).length c8)
     exact(aS.2 k (.inr hk) (aw h9)).trans h9
   have HFI:=ab (And.intro vY hfi);clear hs9 hs10 key hfi vY
   gi_wp2
   exact HFI.o
  ·gi_wp2
   exact⟨vY,rfl,by omega,hjx⟩
 case done=>
  intro D W6 hD hI hK;refine Iq hK (results_none rfl _ _ _) ?_;exact⟨⟨_,rfl⟩,.inl (HJ.o _ _ _ hI.j (eN (by omega) (Below.refl _ _)))⟩
 case stop=>
  rintro D c i W6 hD hi ⟨rfl,g1,g2⟩ hK;clear dZ
  go_wp2_with fail
  refine iQ hK (results_none rfl _ _ _) ?_;exact⟨⟨_,rfl⟩,.inr ⟨_,hi,Ol.o _ _ _ g2 (eN (by omega) (Below.refl _ _))⟩⟩
def CY(n:Nat) (f:Int) (dec:List Int) (L:List (List Int)) (q:Nat):Prop:=∀ j,j<q->AN f dec L ((aW n f).getD j 0)=false
theorem Hv(p:Pb) (vc:Value) (ps:Option Addr) (ns cs:Nat) (i:Int) (pu:Option Addr) (nu cu:Nat) (vd:Value) (dec:List Int) (f:Int) (n:Nat) (hn:p.t.n=n) (hn5:n<=5) (hl:dec.length=n) (w:World) (hc:it w vc p.t.cases) (hd:cW w vd dec)
  (hL:(aP p.t i f).length<=1024/\∀ v∈aP p.t i f,v.length=n) :
  Calls Tryz.prog 136 #[.agg (mf p vc (.slice ps ns cs) i (.slice pu nu cu) vd f)] w fun e w'=>e=.returned (.tuple #[.int .i64 (outpE n f dec (aP p.t i f)),.bool (decide (0<=outpE n f dec (aP p.t i f)))])/\Below w.heap.size w w':=by
 generalize hLe:aP p.t i f=L at hL ⊢;have HLE:=ab hLe;clear hLe;have HD:=ab hd;have HC:=ab hc;obtain⟨pd,cd,rfl,_⟩:=hd;obtain⟨pc,cc,rfl,_⟩:=hc;have HL:=ab hl;clear hl;have OL:=ab hL;clear hL;refine cX Tryz.func136 rfl ?_;simp only[Tryz.ntmps136,List.size_toArray,List.length_cons,List.length_nil,Nat.reduceAdd,Nat.reduceSub,Array.replicate_succ,Array.replicate_zero,List.push_toArray,List.append_toArray,List.nil_append,List.cons_append];have HN:=ab hn;clear hn
 go_wp2_with fail
 refine(CX p _ _ _ _ _ _ _ _ _ _ _ _ _ _ _).mono ?_;rintro e w1 ⟨rfl,rfl⟩
 go_wp2_with fail
 refine eE (fun W=>Below w.heap.size w W/\W.heap[w.heap.size+1]?=some (.cells #[.int .i64 0] 3)/\W.heap[w.heap.size+1+1]?=some (.cells #[.bool false] 4)/\W.heap[w.heap.size+1+1+1]?=some (.cells (mf p (.slice pc p.t.cases.length cc) (.slice ps ns cs) i (.slice pu nu cu) (.slice pd dec.length cd) f) 157))
  ⟨by go_grown,aH _ (aH _ (eM _ _ _)),aH _ (qt _ _ _ _),by simpa using aA (((w.alloc _).alloc _).alloc _) _⟩ (fun W0 dF=>?_)
 obtain⟨bw,oq,p5,hX⟩:=dF;have dZ:=AJ p _ _ _ _ _ _ i _ _ _ _ _ dec f n HN.o hn5 HL.o w W0 (w.heap.size+1+1+1) bw HC.o HD.o hX (by rw[HLE.o];exact OL.o);rw[HLE.o]at dZ;have bA:=aw hX
 refine DP (gf:=259) (lb:=#[.pointer (some ⟨w.heap.size+1+1+1,0,none⟩)]) rfl (enters_of Tryz.func259 (by kernel_rfl) rfl) dZ (Below.refl _ _) (fun k hk=>by omega) (fun i args h=>by obtain⟨a,c,rfl⟩:=h;rfl)
  (fun q W=>Below w.heap.size w W/\W.heap[w.heap.size+1]?=some (.cells #[.int .i64 0] 3)/\W.heap[w.heap.size+1+1]?=some (.cells #[.bool false] 4)/\CY n f dec L q)
  (fun c _ W=>c=.ret/\Below w.heap.size w W/\0<=outpE n f dec L/\W.heap[w.heap.size+1]?=some (.cells #[.int .i64 (outpE n f dec L)] 3)/\W.heap[w.heap.size+1+1]?=some (.cells #[.bool true] 4))
  (fun i A A' h hb=>⟨h.1.trans (hb.mono (by omega)),(hb.block _ (by omega)).trans h.2.1,(hb.block _ (by omega)).trans h.2.2.1,h.2.2.2⟩)
  (fun c i A A' h hb=>⟨h.1,h.2.1.trans (hb.mono (by omega)),h.2.2.1,(hb.block _ (by omega)).trans h.2.2.2.1,(hb.block _ (by omega)).trans h.2.2.2.2⟩) ⟨bw,oq,p5,fun j hj=>by omega⟩ ?round ?done ?stop
 case round=>
  rintro yl q W args hq hl hlw ⟨a,c,rfl⟩ hI;have QH:=ab (ID n f dec L q hq);have uS:=pF hq;have Lm:bc ((aW n f).getD q 0=(aW n f)[q]):=aj 0 hq;rw[aj 0 hq];generalize (aW n f)[q]=pr at uS Lm;generalize (fS n f dec L (q+1)).length=m at QH;have HI:=ab hI;clear hI dZ
  gi_wp2
  refine⟨Bod.refl _ _ _,fun W=>Below w.heap.size w W/\W.heap[w.heap.size+1]?=some (.cells #[.int .i64 0] 3)/\W.heap[w.heap.size+1+1]?=some (.cells #[.bool false] 4)/\CY n f dec L q,(cF.below (w:=w) (by omega)).and (cF.cells.and (cF.cells.and cF.pure)),HI.o,fun W2 h2 _=>?_⟩;obtain⟨g1,g3,g4,g5⟩:=h2;have HG:=ab (And.intro g1 (And.intro g3 (And.intro g4 g5)));have c3:=ae g3 0;have f3:=bf g3 0;have c4:=ae g4 0;have f4:=bf g4 0;simp at c3 c4;have hs4:=aw g4;clear g1 g3 g4 g5 oq p5 hX;by_cases hx:m=0
  ·subst hx
   gi_wp2
   obtain⟨g1,g3,g4,g5⟩:=HG.o
   have hE:outpE n f dec L=pr:=by
    unfold outpE;rw[t9 hq g5 (by rw[QH.o];rfl),Lm.o]
   refine⟨(Bod.setCell _ ⟨w.heap.size+1,0,none⟩ _ (fun h=>by dsimp only at h;omega)).trans (Bod.setCell _ ⟨w.heap.size+1+1,0,none⟩ _ (fun h=>by dsimp only at h;omega)),rfl,(g1.setCell (p:=⟨w.heap.size+1,0,none⟩) (by dsimp only;omega) _).setCell (p:=⟨w.heap.size+1+1,0,none⟩) (by dsimp only;omega) _,by omega,?_,?_⟩
   ·refine bh (B:=w.heap.size+1+1) ?_ (by omega) _ _;rw[bn g3,hE];rfl
   ·rw[bn (bh (B:=w.heap.size+1) g4 (by omega) _ _)];rfl
  ·gi_wp2
   obtain⟨g1,g3,g4,g5⟩:=HG.o;exact⟨Bod.refl _ _ _,g1,g3,g4,bG g5 (by rw[QH.o];simpa using hx)⟩
 case done=>
  intro D W hD hI hK;obtain⟨g1,g3,g4,g5⟩:=hI;have HG:=ab (And.intro g1 (And.intro g3 (And.intro g4 g5)));have c3:=ae g3 0;have f3:=bf g3 0;have c4:=ae g4 0;have f4:=bf g4 0;simp at c3 c4;clear g1 g3 g4 g5 dZ oq p5 hX
  go_wp2_with fail
  obtain⟨g1,g3,g4,g5⟩:=HG.o;have hE:outpE n f dec L=-1:=rm g5;refine iQ (bh (B:=w.heap.size+1+1) (bh (B:=w.heap.size+1) hK (by omega) _ _) (by omega) _ _) (uu _ _ Tryz.results136 (w.heap.size+1) (w.heap.size+1+1) _ (-1) false _ _ rfl rfl ((World.putObj_heap_other (by omega)).trans (bh (B:=w.heap.size+1+1) (by rw[bn g3];rfl) (by omega) _ _)) ((World.putObj_heap_other (by omega)).trans (by rw[bn (bh (B:=w.heap.size+1) g4 (by omega) _ _)];rfl))) ?_;exact⟨IU hE.symm (by rw[hE];rfl),eN (by omega) ((g1.setCell (p:=⟨w.heap.size+1,0,none⟩) (by dsimp only;omega) _).setCell (p:=⟨w.heap.size+1+1,0,none⟩) (by dsimp only;omega) _)⟩
 case stop=>
  rintro D c i W hD hi ⟨rfl,g1,g2,g3,g4⟩ hK;have HG:=ab (And.intro g1 (And.intro g2 (And.intro g3 g4)));clear g1 g2 g3 g4 dZ oq p5 hX
  go_wp2_with fail
  refine iQ hK (uu _ _ Tryz.results136 (w.heap.size+1) (w.heap.size+1+1) _ (outpE n f dec L) true _ _ rfl rfl ((World.putObj_heap_other (by omega)).trans HG.o.2.2.1) ((World.putObj_heap_other (by omega)).trans HG.o.2.2.2)) ?_;exact⟨IU rfl (by have:=HG.o.2.1;simp;omega),eN (by omega) HG.o.1⟩
theorem yN(P:Program) (w:World) (a:Addr) (m:Mode) (g:Fn) (b c:Array Value):(store a (.func g b c) m).run P w=stored P w a (.func g b c) m:=run_store P w a _ m rfl
attribute [local go_sem] yN
end Go.Proofs.YtiocdkdkndpgkaaGreat
namespace Go.Proofs.YtiocdkdkndpgkaaGreat
open Go.RowKit Go Go.Shelf
abbrev Vw.c(v:Vw):Array Value:=#[.int .i64 v.p,.int .i64 v.k,.int .i64 v.i,.int .i64 v.h0,.int .i64 v.h1,.int .i64 v.h2,.int .i64 v.h3,.int .i64 v.h4]
abbrev Vw.v(v:Vw):Value:=.agg v.c
structure Ky where
 i0:Int
 i1:Int
 i2:Int
 i3:Int
 i4:Int
 r0:Rd
 r1:Rd
 r2:Rd
 r3:Rd
 r4:Rd
 r5:Rd
instance:DecidableEq Ky:=fun a b=>decidable_of_iff (a.i0=b.i0/\a.i1=b.i1/\a.i2=b.i2/\a.i3=b.i3/\a.i4=b.i4/\a.r0=b.r0/\a.r1=b.r1/\a.r2=b.r2/\a.r3=b.r3/\a.r4=b.r4/\a.r5=b.r5) (by cases a;cases b;simp)
abbrev Ky.c(x:Ky):Array Value:=#[.int .i64 x.i0,.int .i64 x.i1,.int .i64 x.i2,.int .i64 x.i3,.int .i64 x.i4,.int .i64 x.r0.g.n,.int .i64 x.r0.g.h0,.int .i64 x.r0.g.h1,.int .i64 x.r0.g.h2,.int .i64 x.r0.g.h3,.int .i64 x.r0.g.h4,.int .i64 x.r0.f,.int .i64 x.r1.g.n,.int .i64 x.r1.g.h0,.int .i64 x.r1.g.h1,.int .i64 x.r1.g.h2,.int .i64 x.r1.g.h3,.int .i64 x.r1.g.h4,.int .i64 x.r1.f,.int .i64 x.r2.g.n,.int .i64 x.r2.g.h0,.int .i64 x.r2.g.h1,.int .i64 x.r2.g.h2,.int .i64 x.r2.g.h3,.int .i64 x.r2.g.h4,.int .i64 x.r2.f,.int .i64 x.r3.g.n,.int .i64 x.r3.g.h0,.int .i64 x.r3.g.h1,.int .i64 x.r3.g.h2,.int .i64 x.r3.g.h3,.int .i64 x.r3.g.h4,.int .i64 x.r3.f,.int .i64 x.r4.g.n,.int .i64 x.r4.g.h0,.int .i64 x.r4.g.h1,.int .i64 x.r4.g.h2,.int .i64 x.r4.g.h3,.int .i64 x.r4.g.h4,.int .i64 x.r4.f,.int .i64 x.r5.g.n,.int .i64 x.r5.g.h0,.int .i64 x.r5.g.h1,.int .i64 x.r5.g.h2,.int .i64 x.r5.g.h3,.int .i64 x.r5.g.h4,.int .i64 x.r5.f]
abbrev Ky.v(x:Ky):Value:=.agg x.c
def rdZ:Rd:=⟨⟨0,0,0,0,0,0⟩,0⟩
def keyOf(x:Py):Ky:=⟨x.inp.getD 0 0,x.inp.getD 1 0,x.inp.getD 2 0,x.inp.getD 3 0,x.inp.getD 4 0,x.word.getD 0 rdZ,x.word.getD 1 rdZ,x.word.getD 2 rdZ,x.word.getD 3 rdZ,x.word.getD 4 rdZ,x.word.getD 5 rdZ⟩
theorem CZ{α:Type} {a b:List α} (d:α) (hl:a.length=b.length) (h:∀ i,i<a.length->a.getD i d=b.getD i d):a=b:=by
 apply List.ext_getElem hl;intro i h1 h2;have:=h i h1
 rwa [show a.getD i d=a[i] by simp[h1],show b.getD i d=b[i] by simp[h2]]at this
theorem KC{x y:Py} (hi:x.inp.length=y.inp.length) (hi5:x.inp.length<=5) (hw:x.word.length=y.word.length) (hw6:x.word.length<=6) (h:keyOf x=keyOf y):x=y:=by
 unfold keyOf at h;injection h with e0 e1 e2 e3 e4 q0 q1 q2 q3 q4 q5
 have h1:x.inp=y.inp:=CZ 0 hi fun i hi=>by
  rcases (show i=0\/i=1\/i=2\/i=3\/i=4 by omega) with e|e|e|e|e<;>subst e<;>assumption
 have h2:x.word=y.word:=CZ rdZ hw fun i hi=>by
  rcases (show i=0\/i=1\/i=2\/i=3\/i=4\/i=5 by omega) with e|e|e|e|e|e<;>subst e<;>assumption
 cases x
 cases y
 simp only at h1 h2;rw[h1,h2]
theorem KD(d:Nat) (a0 a1 a2 a3 a4 a5 b0 b1 b2 b3 b4 b5:Rd) (w:World):(Op.equalIn (d+5) 288 (.agg #[.int .i64 a0.g.n,.int .i64 a0.g.h0,.int .i64 a0.g.h1,.int .i64 a0.g.h2,.int .i64 a0.g.h3,.int .i64 a0.g.h4,.int .i64 a0.f,.int .i64 a1.g.n,.int .i64 a1.g.h0,.int .i64 a1.g.h1,.int .i64 a1.g.h2,.int .i64 a1.g.h3,.int .i64 a1.g.h4,.int .i64 a1.f,.int .i64 a2.g.n,.int .i64 a2.g.h0,.int .i64 a2.g.h1,.int .i64 a2.g.h2,.int .i64 a2.g.h3,.int .i64 a2.g.h4,.int .i64 a2.f,.int .i64 a3.g.n,.int .i64 a3.g.h0,.int .i64 a3.g.h1,.int .i64 a3.g.h2,.int .i64 a3.g.h3,.int .i64 a3.g.h4,.int .i64 a3.f,.int .i64 a4.g.n,.int .i64 a4.g.h0,.int .i64 a4.g.h1,.int .i64 a4.g.h2,.int .i64 a4.g.h3,.int .i64 a4.g.h4,.int .i64 a4.f,.int .i64 a5.g.n,.int .i64 a5.g.h0,.int .i64 a5.g.h1,.int .i64 a5.g.h2,.int .i64 a5.g.h3,.int .i64 a5.g.h4,.int .i64 a5.f]) (.agg #[.int .i64 b0.g.n,.int .i64 b0.g.h0,.int .i64 b0.g.h1,.int .i64 b0.g.h2,.int .i64 b0.g.h3,.int .i64 b0.g.h4,.int .i64 b0.f,.int .i64 b1.g.n,.int .i64 b1.g.h0,.int .i64 b1.g.h1,.int .i64 b1.g.h2,.int .i64 b1.g.h3,.int .i64 b1.g.h4,.int .i64 b1.f,.int .i64 b2.g.n,.int .i64 b2.g.h0,.int .i64 b2.g.h1,.int .i64 b2.g.h2,.int .i64 b2.g.h3,.int .i64 b2.g.h4,.int .i64 b2.f,.int .i64 b3.g.n,.int .i64 b3.g.h0,.int .i64 b3.g.h1,.int .i64 b3.g.h2,.int .i64 b3.g.h3,.int .i64 b3.g.h4,.int .i64 b3.f,.int .i64 b4.g.n,.int .i64 b4.g.h0,.int .i64 b4.g.h1,.int .i64 b4.g.h2,.int .i64 b4.g.h3,.int .i64 b4.g.h4,.int .i64 b4.f,.int .i64 b5.g.n,.int .i64 b5.g.h0,.int .i64 b5.g.h1,.int .i64 b5.g.h2,.int .i64 b5.g.h3,.int .i64 b5.g.h4,.int .i64 b5.f])).run Tryz.prog w=.ok (decide (a0=b0/\a1=b1/\a2=b2/\a3=b3/\a4=b4/\a5=b5)) w:=by
 obtain⟨i,hi⟩:∃ i,Tryz.prog.info? 109=some i:=Option.isSome_iff_exists.1 (by kernel_rfl);have hc:Tryz.prog.cellsOf 109=7:=by kernel_rfl
 rw[run_equalIn_array w (d+4) _ _ Tryz.underlying288 hi,hc];have ag:=Tryz.isAgg109;have h0:=eZ d a0 b0 w;have h1:=eZ d a1 b1 w;have h2:=eZ d a2 b2 w;have h3:=eZ d a3 b3 w;have h4:=eZ d a4 b4 w;have h5:=eZ d a5 b5 w;have hr:List.range 6=[0,1,2,3,4,5]:=rfl;rw[hr];simp only[Op.eqItems,Sem.run_bind,part,ag,Result.andThen_ok];simp[h0,h1,h2,h3,h4,h5];by_cases e0:a0=b0
 case neg=>simp[e0]
 by_cases e1:a1=b1
 case neg=>simp[e0,e1]
 by_cases e2:a2=b2
 case neg=>simp[e0,e1,e2]
 by_cases e3:a3=b3
 case neg=>simp[e0,e1,e2,e3]
 by_cases e4:a4=b4
 case neg=>simp[e0,e1,e2,e3,e4]
 by_cases e5:a5=b5<;>simp[e0,e1,e2,e3,e4,e5]
theorem PH(d:Nat) (a b:Ky) (w:World):(Op.equalIn (d+6) 290 a.v b.v).run Tryz.prog w=.ok (decide (a=b)) w:=by
 have hS:Tryz.prog.underlying 290=some (.struct (Tryz.prog.fieldsOf 290)):=by kernel_rfl
 have hp:Tryz.prog.stoodInHeld 290=false:=by kernel_rfl
 rw[run_equalIn_struct w (d+5) 290 _ _ hS hp];have ag:=Tryz.isAgg105;have ah:=Tryz.isAgg288;have zg:=Tryz.sizeOf105;have zh:=Tryz.sizeOf288;obtain⟨i0,i1,i2,i3,i4,r0,r1,r2,r3,r4,r5⟩:=a;obtain⟨j0,j1,j2,j3,j4,s0,s1,s2,s3,s4,s5⟩:=b;have h1:=qo (d+3) i0 i1 i2 i3 i4 j0 j1 j2 j3 j4 w;have h2:=KD d r0 r1 r2 r3 r4 r5 s0 s1 s2 s3 s4 s5 w;simp only[Program.fieldsOf,Tryz.underlying290];simp[Op.eqFields,part,ag,ah,zg,zh,h1,h2];by_cases q0:i0=j0
 case neg=>simp[q0]
 by_cases q1:i1=j1
 case neg=>simp[q0,q1]
 by_cases q2:i2=j2
 case neg=>simp[q0,q1,q2]
 by_cases q3:i3=j3
 case neg=>simp[q0,q1,q2,q3]
 by_cases q4:i4=j4
 case neg=>simp[q0,q1,q2,q3,q4]
 by_cases q5:r0=s0
 case neg=>simp[q0,q1,q2,q3,q4,q5]
 by_cases q6:r1=s1
 case neg=>simp[q0,q1,q2,q3,q4,q5,q6]
 by_cases q7:r2=s2
 case neg=>simp[q0,q1,q2,q3,q4,q5,q6,q7]
 by_cases q8:r3=s3
 case neg=>simp[q0,q1,q2,q3,q4,q5,q6,q7,q8]
 by_cases q9:r4=s4
 case neg=>simp[q0,q1,q2,q3,q4,q5,q6,q7,q8,q9]
 by_cases q10:r5=s5<;>simp[q0,q1,q2,q3,q4,q5,q6,q7,q8,q9,q10]
theorem kit_ky:KeyKit Tryz.prog 290 Ky.v:=
 ⟨fun a b w=>PH 9994 a b w,fun em a w=>by kernel_rfl,⟨_,Tryz.underlying290⟩⟩
def f9(l:List Int):Ky:=⟨l.getD 0 0,l.getD 1 0,l.getD 2 0,l.getD 3 0,l.getD 4 0,rdZ,rdZ,rdZ,rdZ,rdZ,rdZ⟩
abbrev Fp(p:Pb) (ix:Int) (word:List Rd) (dec:List Int) (f:Int):D:=.agg [iD p.t.n,iD p.t.ins,iD p.t.outs,ja p.t.cases,iD p.a.n,gQ p.a.states,iD p.rounds,iD ix,bK word,aT dec,iD f]
theorem RD.sl_inv{G:Gh} {s:Nat} {L:List (List D)} {v:Value} (h:RD G (.fz s L) v):∃ a n c,v=.slice a n c:=by
 cases h with
 | fz=>exact⟨_,_,_,rfl⟩
theorem KE(p:Pb) (ix:Int) (word:List Rd) (dec:List Int) (f:Int) (n:Nat) (hn:p.t.n=n) (hn5:n<=5) (hl:dec.length=n) (hd:∀ x∈dec,cV x) (hc:∀ c∈p.t.cases,kf c) (bQ:p.t.cases.length<=17592186044416)
  (hL:(aP p.t ix f).length<=1024/\∀ v∈aP p.t ix f,v.length=n) :
  FC Tryz.prog 136 [Fp p ix word dec f] (.tup [iD (outpE n f dec (aP p.t ix f)),bD (decide (0<=outpE n f dec (aP p.t ix f)))]):=by
 refine⟨Tryz.call136,fun G us w hG hz hu=>?_⟩;obtain⟨vs,e0,hs,H⟩:=(hu 0 _ rfl).agg_inv;rw[MA (us:=us) hz,e0];have h0:=(H 0 _ rfl).val;have h1:=(H 1 _ rfl).val;have h2:=(H 2 _ rfl).val;have h3:=H 3 _ rfl;have h4:=(H 4 _ rfl).val;have h5:=H 5 _ rfl;have h6:=(H 6 _ rfl).val;have h7:=(H 7 _ rfl).val;have h8:=H 8 _ rfl;have h9:=H 9 _ rfl;have h10:=(H 10 _ rfl).val;obtain⟨a5,n5,c5,e5⟩:=h5.sl_inv;obtain⟨a8,n8,c8,e8⟩:=h8.sl_inv;generalize e3:vs[3]?.getD undef=v3 at h3;generalize e9:vs[9]?.getD undef=v9 at h9
 have e:vs=mf p v3 (.slice a5 n5 c5) ix (.slice a8 n8 c8) v9 f:=by
  apply Array.ext
  ·simpa using hs
  ·intro i g1 g2
   match i,g2 with
   | 0,_=>simpa[g1] using h0
   | 1,_=>simpa[g1] using h1
   | 2,_=>simpa[g1] using h2
   | 3,_=>simpa[g1] using e3
   | 4,_=>simpa[g1] using h4
   | 5,_=>simpa[g1] using e5
   | 6,_=>simpa[g1] using h6
   | 7,_=>simpa[g1] using h7
   | 8,_=>simpa[g1] using e8
   | 9,_=>simpa[g1] using e9
   | 10,_=>simpa[g1] using h10
 rw[e];refine(Hv p v3 _ _ _ ix _ _ _ v9 dec f n hn hn5 hl w (GG hG h3 bQ hc) (sB hG h9 (by omega) hd) hL).mono ?_;rintro e w' ⟨rfl,hb⟩;refine⟨_,G,rfl,hb,Grow.same hG hb,.tup _ _ rfl fun i x hx=>?_⟩
 match i,hx with
 | 0,hx=>cases hx;exact .v _
 | 1,hx=>cases hx;exact .v _
end Go.Proofs.YtiocdkdkndpgkaaGreat
namespace Go.Proofs.YtiocdkdkndpgkaaGreat
open Go.RowKit Go
attribute [local simp] bu bv
theorem Ng(l:List Cs) (g:FuncId) (c:List D) (p:Nat->Bool) (hp:∀ i (h:i<l.length),FC Tryz.prog g (.agg (sA l[i]) :: c) (bD (p i))):FC Tryz.prog 132 [ja l,.fn (.func g) [] c] (iD (firstIx l.length p)):=by
 refine an Tryz.func132 rfl rfl rfl Tryz.call132 [] [] rfl 4 (fun hb w0 G0=>?_);simp at hb
 replace hb:=hb.1
 simp;refine am [0,1,7] [] (fun k:Nat=>[(8,.d (iD k))]) (fun _=>[]) (fun k=>l.length - k) (fun k=>k<=l.length/\∀ j,j<k->p j=false) 0 ⟨by omega,fun j hj=>by omega⟩ (by simp) (fun k hk=>?_);obtain⟨hk,hj⟩:=hk;simp
 (refine Bz.split (fun h=>?_) (fun h=>?_)<;>(try simp only[decide_eq_true_eq,decide_eq_false_iff_not,Bool.not_eq_true',Bool.not_eq_false',beq_iff_eq,bne_iff_ne,beq_eq_false_iff_ne,bne_eq_false_iff_eq,Bool.not_not,Bool.and_eq_true,Bool.or_eq_true,Bool.and_eq_false_iff,Bool.or_eq_false_iff]at h))<;>simp[h]
 ·refine ap (hp k h) ?_;simp
  (refine Bz.split (fun h1=>?_) (fun h1=>?_)<;>(try simp only[decide_eq_true_eq,decide_eq_false_iff_not,Bool.not_eq_true',Bool.not_eq_false',beq_iff_eq,bne_iff_ne,beq_eq_false_iff_ne,bne_eq_false_iff_eq,Bool.not_not,Bool.and_eq_true,Bool.or_eq_true,Bool.and_eq_false_iff,Bool.or_eq_false_iff]at h1))<;>simp[h1]
  ·rw[cD _ k p h hj h1]
  ·exact vg (ar.of (k+1) [] (by simp) ⟨⟨h,bG hj h1⟩,by omega⟩)
 ·have:k=l.length:=by omega
  subst this;rw[cU _ p hj]
theorem Nh(c:Cs) (inp:List Int):FC Tryz.prog 133 [.agg (sA c),.fp 1 [[aT inp]] 0 0] (bD (eqV c.inp inp)):=by
 refine an Tryz.func133 rfl rfl rfl Tryz.call133 [] [] rfl 1 (fun hb w0 G0=>?_);simp;refine ap (fO _ _) ?_;simp
theorem Ni(t:Tk) (inp:List Int):FC Tryz.prog 76 [zA t,aT inp] (.tup [iD (if findE t inp<0 then 0 else findE t inp),iD (if findE t inp<0 then 6 else 0)]):=by
 refine an Tryz.func76 rfl rfl rfl Tryz.call76 [] [] rfl 1 (fun hb w0 G0=>?_);simp;refine ap (Ng t.cases _ _ (fun i=>eqV (t.cases.getD i default).inp inp) (fun i h=>by rw[aj default h];exact Nh _ _)) ?_;unfold findE;simp
 (refine Bz.split (fun h=>?_) (fun h=>?_)<;>(try simp only[decide_eq_true_eq,decide_eq_false_iff_not,Bool.not_eq_true',Bool.not_eq_false',beq_iff_eq,bne_iff_ne,beq_eq_false_iff_ne,bne_eq_false_iff_eq,Bool.not_not,Bool.and_eq_true,Bool.or_eq_true,Bool.and_eq_false_iff,Bool.or_eq_false_iff]at h))<;>simp[h]
theorem EG(p:Pb) (ix:Int) (word:List Rd) (dec:List Int):FC Tryz.prog 78 [eI p,iD ix,bK word,aT dec] (Fp p ix word dec (faultyS word)):=by
 refine an Tryz.func78 rfl rfl rfl Tryz.call78 [] [] rfl 1 (fun hb w0 G0=>?_);simp at hb;unfold faultyS;simp
 (refine Bz.split (fun h=>?_) (fun h=>?_)<;>(try simp only[decide_eq_true_eq,decide_eq_false_iff_not,Bool.not_eq_true',Bool.not_eq_false',beq_iff_eq,bne_iff_ne,beq_eq_false_iff_ne,bne_eq_false_iff_eq,Bool.not_not,Bool.and_eq_true,Bool.or_eq_true,Bool.and_eq_false_iff,Bool.or_eq_false_iff]at h))
 ·have h1:word.length - 1<word.length:=by omega
  have e:(word.length:Int) - 1=((word.length - 1:Nat):Int):=by omega
  simp[h,h1]
  repeat refine vg ?_
  rintro rfl;simp at h
 ·have h:word.length=0:=by omega
  simp[h]
theorem EH(p:Pb) (ix:Int) (word:List Rd) (dec:List Int) (f:Int) (ha:advE p.a=0) (hl:word.length<=17592186044416) (hw:∀ r∈word,eD r):FC Tryz.prog 134 [Fp p ix word dec f] (.tup [iD (-1),bD (schedB p word)]):=by
 refine an Tryz.func134 rfl rfl rfl Tryz.call134 [] [] rfl 1 (fun hb w0 G0=>?_);have hA:=zD p.a word ha hl hw;have e1:(cz p.a word).2=0:=by unfold cz;rw[if_neg (by omega)]
 have e2:(cz p.a word).1=decide (0<=aQ p.a 0 word):=by unfold cz;rw[if_neg (by omega)]
 rw[e1,e2]at hA
 have hS:schedB p word=(!decide (0<=aQ p.a 0 word) || decide ((word.length:Int)≠p.rounds)):=by
  unfold schedB;congr 1;by_cases h:aQ p.a 0 word<0
  ·simp[h]
  ·simp[h];omega
 rw[hS];generalize decide (0<=aQ p.a 0 word)=b at hA;simp;refine ap hA ?_;simp;refine aO 17 ?_;cases b<;>simp
theorem EI(p:Pb) (ix:Int) (word:List Rd) (dec:List Int) (f:Int) (n:Nat) (hn:p.t.n=n) (hn5:n<=5):SQ Tryz.prog 258 [.fp 11 [[iD p.t.n,iD p.t.ins,iD p.t.outs,ja p.t.cases,iD p.a.n,gQ p.a.states,iD p.rounds,iD ix,bK word,aT dec,iD f]] 0 0] ((aW n f).map fun x:Nat=>[iD (x:Int)]):=by
 refine qN 5 (fun hb=>?_) Tryz.call258;refine qJ Tryz.func258 rfl rfl rfl Tryz.call258 [] [] rfl (fun w0 G0 yl J hR=>vs ?_);clear hb;simp[hn];refine dM [0,1,7] [] (fun k:Nat=>[(8,.d (iD k))]) (fun _=>[]) (fun k=>(aW k f).length+1) (fun k=>n - k) (fun k=>k<=n) 0 (by omega) (by simp[aW]) (fun k hk=>?_);simp
 (refine Bz.split (fun h=>?_) (fun h=>?_)<;>(try simp only[decide_eq_true_eq,decide_eq_false_iff_not,Bool.not_eq_true',Bool.not_eq_false',beq_iff_eq,bne_iff_ne,beq_eq_false_iff_ne,bne_eq_false_iff_eq,Bool.not_not,Bool.and_eq_true,Bool.or_eq_true,Bool.and_eq_false_iff,Bool.or_eq_false_iff]at h))
 ·have jH:bits .and .i64 (f / 2 ^ k) 1=0↔bX f k=false:=by
   have:=oC f k;cases hB:bX f k<;>rw[hB]at this<;>simpa using this
  simp[h]
  repeat refine vg ?_
  refine cw (decide (bits .and .i64 (f / 2 ^ k) 1=0)) (fun d=>?_) (fun d=>?_)
  ·have hB:bX f k=true:=by
    have:=of_decide_eq_false d;cases hB:bX f k
    ·exact absurd (jH.2 hB) this
    ·rfl
   simp[d];exact vg (ar.of (k+1) [] (by simp[iW,hB]))
  ·have hB:=jH.1 (of_decide_eq_true d);simp[d];refine zs _ hR (by rw[List.getElem?_map,yi f h hB];rfl) rfl ?_ ?_
   ·simp;exact vg (ar.of (k+1) [] (by simp[iW,hB]))
   ·simp
 ·have e:k=n:=by omega
  subst e;simp
theorem Hw(p:Pb) (ix:Int) (word:List Rd) (dec:List Int) (f:Int):FC Tryz.prog 213 [Fp p ix word dec f] (.fn (.func 258) [] [.fp 11 [[iD p.t.n,iD p.t.ins,iD p.t.outs,ja p.t.cases,iD p.a.n,gQ p.a.states,iD p.rounds,iD ix,bK word,aT dec,iD f]] 0 0]):=by
 refine an Tryz.func213 rfl rfl rfl Tryz.call213 [] [] rfl 1 (fun hb w0 G0=>?_);simp
theorem C4(p:Pb) (ix:Int) (word:List Rd) (dec:List Int) (f:Int) (n:Nat) (hn:p.t.n=n) (hn5:n<=5) (hl:dec.length=n):FC Tryz.prog 135 [Fp p ix word dec f] (.tup [iD (undecE n f dec),bD (decide (0<=undecE n f dec))]):=by
 refine an Tryz.func135 rfl rfl rfl Tryz.call135 [] [] rfl 1 (fun hb w0 G0=>?_);generalize hr:undecE n f dec=q;unfold undecE at hr;simp;refine ap (Hw p ix word dec f) ?_;simp;have hq:=EI p ix word dec f n hn hn5;have aG:=fun (i:Nat) (h:i<(aW n f).length)=>pF h
 refine dX hq [1,2,3] [0,1] (fun _=>[]) (fun _=>[]) (fun i=>∀ j,j<i->(fun p=>decide (dec.getD p 0<0)) ((aW n f).getD j 0)=false) (fun j hj=>by omega) rfl (fun ds h=>by obtain⟨x,_,rfl⟩:=List.mem_map.1 h;rfl) (.inl rfl) (by simp) (fun i ds hi hC l2 r2 r' J' pr' fr' _=>?_) (fun hC=>?_)
 ·obtain⟨fR,rfl⟩:=List.getElem?_eq_some_iff.1 hi;have jD:i<(aW n f).length:=by simpa using fR
  rw[List.getElem_map];have hp:=(aG i jD).1;have xS:=@t9 n f (fun p=>decide (dec.getD p 0<0)) i jD hC
  have uN:=fun (h:(fun p=>decide (dec.getD p 0<0)) ((aW n f).getD i 0)=false)=>(fun j hj=>by
   rcases (by omega:j<i\/j=i) with e|e
   ·exact hC j e
   ·subst e;exact h:∀ j,j<i+1->(fun p=>decide (dec.getD p 0<0)) ((aW n f).getD j 0)=false)
  rw[show (aW n f).getD i 0=(aW n f)[i] by simp[jD]]at xS uN;generalize (aW n f)[i]=k at hp xS uN ⊢;have hk:k<dec.length:=by omega
  simp[hk]
  (refine Bz.split (fun h=>?_) (fun h=>?_)<;>(try simp only[decide_eq_true_eq,decide_eq_false_iff_not,Bool.not_eq_true',Bool.not_eq_false',beq_iff_eq,bne_iff_ne,beq_eq_false_iff_ne,bne_eq_false_iff_eq,Bool.not_not,Bool.and_eq_true,Bool.or_eq_true,Bool.and_eq_false_iff,Bool.or_eq_false_iff]at h))
  ·have:=xS (by simp[hk,h]);simp;rw[<-hr,this];simp
  ·simp;exact⟨fun j hj=>by simpa using uN (by simp[hk];omega) j hj,[0,1],by simp⟩
 ·rw[List.length_map]at hC;simp;rw[<-hr,rm hC];simp
structure JdOk (p:Pb) (ix:Int) (word:List Rd) (dec:List Int) (n:Nat):Prop where
 ha:advE p.a=0
 hn:p.t.n=n
 hn5:n<=5
 hl:dec.length=n
 wl:word.length<=17592186044416
 wi:∀ r∈word,eD r
 di:∀ x∈dec,cV x
 ci:∀ c∈p.t.cases,kf c
 cl:p.t.cases.length<=17592186044416
 al:(aP p.t ix (faultyS word)).length<=1024/\∀ v∈aP p.t ix (faultyS word),v.length=n
theorem Nj(p:Pb) (ix:Int) (word:List Rd) (dec:List Int) (n:Nat) (ok:JdOk p ix word dec n):FC Tryz.prog 77 [Fp p ix word dec (faultyS word)] (.tup [iD (nE p ix word dec).1,iD (nE p ix word dec).2]):=by
 refine an Tryz.func77 rfl rfl rfl Tryz.call77 [] [] rfl 1 (fun hb w0 G0=>?_);have h1:=EH p ix word dec (faultyS word) ok.ha ok.wl ok.wi;have h2:=C4 p ix word dec (faultyS word) n ok.hn ok.hn5 ok.hl;have h3:=KE p ix word dec (faultyS word) n ok.hn ok.hn5 ok.hl ok.di ok.ci ok.cl ok.al;have hn:=ok.hn;generalize hr:nE p ix word dec=q;unfold nE at hr;rw[hn,Int.toNat_natCast]at hr;clear ok hn;generalize schedB p word=b1 at h1 hr;generalize undecE n (faultyS word) dec=u2 at h2 hr;generalize outpE n (faultyS word) dec (aP p.t ix (faultyS word))=u3 at h3 hr;generalize faultyS word=f at h1 h2 h3 ⊢;simp;refine am [1,11,12] [] (fun k:Nat=>[(13,.d (iD k))]) (fun _=>[]) (fun k=>3 - k) (fun k=>k<=3/\(0<k->b1=false)/\(1<k->¬ 0<=u2)/\(2<k->¬ 0<=u3)) 0 ⟨by omega,by omega,by omega,by omega⟩ (by simp) (fun k hk=>?_);obtain⟨hk,dw,bV,mv⟩:=hk;rcases (by omega:k=0\/k=1\/k=2\/k=3) with e|e|e|e<;>subst e
 ·simp;refine ap h1 ?_;cases b1<;>simp at hr ⊢
  ·exact ar.of 1 [] (by simp) (by simp)
  ·rw[<-hr];simp
 ·simp;refine ap h2 ?_;have:=dw (by omega);subst this;simp
  (refine Bz.split (fun h5=>?_) (fun h5=>?_)<;>(try simp only[decide_eq_true_eq,decide_eq_false_iff_not,Bool.not_eq_true',Bool.not_eq_false',beq_iff_eq,bne_iff_ne,beq_eq_false_iff_ne,bne_eq_false_iff_eq,Bool.not_not,Bool.and_eq_true,Bool.or_eq_true,Bool.and_eq_false_iff,Bool.or_eq_false_iff]at h5))
  ·rw[if_neg (by decide),if_pos h5]at hr;simp;rw[<-hr];simp
  ·simp;exact ar.of 2 [] (by simp) ⟨⟨by omega,by simp,by omega,by omega⟩,by omega⟩
 ·simp;refine ap h3 ?_;have:=dw (by omega);subst this;simp
  (refine Bz.split (fun h5=>?_) (fun h5=>?_)<;>(try simp only[decide_eq_true_eq,decide_eq_false_iff_not,Bool.not_eq_true',Bool.not_eq_false',beq_iff_eq,bne_iff_ne,beq_eq_false_iff_ne,bne_eq_false_iff_eq,Bool.not_not,Bool.and_eq_true,Bool.or_eq_true,Bool.and_eq_false_iff,Bool.or_eq_false_iff]at h5))
  ·rw[if_neg (by decide),if_neg (bV (by omega)),if_pos h5]at hr;simp;rw[<-hr];simp
  ·simp;exact ar.of 3 [] (by simp) ⟨⟨by omega,by simp,fun _=>bV (by omega),by omega⟩,by omega⟩
 ·simp;rw[<-hr,dw (by omega),if_neg (by decide),if_neg (bV (by omega)),if_neg (mv (by omega))];simp
theorem Fq{α β:Type} (x:α × β):∃ a b,x=(a,b):=⟨x.1,x.2,rfl⟩
theorem RW{p:Pb} {t:Tr} (hp:bg p=0) (ht:hZ t=0) (hf:¬ findE p.t t.inp<0) (hc:∀ c∈p.t.cases,kf c):∃ n:Nat,JdOk p (findE p.t t.inp) t.word t.dec n:=by
 obtain⟨h1,h2,-,-,-⟩:=cy hp;obtain⟨-,-,k3,k4,k5,k6⟩:=MM ht;have oO:=LH h1 hf;have htk:=dL h1;have FX:=Eo h1 (findE p.t t.inp) (faultyS t.word);refine⟨p.t.n.toNat,h2,by omega,by omega,by omega,by omega,k4,k6,hc,by omega,FX.1,fun v hv=>?_⟩;have:=FX.2 v hv;omega
theorem Hx(p:Pb) (m:Mac) (t:Tr) (hm:az p.a.states<=1099511627776) (hc:∀ c∈p.t.cases,kf c) (fT:∀ x∈t.msgs,x.bs.size<=140737488351232):FC Tryz.prog 27 [eI p,eT m,oM t] (.tup [iD (mT p m t).1,iD (mT p m t).2]):=by
 refine an Tryz.func27 rfl rfl rfl Tryz.call27 [] [] rfl 1 (fun hb w0 G0=>?_);generalize hr:mT p m t=q;unfold mT at hr;simp;refine ap (m5 p hm) ?_;simp
 (refine Bz.split (fun h0=>?_) (fun h0=>?_)<;>(try simp only[decide_eq_true_eq,decide_eq_false_iff_not,Bool.not_eq_true',Bool.not_eq_false',beq_iff_eq,bne_iff_ne,beq_eq_false_iff_ne,bne_eq_false_iff_eq,Bool.not_not,Bool.and_eq_true,Bool.or_eq_true,Bool.and_eq_false_iff,Bool.or_eq_false_iff]at h0))<;>simp[h0]
 ·rw[if_pos h0]at hr;rw[<-hr];simp
 rw[if_neg (by omega)]at hr;refine ap (mm m) ?_;simp
 (refine Bz.split (fun h1=>?_) (fun h1=>?_)<;>(try simp only[decide_eq_true_eq,decide_eq_false_iff_not,Bool.not_eq_true',Bool.not_eq_false',beq_iff_eq,bne_iff_ne,beq_eq_false_iff_ne,bne_eq_false_iff_eq,Bool.not_not,Bool.and_eq_true,Bool.or_eq_true,Bool.and_eq_false_iff,Bool.or_eq_false_iff]at h1))<;>simp[h1]
 ·rw[if_pos h1]at hr;rw[<-hr];simp
 rw[if_neg (by omega)]at hr;refine cw (decide (m.n=p.t.n)) (fun d0=>?_) (fun d0=>?_)
 ·have:=of_decide_eq_false d0;rw[if_pos (by omega)]at hr;simp[d0];rw[<-hr];simp
 refine cw (decide (m.rounds=p.rounds)) (fun d1=>?_) (fun d1=>?_)
 ·have:=of_decide_eq_false d1;rw[if_pos (by omega)]at hr;simp[d0,d1];rw[<-hr];simp
 refine cw (decide (m.ins=p.t.ins)) (fun d2=>?_) (fun d2=>?_)
 ·have:=of_decide_eq_false d2;rw[if_pos (by omega)]at hr;simp[d0,d1,d2];rw[<-hr];simp
 refine cw (decide (m.outs=p.t.outs)) (fun d3=>?_) (fun d3=>?_)
 ·have:=of_decide_eq_false d3;rw[if_pos (by omega)]at hr;simp[d0,d1,d2,d3];rw[<-hr];simp
 have c0:=of_decide_eq_true d0;have c1:=of_decide_eq_true d1;have c2:=of_decide_eq_true d2;have c3:=of_decide_eq_true d3;rw[if_neg (by omega)]at hr;clear c0 c1 c2 c3;simp[d0,d1,d2,d3];refine ap (zX t fT) ?_;simp
 (refine Bz.split (fun h2=>?_) (fun h2=>?_)<;>(try simp only[decide_eq_true_eq,decide_eq_false_iff_not,Bool.not_eq_true',Bool.not_eq_false',beq_iff_eq,bne_iff_ne,beq_eq_false_iff_ne,bne_eq_false_iff_eq,Bool.not_not,Bool.and_eq_true,Bool.or_eq_true,Bool.and_eq_false_iff,Bool.or_eq_false_iff]at h2))<;>simp[h2]
 ·rw[if_pos h2]at hr;rw[<-hr];simp
 rw[if_neg (by omega)]at hr;have OG:=Ni p.t t.inp;by_cases h3:findE p.t t.inp<0
 ·rw[if_pos h3]at hr;rw[if_pos h3,if_pos h3]at OG;refine ap OG ?_;simp;rw[<-hr];simp
 rw[if_neg h3]at hr;obtain⟨n,jd⟩:=RW (by omega) (by omega) h3 hc;have hj:=Nj p (findE p.t t.inp) t.word t.dec n jd;obtain⟨kd,pr,hJ⟩:=Fq (nE p (findE p.t t.inp) t.word t.dec);rw[hJ]at hj hr;dsimp only at hj hr;rw[if_neg h3,if_neg h3]at OG;refine ap OG ?_;simp;refine ap (EG p (findE p.t t.inp) t.word t.dec) ?_;simp;have hrp:=Kq m t fT;refine ap hj ?_;simp;refine cw (decide (kd=0)) (fun d4=>?_) (fun d4=>?_)
 ·have:=of_decide_eq_false d4;rw[if_neg (by omega)]at hr;simp[d4];rw[<-hr];simp
 have c4:=of_decide_eq_true d4;simp[d4];refine ap hrp ?_;simp
 (refine Bz.split (fun h5=>?_) (fun h5=>?_)<;>(try simp only[decide_eq_true_eq,decide_eq_false_iff_not,Bool.not_eq_true',Bool.not_eq_false',beq_iff_eq,bne_iff_ne,beq_eq_false_iff_ne,bne_eq_false_iff_eq,Bool.not_not,Bool.and_eq_true,Bool.or_eq_true,Bool.and_eq_false_iff,Bool.or_eq_false_iff]at h5))<;>simp
 ·rw[if_pos ⟨c4,h5⟩]at hr;rw[<-hr];simp
 ·rw[if_neg (by omega)]at hr;rw[<-hr];simp
theorem zZ(c:Cs) (z:List Int):FC Tryz.prog 185 [.agg (sA c),aT z] (iD (ordV c.inp z)):=by
 refine an Tryz.func185 rfl rfl rfl Tryz.call185 [] [] rfl 1 (fun hb w0 G0=>?_);simp;refine ap (kY _ _) ?_;simp
theorem PI(t:Tk) (z:List Int) (bQ:t.cases.length<=1024) (Dl:∀ j i,i<j->j<t.cases.length->ordV (t.cases.getD i default).inp (t.cases.getD j default).inp<0) :
  FR Tryz.prog 184 [ja t.cases,aT z,.v (.func (.func 185) #[] #[])] (fun r=>∃ i:Nat,r=.tup [iD i,bD (decide (i<t.cases.length/\ordV (t.cases.getD i default).inp z=0))]/\i<=t.cases.length/\(∀ k,k<i->ordV (t.cases.getD k default).inp z<0)/\(∀ k,i<=k->k<t.cases.length->0<=ordV (t.cases.getD k default).inp z)):=by
 refine xa Tryz.func184 rfl rfl rfl Tryz.call184 [] [] rfl 1 (fun hb w0 G0=>?_);simp;refine am [0,1,2,8] [] (fun x:Nat × Nat=>[(9,.d (iD x.1)),(10,.d (iD x.2))]) (fun _=>[]) (fun x=>x.2 - x.1) (fun x=>x.1<=x.2/\x.2<=t.cases.length/\(∀ k,k<x.1->ordV (t.cases.getD k default).inp z<0)/\(∀ k,x.2<=k->k<t.cases.length->0<=ordV (t.cases.getD k default).inp z)) (0,t.cases.length) ⟨by simp,by simp,fun k hk=>by simp at hk,fun k h1 h2=>by simp at h1;omega⟩ (by simp) (fun x hx=>?_);obtain⟨i,j⟩:=x;obtain⟨h1,h2,h3,h4⟩:=hx;dsimp only at h1 h2 h3 h4;obtain⟨k,hk⟩:∃ k,k=(i+j) / 2:=⟨_,rfl⟩
 have hw:IntKind.i64.wrap (IntKind.u64.wrap ((i:Int)+(j:Int)) / 2)=(k:Int):=by
  rw[show IntKind.u64.wrap ((i:Int)+(j:Int))=(i:Int)+j by unfold IntKind.wrap;simp[IntKind.bits,IntKind.signed];omega,IntWalk.i64_in _ (by omega)];omega
 simp
 (refine Bz.split (fun h=>?_) (fun h=>?_)<;>(try simp only[decide_eq_true_eq,decide_eq_false_iff_not,Bool.not_eq_true',Bool.not_eq_false',beq_iff_eq,bne_iff_ne,beq_eq_false_iff_ne,bne_eq_false_iff_eq,Bool.not_not,Bool.and_eq_true,Bool.or_eq_true,Bool.and_eq_false_iff,Bool.or_eq_false_iff]at h))
 ·have ot:k<t.cases.length:=by omega
  simp[hw,ot]
  repeat refine vg ?_
  refine vg ?_ (by decide);have hT:=zZ t.cases[k] z;have hE:ordV (t.cases.getD k default).inp z=ordV t.cases[k].inp z:=by rw[aj default ot]
  refine ap hT ?_;simp
  (refine Bz.split (fun h5=>?_) (fun h5=>?_)<;>(try simp only[decide_eq_true_eq,decide_eq_false_iff_not,Bool.not_eq_true',Bool.not_eq_false',beq_iff_eq,bne_iff_ne,beq_eq_false_iff_ne,bne_eq_false_iff_eq,Bool.not_not,Bool.and_eq_true,Bool.or_eq_true,Bool.and_eq_false_iff,Bool.or_eq_false_iff]at h5))
  ·simp;refine vg (ar.of (k+1,j) [] (by simp) ⟨⟨by dsimp only;omega,h2,fun q hq=>?_,h4⟩,by dsimp only;omega⟩);dsimp only at hq;rcases (by omega:q=k\/q<k) with e|e
   ·subst e;rw[hE];exact h5
   ·have:=Dl k q e ot;have h6:ordV (t.cases.getD k default).inp z<0:=by rw[hE];exact h5
    exact gJ this h6
  ·simp;refine ar.of (i,k) [] (by simp) ⟨⟨by dsimp only;omega,by dsimp only;omega,h3,fun q hq hql=>?_⟩,by dsimp only;omega⟩;dsimp only at hq;rcases (by omega:q=k\/k<q) with e|e
   ·subst e;rw[hE];omega
   ·by_cases hz:ordV (t.cases.getD q default).inp z<0
    ·have:=gJ (Dl q k e hql) hz;rw[hE]at this;omega
    ·omega
 ·have p6:i=j:=by omega
  subst p6;simp;refine cw (decide (i<t.cases.length)) (fun d=>?_) (fun d=>?_)
  ·have:=of_decide_eq_false d;simp[d];exact⟨i,⟨rfl,fun e=>absurd e this⟩,by omega,h3,h4⟩
  ·have hi:=of_decide_eq_true d;have hT:=zZ t.cases[i] z;have hE:ordV (t.cases.getD i default).inp z=ordV t.cases[i].inp z:=by rw[aj default hi]
   simp[d,hi];refine ap hT ?_;simp;refine⟨i,⟨rfl,?_⟩,by omega,h3,h4⟩;simp[hi]
theorem FR.mono{P:Program} {f:FuncId} {args:List D} {p q:D->Prop} (h:FR P f args p) (te:∀ r,p r->q r):FR P f args q:=
 ⟨h.1,fun G us w h1 h2 h3=>(h.2 G us w h1 h2 h3).mono fun _ _ ⟨r,v,G',hp,q1⟩=>⟨r,v,G',te r hp,q1⟩⟩
theorem Nk(t:Tk) (z:List Int) (h0:taskE t=0) :
  FR Tryz.prog 184 [ja t.cases,aT z,.v (.func (.func 185) #[] #[])] (fun r=>(∃ i:Nat,findE t z=i/\r=.tup [iD i,bD true])\/(findE t z=-1/\∃ i:Nat,r=.tup [iD i,bD false])):=
 (PI t z (dL h0).2.2.2.1.2 (Bj h0)).mono fun r ⟨i,e,h1,h2,h3⟩=>by
  have hf:=LK h1 h2 h3 (Bj h0);by_cases hc:i<t.cases.length/\ordV (t.cases.getD i default).inp z=0
  ·rw[if_pos hc]at hf;rw[decide_eq_true hc]at e;exact .inl ⟨i,hf,e⟩
  ·rw[if_neg hc]at hf;rw[decide_eq_false hc]at e;exact .inr ⟨hf,i,e⟩
theorem uJ(t:Tk) (z:List Int):FC Tryz.prog 104 [zA t,aT z] (.tup [iD (jM t z).1,iD (jM t z).2]):=by
 refine an Tryz.func104 rfl rfl rfl Tryz.call104 [] [] rfl 1 (fun hb w0 G0=>?_);generalize hr:jM t z=q;unfold jM AO at hr;simp;refine ap (zH t) ?_;simp
 (refine Bz.split (fun h=>?_) (fun h=>?_)<;>(try simp only[decide_eq_true_eq,decide_eq_false_iff_not,Bool.not_eq_true',Bool.not_eq_false',beq_iff_eq,bne_iff_ne,beq_eq_false_iff_ne,bne_eq_false_iff_eq,Bool.not_not,Bool.and_eq_true,Bool.or_eq_true,Bool.and_eq_false_iff,Bool.or_eq_false_iff]at h))<;>simp[h]
 ·rw[if_pos h]at hr;rw[<-hr];simp
 rw[if_neg (by omega)]at hr;refine Jo (Nk t z (by omega)) (fun r uU=>Or.elim uU (fun h2=>Exists.elim h2 fun i h3=>?_) (fun h2=>Exists.elim h2.2 fun i h3=>?_))
 ·rw[h3.1,if_neg (by omega)]at hr;rw[h3.2];simp;rw[<-hr];simp
 ·rw[h2.1,if_pos (by decide)]at hr;rw[h3];simp;rw[<-hr];simp
theorem sL(p:Pb) (word:List Rd) (ha:advE p.a=0) (hl:word.length<=17592186044416) (hw:∀ r∈word,eD r):FC Tryz.prog 105 [eI p,bK word] (bD (permB p word)):=by
 refine an Tryz.func105 rfl rfl rfl Tryz.call105 [] [] rfl 1 (fun hb w0 G0=>?_);have hA:=zD p.a word ha hl hw;have e1:(cz p.a word).2=0:=by unfold cz;rw[if_neg (by omega)]
 have e2:(cz p.a word).1=decide (0<=aQ p.a 0 word):=by unfold cz;rw[if_neg (by omega)]
 rw[e1,e2]at hA;unfold permB;generalize decide (0<=aQ p.a 0 word)=b at hA ⊢;simp
 (refine Bz.split (fun h=>?_) (fun h=>?_)<;>(try simp only[decide_eq_true_eq,decide_eq_false_iff_not,Bool.not_eq_true',Bool.not_eq_false',beq_iff_eq,bne_iff_ne,beq_eq_false_iff_ne,bne_eq_false_iff_eq,Bool.not_not,Bool.and_eq_true,Bool.or_eq_true,Bool.and_eq_false_iff,Bool.or_eq_false_iff]at h))<;>simp[h]
 refine ap hA ?_;simp;cases b<;>simp<;>omega
theorem vS(p:Pb) (x:Py) (hp:bg p=0) (hl:x.word.length<=17592186044416) (hw:∀ r∈x.word,eD r):FC Tryz.prog 54 [eI p,gy x] (iD (rightE p x)):=by
 refine an Tryz.func54 rfl rfl rfl Tryz.call54 [] [] rfl 1 (fun hb w0 G0=>?_);obtain⟨h1,h2,-,-,-⟩:=cy hp;have hP:=sL p x.word h2 hl hw;have hF:=uJ p.t x.inp;have e:(jM p.t x.inp).2=if findE p.t x.inp<0 then 6 else 0:=by unfold jM AO;rw[if_neg (by omega)];split<;>rfl
 rw[e]at hF;generalize (jM p.t x.inp).1=f1 at hF;unfold rightE;generalize findE p.t x.inp=f at hF ⊢;generalize permB p x.word=b at hP ⊢;by_cases hf:f<0
 ·rw[if_pos hf]at hF;rw[if_pos hf];simp;refine ap hF ?_;simp
 ·rw[if_neg hf]at hF;rw[if_neg hf];simp;refine ap hF ?_;simp;refine ap hP ?_;cases b<;>simp
def nW(p:Pb) (m:Mac) (x:Py):Tr × Int × Bool:=
 if playE m x.inp x.word≠0 then(noTr,0,false) else if (mT p m (madeT m x.inp x.word)).2≠0 then(noTr,0,false) else(madeT m x.inp x.word,(mT p m (madeT m x.inp x.word)).1,true)
theorem Nl{m:Mac} {inputs:List Int} {word:List Rd} {n r:Nat} (h:PlayOk m inputs word n r):∀ x∈(madeT m inputs word).msgs,x.bs.size<=140737488351232:=fun x hx=>by
 obtain⟨y,hy,rfl⟩:=List.mem_map.1 hx;have ij:=h.good.hn;rw[ij,Int.toNat_natCast]at hy;obtain⟨h1,h2,h3⟩:=uj hy;have h4:=wz hy;obtain⟨k,p,q⟩:=y;dsimp only at h1 h2 h3 h4;have h5:=h.good.n5;have h6:=h.good.r6;have tv:=h.wl;have h7:=h.fits (k:=k) (by omega) h2;unfold yh;dsimp only;generalize ((gv m inputs word).getD k []).getD p 0=s at h7;have h8:=h.good.symr k p q s.toNat (by omega) h2 h3 (by rw[h.good.yq k p q (by omega) h2 h3,if_neg h4];omega);have h9:(iV (symS m k p q s).toNat).length<=64:=vx _ (by unfold symS;omega)
 show (vl k p q (symS m k p q s).toNat).toArray.size<=_
 simp only[vl,tD,List.size_toArray,List.length_append,List.length_cons,List.length_nil];omega
theorem z3(p:Pb) (m:Mac) (x:Py) (hm:az p.a.states<=1099511627776) (hc:∀ c∈p.t.cases,kf c):FC Tryz.prog 51 [eI p,eT m,gy x] (.tup [oM (nW p m x).1,iD (nW p m x).2.1,bD (nW p m x).2.2]):=by
 refine an Tryz.func51 rfl rfl rfl Tryz.call51 [] [] rfl 1 (fun hb w0 G0=>?_);generalize hr:nW p m x=q;unfold nW at hr;have hS:=sJ m x.inp x.word;by_cases h0:playE m x.inp x.word=0
 ·rw[if_neg (by omega)]at hr;obtain⟨n,r,ok⟩:=wy h0;have hV:=Hx p m (madeT m x.inp x.word) hm hc (Nl ok);have e:pm m x.inp x.word=madeT m x.inp x.word:=by unfold pm;rw[if_pos h0]
  rw[e,h0]at hS;generalize madeT m x.inp x.word=T at hS hV hr;obtain⟨kd,er,hJ⟩:=Fq (mT p m T);rw[hJ]at hV hr;dsimp only at hV hr;clear ok;simp;refine ap hS ?_;simp;refine ap hV ?_;simp
  (refine Bz.split (fun h1=>?_) (fun h1=>?_)<;>(try simp only[decide_eq_true_eq,decide_eq_false_iff_not,Bool.not_eq_true',Bool.not_eq_false',beq_iff_eq,bne_iff_ne,beq_eq_false_iff_ne,bne_eq_false_iff_eq,Bool.not_not,Bool.and_eq_true,Bool.or_eq_true,Bool.and_eq_false_iff,Bool.or_eq_false_iff]at h1))<;>simp
  ·rw[if_pos h1]at hr;rw[<-hr];simp[noTr]
  ·rw[if_neg (by omega)]at hr;rw[<-hr];simp
 ·rw[if_pos h0]at hr;have hd:decide (playE m x.inp x.word=0)=false:=decide_eq_false h0;generalize playE m x.inp x.word=er at hS hd;simp;refine ap hS ?_;simp[hd];rw[<-hr];simp[noTr]
theorem PJ(n:Int) (a b:Rd) (ha:OkR n a) (hb:OkR n b):FC Tryz.prog 108 [mJ a,mJ b] (bD (iH a b)):=by
 refine an Tryz.func108 rfl rfl rfl Tryz.call108 [] [] rfl 1 (fun N5 w0 G0=>?_);clear N5;generalize hr:iH a b=q;unfold iH at hr;have oY:=hb.n1;rw[hb.gn]at hr;obtain⟨m,rfl⟩:∃ m:Nat,n=m:=⟨n.toNat,by omega⟩;rw[Int.toNat_natCast]at hr;simp;refine am [2,3,8] [] (fun k:Nat=>[(9,.d (iD k))]) (fun _=>[]) (fun k=>m - k) (fun k=>k<=m/\anyLt k (fun q=>!bF (b.g.hear q) (a.g.hear q))=false) 0 ⟨by omega,rfl⟩ (by simp) (fun k hk=>?_);obtain⟨hk,hj⟩:=hk;have hgn:=hb.gn;simp
 (refine Bz.split (fun h=>?_) (fun h=>?_)<;>(try simp only[decide_eq_true_eq,decide_eq_false_iff_not,Bool.not_eq_true',Bool.not_eq_false',beq_iff_eq,bne_iff_ne,beq_eq_false_iff_ne,bne_eq_false_iff_eq,Bool.not_not,Bool.and_eq_true,Bool.or_eq_true,Bool.and_eq_false_iff,Bool.or_eq_false_iff]at h))
 ·have h5:k<5:=by omega
  have hA:=ha.h k h5;have hB:=hb.h k h5;have cg:=ic (b.g.hear k) (a.g.hear k) hB.1 hB.2 hA.1 hA.2;simp[h5];refine aO 12 ?_;simp[h5]
  repeat refine vg ?_
  have yY:decide (bits .andNot .i64 (b.g.hear k) (a.g.hear k)=0)=bF (b.g.hear k) (a.g.hear k):=by
   cases h9:bF (b.g.hear k) (a.g.hear k)<;>rw[h9]at cg<;>simpa using cg
  refine cw (decide (bits .andNot .i64 (b.g.hear k) (a.g.hear k)=0)) (fun d=>?_) (fun d=>?_)
  ·rw[d]at yY;simp[d];rw[<-hr,aD m k _ (by omega) (by rw[<-yY];rfl)];rfl
  ·rw[d]at yY;simp[d];exact vg (ar.of (k+1) [] (by simp) ⟨⟨by omega,aR hj (by rw[<-yY];rfl)⟩,by omega⟩)
 ·have e:k=m:=by omega
  subst e;rw[hj]at hr;have cg:=ic a.f b.f ha.f.1 ha.f.2 hb.f.1 hb.f.2
  have yY:decide (bits .andNot .i64 a.f b.f=0)=bF a.f b.f:=by
   cases h9:bF a.f b.f<;>rw[h9]at cg<;>simpa using cg
  rw[<-yY]at hr;simp;refine sE _ _ (decide (a.g=b.g)) rfl rfl (fun w=>nj 9997 a.g b.g w) ?_;simp;refine cw (decide (a.g=b.g)) (fun d=>?_) (fun d=>?_)
  ·have:=of_decide_eq_false d;simp[d];rw[<-hr];simp[this]
  ·have:=of_decide_eq_true d;simp[d];rw[<-hr];simp[this]
theorem Nm(word:List Rd) (k:Nat):FC Tryz.prog 107 [bK word,iD k] (.fn (.func 190) [] [.fp 1 [[bK word]] 0 0,.fp 1 [[iD k]] 0 0]):=by
 refine an Tryz.func107 rfl rfl rfl Tryz.call107 [] [] rfl 1 (fun hb w0 G0=>?_);simp
theorem Nn(l:List Int) (k:Nat):FC Tryz.prog 109 [aT l,iD k] (.fn (.func 191) [] [.fp 1 [[aT l]] 0 0,.fp 1 [[iD k]] 0 0]):=by
 refine an Tryz.func109 rfl rfl rfl Tryz.call109 [] [] rfl 1 (fun hb w0 G0=>?_);simp
theorem KF(word:List Rd) (k:Nat) (r:Rd) (hk:k<word.length) (hl:word.length<=1048576):FC Tryz.prog 190 [mJ r,.fp 1 [[bK word]] 0 0,.fp 1 [[iD k]] 0 0] (bK (word.set k r)):=by
 refine an Tryz.func190 rfl rfl rfl Tryz.call190 [] [] rfl 1 (fun hb w0 G0=>?_);simp;refine Ck (CP word (by omega)) ?_;simp[hk]
 repeat refine vg ?_
 omega
theorem KG(l:List Int) (k:Nat) (v:Int) (hk:k<l.length) (hl:l.length<=1048576):FC Tryz.prog 191 [iD v,.fp 1 [[aT l]] 0 0,.fp 1 [[iD k]] 0 0] (aT (l.set k v)):=by
 refine an Tryz.func191 rfl rfl rfl Tryz.call191 [] [] rfl 1 (fun hb w0 G0=>?_);simp;refine Ck (zT l (by omega)) ?_;simp[hk]
 repeat refine vg ?_
 omega
abbrev ry(y:Py):List D:=[aT y.inp,bK y.word]
theorem nX(p:Pb) (x:Py) (hp:bg p=0) (hx:rightE p x=0):FC Tryz.prog 55 [eI p,gy x] (.fz 2 ((nearS p x).map ry)):=by
 refine an Tryz.func55 rfl rfl rfl Tryz.call55 [] [3] rfl 5 (fun hb w0 G0=>?_);clear hb;obtain⟨ht,ha,hna,k8,uO⟩:=cy hp;have hN:=pP ha;have Dp:=uH hN;have bO:=fun (r:Rd) (h:r∈aU p.a)=>eQ ha h
 obtain⟨tv,sX⟩:=fK hp hx
 have hpermc:=fun (k:Nat) (r:Rd) (hr:OkR p.a.n r)=>sL p (x.word.set k r) ha (by simp;omega) (fun y hy=>by
  rcases List.mem_or_eq_of_mem_set hy with h|h
  ·exact Bs (sX y h)
  ·subst h;exact Bs hr)
 obtain⟨oh,DB⟩:=gA hp hx
 have Ls:∀ q,(x.inp.getD q 0).toNat<=8:=fun q=>by
  by_cases h:q<x.inp.length
  ·have:=DB q h;omega
  ·simp[h]
 simp;refine ap (Hm p.a ha (by omega)) ?_;simp;refine ml 5 55 2 (by simp) ?_;refine vk ?_;simp;refine am [2,3,6,24,25] [] (fun i:Nat=>[(26,.d (iD i)),(5,.sl 0 (mF p x i).length)]) (fun i=>[(0,some (.row 55 2 ((mF p x i).map ry)))]) (fun i=>x.word.length - i) (fun i=>i<=x.word.length) 0 (by omega) (by simp[mF]) (fun i hi=>?_);simp
 (refine Bz.split (fun h=>?_) (fun h=>?_)<;>(try simp only[decide_eq_true_eq,decide_eq_false_iff_not,Bool.not_eq_true',Bool.not_eq_false',beq_iff_eq,bne_iff_ne,beq_eq_false_iff_ne,bne_eq_false_iff_eq,Bool.not_not,Bool.and_eq_true,Bool.or_eq_true,Bool.and_eq_false_iff,Bool.or_eq_false_iff]at h))
 ·have je:=Kv p x i;have aX:=Nb p x i;have kh:=sX x.word[i] (List.getElem_mem h);have hrR:=Nm x.word i;simp[h];refine ap hrR ?_;simp;refine am [2,3,6,7,8,9,24,25,26,35,36] [1] (fun j:Nat=>[(37,.d (iD j)),(5,.sl 0 (nU p x i j).length)]) (fun j=>[(0,some (.row 55 2 ((nU p x i j).map ry)))]) (fun j=>(aU p.a).length - j) (fun j=>j<=(aU p.a).length) 0 (by omega) (by simp[je]) (fun j hj=>?_);simp
  (refine Bz.split (fun h1=>?_) (fun h1=>?_)<;>(try simp only[decide_eq_true_eq,decide_eq_false_iff_not,Bool.not_eq_true',Bool.not_eq_false',beq_iff_eq,bne_iff_ne,beq_eq_false_iff_ne,bne_eq_false_iff_eq,Bool.not_not,Bool.and_eq_true,Bool.or_eq_true,Bool.and_eq_false_iff,Bool.or_eq_false_iff]at h1))
  ·have hlet:=bO (aU p.a)[j] (List.getElem_mem h1);have bU:=Kw p x i j h1;have bi:=Nd x i j hN;have hm:=PJ p.a.n (aU p.a)[j] x.word[i] hlet kh;have h2:=KF x.word i (aU p.a)[j] h (by omega);have h3:=hpermc i (aU p.a)[j] hlet;rw[aj default h]at bU;obtain⟨c1,tp⟩:∃ c,c=iH (aU p.a)[j] x.word[i]:=⟨_,rfl⟩;rw[<-tp]at hm bU;obtain⟨c2,rH⟩:∃ c,c=permB p (x.word.set i (aU p.a)[j]):=⟨_,rfl⟩;rw[<-rH]at h3 bU;clear tp rH;simp[h1];refine ap hm ?_;refine cw c1 (fun e1=>?_) (fun e1=>?_)
   ·rw[e1]at bU;simp at bU;simp[e1];exact vg (ar.of (j+1) [0,1] (by simp[bU]))
   rw[e1]at bU;simp[e1];refine ap h2 ?_;simp;refine ap h3 ?_;refine cw c2 (fun e2=>?_) (fun e2=>?_)
   ·rw[e2]at bU;simp at bU;simp[e2];exact vg (ar.of (j+1) [0,1] (by simp[bU]))
   rw[e2]at bU;simp at bU;simp[e2];refine ap (mn x.inp (by omega)) ?_;simp;refine vg ?_;exact vg (ar.of (j+1) [3,1] (by simp[bU]))
  ·have e:j=(aU p.a).length:=by omega
   subst e;simp;exact vg (ar.of (i+1) [0] (by simp[aX]))
 ·have e:i=x.word.length:=by omega
  subst e;simp;refine am [2,3,62,63] [] (fun q:Nat=>[(64,.d (iD q)),(5,.sl 0 (mG p x q).length)]) (fun q=>[(0,some (.row 55 2 ((mG p x q).map ry)))]) (fun q=>x.inp.length - q) (fun q=>q<=x.inp.length) 0 (by omega) (by simp[Kz]) (fun q hq=>?_);simp
  (refine Bz.split (fun h=>?_) (fun h=>?_)<;>(try simp only[decide_eq_true_eq,decide_eq_false_iff_not,Bool.not_eq_true',Bool.not_eq_false',beq_iff_eq,bne_iff_ne,beq_eq_false_iff_ne,bne_eq_false_iff_eq,Bool.not_not,Bool.and_eq_true,Bool.or_eq_true,Bool.and_eq_false_iff,Bool.or_eq_false_iff]at h))
  ·have je:=sK p x q;have aX:=Nc p x q;have hv8:=Ls q;have hv:=DB q h;rw[aj 0 h]at aX hv8 hv;have hrI:=Nn x.inp q;obtain⟨n,hn⟩:∃ n:Nat,n=x.inp[q].toNat:=⟨_,rfl⟩;have n9:x.inp[q]=(n:Int):=by omega
   rw[<-hn]at aX;simp[h,n9];refine ap hrI ?_;simp;refine am [2,3,13,15,62,63,64,73] [] (fun v:Nat=>[(74,.d (iD v)),(5,.sl 0 (nV p x q v).length)]) (fun v=>[(0,some (.row 55 2 ((nV p x q v).map ry)))]) (fun v=>n - v) (fun v=>v<=n) 0 (by omega) (by simp[je]) (fun v hv=>?_);simp
   (refine Bz.split (fun h1=>?_) (fun h1=>?_)<;>(try simp only[decide_eq_true_eq,decide_eq_false_iff_not,Bool.not_eq_true',Bool.not_eq_false',beq_iff_eq,bne_iff_ne,beq_eq_false_iff_ne,bne_eq_false_iff_eq,Bool.not_not,Bool.and_eq_true,Bool.or_eq_true,Bool.and_eq_false_iff,Bool.or_eq_false_iff]at h1))
   ·have bU:=Kx p x q v;have bi:=vR x q v hN Ls;have h2:=KG x.inp q v h (by omega);have hF:=uJ p.t (x.inp.set q v);have e:(jM p.t (x.inp.set q v)).2=if findE p.t (x.inp.set q v)<0 then 6 else 0:=by unfold jM AO;rw[if_neg (by omega)];split<;>rfl
    rw[e]at hF;obtain⟨f1,ou⟩:∃ c,c=(jM p.t (x.inp.set q v)).1:=⟨_,rfl⟩;rw[<-ou]at hF;clear ou e;refine cw (decide (0<=findE p.t (x.inp.set q v))) (fun e1=>?_) (fun e1=>?_)
    ·have hneg:=of_decide_eq_false e1;rw[e1]at bU;rw[if_pos (by omega)]at hF;simp at bU;simp;refine ap h2 ?_;simp;refine ap hF ?_;simp;exact vg (ar.of (v+1) [0] (by simp[bU]))
    ·have DG:=of_decide_eq_true e1;rw[e1]at bU;rw[if_neg (by omega)]at hF;simp at bU;simp;refine ap h2 ?_;simp;refine ap hF ?_;simp;refine ap (qW x.word (by omega)) ?_;simp;refine vg ?_;exact vg (ar.of (v+1) [1] (by simp[bU]))
   ·have e:v=n:=by omega
    subst e;simp;exact vg (ar.of (q+1) [0] (by simp[aX]))
  ·have e:q=x.inp.length:=by omega
   subst e;simp;have:=vR x x.inp.length 0 hN Ls;rw[sK]at this;exact⟨by omega,rfl⟩
theorem rz(p:Pb) (x:Py) (hm:az p.a.states<=1099511627776) (hl:x.word.length<=17592186044416) (hw:∀ r∈x.word,eD r):FC Tryz.prog 16 [eI p,gy x] (.tup [.fz 2 ((fI p x).1.map ry),iD (fI p x).2]):=by
 refine an Tryz.func16 rfl rfl rfl Tryz.call16 [] [] rfl 5 (fun hb w0 G0=>?_);clear hb;have hC:=m5 p hm;by_cases h0:bg p=0
 ·have hR:=vS p x h0 hl hw;rw[h0]at hC;by_cases h1:rightE p x=0
  ·have hN:=nX p x h0 h1;have e:fI p x=(nearS p x,0):=by unfold fI;rw[if_neg (by omega),if_neg (by omega)]
   rw[h1]at hR;rw[e];simp;refine ap hC ?_;simp;refine ap hR ?_;simp;refine ap hN ?_;simp
  ·have e:fI p x=([],rightE p x):=by unfold fI;rw[if_neg (by omega),if_pos h1]
   have hd:decide (rightE p x=0)=false:=decide_eq_false h1;rw[e];simp;refine ap hC ?_;simp;refine ap hR ?_;simp[hd]
 ·have e:fI p x=([],bg p):=by unfold fI;rw[if_pos h0]
  have hd:decide (bg p=0)=false:=decide_eq_false h0;rw[e];simp;refine ap hC ?_;simp[hd]
def gd(k:Ky):List AV:=k.c.toList.map fun v=>AV.d (.v v)
theorem PK(l:List Int) (hl:l.length<=5):(gd (f9 [])).take 0++(((l.map fun i=>[iD i]).take 5).flatten.map AV.d)++(gd (f9 [])).drop (0+min (l.map fun i=>[iD i]).length 5 * 1)=gd (f9 l):=by
 rcases l with _|⟨a,_|⟨b,_|⟨c,_|⟨d,_|⟨e,_|⟨f,r⟩⟩⟩⟩⟩⟩
 ·simp[f9,gd]
 ·simp[f9,gd]
 ·simp[f9,gd]
 ·simp[f9,gd]
 ·simp[f9,gd]
 ·simp[f9,gd]
 ·simp at hl
theorem No(l:List Int) (wd:List Rd) (hl:wd.length<=6):(gd (f9 l)).take 5++(((wd.map nQ).take 6).flatten.map AV.d)++(gd (f9 l)).drop (5+min (wd.map nQ).length 6 * 7)=gd (keyOf ⟨l,wd⟩):=by
 rcases wd with _|⟨a,_|⟨b,_|⟨c,_|⟨d,_|⟨e,_|⟨f,_|⟨g,r⟩⟩⟩⟩⟩⟩⟩
 ·simp[f9,keyOf,gd]
 ·simp[f9,keyOf,gd,rdZ]
 ·simp[f9,keyOf,gd,rdZ]
 ·simp[f9,keyOf,gd,rdZ]
 ·simp[f9,keyOf,gd,rdZ]
 ·simp[f9,keyOf,gd,rdZ]
 ·simp[f9,keyOf,gd,rdZ]
 ·simp at hl
theorem yO(k:Ky):(gd k).length=47:=by simp[gd]
def Qn(k:Ky):List D:=k.c.toList.map D.v
theorem PM(k:Ky):allD (List.take 47 (gd k))=some (Qn k):=by simp[gd,Qn,allD]
theorem Np(k:Ky):concs (Qn k)=some k.c.toList:=rfl
attribute [local simp] yO PM Np
abbrev Qo(p:Pb):D:=.fp 7 [[iD p.t.n,iD p.t.ins,iD p.t.outs,ja p.t.cases,iD p.a.n,gQ p.a.states,iD p.rounds]] 0 0
abbrev Qp(m:Mac):D:=.fp 8 [[iD m.n,iD m.rounds,iD m.ins,iD m.outs,ez m.first,N1 m.syms,CE m.steps,xm m.out]] 0 0
def ce(f:List (Ky × D)):List Blk:=[.box 287 [.mp 1],.map (cR Ky.v f)]
def cE(f:List (Ky × D)):List (Option Blk):=[some (.box 287 [.mp 1]),some (.map (cR Ky.v f))]
def vnext(p:Pb) (m:Mac) (f:List (Ky × D)) (x:Py):List (Ky × D):=if (cI f (keyOf x)).isSome then f else f++[(keyOf x,bD (badB p m x))]
def lm(p:Pb) (m:Mac) (f:List (Ky × D)):Prop:=∀ x:Py,rightE p x=0->∀ d,cI f (keyOf x)=some d->d=bD (badB p m x)
theorem Qq(p:Pb) (m:Mac) (x:Py):badB p m x=((nW p m x).2.2&&decide ((nW p m x).2.1≠0)):=by
 unfold badB jn nW;split
 ·simp
 ·split
  ·simp
  ·simp
theorem C5(p:Pb) (m:Mac) (x:Py) (f:List (Ky × D)) (hm:az p.a.states<=1099511627776) (hc:∀ c∈p.t.cases,kf c) (hi:x.inp.length<=5) (hw:x.word.length<=6) (hf:∀ d,cI f (keyOf x)=some d->d=bD (badB p m x)) :
  OC Tryz.prog 198 [.d (gy x),.ptr 0 0 0,.d (Qo p),.d (Qp m)] (ce f) (bD (badB p m x)) (cE (vnext p m f x)):=by
 have hJ:=z3 p m x hm hc;have jh:=Qq p m x;obtain⟨⟨T,kd,ok⟩,hq⟩:∃ q,nW p m x=q:=⟨_,rfl⟩;rw[hq]at hJ jh;dsimp only at hJ jh;have xP:vnext p m f x=if (cI f (keyOf x)).isSome then f else f++[(keyOf x,bD (badB p m x))]:=rfl
 generalize badB p m x=b at jh hf xP ⊢;generalize vnext p m f x=f' at xP ⊢;have FU:=PK x.inp hi;have An:=No x.inp x.word hw;have hkx:keyOf ⟨x.inp,x.word⟩=keyOf x:=rfl;rw[hkx]at An;generalize keyOf x=kx at An hf xP;generalize dw:f9 x.inp=k1 at FU An;refine xh Tryz.func198 rfl rfl rfl Tryz.call198 [6] [] rfl [0,1] (by simp[ce]) (by simp[cE,ce]) (by simp[cE,ce]) (fun w0 G0 E J pr fr yc=>?_);simp[ce,cE];refine aO 4 ?_;simp;refine Fe 2 0 5 290 1 3 (gd (f9 [])) (gd k1) (x.inp.map fun i=>[iD i]) (by kernel_rfl) (by kernel_rfl) (by simp) (by simp[gd,f9,rdZ]) (by simp) (by simp[yO]) FU ?_;simp;refine aO 4 ?_;simp;refine Fe 2 5 6 290 7 109 (gd k1) (gd kx) (x.word.map nQ) (by kernel_rfl) (by kernel_rfl) (by simp) (by simp) (by simp) (by simp[yO]) An ?_;simp;refine B5 kit_ky Tryz.underlying287 (z:=.bool false) (fun w=>by kernel_rfl) 1 f kx (by simp) (by simp) (by simp) ?_;cases hg:cI f kx with
 | some d=>
  obtain rfl:=hf d hg;rw[hg]at xP;simp at xP;rw[xP];simp;exact WR.of [0,1] (by simp) rfl
 | none=>
  rw[hg]at xP;simp at xP;rw[xP];simp;refine ap hJ ?_;simp
  (refine Bz.split (fun h1=>?_) (fun h1=>?_)<;>(try simp only[decide_eq_true_eq,decide_eq_false_iff_not,Bool.not_eq_true',Bool.not_eq_false',beq_iff_eq,bne_iff_ne,beq_eq_false_iff_ne,bne_eq_false_iff_eq,Bool.not_not,Bool.and_eq_true,Bool.or_eq_true,Bool.and_eq_false_iff,Bool.or_eq_false_iff]at h1))
  ·subst h1;simp at jh;simp;refine pN kit_ky Tryz.underlying287 1 f kx (by simp) (by simp) (by simp) (by simp;rfl) hg ?_;rw[jh];simp;exact WR.of [0,1] (by simp) rfl
  ·subst h1;simp at jh;simp;refine pN kit_ky Tryz.underlying287 1 f kx (by simp) (by simp) (by simp) (by simp;rfl) hg ?_;rw[jh];simp;exact WR.of [0,1] (by simp) rfl
def vmap(p:Pb) (m:Mac) (f:List (Ky × D)) (l:List Py):List (Ky × D):=l.foldl (vnext p m) f
theorem z4{p:Pb} {x:Py} (hp:bg p=0) (h:rightE p x=0):(x.inp.length:Int)=p.t.n/\(x.word.length:Int)=p.rounds:=by
 obtain⟨c,hc,e⟩:=zj (dj.1 h).1;exact⟨by rw[<-e];exact(Bq (cy hp).1 hc).1,(jo (dj.1 h).2).1⟩
theorem KH{K:Type} [DecidableEq K] (f:List (K × D)) (q r:K) (c:D):cI (f++[(q,c)]) r=match cI f r with|some d=>some d|none=>if r=q then some c else none:=by
 unfold cI;rw[List.find?_append];cases h:f.find? fun p=>decide (r=p.1) with
 | some d=>simp
 | none=>by_cases e:r=q<;>simp[e]
theorem lm.next{p:Pb} {m:Mac} {f:List (Ky × D)} (hp:bg p=0) (h:lm p m f) {y:Py} (hy:rightE p y=0):lm p m (vnext p m f y):=by
 intro x hx d hd;unfold vnext at hd;split at hd
 ·exact h x hx d hd
 ·rw[KH]at hd;split at hd
  ·rename_i hg;cases hd;exact h x hx _ hg
  ·split at hd
   ·rename_i e;cases hd;have h1:=z4 hp hx;have h2:=z4 hp hy;have h3:=gA hp hx;have h4:=fK hp hx;rw[KC (by omega) h3.1 (by omega) h4.1 e]
   ·cases hd
theorem lm.map{p:Pb} {m:Mac} (hp:bg p=0):∀ (l:List Py) {f:List (Ky × D)},lm p m f->(∀ y∈l,rightE p y=0)->lm p m (vmap p m f l)
 | [],f,h,_=>h
 | y :: l,f,h,hl=>lm.map hp l (h.next hp (hl y (by simp))) (fun z hz=>hl z (by simp[hz]))
def sM(p:Pb) (m:Mac) (l:List Py):Nat:=if firstIx l.length (fun i=>badB p m (l.getD i default))<0 then l.length else(firstIx l.length (fun i=>badB p m (l.getD i default))).toNat+1
abbrev Qr(p:Pb) (m:Mac):AV:=.fn (.func 198) [] [.ptr 0 0 0,.d (Qo p),.d (Qp m)]
theorem KJ(p:Pb) (m:Mac) (l:List Py) (f:List (Ky × D)) (hp:bg p=0) (hm:az p.a.states<=1099511627776) (hc:∀ c∈p.t.cases,kf c) (hf:lm p m f) (hl:∀ x∈l,rightE p x=0) (hn:l.length<=549755813888) :
  OC Tryz.prog 63 [.d (.fz 2 (l.map ry)),Qr p m] (ce f) (iD (firstIx l.length (fun i=>badB p m (l.getD i default)))) (cE (vmap p m f (l.take (sM p m l)))):=by
 have hoc:∀ k (h:k<l.length),OC Tryz.prog 198 [.d (gy l[k]),.ptr 0 0 0,.d (Qo p),.d (Qp m)] (ce (vmap p m f (l.take k))) (bD (badB p m l[k])) (cE (vmap p m f (l.take (k+1)))):=fun k h=>by
  have h1:=hl l[k] (List.getElem_mem h);have h2:=lm.map hp (l.take k) hf (fun y hy=>hl y (List.mem_of_mem_take hy));have h3:=C5 p m l[k] (vmap p m f (l.take k)) hm hc (gA hp h1).1 (fK hp h1).1 (h2 _ h1)
  have e:vnext p m (vmap p m f (l.take k)) l[k]=vmap p m f (l.take (k+1)):=by
   unfold vmap;rw[List.take_succ_eq_append_getElem h,List.foldl_append];rfl
  rwa [e]at h3
 obtain⟨b,N5⟩:∃ b:Nat->Bool,b=fun i=>badB p m (l.getD i default):=⟨_,rfl⟩
 have mr:∀ k (h:k<l.length),badB p m l[k]=b k:=fun k h=>by rw[N5];simp[h]
 obtain⟨v,hv⟩:∃ v,v=sM p m l:=⟨_,rfl⟩;rw[<-hv];unfold sM at hv;rw[<-N5]at hv ⊢;refine xh Tryz.func63 rfl rfl rfl Tryz.call63 [] [] rfl [0,1] (by simp[ce]) (by simp[cE,ce]) (by simp[cE,ce]) (fun w0 G0 E J pr fr yc=>?_);simp[ce,cE];refine am [0,1,7,19,20] [0] (fun k:Nat=>[(8,.d (iD k))]) (fun k=>[(1,some (.map (cR Ky.v (vmap p m f (l.take k)))))]) (fun k=>l.length - k) (fun k=>k<=l.length/\firstIx k b=-1) 0 ⟨by omega,rfl⟩ (by simp[vmap]) (fun k hk=>?_);obtain⟨hk,hj⟩:=hk;simp
 (refine Bz.split (fun h=>?_) (fun h=>?_)<;>(try simp only[decide_eq_true_eq,decide_eq_false_iff_not,Bool.not_eq_true',Bool.not_eq_false',beq_iff_eq,bne_iff_ne,beq_eq_false_iff_ne,bne_eq_false_iff_eq,Bool.not_not,Bool.and_eq_true,Bool.or_eq_true,Bool.and_eq_false_iff,Bool.or_eq_false_iff]at h))
 ·have ho:=hoc k h;have be:=mr k h;rw[be]at ho;simp[h];refine qO ho [0,1] (by simp) (by simp) (by simp) (by simp[ce]) (by simp[cE]) (by simp[cE,ce]) ?_;simp[cE,ce]
  (refine Bz.split (fun h2=>?_) (fun h2=>?_)<;>(try simp only[decide_eq_true_eq,decide_eq_false_iff_not,Bool.not_eq_true',Bool.not_eq_false',beq_iff_eq,bne_iff_ne,beq_eq_false_iff_ne,bne_eq_false_iff_eq,Bool.not_not,Bool.and_eq_true,Bool.or_eq_true,Bool.and_eq_false_iff,Bool.or_eq_false_iff]at h2))
  ·have e:=cD _ k b h (l6 hj) h2;rw[e,if_neg (by omega),Int.toNat_natCast]at hv;rw[e,hv];simp;exact WR.of [0,1] (by simp) rfl
  ·simp;exact vg (ar.of (k+1) [0,1] (by simp) ⟨⟨h,kW hj h2⟩,by omega⟩)
 ·have e:k=l.length:=by omega
  subst e;rw[hj,if_pos (by omega)]at hv;rw[hj,hv];simp;exact WR.of [0,1] (by simp) rfl
theorem Qs(p:Pb) (m:Mac) (l:List Py) (f:List (Ky × D)) (hp:bg p=0) (hm:az p.a.states<=1099511627776) (hc:∀ c∈p.t.cases,kf c) (hf:lm p m f) (hl:∀ x∈l,rightE p x=0) (hn:l.length<=549755813888) :
  OC Tryz.prog 66 [.d (.fz 2 (l.map ry)),Qr p m] (ce f) (bD (decide (0<=firstIx l.length (fun i=>badB p m (l.getD i default))))) (cE (vmap p m f (l.take (sM p m l)))):=by
 have ho:=KJ p m l f hp hm hc hf hl hn;generalize vmap p m f (l.take (sM p m l))=f' at ho ⊢;generalize firstIx l.length (fun i=>badB p m (l.getD i default))=r at ho ⊢;refine xh Tryz.func66 rfl rfl rfl Tryz.call66 [] [] rfl [0,1] (by simp[ce]) (by simp[cE,ce]) (by simp[cE,ce]) (fun w0 G0 E J pr fr yc=>?_);simp[ce,cE];refine qO ho [0,1] (by simp) (by simp) (by simp) (by simp[ce]) (by simp[cE]) (by simp[cE,ce]) ?_;simp[cE,ce];exact WR.of [0,1] (by simp) rfl
theorem C6{p:Pb} {x:Py} (hp:bg p=0) (hx:rightE p x=0):(nearS p x).length<=1048576:=by
 obtain⟨ht,ha,hna,k8,uO⟩:=cy hp;have hN:=pP ha;obtain⟨tv,-⟩:=fK hp hx;obtain⟨oh,DB⟩:=gA hp hx
 have Ls:∀ q,(x.inp.getD q 0).toNat<=8:=fun q=>by
  by_cases h:q<x.inp.length
  ·have:=DB q h;omega
  ·simp[h]
 have:=vR x x.inp.length 0 hN Ls;rw[sK,Na]at this;have h6:x.word.length * 4096<=6 * 4096:=Nat.mul_le_mul_right _ tv;omega
theorem Fr{α:Type} [Inhabited α] (f:α->Bool) (l:List α):(l.find? f=none↔firstIx l.length (fun i=>f (l.getD i default))<0)/\∀ y,l.find? f=some y->0<=firstIx l.length (fun i=>f (l.getD i default))/\∃ h:(firstIx l.length (fun i=>f (l.getD i default))).toNat<l.length,l[(firstIx l.length (fun i=>f (l.getD i default))).toNat]=y:=by
 rcases cn l.length (fun i=>f (l.getD i default)) with ⟨e,hn⟩|⟨k,hk,e,hp,aG⟩
 ·have:l.find? f=none:=by
   rw[List.find?_eq_none];intro y hy;obtain⟨i,hi,rfl⟩:=List.getElem_of_mem hy;have:=hn i hi;simpa[hi] using this
  rw[e,this];exact⟨by simp,fun y h=>by cases h⟩
 ·have hq:l.find? f=some l[k]:=by
   rw[List.find?_eq_some_iff_getElem];refine⟨by simpa[hk] using hp,k,hk,rfl,fun j hj=>?_⟩;have h1:=aG j hj;have:j<l.length:=by omega
   simpa[this] using h1
  rw[e,hq,Int.toNat_natCast];exact⟨by simp,fun y h=>by cases h;exact⟨by omega,hk,rfl⟩⟩
theorem lm.nil(p:Pb) (m:Mac):lm p m []:=fun x _ d h=>by cases h
theorem KK{p:Pb} {m:Mac} {x:Py} (h:bothE p m≠0):ib p m x=bothE p m:=by unfold ib;rw[if_pos h]
theorem KL{p:Pb} {m:Mac} {x:Py} (h:bothE p m=0) (h1:rightE p x≠0):ib p m x=rightE p x:=by unfold ib;rw[if_neg (by simpa using h),if_pos h1]
theorem KM{p:Pb} {m:Mac} {x:Py} (h:bothE p m=0) (h1:rightE p x=0) (h2:jn p m x=0):ib p m x=21:=by unfold ib;rw[if_neg (by simpa using h),if_neg (by simpa using h1),if_pos h2]
theorem KN{p:Pb} {m:Mac} {x:Py} (h:bothE p m=0) (h1:rightE p x=0) (h2:jn p m x≠0):ib p m x=0:=by unfold ib;rw[if_neg (by simpa using h),if_neg (by simpa using h1),if_neg h2]
theorem Hy(p:Pb) (m:Mac) (x:Py) (hm:az p.a.states<=1099511627776) (hc:∀ c∈p.t.cases,kf c) (hl:x.word.length<=17592186044416) (hw:∀ r∈x.word,eD r):FC Tryz.prog 23 [eI p,eT m,gy x] (.tup [bD (eC p m x).1,iD (eC p m x).2]):=by
 have hB:=oL p m hm;by_cases h0:bothE p m=0
 case neg=>
  have e:eC p m x=(false,bothE p m):=by unfold eC;rw[KK h0,if_pos h0]
  have hd:decide (bothE p m=0)=false:=decide_eq_false h0;rw[e];generalize bothE p m=er at hB hd;refine an Tryz.func23 rfl rfl rfl Tryz.call23 [] [] rfl 1 (fun hb w0 G0=>?_);clear hb;simp;refine jv Tryz.func60 rfl rfl rfl Tryz.call60 [] [] (by simp) (fun pr fr=>?_);simp;refine ap hB ?_;simp[hd]
 have hp:bg p=0:=by
  unfold bothE at h0;split at h0
  ·rename_i h;exact absurd h0 h
  ·rename_i h;simpa using h
 have hR:=vS p x hp hl hw;rw[h0]at hB;by_cases h1:rightE p x=0
 case neg=>
  have e:eC p m x=(false,rightE p x):=by unfold eC;rw[KL h0 h1,if_pos h1]
  have hd:decide (rightE p x=0)=false:=decide_eq_false h1;rw[e];generalize rightE p x=er at hR hd;refine an Tryz.func23 rfl rfl rfl Tryz.call23 [] [] rfl 1 (fun hb w0 G0=>?_);clear hb;simp;refine jv Tryz.func60 rfl rfl rfl Tryz.call60 [] [] (by simp) (fun pr fr=>?_);simp;refine ap hB ?_;simp;refine ap hR ?_;simp[hd]
 rw[h1]at hR;have hV:=C5 p m x [] hm hc (gA hp h1).1 (fK hp h1).1 (lm.nil p m x h1);have hN:=nX p x hp h1;have hC:=Qs p m (nearS p x) (vnext p m [] x) hp hm hc ((lm.nil p m).next hp h1) (fun y hy=>(jp hp h1 hy).1) (by have:=C6 hp h1;omega);obtain⟨ip,lf⟩:=Fr (badB p m) (nearS p x);have mr:badB p m x=decide (jn p m x≠0):=rfl;by_cases h2:jn p m x=0
 case pos=>
  have e:eC p m x=(false,21):=by unfold eC;rw[KM h0 h1 h2,if_pos (by decide)]
  rw[mr,h2]at hV;rw[e];refine an Tryz.func23 rfl rfl rfl Tryz.call23 [] [] rfl 1 (fun hb w0 G0=>?_);clear hb;simp;refine jv Tryz.func60 rfl rfl rfl Tryz.call60 [] [] (by simp) (fun pr fr=>?_);simp;refine ap hB ?_;simp;refine ap hR ?_;simp;refine jv Tryz.func117 rfl rfl rfl Tryz.call117 [5] [] (by simp) (fun pr2 fr2=>?_);simp;refine nN ?_;simp;refine qO hV [1,0] (by simp) (by simp) (by simp) (by simp[ce,cR]) (by simp[cE]) (by simp[cE,ce]) ?_;simp[cE,ce]
 have e:eC p m x=(decide (firstIx (nearS p x).length (fun i=>badB p m ((nearS p x).getD i default))<0),0):=by
  unfold eC;rw[KN h0 h1 h2,if_neg (by simp)];congr 1;unfold km;cases hq:(nearS p x).find? (badB p m) with
  | none=>exact(decide_eq_true (ip.1 hq)).symm
  | some y=>exact(decide_eq_false (Int.not_lt.2 (lf y hq).1)).symm
 rw[mr,decide_eq_true h2]at hV;rw[e];generalize firstIx (nearS p x).length (fun i=>badB p m ((nearS p x).getD i default))=r at hC ⊢;generalize vmap p m (vnext p m [] x) ((nearS p x).take (sM p m (nearS p x)))=f2 at hC;generalize vnext p m [] x=f1 at hC hV;refine an Tryz.func23 rfl rfl rfl Tryz.call23 [] [] rfl 1 (fun hb w0 G0=>?_);clear hb;simp;refine jv Tryz.func60 rfl rfl rfl Tryz.call60 [] [] (by simp) (fun pr fr=>?_);simp;refine ap hB ?_;simp;refine ap hR ?_;simp;refine jv Tryz.func117 rfl rfl rfl Tryz.call117 [5] [] (by simp) (fun pr2 fr2=>?_);simp;refine nN ?_;simp;refine qO hV [1,0] (by simp) (by simp) (by simp) (by simp[ce,cR]) (by simp[cE]) (by simp[cE,ce]) ?_;simp[cE,ce];refine ap hN ?_;simp;refine qO hC [1,0] (by simp) (by simp) (by simp) (by simp[ce]) (by simp[cE]) (by simp[cE,ce]) ?_;simp;by_cases hr:r<0<;>simp[hr]<;>omega
theorem KO(p:Pb) (m:Mac) (x:Py) (hm:az p.a.states<=1099511627776) (hc:∀ c∈p.t.cases,kf c) (hl:x.word.length<=17592186044416) (hw:∀ r∈x.word,eD r):FC Tryz.prog 21 [eI p,eT m,gy x] (.tup [gy (fy p m x).1,iD (fy p m x).2]):=by
 have hB:=oL p m hm;by_cases h0:bothE p m=0
 case neg=>
  have e:fy p m x=(⟨[],[]⟩,bothE p m):=by unfold fy;rw[KK h0,if_pos h0]
  have hd:decide (bothE p m=0)=false:=decide_eq_false h0;rw[e];generalize bothE p m=er at hB hd;refine an Tryz.func21 rfl rfl rfl Tryz.call21 [5,6] [] rfl 1 (fun hb w0 G0=>?_);clear hb;simp;refine jv Tryz.func60 rfl rfl rfl Tryz.call60 [] [] (by simp) (fun pr fr=>?_);simp;refine ap hB ?_;simp[hd]
 have hp:bg p=0:=by
  unfold bothE at h0;split at h0
  ·rename_i h;exact absurd h0 h
  ·rename_i h;simpa using h
 have hR:=vS p x hp hl hw;rw[h0]at hB;by_cases h1:rightE p x=0
 case neg=>
  have e:fy p m x=(⟨[],[]⟩,rightE p x):=by unfold fy;rw[KL h0 h1,if_pos h1]
  have hd:decide (rightE p x=0)=false:=decide_eq_false h1;rw[e];generalize rightE p x=er at hR hd;refine an Tryz.func21 rfl rfl rfl Tryz.call21 [5,6] [] rfl 1 (fun hb w0 G0=>?_);clear hb;simp;refine jv Tryz.func60 rfl rfl rfl Tryz.call60 [] [] (by simp) (fun pr fr=>?_);simp;refine ap hB ?_;simp;refine ap hR ?_;simp[hd]
 rw[h1]at hR;have hV:=C5 p m x [] hm hc (gA hp h1).1 (fK hp h1).1 (lm.nil p m x h1);have mr:badB p m x=decide (jn p m x≠0):=rfl;by_cases h2:jn p m x=0
 case pos=>
  have e:fy p m x=(⟨[],[]⟩,21):=by unfold fy;rw[KM h0 h1 h2,if_pos (by decide)]
  rw[mr,h2]at hV;rw[e];refine an Tryz.func21 rfl rfl rfl Tryz.call21 [5,6] [] rfl 1 (fun hb w0 G0=>?_);clear hb;simp;refine jv Tryz.func60 rfl rfl rfl Tryz.call60 [] [] (by simp) (fun pr fr=>?_);simp;refine ap hB ?_;simp;refine ap hR ?_;simp;refine jv Tryz.func117 rfl rfl rfl Tryz.call117 [5] [] (by simp) (fun pr2 fr2=>?_);simp;refine nN ?_;simp;refine qO hV [3,2] (by simp) (by simp) (by simp) (by simp[ce,cR]) (by simp[cE]) (by simp[cE,ce]) ?_;simp[cE,ce]
 have e:fy p m x=(jq p m x,0):=by unfold fy;rw[KN h0 h1 h2,if_neg (by simp)]
 have ou:=(lm.nil p m).next hp h1;rw[mr,decide_eq_true h2]at hV;rw[e];generalize vnext p m [] x=f1 at hV ou;have hcl1:=mn x.inp (by have:=(gA hp h1).1;omega);have rf:=qW x.word (by have:=(fK hp h1).1;omega);refine an Tryz.func21 rfl rfl rfl Tryz.call21 [5,6] [] rfl 1 (fun hb w0 G0=>?_);clear hb;simp;refine jv Tryz.func60 rfl rfl rfl Tryz.call60 [] [] (by simp) (fun pr fr=>?_);simp;refine ap hB ?_;simp;refine ap hR ?_;simp;refine jv Tryz.func117 rfl rfl rfl Tryz.call117 [5] [] (by simp) (fun pr2 fr2=>?_);simp;refine nN ?_;simp;refine qO hV [3,2] (by simp) (by simp) (by simp) (by simp[ce,cR]) (by simp[cE]) (by simp[cE,ce]) ?_;simp[cE,ce];refine aO 7 ?_;simp;refine bL hcl1 ?_;simp;refine bL rf ?_;simp;refine am [3,5,6,7,8] [1,3] (fun _=>[]) (fun z:Py × List (Ky × D)=>[(0,some (.box 55 [.d (aT z.1.inp),.d (bK z.1.word)])),(2,some (.map (cR Ky.v z.2)))]) (fun z=>kM z.1) (fun z=>rightE p z.1=0/\lm p m z.2/\jq p m z.1=jq p m x) (x,f1) ⟨h1,ou,rfl⟩ (by simp) (fun z hz=>?_);obtain⟨z,f⟩:=z;obtain⟨dc,dN,Ft⟩:=hz;dsimp only at dc dN Ft;have hN:=nX p z hp dc;have u7:=C6 hp dc;have hC:=KJ p m (nearS p z) f hp hm hc dN (fun y hy=>(jp hp dc hy).1) (by omega);have o6:=lm.map hp ((nearS p z).take (sM p m (nearS p z))) dN (fun y hy=>(jp hp dc (List.mem_of_mem_take hy)).1);have cG:=DY m hp dc;obtain⟨ip,lf⟩:=Fr (badB p m) (nearS p z);have hnr:=fun y (hy:y∈nearS p z)=>jp hp dc hy
 have u5:km p m z=(nearS p z).find? (badB p m):=rfl;rw[u5]at cG;generalize vmap p m f ((nearS p z).take (sM p m (nearS p z)))=f2 at hC o6;generalize firstIx (nearS p z).length (fun i=>badB p m ((nearS p z).getD i default))=r at hC ip lf;generalize nearS p z=L at hN hC ip lf hnr u7 cG;simp;refine ap hN ?_;simp;refine qO hC [3,2] (by simp) (by simp) (by simp) (by simp[ce]) (by simp[cE]) (by simp[cE,ce]) ?_;simp[cE,ce]
 (refine Bz.split (fun h3=>?_) (fun h3=>?_)<;>(try simp only[decide_eq_true_eq,decide_eq_false_iff_not,Bool.not_eq_true',Bool.not_eq_false',beq_iff_eq,bne_iff_ne,beq_eq_false_iff_ne,bne_eq_false_iff_eq,Bool.not_not,Bool.and_eq_true,Bool.or_eq_true,Bool.and_eq_false_iff,Bool.or_eq_false_iff]at h3))
 ·have hq:L.find? (badB p m)=none:=ip.2 h3;rw[hq]at cG;dsimp only at cG;rw[<-Ft,cG];simp
 ·obtain⟨y,hq⟩:∃ y,L.find? (badB p m)=some y:=by
   cases hq:L.find? (badB p m) with
   | none=>exact absurd (ip.1 hq) h3
   | some y=>exact⟨y,rfl⟩
  obtain⟨h4,h5,h6⟩:=lf y hq;obtain⟨k,hk⟩:∃ k:Nat,r=k:=⟨r.toNat,by omega⟩;subst hk;rw[Int.toNat_natCast]at h5;have h7:L[k]=y:=by simpa using h6
  rw[hq]at cG;dsimp only at cG;obtain⟨Qx,OK⟩:=hnr y (by rw[<-h7];exact List.getElem_mem h5);simp[h5,h7];exact ar.of (y,f2) [0,1,2,3] (by simp) ⟨⟨Qx,o6,by rw[<-cG];exact Ft⟩,OK⟩
end Go.Proofs.YtiocdkdkndpgkaaGreat
