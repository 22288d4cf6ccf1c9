/-
  A part of the proof: lemmas and contracts that the parts behind it use. Each one's conditions are its own premises.
-/
import Derived.Test.YtmeaoneaephjeaaGreatDoorRows
import Derived.Test.YtmeaoneaephjeaaGreatDoorTie
import Derived.Test.YtmeaoneaephjeaaGreatDoorCards
import Derived.ProofKit
import Derived.LaidMore
import Derived.OpenShut
import Derived.Stop.Joined
import Derived.SevenTiedAt
import Derived.Test.YtmeaoneaephjeaaGreatDoorE11
set_option maxRecDepth 100000
set_option maxHeartbeats 8000000
set_option linter.unusedVariables false
set_option linter.unusedSimpArgs false
namespace Go.Proofs.YtmeaoneaephjeaaGreatDoor
def labI(s:Sys):Int:=firstIx (jj s).length fun i=>decide ((-1:Int)=(jj s).getD i 0)
theorem Lu(s:Sys):(jj s).length=og s+1:=by simp[jj,kY]
theorem EH(s:Sys) (k:Nat) (hk:k<og s+1):(jj s).getD k 0=comB s (memL (partsS s) k):=by simp[jj,kY,hk]
theorem I6(s:Sys) (l:List Nat) (h:comB s l<0):comB s l=-1:=by
 unfold comB at *;rcases bE (oS s) (fun v=>l.all fun e=>valB s e v) with ⟨e,_⟩|⟨k,_,e,_⟩<;>omega
theorem Ss{s:Sys} (h0:0<eS s) (h:hZ s<0):labI s<0:=by
 unfold labI;rcases bE (jj s).length (fun i=>decide ((-1:Int)=(jj s).getD i 0)) with ⟨e,_⟩|⟨k,hk,_,h2,_⟩
 ·omega
 ·exfalso;rw[Lu]at hk;obtain⟨e,he,h3⟩:=AM h0 k (by omega);have h4:=jB s e he;have h5:=of_decide_eq_true h2;rw[EH s k hk]at h5;rw[h3]at h4;unfold hZ at h;rcases bE (eS s) (fun e=>decide ((choiceS s).getD e 0<0)) with ⟨_,h6⟩|⟨j,_,e6,_⟩
  ·have:=h6 e he;rw[h4,<-h5]at this;simp at this
  ·omega
theorem St{s:Sys} (h0:0<eS s) (h:¬ hZ s<0):(hZ s).toNat<eS s/\0<=labI s/\labI s=(partsS s).getD (hZ s).toNat 0:=by
 have hb:∃ j,j<eS s/\hZ s=j/\(choiceS s).getD j 0<0/\∀ i,i<j->¬ (choiceS s).getD i 0<0:=by
  unfold hZ at h ⊢;rcases bE (eS s) (fun e=>decide ((choiceS s).getD e 0<0)) with ⟨e,_⟩|⟨j,hj,e6,h6,h7⟩
  ·omega
  ·exact⟨j,hj,e6,of_decide_eq_true h6,fun i hi=>of_decide_eq_false (h7 i hi)⟩
 obtain⟨j,hj,e1,h1,h2⟩:=hb;rw[e1,Int.toNat_natCast];have hr:=kX s j hj;have ht:=qB h0 j hj;obtain⟨k,hk⟩:∃ k:Nat,(partsS s).getD j 0=k:=⟨((partsS s).getD j 0).toNat,by omega⟩;rw[hk]at ht ⊢;refine⟨hj,?_⟩;have hch:=jB s j hj;rw[hk]at hch
 have:labI s=k:=by
  unfold labI;refine dB _ k _ (by rw[Lu];omega) (fun i hi=>?_) ?_
  ·refine decide_eq_false fun e=>?_
   rw[EH s i (by omega)]at e;obtain⟨j',nD,e3⟩:=wC (sM s) j (by rw[dp];exact hj) i (by omega) (by omega);have h4:=jB s j' (by omega);rw[e3,<-e]at h4;exact h2 j' nD (by omega)
  ·rw[EH s k (by omega),decide_eq_true_eq,I6 s _ (by rw[<-hch];exact h1)]
 omega
theorem FS{s:Sys}:∀ (l:List Lk) (e:Nat),chainB s e l->∀ y∈l,(0<=y.x/\y.x.toNat<eS s)/\0<=y.p/\y.p<nS s
 | [],_,_,y,hy=>by cases hy
 | z :: r,e,⟨h1,h2,h3,h4,_,h6⟩,y,hy=>by
  rcases List.mem_cons.1 hy with rfl|hy
  ·exact⟨⟨h1,h2⟩,h3,h4⟩
  ·exact FS r _ h6 y hy
theorem V9{s:Sys} (hs:SysOk s) (k:Int):∀ y∈gO s (memL (partsS s) k),(0<=y.x/\y.x.toNat<eS s)/\-1<=y.p/\y.p<nS s:=by
 cases hm:memL (partsS s) k with
 | nil=>intro y hy;cases hy
 | cons a r=>
  obtain⟨h1,h2,_⟩:=ON hs k a r hm;intro y hy;rcases List.mem_cons.1 hy with rfl|hy
  ·exact⟨⟨by dsimp only;omega,by dsimp only;omega⟩,by dsimp only;omega,by dsimp only;omega⟩
  ·obtain⟨h3,h4,h5⟩:=FS _ _ h2 y hy;exact⟨h3,by omega,h5⟩
theorem WK{s:Sys} {l:List Lk} {i:Nat} (hi:i<l.length) (h0:∀ j,j<i->dV s (l.take (j+1))=false) (h1:dV s (l.take (i+1))=true):nU s l=l.take (i+1):=by
 unfold nU rz;rw[dB l.length i (fun i=>dV s (l.take (i+1))) hi h0 h1,if_neg (by omega),Int.toNat_natCast]
theorem Lv{s:Sys} {l:List Lk} (h0:∀ j,j<l.length->dV s (l.take (j+1))=false):nU s l=l:=by
 unfold nU rz;rcases bE l.length (fun i=>dV s (l.take (i+1))) with ⟨e,_⟩|⟨k,hk,_,h2,_⟩
 ·rw[e,if_pos (by omega),List.take_length]
 ·rw[h0 k hk]at h2;cases h2
theorem Su{s:Sys} {l:List Lk} {i:Nat} (hi:i<l.length) (h0:∀ j,j<i->dV s (l.take (j+1))=false):i<(nU s l).length:=by
 unfold nU rz;rcases bE l.length (fun i=>dV s (l.take (i+1))) with ⟨e,_⟩|⟨k,hk,e,h2,_⟩
 ·rw[e,if_pos (by omega),List.take_length];exact hi
 ·rw[e,if_neg (by omega),Int.toNat_natCast,List.length_take];by_cases h:k<i
  ·rw[h0 k h]at h2;cases h2
  ·omega
theorem Sv{s:Sys} {l:List Lk} {i:Nat} (hi:i<l.length):comM s (cK (l.take (i+1)))=comM s (cK (l.take i)) &&& il s (l.getD i default).x.toNat:=by
 rw[List.take_succ_eq_append_getElem hi,wI,show l.getD i default=l[i] by simp[hi]];exact Fp s _ _
def Vw.hear(v:Vw):Nat->Int
 | 0=>v.h0
 | 1=>v.h1
 | 2=>v.h2
 | 3=>v.h3
 | _=>v.h4
def befV(v:Vw):Int:=if v.k=0 then -1 else v.hear v.p.toNat
def befS(s:Sys) (v:Nat):Int:=befV (s.tab.getD v default)
def mX(N:Nat) (v:Vw):Prop:=0<=v.p/\v.p<5/\befV v<(N:Int)
theorem WL{tb:List Vw} {v:Vw} (h:∀ x∈tb,mX tb.length x) (hv:mX tb.length v):∀ x∈(putV tb v).1,mX (putV tb v).1.length x:=by
 unfold putV;split
 ·exact h
 ·intro x hx;dsimp only at hx ⊢;have hm:∀ y,mX tb.length y->mX (tb++[v]).length y:=fun y hy=>⟨hy.1,hy.2.1,by have:=hy.2.2;rw[List.length_append,List.length_singleton];omega⟩
  rcases List.mem_append.1 hx with hx|hx
  ·exact hm x (h x hx)
  ·obtain rfl:=List.mem_singleton.1 hx;exact hm x hv
theorem FT(vs:List Vw):∀ (st:List Vw × List Int) (N:Nat),N<=st.1.length->(∀ x∈st.1,mX st.1.length x)->(∀ x∈vs,mX N x)->∀ x∈(vs.foldl gl st).1,mX (vs.foldl gl st).1.length x:=by
 induction vs with
 | nil=>intro st N _ h _;exact h
 | cons v r ih=>
  intro st N hN h hv;refine ih (gl st v) N (Nat.le_trans hN (OJ st.1 v).1) (WL h ?_) (fun x hx=>hv x (List.mem_cons_of_mem _ hx));have h1:=hv v (by simp);exact⟨h1.1,h1.2.1,by have:=h1.2.2;omega⟩
theorem Lw(n:Nat) (hn:n<=5) (inp:List Int) (word:List Rd) (tb:List Vw) (ht:∀ x∈tb,mX tb.length x):∀ k,∀ x∈(playTo n inp word tb k).1,mX (playTo n inp word tb k).1.length x
 | 0=>by
  refine FT _ (tb,[]) 0 (Nat.zero_le _) ht fun x hx=>?_
  obtain⟨p,hp,rfl⟩:=List.mem_map.1 hx;have hp:=List.mem_range.1 hp;exact⟨by show (0:Int)<=p;omega,by show (p:Int)<5;omega,by unfold befV dX;dsimp only;rw[if_pos rfl];omega⟩
 | k+1=>by
  obtain⟨h1,h2,h3⟩:=D8 n inp word tb k;refine FT _ ((playTo n inp word tb k).1,[]) (playTo n inp word tb k).1.length (Nat.le_refl _) (Lw n hn inp word tb ht k) fun x hx=>?_
  obtain⟨p,hp,rfl⟩:=List.mem_map.1 hx;have hp:=List.mem_range.1 hp;refine⟨by show (0:Int)<=p;omega,by show (p:Int)<5;omega,?_⟩
  have mZ:∀ q,kL n (word.getD k default) ((playTo n inp word tb k).2.getLastD []) p q<((playTo n inp word tb k).1.length:Int):=fun q=>by
   unfold kL;split
   ·rename_i hq
    obtain⟨row,hr,bU⟩:∃ row∈(playTo n inp word tb k).2,(playTo n inp word tb k).2.getLastD []=row:=by
     cases e:(playTo n inp word tb k).2 with
     | nil=>rw[e]at h2;simp at h2
     | cons a r=>exact⟨(a :: r).getLast (by simp),List.getLast_mem _,by rw[List.getLastD_eq_getLast?,List.getLast?_eq_some_getLast (by simp)];rfl⟩
    rw[bU];obtain⟨h4,h5⟩:=h3 row hr;rw[az _ (show q<row.length by rw[h4];exact hq.1)];exact(h5 _ (List.getElem_mem _)).2
   ·omega
  unfold befV;split
  ·omega
  ·unfold nextV Vw.hear;dsimp only;rw[Int.toNat_natCast];split<;>exact mZ _
theorem Wa(p:Pb) (hn:p.t.n.toNat<=5) (words:List (List Rd)) (l:List (Nat × Nat)):∀ st:List Vw × List Ex,(∀ x∈st.1,mX st.1.length x)->∀ x∈(l.foldl (jx p words) st).1,mX (l.foldl (jx p words) st).1.length x:=by
 induction l with
 | nil=>intro st h;exact h
 | cons a r ih=>intro st h;exact ih _ (Lw _ hn _ _ _ h _)
theorem P8{s:Sys} (hv:verifyE s=0):∀ v,v<s.tab.length->mX s.tab.length (s.tab.getD v default):=fun v aC=>by
 have hs:=gE hv;obtain⟨p,rfl⟩:∃ p,s=aF p:=⟨s.prob,(yt hv).2⟩;have hn:p.t.n.toNat<=5:=hs.n.2.1;have h:=Wa p hn (aN p) (iX p.t.cases.length (aN p).length) ([],[]) (fun x hx=>by cases hx);rw[az _ aC];exact h _ (List.getElem_mem aC)
structure FormOk (s:Sys) (lr:List Int):Prop where
 len:lr.length=s.tab.length
 rng:∀ v,v<lr.length->-1<=lr.getD v 0/\lr.getD v 0<s.prob.t.outs
 per:∀ v,v<lr.length->0<=befS s v->0<=lr.getD (befS s v).toNat 0->lr.getD (befS s v).toNat 0=lr.getD v 0
def ragrB(v outs:List Int) (f:Int):Bool:=!anyLt v.length fun p=>!hasB f p&&decide (outs.getD p 0≠v.getD p 0)
def rdecS(s:Sys) (lr:List Int) (e:Nat):List Int:=(List.range (nS s)).map fun p=>lr.getD (finS s e p).toNat 0
def rpermB(s:Sys) (lr:List Int) (e:Nat):Bool:=anyLt (vecE s e).length fun k=>ragrB ((vecE s e).getD k []) (rdecS s lr e) (fltS s e)
def solB(s:Sys) (lr:List Int):Bool:=!anyLt (eS s) fun e=>!rpermB s lr e
theorem Sw{s:Sys} (hs:SysOk s) (ha:agreeB s.prob.t=true) {lr:List Int} {e:Nat} (he:e<eS s) (h:rpermB s lr e=true):∃ x:Nat,valB s e x=true/\∀ p,p<nS s->hasB (fltS s e) p=false->lr.getD (finS s e p).toNat 0=x:=by
 unfold rpermB at h;obtain⟨k,hk,hg⟩:=(km _ _).1 h;rw[az _ hk]at hg;have Xr:=List.getElem_mem hk;obtain⟨hl,hr,i,j,hi,hj,ev⟩:=(vf hs he).2 _ Xr;have hc:=(nf _).1 ha i hi j hj;rw[<-ev]at hc;clear ev;have TE:=Fo hc;generalize (vecE s e)[k]=v at hl hr TE hg Xr hc;have hn:=hs.n.1;have h0:=hr (v.getD 0 0) (by rw[az _ (show 0<v.length by omega)];exact List.getElem_mem _);refine⟨(v.getD 0 0).toNat,?_,fun p hp hf=>?_⟩
 ·rw[D9,Int.toNat_of_nonneg h0.1,<-hl,<-TE];exact Xr
 ·unfold ragrB at hg;have h2:=(dG _ _).1 ((Bool.not_eq_true' _).mp hg) p (by omega);rw[hf]at h2;have h3:(rdecS s lr e).getD p 0=lr.getD (finS s e p).toNat 0:=by simp[rdecS,hp]
  have h4:v.getD p 0=v.getD 0 0:=by
   have h5:=az 0 (show p<v.length by omega);rw[h5];exact(List.eq_replicate_iff.1 TE).2 _ (List.getElem_mem _)
  rw[h3,h4]at h2;have h6:lr.getD (finS s e p).toNat 0=v.getD 0 0:=by simpa using h2
  omega
theorem Wb{s:Sys} {l:List Nat} (h:0<=comB s l):∃ v:Nat,v<oS s/\comB s l=v/\∀ e∈l,valB s e v=true:=by
 unfold comB at h ⊢;rcases bE (oS s) (fun v=>l.all fun e=>valB s e v) with ⟨e1,_⟩|⟨k,hk,e1,h1,_⟩
 ·omega
 ·exact⟨k,hk,e1,fun e he=>List.all_eq_true.1 h1 e he⟩
theorem EJ{s:Sys}:hZ s<0↔∀ e,e<eS s->0<=(choiceS s).getD e 0:=by
 unfold hZ;rcases bE (eS s) (fun e=>decide ((choiceS s).getD e 0<0)) with ⟨e1,h1⟩|⟨k,hk,e1,h1,_⟩
 ·exact⟨fun _ e he=>by have:=of_decide_eq_false (h1 e he);omega,fun _=>by omega⟩
 ·exact⟨fun h=>by omega,fun h=>by have:=of_decide_eq_true h1;have:=h k hk;omega⟩
theorem Nm{s:Sys} (hs:SysOk s) (ha:agreeB s.prob.t=true) {lr:List Int} (h:solB s lr=true):hZ s<0:=by
 have h1:=(dG _ _).1 ((Bool.not_eq_true' _).mp h)
 have h2:∀ e,∃ x:Nat,e<eS s->valB s e x=true/\∀ p,p<nS s->hasB (fltS s e) p=false->lr.getD (finS s e p).toNat 0=x:=fun e=>by
  by_cases he:e<eS s
  ·have h3:=h1 e he;obtain⟨x,hx⟩:=Sw hs ha he (by simpa using h3);exact⟨x,fun _=>hx⟩
  ·exact⟨0,fun h=>absurd h he⟩
 obtain⟨X,hX⟩:∃ X:Nat->Nat,∀ e,e<eS s->valB s e (X e)=true/\∀ p,p<nS s->hasB (fltS s e) p=false->lr.getD (finS s e p).toNat 0=X e:=⟨fun e=>(h2 e).choose,fun e=>(h2 e).choose_spec⟩;have hn:=hs.n.1
 have hR:=uH hs (R:=fun a b=>X a=X b) (fun _=>rfl) (fun p a b hp ha' fS hl=>by
  unfold linkB at hl;simp only[Bool.and_eq_true,decide_eq_true_eq,Bool.not_eq_true']at hl;obtain⟨⟨h3,h4⟩,h5⟩:=hl;have h6:=(hX a ha').2 p hp h3;have h7:=(hX b fS).2 p hp h4;rw[h5]at h6
  omega) (fun a b c h3 h4=>Eq.trans h3 h4) (nS s - 1) (by omega)
 rw[EJ];intro e he;rw[jB s e he];refine Int.not_lt.1 fun aC=>?_
 have h3:=(hX e he).1;obtain⟨e',L8,h4⟩:=(Fq s _).1 aC (X e) (Ie hs he h3);obtain⟨h5,h6⟩:=jN.1 L8;rw[dp]at h5;have h7:X e'=X e:=hR e' e h5 he h6;rw[<-h7,(hX e' h5).1]at h4;cases h4
theorem Nn{s:Sys} {x:Nat} (hx:x<eS s) (h:0<=(choiceS s).getD x 0):(valuesS s x).contains ((choiceS s).getD x 0)=true:=by
 rw[jB s x hx]at h ⊢;obtain⟨v,hv,e,h1⟩:=Wb h;rw[e];have h2:=h1 x (jN.2 ⟨by rw[dp];exact hx,rfl⟩);rw[List.contains_iff_mem];exact List.mem_map.2 ⟨v,List.mem_filter.2 ⟨List.mem_range.2 hv,h2⟩,rfl⟩
theorem No{s:Sys}:(choiceS s).contains (-1)=!decide (hZ s<0):=by
 by_cases h:hZ s<0
 ·rw[decide_eq_true h,Bool.not_true];refine(Bool.eq_false_iff).2 fun h2=>?_
  obtain⟨i,hi,e⟩:=List.getElem_of_mem (List.contains_iff_mem.1 h2);have nC:i<eS s:=by simpa[choiceS] using hi
  have h3:=EJ.1 h i nC;rw[az _ hi,e]at h3;omega
 ·rw[decide_eq_false h,Bool.not_false,List.contains_iff_mem];have h2:¬ ∀ e,e<eS s->0<=(choiceS s).getD e 0:=fun h3=>h (EJ.2 h3)
  obtain⟨e,h3⟩:=Classical.not_forall.1 h2;obtain⟨he,h4⟩:=Classical.not_imp.1 h3;have h5:=jB s e he;have h6:(choiceS s).getD e 0=-1:=by rw[h5]at h4 ⊢;exact I6 s _ (by omega)
  rw[<-h6,az _ (show e<(choiceS s).length by simpa[choiceS] using he)];exact List.getElem_mem _
theorem Wc{s:Sys} (h:readyE s=0) (hE:eS s<=60):∃ ls,findW s=(ls,!decide (hZ s<0),0):=by
 unfold findW;rw[if_neg (by omega)];by_cases hb:hZ s<0
 ·rw[if_pos hb,decide_eq_true hb];exact⟨[],rfl⟩
 ·obtain⟨h1,h2,h3⟩:=RD (gE (Fs h).1) hb;have h4:(eS s - 1) * (eS s - 1)<=59 * 59:=Nat.mul_le_mul (by omega) (by omega);rw[if_neg hb,if_neg (by omega),decide_eq_false hb];exact⟨kN s,rfl⟩
end Go.Proofs.YtmeaoneaephjeaaGreatDoor
namespace Go.Proofs.YtmeaoneaephjeaaGreatDoor
open Go.RowKit Go Go.Shelf
attribute [local go_sem] Oper.semAt_some
def WM(vr:List Lk × Bool × Int) (r:Ending) (w':World):Prop:=∃ u,r=.returned (.tuple #[.agg (gJ (if vr.2.1 then 1 else 0) u),.bool vr.2.1,.int .i64 vr.2.2])/\bN w' u vr.1
theorem lD(tmps:Array Value) (B:Nat) (W:World) (k e:Int) (ok:Bool) (u:Value) (h2:tmps[2]?.getD undef=.pointer (some ⟨B,0,none⟩)) (h3:tmps[3]?.getD undef=.pointer (some ⟨B+1,0,none⟩)) (h4:tmps[4]?.getD undef=.pointer (some ⟨B+1+1,0,none⟩))
  (hB:W.heap[B]?=some (.cells (gJ k u) 58)) (hC:W.heap[B+1]?=some (.cells #[.bool ok] 4)) (hD:W.heap[B+1+1]?=some (.cells #[.int .i64 e] 39)):(results Tryz.f18 tmps).run Tryz.prog W=.ok (.tuple #[.agg (gJ k u),.bool ok,.int .i64 e]) W:=by
 have t2:=ab hB;have t3:=ab hC 0;have t4:=ab hD 0;simp at t3 t4;simp[results,Tryz.results18,go_sem,h2,h3,h4,t2,t3,t4]
theorem oh{W:World} {B:Nat} {k e e':Int} {ok ok':Bool} {u:Value} (hB:W.heap[B]?=some (.cells (gJ k u) 58)) (hC:W.heap[B+1]?=some (.cells #[.bool ok'] 4)) (hD:W.heap[B+1+1]?=some (.cells #[.int .i64 e'] 39)) :
  ((W.setCell ⟨B+1,0,none⟩ (.bool ok)).setCell ⟨B+1+1,0,none⟩ (.int .i64 e)).heap[B]?=some (.cells (gJ k u) 58)/\((W.setCell ⟨B+1,0,none⟩ (.bool ok)).setCell ⟨B+1+1,0,none⟩ (.int .i64 e)).heap[B+1]?=some (.cells #[.bool ok] 4)/\((W.setCell ⟨B+1,0,none⟩ (.bool ok)).setCell ⟨B+1+1,0,none⟩ (.int .i64 e)).heap[B+1+1]?=some (.cells #[.int .i64 e] 39):=
 ⟨aM (aM hB (by omega) _ _) (by omega) _ _,aM (aI hC _ _) (by omega) _ _,aI (aM hD (by omega) _ _) _ _⟩
theorem yY(w:World):bN w (.slice none 0 0) []:=⟨none,0,rfl,⟨by simp,by omega,fun _=>rfl⟩,by simp,fun i x hx=>by simp at hx⟩
theorem tz{w w':World} {v:Value} {l:List Lk} (h:bN w v l) (hk:∀ b,v.ownBlock=some b->w'.heap[b]?=w.heap[b]?):bN w' v l:=by
 cases hl:l with
 | nil=>
  subst hl;obtain⟨a,c,e,h1,h2,_⟩:=h;exact⟨a,c,e,h1,h2,fun i x hx=>by simp at hx⟩
 | cons y r=>
  obtain⟨a,c,e,_,_,h3⟩:=h.at;obtain⟨b,o,rfl,_⟩:=h3 0 (by rw[hl];simp);subst e;rw[<-hl];exact kG h (hk b rfl)
def EK(u0 b8:Nat) (l:List Lk) (T:Nat->Prop) (A:World):Prop:=∃ v,A.heap[b8]?=some (.cells (gJ 1 v) 58)/\aJ A u0 75 2 v l.length (cT l)/\∀ g,v.ownBlock=some g->¬ T g
theorem EK.ch{u0 b8:Nat} {l:List Lk} {T T':Nat->Prop} {A A':World} (h:EK u0 b8 l T A) (hb:b8<u0) (hc:ChT u0 T A A') (hw:gS A A' T T'):EK u0 b8 l T' A':=by
 obtain⟨v,h1,h2,h3⟩:=h;refine⟨v,(hc.low _ hb).trans h1,h2.keep fun g o hg ho=>?_,fun g hg ht=>?_⟩
 ·have eP:o.isCells=true:=by
   rcases h2.2 with ⟨e,_⟩|⟨g',_,_,_,e,_,e2,_⟩
   ·rw[e]at hg;cases hg
   ·rw[e]at hg;injection hg with hg
    subst hg;rw[e2]at ho;injection ho with ho
    subst ho;rfl
  exact hc.same g o ho eP (h3 g hg)
 ·rcases hw.2 g ht with h5|h5
  ·exact h3 g hg h5
  ·have:=(h2.lt g hg).2;omega
structure FdI (s:Sys) (w4:World) (u0 b8:Nat) (way:List Lk) (i:Nat) (T:Nat->Prop) (A:World):Prop where
 old:Below w4.heap.size w4 A
 sz:u0<=A.heap.size
 out:EK u0 b8 (way.take i) T A
 left:A.heap[b8+1]?=some (.cells #[.int .i64 (comM s (cK (way.take i)):Nat)] 3)
 no:∀ j,j<i->dV s (way.take (j+1))=false
 le:i<=4096
 len:(way.take i).length=i
 tb:∀ k,T k->k<A.heap.size
theorem FdI.ch{s:Sys} {w4:World} {u0 b8 i:Nat} {way:List Lk} {T T':Nat->Prop} {A A':World} (h:FdI s w4 u0 b8 way i T A) (h4:w4.heap.size<=u0) (hb:b8+1<u0) (hc:ChT u0 T A A') (hw:gS A A' T T'):FdI s w4 u0 b8 way i T' A':=
 ⟨hc.below h4 h.old,Nat.le_trans h.sz hc.size,h.out.ch (by omega) hc hw,(hc.low _ (by omega)).trans h.left,h.no,h.le,h.len,fun k hk=>by
  rcases hw.2 k hk with h1|h1
  ·exact Nat.lt_of_lt_of_le (h.tb k h1) hc.size
  ·exact h1.2⟩
structure FdX (w4:World) (u0 b8:Nat) (F:List Lk) (T:Nat->Prop) (A:World):Prop where
 old:Below w4.heap.size w4 A
 sz:u0<=A.heap.size
 out:EK u0 b8 F T A
 le:F.length<=4096
structure FdY (w:World) (F:List Lk) (A:World):Prop where
 old:Below w.heap.size w A
 r2:A.heap[w.heap.size+1]?=some (.cells (gJ 0 (.slice none 0 0)) 58)
 r3:A.heap[w.heap.size+1+1]?=some (.cells #[.bool false] 4)
 r4:A.heap[w.heap.size+1+1+1]?=some (.cells #[.int .i64 17] 39)
 lt:4096<F.length
theorem FU(s:Sys) (hE:eS s<=256) (vc vs vt ve:Value) (w:World) (hT:iF w) (hs:IsSys w s vc vs vt ve) (hN:movesN s.prob.a.states<1099511627776) :
  Calls Tryz.prog 18 #[.agg (bL s.prob vc vs s.n vt ve)] w fun r w'=>WM (findW s) r w'/\Below w.heap.size w w':=by
 have HS:=aa hs;have HT:=aa hT;obtain⟨⟨pc,cc,rfl⟩,⟨ps,cs,rfl⟩,⟨pt,ct,rfl⟩,⟨pe,ce,rfl⟩⟩:=bD hs;clear hs hT;have HC:=aa (fun W (hb:Below w.heap.size w W)=>od s hE _ _ _ _ W (HS.o.up hb) hN)
 have jS:am (readyE s=0->verifyE s=0/\agreeB s.prob.t=true):=aa fun h=>by
  refine⟨rQ h,?_⟩;unfold readyE at h;split at h
  ·rename_i h1;exact absurd h h1
  split at h
  ·assumption
  ·omega
 have cO:am (readyE s≠0->findW s=([],false,readyE s)):=aa fun h=>by unfold findW;rw[if_pos h]
 have eh:am (readyE s=0->hZ s<0->findW s=([],false,0)):=aa fun h h2=>by unfold findW;rw[if_neg (by omega),if_pos h2]
 have fT:am (readyE s=0->¬ hZ s<0->findW s=if 4096<(kN s).length then([],false,17) else(kN s,true,0)):=aa fun h h2=>by unfold findW;rw[if_neg (by omega),if_neg h2]
 generalize findW s=vr at cO eh fT ⊢;obtain⟨re,kg⟩:∃ re,readyE s=re:=⟨_,rfl⟩;rw[kg]at cO eh fT HC jS;clear kg;refine gi Tryz.func18 rfl ?_;simp only[Tryz.ntmps18,List.size_toArray,List.length_cons,List.length_nil,Nat.reduceAdd,Nat.reduceSub,Array.replicate_succ,Array.replicate_zero,List.push_toArray,List.append_toArray,List.nil_append,List.cons_append]
 go_wp2_with fail
 refine aO (fun W=>Below w.heap.size w W/\W.heap[w.heap.size+1]?=some (.cells (gJ 0 (.slice none 0 0)) 58)/\W.heap[w.heap.size+1+1]?=some (.cells #[.bool false] 4)/\W.heap[w.heap.size+1+1+1]?=some (.cells #[.int .i64 0] 39))
  ⟨by go_grown,ar _ (ar _ (aZ _ _ _)),ar _ (dZ _ _ _ _),by have h:=ap (((w.alloc (.cells (bL s.prob (.slice pc s.prob.t.cases.length cc) (.slice ps s.prob.a.states.length cs) s.n (.slice pt s.tab.length ct) (.slice pe s.ex.length ce)) 35)).alloc (.cells (gJ 0 (.slice none 0 0)) 58)).alloc (.cells #[.bool false] 4)) (.cells #[.int .i64 0] 39);simpa using h⟩ (fun W0 aX=>?_)
 obtain⟨aG,mn,De,Du⟩:=aX;refine(HC.o W0 aG).mono ?_;rintro r w1 ⟨v,rfl,aK,h2,h3⟩;have bI:=aa (ae aG aK);have fN:=aa (af aK mn);have jb:=aa (af aK De);have jF:=aa (af aK Du);have fZ:=aD jF.o;by_cases hr:re=0
 case neg=>
  have HV:=aa (cO.o hr);obtain rfl:=h2 hr;have F3:(re != 0)=true:=by simpa using hr
  clear aG aK h2 h3 hr HC mn De Du cO eh fT jS
  go_wp2_with (refine wpList_store_row rfl 58 (.tmp 2) (.tmp 18) rfl (w.heap.size+1) (gJ 0 (.slice none 0 0)) rfl rfl 58 _ (ar _ fN.o) (by kernel_rfl) rfl (by simp[Value.oneCell']) (gX (fun W=>Below w.heap.size w W/\W.heap[w.heap.size+1]?=some (.cells (gJ 0 (.slice none 0 0)) 58)/\W.heap[w.heap.size+1+1]?=some (.cells #[.bool false] 4)/\W.heap[w.heap.size+1+1+1]?=some (.cells #[.int .i64 0] 39)) ⟨below_setRow (bI.o.alloc (by omega) _) (by omega) _,setRow_heap _ _ _ _ _ _ (ar _ fN.o),by rw[setRow_other _ _ _ _ (by omega)];exact ar _ jb.o,by rw[setRow_other _ _ _ _ (by omega)];exact ar _ jF.o⟩ ?_);intro W2 eI;have cP:=aa eI;clear eI;have t3:=ab cP.o.2.2.1 0;have z3:=aH cP.o.2.2.1 0;have t4:=ab cP.o.2.2.2 0;have z4:=aH cP.o.2.2.2 0;simp at t3 t4)
  obtain⟨y1,y2,y3⟩:=oh (ok:=false) (e:=re) cP.o.2.1 cP.o.2.2.1 cP.o.2.2.2;have e1:=HV.o;subst e1;exact iA (lD _ (w.heap.size+1) _ 0 re false _ rfl rfl rfl y1 y2 y3) ⟨⟨_,rfl,yY _⟩,(cP.o.1.setCell (by dsimp only;omega) _).setCell (by dsimp only;omega) _⟩
 obtain⟨B,rfl,hB,gd⟩:=h3 hr;have dd:=aa (eh.o hr);have sa:=aa (fT.o hr);have tI:=aa (jS.o hr).1;have Ge:=aa (jS.o hr).2;have dD:=aa (gE tI.o);have HP:=aa (Ad tI.o);have jH:=aa gd;subst hr;clear aG aK h2 h3 HC gd mn De Du cO eh fT jS;have tb:=fun o j=>ab (ar o fN.o) j
 go_wp2_with fail
 clear tb;refine aO (fun W=>Below w1.heap.size w1 W/\W.heap[w1.heap.size]?=some (.cells #[.pointer (some ⟨B,0,none⟩)] 94)) ⟨by go_grown,ap _ _⟩ (fun W1 cM=>?_);have gN:=aa cM.1;have kS:=aa cM.2;clear cM;have Jd:=aa (jH.o.up gN.o);have xn:=aa (ae bI.o gN.o);refine(uO s dD.o HP.o hE B W1 Jd.o (HT.o.up xn.o)).mono ?_;rintro r w3 ⟨u,rfl,hu,bG⟩;have qG:=aa (xB u (jj s) (-1) w3 hu);obtain⟨pu,cu,rfl,_⟩:=hu.at;have dE:=aa (ae gN.o bG);have Fb:=aa (af bG kS.o);clear hu bG;have Qz:am (firstIx (jj s).length (fun i=>decide ((-1:Int)=(jj s).getD i 0))=labI s):=aa rfl;rw[Qz.o]at qG;have TU:=aa (fun h=>Ss (s:=s) HP.o h);have GD:=aa (fun h=>St (s:=s) HP.o h);obtain⟨cn,Dk⟩:∃ cn,(jj s).length=cn:=⟨_,rfl⟩;rw[Dk]at qG ⊢;clear Qz Dk;generalize labI s=lab at qG TU GD
 go_wp2_with fail
 refine qG.o.mono ?_;rintro r w4 ⟨rfl,bS⟩;have eE:=aa (ae dE.o bS);have Fc:=aa (af bS Fb.o);have zG:=aa (ae bI.o eE.o);have Km:=aa (af eE.o fN.o);have Of:=aa (af eE.o jb.o);have NK:=aa (af eE.o jF.o);clear bS qG dE Fb kS gN Jd xn;by_cases Xi:hZ s<0
 ·have aC:=TU.o Xi;have hd:decide (lab<0)=true:=decide_eq_true aC;have e1:=dd.o Xi;subst e1;clear dd sa TU GD aC
  go_wp2_with (refine wpList_store_row rfl 58 (.tmp 2) (.tmp 25) rfl (w.heap.size+1) (gJ 0 (.slice none 0 0)) rfl rfl 58 _ Km.o (by kernel_rfl) rfl (by simp[Value.oneCell']) (gX (fun W=>Below w.heap.size w W/\W.heap[w.heap.size+1]?=some (.cells (gJ 0 (.slice none 0 0)) 58)/\W.heap[w.heap.size+1+1]?=some (.cells #[.bool false] 4)/\W.heap[w.heap.size+1+1+1]?=some (.cells #[.int .i64 0] 39)) ⟨below_setRow zG.o (by omega) _,setRow_heap _ _ _ _ _ _ Km.o,by rw[setRow_other _ _ _ _ (by omega)];exact Of.o,by rw[setRow_other _ _ _ _ (by omega)];exact NK.o⟩ ?_);intro W2 eI;have cP:=aa eI;clear eI;have t3:=ab cP.o.2.2.1 0;have z3:=aH cP.o.2.2.1 0;have t4:=ab cP.o.2.2.2 0;have z4:=aH cP.o.2.2.2 0;simp at t3 t4)
  obtain⟨y1,y2,y3⟩:=oh (ok:=false) (e:=0) cP.o.2.1 cP.o.2.2.1 cP.o.2.2.2;exact iA (lD _ (w.heap.size+1) _ 0 0 false _ rfl rfl rfl y1 y2 y3) ⟨⟨_,rfl,yY _⟩,(cP.o.1.setCell (by dsimp only;omega) _).setCell (by dsimp only;omega) _⟩
 obtain⟨jm,zg,hleq⟩:=GD.o (by omega);have hd:decide (lab<0)=false:=decide_eq_false (by omega);have HV:=aa (sa.o (by omega));have Bv:am (kN s=nU s (gO s (memL (partsS s) lab))):=aa (by rw[hleq];rfl);have UU:=aa (V9 dD.o lab);clear dd sa TU GD Xi jm hleq;have Q6:=zG.o.size;have tb:=ab Fc.o 0;simp at tb;have tb':∀ o o',((w4.alloc o).alloc o').cell? ⟨w1.heap.size,0,none⟩=some (.pointer (some ⟨B,0,none⟩)):=fun o o'=>ak (show Below w4.heap.size w4 ((w4.alloc o).alloc o') by go_grown) tb
 go_wp2_with fail
 refine(P4 B lab _).mono ?_;rintro r w5 ⟨rfl,rfl⟩;clear tb tb'
 go_wp2_with fail
 refine bC (fun U=>Below w4.heap.size w4 U/\U.heap.size=w4.heap.size+1+1+1+1/\U.heap[w4.heap.size]?=some (.cells (gJ 1 (.slice none 0 0)) 58)/\U.heap[w4.heap.size+1]?=some (.cells #[.int .i64 255] 3)/\U.heap[w4.heap.size+1+1]?=some (.cells #[.pointer (some ⟨B,0,none⟩)] 94)/\U.heap[w4.heap.size+1+1+1]?=some (.cells #[.int .i64 lab] 3))
  ⟨by go_grown,by simp,ar _ (ar _ (ar _ (ap _ _))),ar _ (ar _ (aZ _ _ _)),ar _ (dZ _ _ _ _),by have h:=ap (((w4.alloc (.cells (gJ 1 (.slice none 0 0)) 58)).alloc (.cells #[.int .i64 255] 3)).alloc (.cells #[.pointer (some ⟨B,0,none⟩)] 94)) (.cells #[.int .i64 lab] 3);simpa using h⟩ (fun U hU=>?_)
 obtain⟨uh,zi,sB,mj,zd,Kj⟩:=hU;have HSC4:=aa (jH.o.up eE.o);have dg:=Ng s tI.o hE hN B (w4.heap.size+1+1) (w4.heap.size+1+1+1) lab w4 HSC4.o U uh zd Kj;obtain⟨way,JE⟩:∃ way,gO s (memL (partsS s) lab)=way:=⟨_,rfl⟩;rw[JE]at dg Bv UU;obtain⟨F,hF⟩:∃ F,kN s=F:=⟨_,rfl⟩;rw[hF]at Bv HV;obtain⟨i0,cX,cD,bX,cF⟩:=info_parts Tryz.infoLink;have cB:=aa (And.intro cX (And.intro cD (And.intro bX cF)))
 have Jm:am (∀ y∈F,bR y.x/\bR y.p):=aa (fun y hy=>by
  rw[Bv.o]at hy;obtain⟨h1,h2⟩:=UU.o y (List.mem_of_mem_take hy);have:=dD.o.n.2.1
  exact⟨⟨by omega,by omega⟩,⟨by omega,by omega⟩⟩)
 have HU:am (FdI s w4 U.heap.size w4.heap.size way 0 (fun _=>False) U):=aa ⟨uh,Nat.le_refl _,⟨_,sB,aJ.nil _ _ _ _,fun g hg=>by cases hg⟩,by rw[List.take_zero,show comM s (cK [])=255 from BG s];exact mj,fun j hj=>by omega,by omega,by simp,fun k h=>h.elim⟩;have Tb:=aa (fun i T T' A A' (h:FdI s w4 U.heap.size w4.heap.size way i T A) (hc:ChT U.heap.size T A A') (hw:gS A A' T T')=>h.ch (by omega) (by omega) hc hw);have jf:=dD.o.n.2.1;have US:=dD.o.outs.2.1;clear uh sB mj zd Kj JE hF cX cD bX cF
 refine Ml (gf:=89) (lb:=#[.pointer (some ⟨w4.heap.size+1+1,0,none⟩),.pointer (some ⟨w4.heap.size+1+1+1,0,none⟩)]) rfl (enters_of Tryz.func89 (by kernel_rfl) rfl) dg (Below.refl _ _) (fun k hk=>by rcases hk with hk|rfl|rfl<;>omega) (fun i args h=>by rw[h];rfl)
  (FdI s w4 U.heap.size w4.heap.size way)
  (fun c i T A=>(c=.exit 0/\FdX w4 U.heap.size w4.heap.size F T A)\/(c=.ret/\FdY w F A))
  (fun i T T' A A' h hc hw=>Tb.o i T T' A A' h hc hw)
  (fun c i T T' A A' h hc hw=>by
   rcases h with ⟨h1,h⟩|⟨h1,h⟩
   ·exact .inl ⟨h1,hc.below (by omega) h.old,Nat.le_trans h.sz hc.size,h.out.ch (by omega) hc hw,h.le⟩
   ·exact .inr ⟨h1,hc.below (by omega) h.old,(hc.low _ (by omega)).trans h.r2,(hc.low _ (by omega)).trans h.r3,(hc.low _ (by omega)).trans h.r4,h.lt⟩)
  HU.o ?rnd ?done ?stop
 case done=>
  intro D T A hD nE hK;have qF:FdX w4 U.heap.size w4.heap.size F T A:=⟨nE.old,nE.sz,by rw[Bv.o,Lv nE.no];have h:=nE.out;rw[List.take_length]at h;exact h,by rw[Bv.o,Lv nE.no];exact nE.le⟩;have Bu:am (F.length<=4096):=aa qF.le;clear nE;obtain⟨v,kl,lf,_⟩:=qF.out;have Gs:=aD hK;have qP:=tt lf Jm.o (by have:=qF.le;omega);obtain⟨pv,cv,rfl⟩:=lf.slice;have XF:=aa qF.old;have it:=aa qP;have oy:=aa kl;have Y2:=aa (af qF.old Km.o);have Y3:=aa (af qF.old Of.o);have Y4:=aa (af qF.old NK.o);have t8:=ab kl;have LB:=aa hK;have hbU:w.heap.size+1+1+1<D:=by omega
  have iO:am (∀ b,(Value.slice pv F.length cv).ownBlock=some b->U.heap.size<=b):=aa (fun b hb=>(lf.lt b hb).1);have Gl:am (¬ (Value.slice pv F.length cv).ownBlock=some D):=aa (fun e=>lf.isCells hK rfl e.symm);clear kl lf qP dg hK qF
  go_wp2_with (refine wpList_store_row rfl 58 (.tmp 2) (.tmp 54) rfl (w.heap.size+1) (gJ 1 (.slice pv F.length cv)) rfl rfl 58 _ Y2.o (by kernel_rfl) rfl (by simp[Value.oneCell']) (gX (fun W=>(Below w.heap.size w W/\bN W (.slice pv F.length cv) F/\W.heap[D]?=some (.deferred (some [])))/\W.heap[w.heap.size+1]?=some (.cells (gJ 1 (.slice pv F.length cv)) 58)/\W.heap[w.heap.size+1+1]?=some (.cells #[.bool false] 4)/\W.heap[w.heap.size+1+1+1]?=some (.cells #[.int .i64 0] 39)) ⟨⟨below_setRow (ae zG.o XF.o) (by omega) _,tz it.o (fun b hb=>by rw[setRow_other _ _ _ _ (by have:=iO.o b hb;omega)]),by rw[setRow_other _ _ _ _ (by omega)];exact LB.o⟩,setRow_heap _ _ _ _ _ _ Y2.o,by rw[setRow_other _ _ _ _ (by omega)];exact Y3.o,by rw[setRow_other _ _ _ _ (by omega)];exact Y4.o⟩ ?_);intro W2 eI;have cP:=aa eI;clear eI;have t3:=ab cP.o.2.2.1 0;have z3:=aH cP.o.2.2.1 0;have t4:=ab cP.o.2.2.2 0;have z4:=aH cP.o.2.2.2 0;simp at t3 t4)
  obtain⟨y1,y2,y3⟩:=oh (ok:=true) (e:=0) cP.o.2.1 cP.o.2.2.1 cP.o.2.2.2;refine iK (aM (aM cP.o.1.2.2 (by omega) _ _) (by omega) _ _) (lD _ (w.heap.size+1) _ 1 0 true _ rfl rfl rfl ((World.putObj_heap_other (by omega)).trans y1) ((World.putObj_heap_other (by omega)).trans y2) ((World.putObj_heap_other (by omega)).trans y3)) ?_;have e1:=HV.o;rw[if_neg (by have:=Bu.o;omega)]at e1;subst e1;refine⟨⟨_,rfl,tz cP.o.1.2.1 (fun b hb=>by have h1:=iO.o b hb;have h2:b≠D:=fun e=>Gl.o (e ▸ hb);rw[World.putObj_heap_other h2,Below.heap_setCell _ _ _ _ (by dsimp only;omega),Below.heap_setCell _ _ _ _ (by dsimp only;omega)])⟩,eY (by omega) ((cP.o.1.1.setCell (by dsimp only;omega) _).setCell (by dsimp only;omega) _)⟩
 case stop=>
  rintro D c i T A hD hi h hK;rcases h with ⟨rfl,qF⟩|⟨rfl,hY⟩
  case inr=>
   have Gs:=aD hK
   go_wp2_with fail
   refine iK hK (lD _ (w.heap.size+1) _ 0 17 false _ rfl rfl rfl ((World.putObj_heap_other (by omega)).trans hY.r2) ((World.putObj_heap_other (by omega)).trans hY.r3) ((World.putObj_heap_other (by omega)).trans hY.r4)) ?_;have e1:=HV.o;rw[if_pos hY.lt]at e1;subst e1;exact⟨⟨_,rfl,yY _⟩,eY (by omega) hY.old⟩
  have Bu:am (F.length<=4096):=aa qF.le;obtain⟨v,kl,lf,_⟩:=qF.out;have Gs:=aD hK;have qP:=tt lf Jm.o (by have:=qF.le;omega);obtain⟨pv,cv,rfl⟩:=lf.slice;have XF:=aa qF.old;have it:=aa qP;have oy:=aa kl;have Y2:=aa (af qF.old Km.o);have Y3:=aa (af qF.old Of.o);have Y4:=aa (af qF.old NK.o);have t8:=ab kl;have LB:=aa hK;have hbU:w.heap.size+1+1+1<D:=by omega
  have iO:am (∀ b,(Value.slice pv F.length cv).ownBlock=some b->U.heap.size<=b):=aa (fun b hb=>(lf.lt b hb).1);have Gl:am (¬ (Value.slice pv F.length cv).ownBlock=some D):=aa (fun e=>lf.isCells hK rfl e.symm);clear kl lf qP dg hK qF
  go_wp2_with (refine wpList_store_row rfl 58 (.tmp 2) (.tmp 54) rfl (w.heap.size+1) (gJ 1 (.slice pv F.length cv)) rfl rfl 58 _ Y2.o (by kernel_rfl) rfl (by simp[Value.oneCell']) (gX (fun W=>(Below w.heap.size w W/\bN W (.slice pv F.length cv) F/\W.heap[D]?=some (.deferred (some [])))/\W.heap[w.heap.size+1]?=some (.cells (gJ 1 (.slice pv F.length cv)) 58)/\W.heap[w.heap.size+1+1]?=some (.cells #[.bool false] 4)/\W.heap[w.heap.size+1+1+1]?=some (.cells #[.int .i64 0] 39)) ⟨⟨below_setRow (ae zG.o XF.o) (by omega) _,tz it.o (fun b hb=>by rw[setRow_other _ _ _ _ (by have:=iO.o b hb;omega)]),by rw[setRow_other _ _ _ _ (by omega)];exact LB.o⟩,setRow_heap _ _ _ _ _ _ Y2.o,by rw[setRow_other _ _ _ _ (by omega)];exact Y3.o,by rw[setRow_other _ _ _ _ (by omega)];exact Y4.o⟩ ?_);intro W2 eI;have cP:=aa eI;clear eI;have t3:=ab cP.o.2.2.1 0;have z3:=aH cP.o.2.2.1 0;have t4:=ab cP.o.2.2.2 0;have z4:=aH cP.o.2.2.2 0;simp at t3 t4)
  obtain⟨y1,y2,y3⟩:=oh (ok:=true) (e:=0) cP.o.2.1 cP.o.2.2.1 cP.o.2.2.2;refine iK (aM (aM cP.o.1.2.2 (by omega) _ _) (by omega) _ _) (lD _ (w.heap.size+1) _ 1 0 true _ rfl rfl rfl ((World.putObj_heap_other (by omega)).trans y1) ((World.putObj_heap_other (by omega)).trans y2) ((World.putObj_heap_other (by omega)).trans y3)) ?_;have e1:=HV.o;rw[if_neg (by have:=Bu.o;omega)]at e1;subst e1;refine⟨⟨_,rfl,tz cP.o.1.2.1 (fun b hb=>by have h1:=iO.o b hb;have h2:b≠D:=fun e=>Gl.o (e ▸ hb);rw[World.putObj_heap_other h2,Below.heap_setCell _ _ _ _ (by dsimp only;omega),Below.heap_setCell _ _ _ _ (by dsimp only;omega)])⟩,eY (by omega) ((cP.o.1.1.setCell (by dsimp only;omega) _).setCell (by dsimp only;omega) _)⟩
 case rnd=>
  rintro yl i T V args hi hl hlV hT rfl iS;obtain⟨y,hy⟩:∃ y,way.getD i default=y:=⟨_,rfl⟩;have X2:way[i]=y:=by rw[<-hy];simp[hi]
  obtain⟨⟨fM,Ul⟩,hyp⟩:=UU.o way[i] (List.getElem_mem hi);rw[X2]at fM Ul hyp;have dr:=aa (Sv (s:=s) hi);rw[hy]at dr ⊢;obtain⟨yx,yp⟩:=y;dsimp only at fM Ul hyp dr;obtain⟨e,he⟩:∃ e:Nat,yx=e:=⟨yx.toNat,by omega⟩;subst he;rw[Int.toNat_natCast]at Ul dr;have oL:=aa iS;have HYW:=aa X2;clear iS hy X2 dg fM
  gi_wp2
  have TV:Below V.heap.size V (V.alloc (.cells #[.int .i64 e,.int .i64 yp] 75)):=by go_grown
  refine⟨Bod.of_below (fun k hk=>hk.2) TV,fun X=>FdI s w4 U.heap.size w4.heap.size way i T X/\X.heap[V.heap.size]?=some (.cells #[.int .i64 e,.int .i64 yp] 75)/\∀ g v,X.heap[w4.heap.size]?=some (.cells (gJ 1 v) 58)->v.ownBlock=some g->g<V.heap.size,?_,⟨Tb.o _ _ _ _ _ oL.o (ChT.of_below oL.o.sz TV) (gS.refl _ _ _),ap _ _,fun g v h1 h2=>?_⟩,fun X hX jI=>?_⟩
  ·intro A A' c h;refine⟨Tb.o _ _ _ _ _ h.1 (ChT.of_chg c (Nat.le_refl _) h.1.sz) (gS.refl _ _ _),c.same _ _ h.2.1 (.inr rfl),fun g v h1 h2=>?_⟩;obtain⟨v0,h3,_⟩:=h.1.out;have h4:=c.same _ _ h3 (.inr rfl);rw[h1]at h4;have h5:=dy h4;injection h5 with h5
   injection h5 with h5
   simp at h5;exact h.2.2 g v0 h3 (by rw[<-h5];exact h2)
  ·obtain⟨v0,h3,h4,_⟩:=oL.o.out;have h6:=af TV h3;rw[h1]at h6;have h5:=dy h6;injection h5 with h5
   injection h5 with h5
   simp at h5;exact(h4.lt g (by rw[<-h5];exact h2)).2
  obtain⟨rlp,jI⟩:=jI;have Jg:=aD jI;have hzV:=oL.o.sz;clear jI rlp TV oL;obtain⟨SS,Yp⟩:∃ SS:Nat->Prop,(fun k=>(T k\/k<w4.heap.size\/k=w4.heap.size+1+1\/k=w4.heap.size+1+1+1)/\k<V.heap.size)=SS:=⟨_,rfl⟩;rw[Yp];have WU:am (∀ k,SS k->(T k\/k<w4.heap.size\/k=w4.heap.size+1+1\/k=w4.heap.size+1+1+1)/\k<V.heap.size):=aa (fun k hk=>by rw[<-Yp]at hk;exact hk);clear Yp;have HX:=aa hX.1;have bP:=aa hX.2.1;have lm:=aD hX.2.1;obtain⟨v,kl,lf,QF⟩:=hX.1.out;rw[hX.1.len]at lf;obtain⟨pv,cv,rfl⟩:=lf.slice;have oy:=aa kl;have dd:=aa lf;have HV3':=aa QF;have t8:=ab kl;have z8:=aH kl;have tb:=ab hX.2.1;have Ko:=fun g h=>hX.2.2 g _ kl h
  have fY:=hX.1.no;have lh:=hX.1.le;by_cases Xd:i=4096
  ·have HLT:am (4096<F.length):=aa (by rw[Bv.o,<-Xd];exact Su hi fY);have hdd:((i:Int) == 4096)=true:=by rw[Xd];rfl
   have y2:=af hX.1.old Km.o;have y3:=af hX.1.old Of.o;have y4:=af hX.1.old NK.o;have Y2:=aa y2;have Y3:=aa y3;have Y4:=aa y4;clear hX kl lf QF tb fY y2 y3 y4 Ko
   gi_wp2_with (refine ym rfl 58 (.tmp 2) (.tmp 35) rfl (w.heap.size+1) (gJ 0 (.slice none 0 0)) rfl rfl 58 _ Y2.o (by kernel_rfl) rfl (by simp[Value.oneCell']) (GO (fun W=>Bdx U.heap.size X W/\Below w.heap.size w W/\W.heap[w.heap.size+1]?=some (.cells (gJ 0 (.slice none 0 0)) 58)/\W.heap[w.heap.size+1+1]?=some (.cells #[.bool false] 4)/\W.heap[w.heap.size+1+1+1]?=some (.cells #[.int .i64 0] 39)) ⟨⟨(below_setRow (Below.refl 0 X) (Nat.zero_le _) _).size,fun k o hk ho hc=>by rw[setRow_other _ _ _ _ (by omega)];exact ho⟩,below_setRow (ae zG.o HX.o.old) (by omega) _,setRow_heap _ _ _ _ _ _ Y2.o,by rw[setRow_other _ _ _ _ (by omega)];exact Y3.o,by rw[setRow_other _ _ _ _ (by omega)];exact Y4.o⟩ ?_);intro W2 eI;have cP:=aa eI;clear eI;have t3:=ab cP.o.2.2.2.1 0;have z3:=aH cP.o.2.2.2.1 0;have t4:=ab cP.o.2.2.2.2 0;have z4:=aH cP.o.2.2.2.2 0;simp at t3 t4)
   obtain⟨q1,q2,q3⟩:=oh (ok:=false) (e:=17) cP.o.2.2.1 cP.o.2.2.2.1 cP.o.2.2.2.2;exact⟨⟨by simpa using cP.o.1.size,fun k o hk ho hc=>aM (aM (cP.o.1.same k o hk ho hc) (by omega) _ _) (by omega) _ _⟩,.inr ⟨rfl,(cP.o.2.1.setCell (by dsimp only;omega) _).setCell (by dsimp only;omega) _,q1,q2,q3,HLT.o⟩⟩
  ·have hi5:i<4096:=by omega
   have hdd:((i:Int) == 4096)=false:=beq_eq_false_iff_ne.2 (by omega);have HX':=aa hX.1;have J1:∀ g,(Value.slice pv i cv).ownBlock=some g->g≠V.heap.size:=fun g hg=>by have:=Ko g hg;omega
   have bO:=aa (lf.up ((Below.refl _ X).alloc (Nat.le_refl _) (.cells #[.int .i64 e,.int .i64 yp] 75)));have bF:=aa (dQ X [.int .i64 (e:Int),.int .i64 yp] 75);have kw:am (i+1<=maxLen):=aa (by unfold maxLen;omega);have fc:am ((i+1) * 16<=140737488355328):=aa (by omega);have gu:am (U.heap.size<=(X.alloc (.cells #[.int .i64 e,.int .i64 yp] 75)).heap.size):=aa (by have:=HX.o.sz;simp;omega);have hsX:=HX.o.sz;have tbA:∀ o j,(X.alloc o).cell? ⟨V.heap.size,j,none⟩=_:=fun o=>ab (ar o hX.2.1)
   clear hX kl lf QF fY Xd
   gi_wp2_with (gi_at_builtin;(refine qZ _ rfl (.tmp 37) (.tmp 39) 54 rfl U.heap.size 75 i0 _ 2 16 Tryz.underlying54 cB.o.1 cB.o.2.1 cB.o.2.2.1 cB.o.2.2.2 rfl (by decide) _ i _ rfl bO.o ⟨X.heap.size,0,none⟩ 1 1 [.int .i64 (e:Int),.int .i64 yp] rfl rfl bF.o (by simp[Value.oneCell']) kw.o fc.o gu.o ?_;intro v4 w6 mG fi JS;obtain⟨av4,cv4,rfl⟩:=mG.slice;have Uo:=sW bO.o fi oy.o (by omega);have c8:=ab Uo;have f8:=aH Uo))
   have Uq:=fi.size;simp only[World.size_alloc]at Uq;obtain⟨W7,uq⟩:∃ W7,W7=w6.setCell ⟨w4.heap.size,1,none⟩ (.slice av4 (i+1) cv4):=⟨_,rfl⟩;rw[<-uq]
   have hkU:∀ k,k<U.heap.size->k≠w4.heap.size->∀ o,X.heap[k]?=some o->W7.heap[k]?=some o:=fun k hk hn o ho=>by
    rw[uq];exact aM (sW bO.o fi ho hk) hn _ _
   have h78:W7.heap[w4.heap.size]?=some (.cells (gJ 1 (.slice av4 (i+1) cv4)) 58):=by rw[uq];exact(aI Uo _ _).trans rfl
   have h7r:aJ W7 U.heap.size 75 2 (.slice av4 (i+1) cv4) (i+1) (cT (way.take (i+1))):=by
    rw[uq,List.take_succ_eq_append_getElem hi,HYW.o,nY];exact mG.put (fun g hg e=>by subst e;have:=(mG.lt _ hg).1;omega) _ _
   have UW:Below w4.heap.size w4 W7:=by rw[uq];exact(Cr HX.o.old (by omega) (by omega) bO.o fi).setCell (by dsimp only;omega) _
   have h7s:W7.heap.size=w6.heap.size:=by rw[uq];simp
   have h7nc:∀ (k:Nat) (o:Obj),X.heap[k]?=some o->o.isCells=false->W7.heap[k]?=some o:=fun k o ho hc=>by
    rw[uq];exact aM (nj bO.o fi ho hc) (fun e=>by subst e;rw[oy.o]at ho;cases ho;cases hc) _ _
   have Ym:∀ k,k<X.heap.size->k≠w4.heap.size->(∀ g,(Value.slice pv i cv).ownBlock=some g->k≠g)->W7.heap[k]?=X.heap[k]?:=fun k h1 h2 h3=>by
    rw[uq,Below.heap_setCell _ _ _ _ h2,fi.block k (by simp;omega) (fun e=>h3 k e.symm rfl)];exact Below.heap_alloc X _ k h1
   have h7b:W7.heap[V.heap.size]?=some (.cells #[.int .i64 e,.int .i64 yp] 75):=(Ym _ lm (by omega) (fun g hg e=>J1 g hg e.symm)).trans bP.o;have By:=hkU _ (by omega) (by omega) _ HX.o.left;have h7sc:=HSC4.o.up UW;have H78:=aa h78;have H7R:=aa h7r;have H7O:=aa UW;have H7N:=aa h7nc;have H7K:=aa Ym;have H79:=aa By;obtain⟨qv,kv,t10,ev⟩:=h7sc.val;obtain⟨bv,ov,rfl,tev⟩:=ev e Ul;have t5:=ab (af UW Fc.o) 0;have t9:=ab By 0;have z9:=aH By 0;have tl:=ab h7b;simp only[List.getElem?_toArray,List.getElem?_cons_zero]at t5 t9;have lZ:bits .and .i64 ((comM s (cK (way.take i)):Nat):Int) ((il s e:Nat):Int)=((comM s (cK (way.take i)) &&& il s e:Nat):Int):=Au _ _ (by have:=Lp s (cK (way.take i));omega) (by have:=Lo s e;omega);rw[<-dr.o]at lZ;have HOB4:=aa JS;generalize comM s (cK (way.take i))=ma,il s e=mb at t9 tev lZ;obtain⟨mc,uB⟩:∃ mc,comM s (cK (way.take (i+1)))=mc:=⟨_,rfl⟩;rw[uB]at lZ;have HMC:=aa uB;clear uq hkU h78 h7r UW h7nc Ym h7b By h7sc ev uB tb tbA t8 z8 mG fi Uo c8 f8 JS dr;refine lu 10 (fun ⟨_,_,h⟩=>h) (by kernel_rfl) (by kernel_rfl) (by kernel_rfl) (fun ops Lq hops hLq=>?_);simp only[List.take_succ_cons,List.take_zero,List.drop_succ_cons,List.drop_zero]at hLq ⊢;have DH:=aa hLq;clear hLq;have S6:=aa hops;clear hops
   repeat still_step
   refine wpStill_nil ?_;refine DH.o _ ?_;clear t10 tev t5
   go_wp2_with fail
   obtain⟨W8,pE⟩:∃ W8,W8=(W7.setCell ⟨w4.heap.size+1,0,none⟩ (.int .i64 mc)).drew:=⟨_,rfl⟩;rw[<-pE];have h8s:W8.heap.size=W7.heap.size:=by rw[pE];simp
   have Qw:∀ k,k≠w4.heap.size+1->W8.heap[k]?=W7.heap[k]?:=fun k hk=>by rw[pE];exact Below.heap_setCell W7 _ _ _ hk
   have Yx:W8.heap[w4.heap.size+1]?=some (.cells #[.int .i64 mc] 3):=by rw[pE];exact(aI (W:=W7) H79.o 0 _).trans rfl
   have h8o:Below w4.heap.size w4 W8:=by rw[pE];exact(H7O.o.setCell (by dsimp only;omega) _).drew
   have h88:=(Qw _ (by omega)).trans H78.o;have h8r:aJ W8 U.heap.size 75 2 (.slice av4 (i+1) cv4) (i+1) (cT (way.take (i+1))):=H7R.o.keep fun g o hg ho=>(Qw g (by have:=(H7R.o.lt g hg).1;omega)).trans ho
   have h8n:∀ (k:Nat) (o:Obj),X.heap[k]?=some o->o.isCells=false->W8.heap[k]?=some o:=fun k o ho hc=>by
    rw[Qw k (fun e=>by subst e;rw[HX.o.left]at ho;cases ho;cases hc)];exact H7N.o k o ho hc
   have ND:(way.take (i+1)).length=i+1:=by rw[List.length_take];omega
   have hnT:∀ g,(Value.slice av4 (i+1) cv4).ownBlock=some g->¬ T g:=fun g hg ht=>by
    rcases HOB4.o with h|h
    ·rw[h]at hg;exact HV3'.o g hg ht
    ·rw[h]at hg;injection hg with hg
     have:=HX.o.tb g ht;simp at hg;omega
   have JR:am (EK U.heap.size w4.heap.size (way.take (i+1)) T W8):=aa ⟨_,h88,by rw[ND];exact h8r,hnT⟩
   have ij:am (dV s (way.take (i+1))=decide (mc=0)):=aa (by
    rw[<-HMC.o]
    exact FP dD.o fun y hy=>(UU.o y (List.mem_of_mem_take hy)).1.2)
   have LV:X.heap.size<=W8.heap.size:=by omega
   have H89:=aa Yx;have H8O:=aa h8o;have H8N:=aa h8n;have H8K:=aa Qw;have pk:=aa ND;have t9':=ab Yx 0;simp only[List.getElem?_toArray,List.getElem?_cons_zero]at t9';clear pE Qw Yx h8o h88 h8r h8n hnT t9 z9 lZ tl ND DH S6;by_cases vO:mc=0
   ·have HF8:am (F=way.take (i+1)):=aa (by rw[Bv.o];exact WK hi HX'.o.no (by rw[ij.o,vO];rfl));have hmz:((mc:Int) == 0)=true:=by rw[vO];rfl
    clear vO
    gi_wp2
    exact⟨⟨LV,fun k o _ ho hc=>H8N.o k o ho hc⟩,.inl ⟨rfl,H8O.o,by omega,by rw[HF8.o];exact JR.o,by rw[HF8.o,pk.o];omega⟩⟩
   ·have hmz:((mc:Int) == 0)=false:=beq_eq_false_iff_ne.2 (by omega);have fk:am (dV s (way.take (i+1))=false):=aa (by rw[ij.o];exact decide_eq_false vO);clear vO
    gi_wp2
    refine⟨⟨LV,fun k hk=>?_,fun k o _ ho hc=>H8N.o k o ho hc⟩,H8O.o,by omega,JR.o,by rw[HMC.o];exact H89.o,aY (p:=fun j=>dV s (way.take (j+1))=false) HX'.o.no fk.o,by omega,pk.o,fun k hk=>Nat.lt_of_lt_of_le (HX.o.tb k hk) LV⟩;obtain⟨mo,mA⟩:=WU.o k hk
    have bK:k≠w4.heap.size/\k≠w4.heap.size+1:=by
     rcases mo with h|h|h|h
     ·have:=hT k h;omega
     ·omega
     ·omega
     ·omega
    rw[H8K.o k bK.2];refine H7K.o k (by omega) bK.1 fun g hg e=>?_
    subst e;have hgU:=(dd.o.lt k hg).1;rcases mo with h|h|h|h
    ·exact HV3'.o k hg h
    ·omega
    ·omega
    ·omega
theorem I7(c f:Int) (pw:Option Addr) (nw cw:Nat) (vv:Value) (w:World) (li:nw<=6) (eV:0<nw->∃ b1 o1,pw=some ⟨b1,o1,none⟩/\w.cell? ⟨b1,o1+(nw - 1) * 7+6,none⟩=some (.int .i64 f)) (fU:nw=0->f=0) :
  Calls Tryz.prog 67 #[.agg #[.int .i64 c,.slice pw nw cw,vv]] w fun r w'=>r=.returned (.int .i64 f)/\Below w.heap.size w w':=by
 by_cases hw:nw=0
 ·obtain rfl:=fU hw;subst hw;clear fU eV
  go_enter Tryz.func67,Tryz.ntmps67
  go_wp2_with fail
  go_ret
  exact⟨rfl,by go_grown⟩
 ·obtain⟨q,rfl⟩:∃ q,nw=q+1:=⟨nw - 1,by omega⟩;obtain⟨b1,o1,rfl,c5⟩:=eV (by omega);rw[Nat.add_sub_cancel]at c5;have d5:∀ o1',(w.alloc o1').cell? ⟨b1,o1+q * 7+6,none⟩=some (.int .i64 f):=fun o1'=>ak (by go_grown) c5
  clear c5 eV fU
  go_enter Tryz.func67,Tryz.ntmps67
  go_wp2_with fail
  go_ret
  exact⟨rfl,by go_grown⟩
theorem C6{W:World} {B:Nat} {v:Vw} {p:Nat} (hp:p<5) (hB:W.heap[B]?=some (.cells #[.int .i64 (p:Nat),.int .i64 v.k,.int .i64 v.i,.int .i64 v.h0,.int .i64 v.h1,.int .i64 v.h2,.int .i64 v.h3,.int .i64 v.h4] 190)):W.cell? ⟨B,3+p,none⟩=some (.int .i64 (v.hear p)):=by
 rw[ab hB];rcases (show p=0\/p=1\/p=2\/p=3\/p=4 by omega) with rfl|rfl|rfl|rfl|rfl<;>rfl
theorem I8(n:Int) (tb:List Vw) (vt:Value) (i:Nat) (hi:i<tb.length) (eN:mX tb.length (tb.getD i default)) (w:World) (hv:kW w vt tb) :
  Calls Tryz.prog 151 #[.agg #[.int .i64 n,vt],.int .i64 i] w fun r w'=>r=.returned (.int .i64 (befV (tb.getD i default)))/\Below w.heap.size w w':=by
 obtain⟨pt,ct,rfl,_,_,et⟩:=hv.at;obtain⟨b,o,rfl,h0,h1,h2,h3,h4,h5,h6,h7⟩:=et i hi;have hg:=az (default:Vw) hi;rw[<-hg]at h0 h1 h2 h3 h4 h5 h6 h7;clear hg et hv;generalize tb.getD i default=v at h0 h1 h2 h3 h4 h5 h6 h7 eN ⊢;generalize tb.length=nt at hi eN ⊢;obtain⟨p,hp⟩:∃ p:Nat,v.p=p:=⟨v.p.toNat,by have:=eN.1;omega⟩;have zu:p<5:=by have:=eN.2.1;omega
 rw[hp]at h0;have lq:am (befV v=if v.k=0 then -1 else v.hear p):=aa (by unfold befV;rw[hp,Int.toNat_natCast]);generalize befV v=bv at lq ⊢;have ku:∀ X:Obj,Below w.heap.size w (w.alloc X):=fun X=>(Below.refl _ _).alloc (Nat.le_refl _) X
 have c0:=fun X=>ak (ku X) h0.1;have c1:=fun X=>ak (ku X) h1.1;have c2:=fun X=>ak (ku X) h2.1;have c3:=fun X=>ak (ku X) h3.1
 have c4:=fun X=>ak (ku X) h4.1;have c5:=fun X=>ak (ku X) h5.1;have c6:=fun X=>ak (ku X) h6.1;have c7:=fun X=>ak (ku X) h7.1
 have hY:=aZ w (.cells #[.int .i64 n,.slice (some ⟨b,o,none⟩) nt ct] 32) (.cells #[.int .i64 (p:Nat),.int .i64 v.k,.int .i64 v.i,.int .i64 v.h0,.int .i64 v.h1,.int .i64 v.h2,.int .i64 v.h3,.int .i64 v.h4] 190);have tY:=C6 (v:=v) zu hY;have tZ:=ab hY;have HG:am (∀ X Y:Obj,Below w.heap.size w ((w.alloc X).alloc Y)):=aa fun X Y=>by go_grown
 generalize v.hear p=F9 at tY lq;generalize v.k=vk at c1 tY tZ lq hY;generalize v.i=vi at c2 tY tZ hY;generalize v.h0=u0 at c3 tY tZ hY;generalize v.h1=u1 at c4 tY tZ hY;generalize v.h2=u2 at c5 tY tZ hY;generalize v.h3=u3 at c6 tY tZ hY;generalize v.h4=u4 at c7 tY tZ hY;clear h0 h1 h2 h3 h4 h5 h6 h7 hp eN ku hY
 go_enter Tryz.func151,Tryz.ntmps151
 by_cases hk:vk=0
 ·have hd:(vk == 0)=true:=by simpa using hk
  have HV:am (bv=-1):=aa (by rw[lq.o,if_pos hk]);clear hk lq
  go_wp2_with fail
  go_ret
  exact⟨aE HV.o.symm,HG.o _ _⟩
 ·have hd:(vk == 0)=false:=by simpa using hk
  have HV:am (bv=F9):=aa (by rw[lq.o,if_neg hk]);clear hk lq
  go_wp2_with fail
  go_ret
  exact⟨aE HV.o.symm,HG.o _ _⟩
theorem I9(n:Int) (tb:List Vw) (vt:Value) (i:Nat) (hi:i<tb.length) (eN:mX tb.length (tb.getD i default)) (w:World) (hv:kW w vt tb) :
  Calls Tryz.prog 103 #[.agg #[.int .i64 n,vt],.int .i64 i] w fun r w'=>r=.returned (.int .i64 (befV (tb.getD i default)))/\Below w.heap.size w w':=by
 obtain⟨pt,ct,rfl,_,_,et⟩:=hv.at;obtain⟨b,o,rfl,h0,h1,h2,h3,h4,h5,h6,h7⟩:=et i hi;have hg:=az (default:Vw) hi;rw[<-hg]at h0 h1 h2 h3 h4 h5 h6 h7;clear hg et hv;generalize tb.getD i default=v at h0 h1 h2 h3 h4 h5 h6 h7 eN ⊢;generalize tb.length=nt at hi eN ⊢;obtain⟨p,hp⟩:∃ p:Nat,v.p=p:=⟨v.p.toNat,by have:=eN.1;omega⟩;have zu:p<5:=by have:=eN.2.1;omega
 rw[hp]at h0;have lq:am (befV v=if v.k=0 then -1 else v.hear p):=aa (by unfold befV;rw[hp,Int.toNat_natCast]);generalize befV v=bv at lq ⊢;have ku:∀ X:Obj,Below w.heap.size w (w.alloc X):=fun X=>(Below.refl _ _).alloc (Nat.le_refl _) X
 have c0:=fun X=>ak (ku X) h0.1;have c1:=fun X=>ak (ku X) h1.1;have c2:=fun X=>ak (ku X) h2.1;have c3:=fun X=>ak (ku X) h3.1
 have c4:=fun X=>ak (ku X) h4.1;have c5:=fun X=>ak (ku X) h5.1;have c6:=fun X=>ak (ku X) h6.1;have c7:=fun X=>ak (ku X) h7.1
 have hY:=aZ w (.cells #[.int .i64 n,.slice (some ⟨b,o,none⟩) nt ct] 32) (.cells #[.int .i64 (p:Nat),.int .i64 v.k,.int .i64 v.i,.int .i64 v.h0,.int .i64 v.h1,.int .i64 v.h2,.int .i64 v.h3,.int .i64 v.h4] 190);have tY:=C6 (v:=v) zu hY;have tZ:=ab hY;have HG:am (∀ X Y:Obj,Below w.heap.size w ((w.alloc X).alloc Y)):=aa fun X Y=>by go_grown
 generalize v.hear p=F9 at tY lq;generalize v.k=vk at c1 tY tZ lq hY;generalize v.i=vi at c2 tY tZ hY;generalize v.h0=u0 at c3 tY tZ hY;generalize v.h1=u1 at c4 tY tZ hY;generalize v.h2=u2 at c5 tY tZ hY;generalize v.h3=u3 at c6 tY tZ hY;generalize v.h4=u4 at c7 tY tZ hY;clear h0 h1 h2 h3 h4 h5 h6 h7 hp eN ku hY
 go_enter Tryz.func103,Tryz.ntmps103
 by_cases hk:vk=0
 ·have hd:(vk == 0)=true:=by simpa using hk
  have HV:am (bv=-1):=aa (by rw[lq.o,if_pos hk]);clear hk lq
  go_wp2_with fail
  go_ret
  exact⟨aE HV.o.symm,HG.o _ _⟩
 ·have hd:(vk == 0)=false:=by simpa using hk
  have HV:am (bv=F9):=aa (by rw[lq.o,if_neg hk]);clear hk lq
  go_wp2_with fail
  go_ret
  exact⟨aE HV.o.symm,HG.o _ _⟩
theorem Np(s:Sys) (hv:verifyE s=0) (lr:List Int) (hf:FormOk s lr) (vc vs vt ve vr:Value) (w:World) (cA:IsSys w s vc vs vt ve) (hr:aQ w vr lr) :
  Calls Tryz.prog 104 #[.agg (bL s.prob vc vs s.n vt ve),.agg #[vr]] w fun r w'=>r=.returned (.int .i64 0)/\Below w.heap.size w w':=by
 have HF:=aa hf;have aC:=(gE hv).tab;obtain⟨⟨qc,kc,rfl⟩,⟨qs,ks,rfl⟩,⟨qt,kt,rfl⟩,⟨qe,ke,rfl⟩⟩:=bD cA;obtain⟨pR,cR,rfl,eR⟩:=cV hr;have uA:=aa (P8 hv);have za:=aa (fun k (hk:k<s.tab.length) W (hb:Below w.heap.size w W)=>I8 s.n s.tab _ k hk (uA.o k hk) W (cA.tab.up up_view hb));have Bk:=aa eR;have cC:=hf.len;obtain⟨m,hm⟩:∃ m,lr.length=m:=⟨_,rfl⟩;have F6:s.tab.length=m:=by rw[<-cC,hm]
 have HM:=aa hm;rw[hm]at Bk ⊢;rw[F6]at aC uA za ⊢;generalize s.prob.t.cases.length=nc,s.prob.a.states.length=ns,s.ex.length=ne;clear hf hv cA hr eR cC hm F6
 go_enter Tryz.func104,Tryz.ntmps104
 go_wp2_with fail
 refine bC (fun W=>Below w.heap.size w W/\(∃ c,W.heap[w.heap.size]?=some (.cells c 35)/\c=bL s.prob (.slice qc nc kc) (.slice qs ns ks) s.n (.slice qt m kt) (.slice qe ne ke))/\W.heap[w.heap.size+1]?=some (.cells #[.slice pR m cR] 49)) ⟨by go_grown,⟨_,ar _ (ap _ _),rfl⟩,aZ _ _ _⟩ (fun W0 aX=>?_);obtain⟨aG,⟨_,bB,rfl⟩,eB⟩:=aX;have eQ:=aa aG;have j8:=aa bB;have zx:=aa eB;have ta:=ab bB;have tr:=ab eB 0;simp at tr;clear aG bB eB
 go_wp2_with fail
 clear ta tr
 go_loopw [19] (fun i wr=>Below W0.heap.size W0 wr/\∃ k:Nat,k<=m/\i=.int .i64 k) (fun i _=>m - (intOf i).toNat)
 ·exact⟨Below.refl _ _,0,by omega,rfl⟩
 ·
  obtain⟨aA,k,hk,rfl⟩:=hrel;have aV:=aa aA;have dz:=aa (ae eQ.o aA);have ph:=aa (af aA zx.o);have Be:=aa (af aA j8.o);clear aA;by_cases qE:k<m
  ·obtain⟨b1,o1,rfl,c1⟩:=Bk.o k qE;have c1:=ak dz.o c1;have hrg:=HF.o.rng k (by rw[HM.o];exact qE);have Uf:=HF.o.per k (by rw[HM.o];exact qE);obtain⟨_,_,DP⟩:=uA.o k qE;have oW:=aa (za.o k qE);have jm:befV (s.tab.getD k default)=befS s k:=rfl;rw[jm]at DP oW;generalize befS s k=b at DP oW Uf;obtain⟨x,hx⟩:∃ x,lr.getD k 0=x:=⟨_,rfl⟩;rw[hx]at c1 hrg Uf;have qJ:decide (x < -1)=false:=decide_eq_false (by omega);have fw:decide (s.prob.t.outs<=x)=false:=decide_eq_false (by omega);have ta:=ab Be.o;have HPR:=aa Uf;clear hx hrg Uf jm
   go_wp2_with fail
   clear ta c1;refine(oW.o wr dz.o).mono ?_;rintro r w2 ⟨rfl,aT⟩;have cf:=aa (ae aV.o aT);have eh:=aa (af aT ph.o);clear aT oW qJ fw;by_cases aG:0<=b
   ·obtain⟨q,rfl⟩:∃ q:Nat,b=q:=⟨b.toNat,by omega⟩;have xJ:q<m:=by omega
    have qJ:decide ((0:Int)<=(q:Int))=true:=decide_eq_true aG;have QN:=aa (HPR.o (by omega));obtain⟨b2,o2,e2,c2⟩:=Bk.o q xJ;injection e2 with e2
    injection e2 with e3 e4 _
    subst e3 e4;have c2:=ak (ae eQ.o cf.o) c2;obtain⟨y,hy⟩:∃ y,lr.getD q 0=y:=⟨_,rfl⟩;rw[Int.toNat_natCast,hy]at QN;rw[hy]at c2;have tr:=ab eh.o 0;simp at tr;clear DP aG hy;by_cases fM:0<=y
    ·have fw:decide ((0:Int)<=y)=true:=decide_eq_true fM;have bK:(y != x)=false:=by rw[QN.o fM];simp
     clear fM
     go_wp2_with fail
     go_roundw
     ·exact⟨cf.o,k+1,by omega,by go_num⟩
     ·simp[intOf];omega
    ·have fw:decide ((0:Int)<=y)=false:=decide_eq_false fM;clear fM
     go_wp2_with fail
     go_roundw
     ·exact⟨cf.o,k+1,by omega,by go_num⟩
     ·simp[intOf];omega
   ·have qJ:decide ((0:Int)<=b)=false:=decide_eq_false aG;clear DP aG
    go_wp2_with fail
    go_roundw
    ·exact⟨cf.o,k+1,by omega,by go_num⟩
    ·simp[intOf];omega
  ·obtain rfl:k=m:=by omega
   go_wp2_with fail
   go_ret
   exact⟨rfl,dz.o⟩
theorem Nq(s:Sys) (hv:verifyE s=0) (lr:List Int) (vc vs vt ve vr:Value) (w:World) (cA:IsSys w s vc vs vt ve) (hr:aQ w vr lr) :
  Calls Tryz.prog 64 #[.agg (bL s.prob vc vs s.n vt ve),.agg #[vr]] w fun r w'=>(∃ e,r=.returned (.int .i64 e)/\(e=0->FormOk s lr))/\Below w.heap.size w w':=by
 have aC:=(gE hv).tab;obtain⟨⟨qc,kc,rfl⟩,⟨qs,ks,rfl⟩,⟨qt,kt,rfl⟩,⟨qe,ke,rfl⟩⟩:=bD cA;obtain⟨pR,cR,rfl,eR⟩:=cV hr;have uA:=aa (P8 hv);have za:=aa (fun k (hk:k<s.tab.length) W (hb:Below w.heap.size w W)=>I9 s.n s.tab _ k hk (uA.o k hk) W (cA.tab.up up_view hb));have Bk:=aa eR;have oE:am (lr.length=s.tab.length->(∀ v,v<lr.length->(-1<=lr.getD v 0/\lr.getD v 0<s.prob.t.outs)/\(0<=befS s v->0<=lr.getD (befS s v).toNat 0->lr.getD (befS s v).toNat 0=lr.getD v 0))->FormOk s lr):=aa fun h1 h2=>⟨h1,fun v hv=>(h2 v hv).1,fun v hv=>(h2 v hv).2⟩
 obtain⟨m,hm⟩:∃ m,lr.length=m:=⟨_,rfl⟩;obtain⟨mt,F6⟩:∃ mt,s.tab.length=mt:=⟨_,rfl⟩;rw[hm]at Bk oE ⊢;rw[F6]at aC uA za oE ⊢;generalize s.prob.t.cases.length=nc,s.prob.a.states.length=ns,s.ex.length=ne;clear hv cA hr eR hm F6
 go_enter Tryz.func64,Tryz.ntmps64
 have hX:=ar (.cells #[.slice pR m cR] 49) (ap w (.cells (bL s.prob (.slice qc nc kc) (.slice qs ns ks) s.n (.slice qt mt kt) (.slice qe ne ke)) 35));have hY:=aZ w (.cells (bL s.prob (.slice qc nc kc) (.slice qs ns ks) s.n (.slice qt mt kt) (.slice qe ne ke)) 35) (.cells #[.slice pR m cR] 49);have ta:=ab hX;have tr:=ab hY 0;simp at tr;have HG:am (∀ X Y:Obj,Below w.heap.size w ((w.alloc X).alloc Y)):=aa fun X Y=>by go_grown
 have HX:am _:=aa hX;have HY:am _:=aa hY;clear hX hY;by_cases vL:m=mt
 case neg=>
  have bK:((m:Int) != (mt:Int))=true:=by simp;omega
  have S0:(m != mt)=true:=by simpa using vL
  clear vL
  go_wp2_with fail
  go_ret
  exact⟨⟨15,rfl,fun h=>by omega⟩,HG.o _ _⟩
 subst vL;have v7:=aa (oE.o rfl);clear oE
 go_wp2_with fail
 clear ta tr;refine bC (fun W=>Below w.heap.size w W/\(∃ c,W.heap[w.heap.size]?=some (.cells c 35)/\c=bL s.prob (.slice qc nc kc) (.slice qs ns ks) s.n (.slice qt m kt) (.slice qe ne ke))/\W.heap[w.heap.size+1]?=some (.cells #[.slice pR m cR] 49)) ⟨HG.o _ _,⟨_,HX.o,rfl⟩,HY.o⟩ (fun W0 aX=>?_);obtain⟨aG,⟨_,bB,rfl⟩,eB⟩:=aX;have eQ:=aa aG;have j8:=aa bB;have zx:=aa eB;clear aG bB eB HX HY HG
 go_loopw [5] (fun i wr=>Below W0.heap.size W0 wr/\∃ k:Nat,k<=m/\i=.int .i64 k/\∀ v,v<k->(-1<=lr.getD v 0/\lr.getD v 0<s.prob.t.outs)/\(0<=befS s v->0<=lr.getD (befS s v).toNat 0->lr.getD (befS s v).toNat 0=lr.getD v 0)) (fun i _=>m - (intOf i).toNat)
 ·exact⟨Below.refl _ _,0,by omega,rfl,fun v hv=>by omega⟩
 ·
  obtain⟨aA,k,hk,rfl,fY⟩:=hrel;have fk:=aa fY;have aV:=aa aA;have dz:=aa (ae eQ.o aA);have ph:=aa (af aA zx.o);have Be:=aa (af aA j8.o);have tr:=ab ph.o 0;simp at tr;clear aA fY;by_cases qE:k<m
  ·obtain⟨b1,o1,rfl,c1⟩:=Bk.o k qE;have c1:=ak dz.o c1;obtain⟨_,_,DP⟩:=uA.o k qE;have oW:=aa (za.o k qE);have jm:befV (s.tab.getD k default)=befS s k:=rfl;rw[jm]at DP oW
   have dr:am ((-1<=lr.getD k 0/\lr.getD k 0<s.prob.t.outs)/\(0<=befS s k->0<=lr.getD (befS s k).toNat 0->lr.getD (befS s k).toNat 0=lr.getD k 0)->∀ v,v<k+1->(-1<=lr.getD v 0/\lr.getD v 0<s.prob.t.outs)/\(0<=befS s v->0<=lr.getD (befS s v).toNat 0->lr.getD (befS s v).toNat 0=lr.getD v 0)):=aa fun h v hv=>by
    rcases Nat.lt_succ_iff_lt_or_eq.1 hv with h2|h2
    ·exact fk.o v h2
    ·subst h2;exact h
   generalize befS s k=b at DP oW dr;obtain⟨x,hx⟩:∃ x,lr.getD k 0=x:=⟨_,rfl⟩;rw[hx]at c1 dr;have yr:∀ z:ExtW wr,∀ j,z.val.cell? ⟨w.heap.size+1,j,none⟩=_:=fun z=>ab (af z.ext ph.o)
   have ya:∀ z:ExtW wr,∀ j,z.val.cell? ⟨w.heap.size,j,none⟩=_:=fun z=>ab (af z.ext Be.o)
   have y1:∀ z:ExtW wr,z.val.cell? ⟨b1,o1+k,none⟩=_:=fun z=>ak z.ext c1
   clear hx jm;by_cases dm:x < -1
   ·have qJ:decide (x < -1)=true:=decide_eq_true dm;clear dm
    go_wp2_with fail
    refine aB (by kernel_rfl) (by kernel_rfl) ?_
    repeat (go_big_quiet_step (fail))
    refine wpQuiet_nil ?_;rintro _ ⟨xq,rfl⟩;have bP:=aa (ae dz.o xq.ext);clear yr ya y1
    go_wp2_with fail
    go_ret
    exact⟨⟨2,rfl,fun h=>by omega⟩,bP.o⟩
   have qJ:decide (x < -1)=false:=decide_eq_false dm;by_cases dM:s.prob.t.outs<=x
   ·have fw:decide (s.prob.t.outs<=x)=true:=decide_eq_true dM;clear dm dM
    go_wp2_with fail
    refine aB (by kernel_rfl) (by kernel_rfl) ?_
    repeat (go_big_quiet_step (fail))
    refine wpQuiet_nil ?_;rintro _ ⟨xq,rfl⟩;have bP:=aa (ae dz.o xq.ext);clear yr ya y1
    go_wp2_with fail
    go_ret
    exact⟨⟨2,rfl,fun h=>by omega⟩,bP.o⟩
   have fw:decide (s.prob.t.outs<=x)=false:=decide_eq_false dM;have kx:=aa (fun h=>dr.o ⟨⟨by omega,by omega⟩,h⟩);clear dm dM dr
   go_wp2_with fail
   refine aB (by kernel_rfl) (by kernel_rfl) ?_
   repeat (go_big_quiet_step (fail))
   refine wpQuiet_nil ?_;rintro _ ⟨xq,rfl⟩;have bP:=aa (ae dz.o xq.ext);have eU:=aa (ae aV.o xq.ext);have UK:=aa (af xq.ext ph.o);have QT:=aa (af xq.ext Be.o);have C1:=aa (ak xq.ext c1);clear yr ya y1 qJ fw tr c1;generalize xq.val=W5 at bP eU UK QT C1 ⊢;have ta:=ab QT.o
   go_wp2_with fail
   clear ta;refine(oW.o W5 bP.o).mono ?_;rintro r w6 ⟨rfl,gz⟩;have qK:=aa (ae eU.o gz);have HBW6:=aa (ae bP.o gz);have HR6:=aa (af gz UK.o);have c1:=ak gz C1.o;have yr:∀ z:ExtW w6,∀ j,z.val.cell? ⟨w.heap.size+1,j,none⟩=_:=fun z=>ab (af z.ext HR6.o)
   have y1:∀ z:ExtW w6,z.val.cell? ⟨b1,o1+k,none⟩=_:=fun z=>ak z.ext c1
   clear gz oW C1;by_cases aG:0<=b
   ·obtain⟨qn,rfl⟩:∃ qn:Nat,b=qn:=⟨b.toNat,by omega⟩;have xJ:qn<m:=by omega
    have qJ:decide ((0:Int)<=(qn:Int))=true:=decide_eq_true aG;obtain⟨b2,o2,e2,c2⟩:=Bk.o qn xJ;injection e2 with e2
    injection e2 with e3 e4 _
    subst e3 e4;have c2:=ak HBW6.o c2;obtain⟨y,hy⟩:∃ y,lr.getD qn 0=y:=⟨_,rfl⟩;rw[Int.toNat_natCast,hy]at kx;rw[hy]at c2;have y2:∀ z:ExtW w6,z.val.cell? ⟨b1,o1+qn,none⟩=_:=fun z=>ak z.ext c2
    clear DP aG hy;by_cases fM:0<=y
    ·have fw:decide ((0:Int)<=y)=true:=decide_eq_true fM;by_cases cg:x=y
     ·have bK:(x != y)=false:=by simpa using cg
      have rj:=aa (kx.o (fun _ _=>cg.symm));clear fM cg kx
      go_wp2_with fail
      refine aB (by kernel_rfl) (by kernel_rfl) ?_
      repeat (go_big_quiet_step (fail))
      refine wpQuiet_nil ?_;rintro _ ⟨xq,rfl⟩;have Kb:=aa (ae qK.o xq.ext);clear yr y1 y2
      go_wp2_with fail
      go_roundw
      ·exact⟨Kb.o,k+1,by omega,by go_num,rj.o⟩
      ·simp[intOf];omega
     ·have bK:(x != y)=true:=by simpa using cg
      clear fM cg kx
      go_wp2_with fail
      refine aB (by kernel_rfl) (by kernel_rfl) ?_
      repeat (go_big_quiet_step (fail))
      refine wpQuiet_nil ?_;rintro _ ⟨xq,rfl⟩;have Kb:=aa (ae HBW6.o xq.ext);clear yr y1 y2
      go_wp2_with fail
      go_ret
      exact⟨⟨21,rfl,fun h=>by omega⟩,Kb.o⟩
    ·have fw:decide ((0:Int)<=y)=false:=decide_eq_false fM;have rj:=aa (kx.o (fun _ h=>absurd h fM));clear fM kx
     go_wp2_with fail
     refine aB (by kernel_rfl) (by kernel_rfl) ?_
     repeat (go_big_quiet_step (fail))
     refine wpQuiet_nil ?_;rintro _ ⟨xq,rfl⟩;have Kb:=aa (ae qK.o xq.ext);clear yr y1 y2
     go_wp2_with fail
     go_roundw
     ·exact⟨Kb.o,k+1,by omega,by go_num,rj.o⟩
     ·simp[intOf];omega
   ·have qJ:decide ((0:Int)<=b)=false:=decide_eq_false aG;have rj:=aa (kx.o (fun h=>absurd h aG));clear DP aG kx
    go_wp2_with fail
    refine aB (by kernel_rfl) (by kernel_rfl) ?_
    repeat (go_big_quiet_step (fail))
    refine wpQuiet_nil ?_;rintro _ ⟨xq,rfl⟩;have Kb:=aa (ae qK.o xq.ext);clear yr y1
    go_wp2_with fail
    go_roundw
    ·exact⟨Kb.o,k+1,by omega,by go_num,rj.o⟩
    ·simp[intOf];omega
  ·obtain rfl:k=m:=by omega
   have dD:=aa (v7.o fk.o)
   go_wp2_with fail
   go_ret
   exact⟨⟨0,rfl,fun _=>dD.o⟩,dz.o⟩
theorem Wd{f:Int} {p:Nat} (h0:0<=f) (h1:f<32) (hp:p<6):(bits .and .i64 (f / 2 ^ p) 1 == 0)=!hasB f p:=by
 have key:∀ m:Fin 32,∀ q:Fin 6,(bits .and .i64 (((m.val:Nat):Int) / 2 ^ q.val) 1 == 0)=!hasB ((m.val:Nat):Int) q.val:=by decide +kernel
 obtain⟨m,rfl⟩:∃ m:Nat,f=m:=⟨f.toNat,by omega⟩;exact key ⟨m,by omega⟩ ⟨p,hp⟩
theorem Nr(v outs:List Int) (f:Int) (h0:0<=f) (h1:f<32) (zN:v.length<=5) (J9:v.length<=outs.length) (vv vo:Value) (w:World) (hv:aQ w vv v) (ho:aQ w vo outs) :
  Calls Tryz.prog 111 #[vv,vo,.int .i64 f] w fun r w'=>r=.returned (.bool (ragrB v outs f))/\w=w':=by
 obtain⟨pv,cv,rfl,ev⟩:=cV hv;obtain⟨po,co,rfl,eo⟩:=cV ho;have EV:=aa ev;have EO:=aa eo;have HR:am (ragrB v outs f=!anyLt v.length fun p=>!hasB f p&&decide (outs.getD p 0≠v.getD p 0)):=aa rfl;generalize ragrB v outs f=rb at HR ⊢;obtain⟨n,hn⟩:∃ n,v.length=n:=⟨_,rfl⟩;obtain⟨m,hm⟩:∃ m,outs.length=m:=⟨_,rfl⟩;rw[hn]at EV HR zN J9 ⊢;rw[hm]at EO J9 ⊢;clear hv ho ev eo hn hm
 go_enter Tryz.func111,Tryz.ntmps111
 go_wp2_with fail
 go_loopw [11] (fun i wr=>w=wr/\∃ k:Nat,k<=n/\i=.int .i64 k/\∀ p,p<k->(!hasB f p&&decide (outs.getD p 0≠v.getD p 0))=false) (fun i _=>n - (intOf i).toNat)
 ·exact⟨rfl,0,by omega,rfl,fun p hp=>by omega⟩
 ·
  obtain⟨rfl,k,hk,rfl,fY⟩:=hrel;have fk:=aa fY;clear fY;by_cases aC:k<n
  ·obtain⟨b1,o1,rfl,c1⟩:=EV.o k aC;obtain⟨b2,o2,rfl,c2⟩:=EO.o k (by omega);have hsb:=Wd h0 h1 (show k<6 by omega);have hko:k<m:=by omega
   have dr:am ((!hasB f k&&decide (outs.getD k 0≠v.getD k 0))=false->∀ p,p<k+1->(!hasB f p&&decide (outs.getD p 0≠v.getD p 0))=false):=aa fun h p hp=>by
    rcases Nat.lt_succ_iff_lt_or_eq.1 hp with h2|h2
    ·exact fk.o p h2
    ·subst h2;exact h
   have kb:am ((!hasB f k&&decide (outs.getD k 0≠v.getD k 0))=true->rb=false):=aa fun h=>by
    rw[HR.o,Bool.not_eq_false'];exact dN _ k _ aC h
   generalize outs.getD k 0=ok at c2 dr kb;generalize v.getD k 0=vk at c1 dr kb;cases hf:hasB f k with
   | true=>
    rw[hf]at hsb dr;have HS:=aa (dr.o (by simp));clear hf dr kb
    go_wp2_with fail
    go_roundw
    ·exact⟨trivial,k+1,by omega,by go_num,HS.o⟩
    ·simp[intOf];omega
   | false=>
    rw[hf]at hsb dr kb;by_cases he:ok=vk
    ·have bK:(ok != vk)=false:=by simpa using he
     have HS:=aa (dr.o (by simp[he]));clear hf dr kb he
     go_wp2_with fail
     go_roundw
     ·exact⟨trivial,k+1,by omega,by go_num,HS.o⟩
     ·simp[intOf];omega
    ·have bK:(ok != vk)=true:=by simpa using he
     have HS:=aa (kb.o (by simp[he]));clear hf dr kb he
     go_wp2_with fail
     go_ret
     exact⟨aR HS.o.symm,rfl⟩
  ·obtain rfl:k=n:=by omega
   have HS:am (rb=true):=aa (by rw[HR.o,Bool.not_eq_true',dG];exact fk.o)
   go_wp2_with fail
   go_ret
   exact⟨aR HS.o.symm,rfl⟩
theorem P9(x:Int) (t:Tk) (vc:Value) (B:Nat) (w:World) (hB:w.heap[B]?=some (.cells #[.int .i64 t.n,.int .i64 t.ins,.int .i64 t.outs,vc] 24)) :
  Calls Tryz.prog 107 #[.int .i64 x,.pointer (some ⟨B,0,none⟩)] w fun r w'=>r=.returned (.bool (decide (x < -1) || decide (t.outs<=x)))/\Below w.heap.size w w':=by
 have tb:=ab hB 2;simp at tb;clear hB
 go_enter Tryz.func107,Tryz.ntmps107
 by_cases h:x < -1
 ·have hd:decide (x < -1)=true:=decide_eq_true h;have HD:=aa hd
  go_wp2_with fail
  go_ret
  exact⟨by rw[HD.o];rfl,Below.refl _ _⟩
 ·have hd:decide (x < -1)=false:=decide_eq_false h
  go_wp2_with fail
  go_ret
  exact⟨rfl,Below.refl _ _⟩
theorem Qa(v outs:List Int) (f:Int) (h0:0<=f) (h1:f<32) (zN:v.length<=5) (J9:v.length<=outs.length) (vv vo:Value) (Bo Bf:Nat) (w:World) (hv:aQ w vv v) (ho:aQ w vo outs) (y8:w.heap[Bo]?=some (.cells #[vo] 38)) (hBf:w.heap[Bf]?=some (.cells #[.int .i64 f] 3)) :
  Calls Tryz.prog 110 #[vv,.pointer (some ⟨Bo,0,none⟩),.pointer (some ⟨Bf,0,none⟩)] w fun r w'=>r=.returned (.bool (ragrB v outs f))/\Below w.heap.size w w':=by
 have HA:=aa (Nr v outs f h0 h1 zN J9 vv vo w hv ho);obtain⟨pv,cv,rfl,-⟩:=hv.at;obtain⟨po,co,rfl,-⟩:=ho.at;have to:=ab y8 0;have tf:=ab hBf 0;simp at to tf;clear hv ho y8 hBf zN J9;generalize v.length=n,outs.length=m at HA to ⊢
 go_enter Tryz.func110,Tryz.ntmps110
 go_wp2_with fail
 refine HA.o.mono ?_;rintro r _ ⟨rfl,rfl⟩
 go_wp2_with fail
 go_ret
 exact⟨rfl,Below.refl _ _⟩
def WN(l:List (List Int)):MP:=⟨fun x W=>dL W x l,fun _ _ _ h hb=>h.up up_ints hb⟩
theorem EN(t:Tk) (vc:Value) (i:Nat) (f:Int) (outs:List Int) (vo:Value) (w:World) (hv:bM w vc t.cases) (ho:aQ w vo outs) (vZ:gI t i f=0) (cC:(outs.length:Int)=t.n) (hr:∀ x∈outs,-1<=x/\x<t.outs) (h5:outs.length<=5) (hf:0<=f/\f<32) (hi:i<t.cases.length)
  (rf:∀ v∈fm (t.cases.getD i default) f,v.length=outs.length) :
  Calls Tryz.prog 66 #[.agg #[.int .i64 t.n,.int .i64 t.ins,.int .i64 t.outs,vc],.int .i64 i,.int .i64 f,vo] w fun r w'=>r=.returned (.tuple #[.bool (anyLt (fm (t.cases.getD i default) f).length fun k=>ragrB ((fm (t.cases.getD i default) f).getD k []) outs f),.int .i64 0])/\Below w.heap.size w w':=by
 have TX:=aa (fun W (hb:Below w.heap.size w W)=>Fv t vc i f W (hv.up up_case hb));rw[vZ]at TX;obtain⟨pc,cc,rfl,_,_,ec⟩:=hv.at;obtain⟨bc,oc,rfl,⟨x0,c0,_⟩,⟨x1,c1,h1⟩,⟨x2,c2,h2⟩⟩:=ec i hi;have hg:=az (default:Cs) hi;rw[<-hg]at h1 h2;have e0:∃ a n c,x0=.slice a n c:=by rename_i g0;obtain⟨a,c,e,_⟩:=g0.at;exact⟨_,_,_,e⟩
 obtain⟨a0,n0,d0,rfl⟩:=e0;obtain⟨L,hL⟩:∃ L,fm (t.cases.getD i default) f=L:=⟨_,rfl⟩;have Dp:=aa (fun W (hb:Below w.heap.size w W)=>yE (.slice a0 n0 d0) x1 x2 (t.cases.getD i default) f W (h1.up up_ints hb) (h2.up up_ints hb));rw[hL]at Dp rf ⊢;obtain⟨pb,YG⟩:∃ pb,(anyLt L.length fun k=>ragrB (L.getD k []) outs f)=pb:=⟨_,rfl⟩;rw[YG];have L6:=aa YG;clear YG;obtain⟨a1,d1,rfl,_⟩:=h1.at;obtain⟨a2,d2,rfl,_⟩:=h2.at;generalize (t.cases.getD i default).out.length=n1,(t.cases.getD i default).calm.length=n2 at Dp c1 c2;obtain⟨po,co,rfl,lo1,lo2,_⟩:=ho.at;have HO:=aa ho;have nz:=aa rf;have HR:=aa hr;have pk:am (outs.length=outs.length):=aa rfl;have eg1:=enters_of (P:=Tryz.prog) Tryz.func107 (by kernel_rfl) rfl;have EG1:am (∀ args w,(callFunc 107 args).run Tryz.prog w=.ok (.enter 107 args) w):=aa eg1;have eg2:=enters_of (P:=Tryz.prog) Tryz.func110 (by kernel_rfl) rfl;have EG2:am (∀ args w,(callFunc 110 args).run Tryz.prog w=.ok (.enter 110 args) w):=aa eg2;obtain⟨m,hm⟩:∃ m,outs.length=m:=⟨_,rfl⟩;have HM:=aa hm;have bK:((m:Int) != t.n)=false:=by rw[<-cC,hm];simp
 have C0:=aa c0;have C1:=aa c1;have C2:=aa c2;rw[hm]at HO h5 ⊢;obtain⟨nc,ig⟩:∃ nc,t.cases.length=nc:=⟨_,rfl⟩;rw[ig]at TX hi ⊢;clear hv ho vZ cC hr rf ec h1 h2 hg hL eg1 eg2 hm ig c0 c1 c2
 go_enter Tryz.func66,Tryz.ntmps66
 go_wp2_with fail
 refine aO (fun W=>Below w.heap.size w W/\W.heap[w.heap.size]?=some (.cells #[.int .i64 t.n,.int .i64 t.ins,.int .i64 t.outs,.slice (some ⟨bc,oc,none⟩) nc cc] 24)/\W.heap[w.heap.size+1]?=some (.cells #[.int .i64 f] 3)/\W.heap[w.heap.size+1+1]?=some (.cells #[.slice po m co] 38)) ⟨by go_grown,ar _ (ar _ (ap _ _)),ar _ (aZ _ _ _),dZ _ _ _ _⟩ (fun W0 aX=>?_);obtain⟨aG,bB,hF0,gM⟩:=aX;refine(TX.o W0 aG).mono ?_;rintro r w1 ⟨rfl,aK⟩;have bI:=aa (ae aG aK);have du:=aa (af aK bB);have Gp:=aa (af aK hF0);have gh:=aa (af aK gM);have ta:=ab du.o;have to:=ab gh.o 0;simp at to;clear aG bB hF0 gM aK TX
 have uz:=aa (iE 107 #[.pointer (some ⟨w.heap.size,0,none⟩)] EG1.o (.slice po m co) outs (fun k=>decide (outs.getD k 0 < -1) || decide (t.outs<=outs.getD k 0)) w1 (HO.o.up up_int bI.o) (fun k hk W hb=>by
  have h:=P9 outs[k] t _ w.heap.size W (af hb du.o);rw[az _ hk]
  exact h))
 have fY:anyLt outs.length (fun k=>decide (outs.getD k 0 < -1) || decide (t.outs<=outs.getD k 0))=false:=(dG _ _).2 (fun k hk=>by
  rw[az _ hk];have:=HR.o _ (List.getElem_mem hk);simp
  omega)
 rw[fY]at uz;clear fY
 go_wp2_with fail
 clear ta to;refine uz.o.mono ?_;rintro r w2 ⟨rfl,aT⟩;have cf:=aa (ae bI.o aT);have oT:=aa (af aT du.o);have sg:=aa (af aT Gp.o);have eO:=aa (af aT gh.o);clear aT uz
 have jL:=aa (fun u W (hb:Below w2.heap.size w2 W) (hu:dL W u L)=>nW 110 #[.pointer (some ⟨w.heap.size+1+1,0,none⟩),.pointer (some ⟨w.heap.size+1,0,none⟩)] EG2.o u L (fun k=>ragrB (L.getD k []) outs f) W hu (fun k hk x hx W' fS=>by
  have h:=Qa L[k] outs f hf.1 hf.2 (by rw[nz.o _ (List.getElem_mem hk),HM.o];exact h5) (by rw[nz.o _ (List.getElem_mem hk)];exact Nat.le_refl _) x (.slice po m co) (w.heap.size+1+1) (w.heap.size+1) W' (hx.up up_int fS) (HO.o.up up_int (ae cf.o (ae hb fS))) (af (ae hb fS) eO.o) (af (ae hb fS) sg.o);rw[az _ hk]
  exact h))
 rw[L6.o]at jL
 go_wp2_with fail
 have hS:List.Nodup [26,27,28,29,30,31,32,33,34,8,9]:=by decide
 refine uV 11 [26,27,28,29,30,31,32,33,34,8,9] [MP.eq (.pointer (some ⟨w.heap.size,3,none⟩)),MP.eq (.slice (some ⟨bc,oc,none⟩) nc cc),MP.eq (.int .i64 (i:Nat)),MP.eq (.pointer (some ⟨bc,oc+i * 3,none⟩)),MP.eq (.agg #[.slice a0 n0 d0,.slice a1 n1 d1,.slice a2 n2 d2]),MP.eq (.int .i64 f),WN L,MP.eq (.func (.func 110) #[] #[.pointer (some ⟨w.heap.size+1+1,0,none⟩),.pointer (some ⟨w.heap.size+1,0,none⟩)]),MP.eq (.bool pb),MP.eq (.bool pb),MP.eq (.int .i64 0)] (by kernel_rfl) rfl hS rfl (by kernel_rfl) ?step ?tail
 case step=>
  intro xq Wq iq oq sq F hi ho hs hB aq hF;rcases (show iq=0\/iq=1\/iq=2\/iq=3\/iq=4\/iq=5\/iq=6\/iq=7\/iq=8\/iq=9\/iq=10 by omega) with rfl|rfl|rfl|rfl|rfl|rfl|rfl|rfl|rfl|rfl|rfl
  all_goals (obtain rfl:=dy ho.symm;obtain rfl:=dy hs.symm;clear hi ho hs)
  ·obtain⟨g4,h4⟩:=cJ hF 4 (.pointer (some ⟨w.heap.size,0,none⟩)) (by decide) rfl;clear hF aq
   go_wp2_with fail
   exact bh.mk _ (Below.refl _ _) rfl rfl
  ·obtain⟨e0,f0⟩:=aS hF 0 26 _ hS rfl (by kernel_rfl) (aq ⟨0,.data⟩ (by simp) rfl);have tb:=ab (af hB oT.o) 3;simp at tb;clear hF aq
   go_wp2_with fail
   exact bh.mk _ (Below.refl _ _) rfl rfl
  ·obtain⟨g1,h1⟩:=cJ hF 1 (.int .i64 (i:Nat)) (by decide) rfl;clear hF aq
   go_wp2_with fail
   exact bh.mk _ (Below.refl _ _) rfl rfl
  ·obtain⟨e1,f1⟩:=aS hF 1 27 _ hS rfl (by kernel_rfl) (aq ⟨1,.data⟩ (by simp) rfl);obtain⟨e2,f2⟩:=aS hF 2 28 _ hS rfl (by kernel_rfl) (aq ⟨2,.data⟩ (by simp) rfl);clear hF aq
   go_wp2_with fail
   exact bh.mk _ (Below.refl _ _) rfl rfl
  ·obtain⟨e3,f3⟩:=aS hF 3 29 _ hS rfl (by kernel_rfl) (aq ⟨3,.data⟩ (by simp) rfl);have tb:=ak (ae cf.o hB) C0.o;have tb1:=ak (ae cf.o hB) C1.o;have tb2:=ak (ae cf.o hB) C2.o;clear hF aq
   go_wp2_with fail
   exact bh.mk _ (Below.refl _ _) rfl rfl
  ·obtain⟨g6,h6⟩:=cJ hF 6 (.pointer (some ⟨w.heap.size+1,0,none⟩)) (by decide) rfl;have tb:=ab (af hB sg.o) 0;simp at tb;clear hF aq
   go_wp2_with fail
   exact bh.mk _ (Below.refl _ _) rfl rfl
  ·obtain⟨e4,f4⟩:=aS hF 4 30 _ hS rfl (by kernel_rfl) (aq ⟨4,.data⟩ (by simp) rfl);obtain⟨e5,f5⟩:=aS hF 5 31 _ hS rfl (by kernel_rfl) (aq ⟨5,.data⟩ (by simp) rfl);clear hF aq
   go_wp2_with fail
   refine(Dp.o Wq (ae cf.o hB)).mono ?_;rintro r w9 ⟨u9,rfl,F',dU⟩;have Ri:=aa F';clear F'
   go_wp2_with fail
   exact bh.mk _ dU Ri.o rfl
  ·obtain⟨g7,h7⟩:=cJ hF 7 (.pointer (some ⟨w.heap.size+1+1,0,none⟩)) (by decide) rfl;obtain⟨g6,h6⟩:=cJ hF 6 (.pointer (some ⟨w.heap.size+1,0,none⟩)) (by decide) rfl;clear hF aq
   go_wp2_with fail
   exact bh.mk _ (Below.refl _ _) rfl rfl
  ·have d6:=aq ⟨6,.data⟩ (by simp) rfl;obtain⟨e7,f7⟩:=aS hF 7 33 _ hS rfl (by kernel_rfl) (aq ⟨7,.data⟩ (by simp) rfl);have D6:am (dL Wq (xq 6) L):=aa d6;clear d6;obtain⟨e6,f6⟩:=aS hF 6 32 _ hS rfl (by kernel_rfl) rfl;clear hF aq
   go_wp2_with fail
   refine(jL.o _ Wq hB D6.o).mono ?_;rintro r w9 ⟨rfl,dU⟩
   go_wp2_with fail
   exact bh.mk (.bool pb) dU rfl rfl
  ·obtain⟨e8,f8⟩:=aS hF 8 34 _ hS rfl (by kernel_rfl) (aq ⟨8,.data⟩ (by simp) rfl);clear hF aq
   go_wp2_with fail
   exact bh.mk _ (Below.refl _ _) rfl rfl
  ·clear hF aq
   go_wp2_with fail
   exact bh.mk _ (Below.refl _ _) rfl rfl
 case tail=>
  clear hS;intro xq W3 F hB aU hF;have e9:xq 9=.bool pb:=aU 9 (by omega);have e10:xq 10=.int .i64 0:=aU 10 (by omega);clear aU;simp only[bA,cW,List.setIfInBounds_toArray,List.set_cons_succ,List.set_cons_zero,Nat.reduceAdd]at hF;rw[e9,e10]at hF;generalize xq 0=s0,xq 1=s1,xq 2=s2,xq 3=s3,xq 4=s4,xq 5=s5,xq 6=s6,xq 7=s7,xq 8=s8 at hF;subst hF;have dE:=aa (ae cf.o hB);clear e9 e10 hB
  go_wp2_with fail
  go_ret2
  exact⟨by simp,dE.o⟩
theorem G'(s:Sys) (hs:SysOk s) (lr:List Int) (hlr:lr.length=s.tab.length) (e:Nat) (he:e<eS s) (vc vs vt ve vr:Value) (w:World) (cA:IsSys w s vc vs vt ve) (hr:aQ w vr lr) :
  Calls Tryz.prog 68 #[.agg (bL s.prob vc vs s.n vt ve),.agg #[vr],.int .i64 e] w fun r w'=>∃ u,r=.returned u/\aQ w' u (rdecS s lr e)/\Below w.heap.size w w':=by
 obtain⟨i0,cX,cD,bX,cF⟩:=info_parts Tryz.infoInt;have cB:=aa (And.intro cX (And.intro cD (And.intro bX cF)));clear cX cD bX cF;obtain⟨⟨qc,kc,rfl⟩,⟨qs,ks,rfl⟩,⟨qt,kt,rfl⟩,_⟩:=bD cA;obtain⟨be,oe,_,ce,rfl,-,pw,nw,cw,pv,cv,c0,c1,c2,-,-,-,b2,o2,pr,cr,rfl,c4,bU⟩:=gy hs cA.ex he;have rY:s.ex.length=eS s:=rfl;obtain⟨pR,cR,rfl,eR⟩:=cV hr;obtain⟨pr2,cr2,e4,erow⟩:=cV bU;injection e4 with e41 e42 e43
 subst e41 e43;clear e42;have jf:=hs.n.2.1;have vN:=hs.rounds
 have iv:am (∀ x∈rdecS s lr e,bR x):=aa (fun x hx=>by
  obtain⟨p,hp,rfl⟩:=List.mem_map.1 hx;have hp:=List.mem_range.1 hp;have hf:=iH hs he hp;obtain⟨a,c,e1,h1,h2,h3⟩:=hr;have aC:(finS s e p).toNat<lr.length:=by omega
  rw[az _ aC];obtain⟨b,o,_,h4⟩:=h3 _ _ (List.getElem?_eq_getElem aC)
  exact h4.2)
 have jd:am (∀ p,p<nS s->∃ b o z,pr=some ⟨b,o,none⟩/\w.cell? ⟨b,o+p,none⟩=some (.int .i64 (z:Nat))/\z<lr.length/\lr.getD (finS s e p).toNat 0=lr.getD z 0):=aa (fun p hp=>by
  obtain⟨b,o,e1,h1⟩:=erow p (by simpa using hp);rw[mi hp]at h1;have hf:=iH hs he hp;refine⟨b,o,(finS s e p).toNat,e1,?_,by omega,rfl⟩;rw[h1];simp
  omega)
 have Bk:=aa eR;obtain⟨L,hL⟩:∃ L:Nat->List Int,L=fun k=>(List.range k).map fun p=>lr.getD (finS s e p).toNat 0:=⟨_,rfl⟩
 have jp:am (L 0=[]/\(∀ k,L (k+1)=L k++[lr.getD (finS s e k).toNat 0])/\L (nS s)=rdecS s lr e):=aa (by
  subst hL
  exact⟨rfl,fun k=>by dsimp only;rw[List.range_succ,List.map_append];rfl,rfl⟩)
 obtain⟨rr,Dw⟩:∃ rr:Nat,s.prob.rounds.toNat=rr:=⟨_,rfl⟩;rw[Dw]at c2 c4;have pg:rr<=6:=by omega
 have jn:IntKind.i64.wrap (((rr+1:Nat):Int) - 1)=(rr:Int):=by rw[IntWalk.i64_in _ (by omega)];omega
 obtain⟨r1,xR⟩:∃ r1,rr+1=r1:=⟨_,rfl⟩;rw[xR]at c2 jn;have hrlt:rr<r1:=by omega
 have C2:=aa c2;have C4:=aa c4;generalize rdecS s lr e=F at iv jp ⊢;have v7:am (L (nS s)=F):=aa jp.o.2.2;obtain⟨m,hm⟩:∃ m,lr.length=m:=⟨_,rfl⟩;rw[hm]at jd Bk ⊢;obtain⟨ne,bK⟩:∃ ne,eS s=ne:=⟨_,rfl⟩;rw[bK]at he ⊢;obtain⟨n,hn⟩:∃ n,nS s=n:=⟨_,rfl⟩;rw[hn]at jd jp v7 c4 C4 jf;generalize s.prob.t.cases.length=nc,s.prob.a.states.length=ns,s.tab.length=nt;have NN:∀ X Y:Obj,Below w.heap.size w ((w.alloc X).alloc Y):=fun X Y=>by go_grown
 clear cA hr bU erow eR hlr hL Dw xR hm bK hn rY c0 c1 c2 c4 vN hs
 go_enter Tryz.func68,Tryz.ntmps68
 have hX:=ar (.cells #[.slice pR m cR] 49) (ap w (.cells (bL s.prob (.slice qc nc kc) (.slice qs ns ks) s.n (.slice qt nt kt) (.slice (some ⟨be,oe,none⟩) ne ce)) 35));have hY:=aZ w (.cells (bL s.prob (.slice qc nc kc) (.slice qs ns ks) s.n (.slice qt nt kt) (.slice (some ⟨be,oe,none⟩) ne ce)) 35) (.cells #[.slice pR m cR] 49);have tx:=ab hX 9;simp at tx;have t2:=fun X Y=>ak (NN X Y) C2.o
 have t4:=fun X Y=>ak (NN X Y) C4.o
 have HY:am _:=aa hY;clear hX hY
 go_wp2_with fail
 clear tx t2 t4;refine bC (fun W=>Below w.heap.size w W/\W.heap[w.heap.size+1]?=some (.cells #[.slice pR m cR] 49)) ⟨NN _ _,HY.o⟩ (fun W0 aX=>?_);have eQ:=aa aX.1;have zx:=aa aX.2;clear aX NN HY
 go_loopw [7,24] (fun o i wr=>∃ k:Nat,k<=n/\i=.int .i64 k/\Below W0.heap.size W0 wr/\aJ wr W0.heap.size 3 1 o k ((L k).map (Value.int .i64))) (fun _ i _=>n - (intOf i).toNat)
 ·exact⟨0,by omega,rfl,Below.refl _ _,by rw[jp.o.1];exact aJ.nil _ _ _ _⟩
 ·
  obtain⟨k,hk,rfl,aA,bd⟩:=hrel;obtain⟨al,cl2,rfl⟩:=bd.slice;have bO:=aa bd;have aV:=aa aA;by_cases aC:k<n
  ·obtain⟨b5,o5,z,rfl,h1,hz,LV⟩:=jd.o k aC;obtain⟨b6,o6,rfl,h6⟩:=Bk.o z hz;have df:=ae eQ.o aA;have c1:=ak df h1;have c6:=ak df h6;have dr:=aa (jp.o.2.1 k);rw[LV]at dr;generalize lr.getD z 0=x at c6 dr;have ph:=af aA zx.o;have tr:=ab ph 0;simp at tr;clear bd aA h1 h6 LV df ph;have cY:=aa (bO.o.up ((Below.refl _ wr).alloc (Nat.le_refl _) (.cells #[.int .i64 x] 3)));have bF:=aa (dQ wr [.int .i64 x] 3);have kH:am (k+1<=maxLen):=aa (by unfold maxLen;omega);have p8:am ((k+1) * 8<=140737488355328):=aa (by omega);have gu:am (W0.heap.size<=(wr.alloc (.cells #[.int .i64 x] 3)).heap.size):=aa (by have:=aV.o.size;simp;omega)
   go_wp2_with (at_builtin;(refine bg _ rfl (.tmp 28) (.tmp 34) 38 rfl W0.heap.size 3 i0 _ 1 8 Tryz.underlying38 cB.o.1 cB.o.2.1 cB.o.2.2.1 cB.o.2.2.2 rfl (by decide) _ k _ rfl cY.o ⟨wr.heap.size,0,none⟩ 1 1 [.int .i64 x] rfl rfl bF.o (by simp[Value.oneCell']) kH.o p8.o gu.o ?_;intro v6 w6 fh eF _))
   go_roundw
   ·
    refine⟨k+1,by omega,by go_num,eG aV.o (Nat.le_refl _) cY.o eF,?_⟩;rw[dr.o,List.map_append];exact fh
   ·simp[intOf];omega
  ·obtain rfl:k=n:=by omega
   have rg:F.length=k:=by have h1:=bd.1;rw[v7.o,List.length_map]at h1;omega
   have HQ:am (aQ wr (.slice al k cl2) F):=aa (gp (base:=W0.heap.size) (by rw[rg,<-v7.o];exact bd) iv.o (by omega));clear bd aA rg
   go_wp2_with fail
   go_ret
   exact⟨_,rfl,HQ.o,ae eQ.o aV.o⟩
end Go.Proofs.YtmeaoneaephjeaaGreatDoor
namespace Go.Proofs.YtmeaoneaephjeaaGreatDoor
open Go.ChangeShapes Go.WideShapes Go.ChangeAt Go.WideMaps Go.WideElems Go.RowKit Go
set_option linter.unusedVariables false
abbrev C7 {H : Type} : List (String × DataW H) := [("math/bits.deBruijn32tab", Rows.laid_math_bits_deBruijn32tab), ("math/bits.deBruijn64tab", Rows.laid_math_bits_deBruijn64tab)]
theorem Tryz.g64 : Tryz.prog.globalNamed "math/bits.deBruijn64tab" = some 1 := by kernel_rfl
theorem Tryz.t64:(Tryz.prog.globals[1]?).map (·.type)=some 268:=by kernel_rfl
theorem Tryz.cU8:Tryz.prog.cellsOf 5=1:=by kernel_rfl
theorem Sx(os:Os) (args:Array Value):laidMetH Tryz.prog C7 ((World.doorLaid Tryz.prog 400 os).forCall (fun _ _=>0) ⟨#[],args,[]⟩).memory:=
 laidMetH_of_parts3 (fuel:=8) (laidMet_of_run' 8 (by kernel_rfl) (by kernel_rfl)) (by kernel_rfl) (by kernel_rfl)
theorem YS{H:Type}:(Rows.laid_math_bits_deBruijn64tab:DataW H)=.agg (Lib.deBruijn64tab.map fun n:Nat=>.lit (.int .u8 ((n:Nat):Int))):=rfl
theorem Sy{H:Type} (tab:List Nat) (i:Nat) (hi:i<tab.length) (m:Int) (h:(tab.map fun n:Nat=>(DataW.lit (.int .u8 ((n:Nat):Int)):DataW H))[i]?=some (.lit (.int .u8 m))):m=((tab.getD i 0:Nat):Int):=by
 rw[List.getElem?_map,List.getElem?_eq_getElem hi]at h;rw[az 0 hi];injection h with h
 injection h with h
 injection h with _ h
 exact h.symm
theorem We{W:World} (h:laidMetH Tryz.prog C7 W):iF W:=by
 rw[MakeChecks.laidMetH_plain _ _ _ (by kernel_rfl)]at h;obtain⟨ps,⟨g1,t1,cs1,f1,p1,q1,_,_,_,_,⟨g0,t0,cs0,f0,p0,q0,tW,ht0,Bi,UJ,_⟩,_⟩,_⟩:=h;obtain rfl:=dy (Tryz.g64.symm.trans tW);obtain rfl:=dy (Tryz.t64.symm.trans ht0);rw[YS]at UJ;obtain⟨xs,m1,rfl,dm,cC,jf,kh⟩:=DataW.trod_array Tryz.underlying268 UJ;simp only[Prod.mk.injEq,DataW.agg.injEq]at dm;intro i hi;have hi64:i<64:=hi;have h2:=kh i hi;rw[Tryz.cU8,Nat.mul_one,List.getElem?_eq_getElem (by omega)]at h2;obtain⟨m,e1,e2,_⟩:=DataW.trod_int Tryz.underlying5 h2;have hc:=World.var?_cell tW Bi i;have h3:((cs0.toList.drop i).take 1)[0]?=cs0[i]?:=by simp
 rw[e1]at h3;have h4:cs0[i]?=some (.int .u8 m):=h3.symm.trans rfl;rw[h4]at hc;rw[hc]
 have h5:(xs.map (·.1))[i]?=some (.lit (.int .u8 m)):=by
  rw[List.getElem?_map,List.getElem?_eq_getElem (by omega),e2];rfl
 rw[<-dm.1]at h5;rw[Sy _ i hi m h5]
theorem Tryz.own:ownKnob Tryz.prog.godebug=none:=by kernel_rfl
theorem Tryz.laidOut:laidOutB Tryz.prog=true:=by kernel_rfl
end Go.Proofs.YtmeaoneaephjeaaGreatDoor
