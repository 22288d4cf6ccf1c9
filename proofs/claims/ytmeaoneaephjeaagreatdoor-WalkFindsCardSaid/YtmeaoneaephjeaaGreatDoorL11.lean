/-
  A part of the proof: lemmas and contracts that the parts behind it use. Each one's conditions are its own premises.
-/
import Derived.Test.YtmeaoneaephjeaaGreatDoorL10
set_option maxRecDepth 100000
set_option maxHeartbeats 8000000
set_option linter.unusedVariables false
set_option linter.unusedSimpArgs false
namespace Go.Proofs.YtmeaoneaephjeaaGreatDoor
open Go.RowKit Go Go.Shelf
attribute [local go_sem] Oper.semAt_some
theorem IsSys.kp{w w':World} {s:Sys} {vc vs vt ve:Value} (h:IsSys w s vc vs vt ve) (hb:CK w w'):IsSys w' s vc vs vt ve:=⟨h.cases.ck up_case hb,h.states.ck up_moves hb,h.tab.ck up_view hb,h.ex.ck up_ex hb⟩
theorem ScAt.kp{w w':World} {B:Nat} {s:Sys} (h:ScAt w B s) (hk:js w.heap.size w w'):ScAt w' B s:=by
 obtain⟨vc,vs,vt,ve,vv,vl,h1,h2,h3,h4⟩:=h.ex;exact⟨vc,vs,vt,ve,vv,vl,(hk B (aC h1)).trans h1,h2.kp hk.ck,h3.ck up_int hk.ck,h4.ck up_int hk.ck⟩
theorem Xd{n:Nat} (hn:n<=8) (q:Nat->Bool):maskN q n=maskN (fun p=>decide (p<n)&&q p) 8:=by
 refine Nat.eq_of_testBit_eq fun p=>?_
 rw[dY,dY];by_cases h:p<n
 ·rw[decide_eq_true h,decide_eq_true (show p<8 by omega)];rfl
 ·rw[decide_eq_false h];simp
theorem Th{n:Nat} (hn:n<=8) (q:Nat->Bool):firstIx 8 (fun p=>decide (p<n)&&q p)=firstIx n q:=by
 rw[Bh _ hn (fun v h1 h2=>by rw[decide_eq_false (by omega)];rfl)];exact mT _ _ _ fun p hp=>by rw[decide_eq_true hp];rfl
theorem aH.some{w:World} {base size n:Nat} {e:TypeId} {v:Value} {xs:List Value} (h:aH w base e size v n xs) (hn:0<n):∃ g c,v=.slice (some ⟨g,0,none⟩) n c/\base<=g/\g<w.heap.size/\n<=c/\∀ j,j<n * size->(∃ u,w.cell? ⟨g,j,none⟩=some u)/\w.frozen? ⟨g,j,none⟩=false:=by
 rcases h.2 with ⟨_,h0⟩|⟨g,cap,cur,fz,rfl,h2,h3,h4,h5,h6,h7,h8⟩
 ·omega
 refine⟨g,cap,rfl,h2,aC h3,h5,fun j hj=>?_⟩;have aB:j<cur.size:=by rw[h7];exact Nat.lt_of_lt_of_le hj (Nat.mul_le_mul_right _ h5)
 refine⟨⟨cur[j],by rw[ab h3,Array.getElem?_eq_getElem aB]⟩,?_⟩;simp only[World.frozen?,h3];have:=h4 j aB;simpa using this
theorem Ti(a:List Lk) (y:Lk) (r:List Lk) (p:Int):cF (a++⟨y.x,p⟩ :: r)=(cF (a++y :: r)).set (a.length * 2+1) (.int .i64 p):=by
 rw[jB,jB,<-mf a,List.set_append_right _ _ (by omega),Nat.add_sub_cancel_left];rfl
def ZP(base:Nat) (l:List Lk):MP:=⟨fun x W=>aH W base 75 2 x l.length (cF l),fun _ _ _ h hb=>h.up hb⟩
def ZY(s:Sys) (l:List Lk) (pb n0:Nat) (i:Nat) (args:Array Value) (_:Nat->Prop) (W:World):Prop:=∃ v,args=#[v]/\bh W v ((dO s l).getD i [])/\∀ b,v.ownBlock=some b->b=pb\/n0<=b
structure KSz (S:Nat->Prop) (w w':World):Prop where
 keep:gH S w w'
 size:w.heap.size<=w'.heap.size
theorem KSz.trans{S:Nat->Prop} {a b c:World} (h:KSz S a b) (k:KSz S b c):KSz S a c:=⟨gH.trans h.1 k.1,Nat.le_trans h.2 k.2⟩
theorem kM{w w':World} {pb po n c:Nat} {l:List Lk} (h:bh w (.slice (some ⟨pb,po,none⟩) n c) l) (hk:w'.heap[pb]?=w.heap[pb]?):bh w' (.slice (some ⟨pb,po,none⟩) n c) l:=by
 obtain⟨a',c',e,h1,h4,h5⟩:=h;refine⟨a',c',e,h1,h4,fun i x hx=>?_⟩;obtain⟨b,o,e2,hr⟩:=h5 i x hx;injection e with e3 e4 e5
 rw[<-e3]at e2;injection e2 with e2
 injection e2 with e6 e7
 have hc:∀ o',w'.cell? ⟨b,o',none⟩=w.cell? ⟨b,o',none⟩:=fun o'=>by unfold World.cell?;rw[<-e6,hk]
 refine⟨b,o,by rw[<-e3,e6,e7],⟨(hc _).trans hr.1.1,hr.1.2⟩,(hc _).trans hr.2.1,hr.2.2⟩
theorem LB(B:Nat) (v:Value) (w:World) (hv:∃ a n c,v=.slice a n c) :
  Calls Tryz.prog 55 #[.pointer (some ⟨B,0,none⟩),v] w fun r w'=>r=.returned (.func (.func 96) #[] #[.pointer (some ⟨w.heap.size+1,0,none⟩),.pointer (some ⟨w.heap.size,0,none⟩)])/\w'=(w.alloc (.cells #[.pointer (some ⟨B,0,none⟩)] 94)).alloc (.cells #[v] 54):=by
 obtain⟨a,n,c,rfl⟩:=hv
 go_enter Tryz.func55,Tryz.ntmps55
 go_wp2
 go_ret
 exact⟨rfl,rfl⟩
theorem JA(s:Sys) (hs:SysOk s) (hE:eS s<=256) (l:List Lk) (iD:0<l.length) (nW:l.length<=4096) (hx:∀ y∈l,0<=y.x/\y.x.toNat<eS s) (B bx bw:Nat) (pb po cl:Nat) (w0:World) (hT:iH w0) (gj:ScAt w0 B s) (w:World) (aI:Below w0.heap.size w0 w) (hl:bh w (.slice (some ⟨pb,po,none⟩) l.length cl) l)
  (cZ:w.heap[bw]?=some (.cells #[.slice (some ⟨pb,po,none⟩) l.length cl] 54)) (ly:w.heap[bx]?=some (.cells #[.pointer (some ⟨B,0,none⟩)] 94)) :
  UF Tryz.prog 96 #[.pointer (some ⟨bw,0,none⟩),.pointer (some ⟨bx,0,none⟩)] (ZY s l pb w.heap.size) (dO s l).length (fun k=>k<w0.heap.size\/k=pb\/k=bw\/k=bx) w:=by
 intro yl J Jx W hW hyl hJ oM hY oO;obtain⟨i0,cM,bX,bP,bY⟩:=info_parts Tryz.infoLink;have bO:=aa (And.intro cM (And.intro bX (And.intro bP bY)));clear cM bX bP bY;obtain⟨pl,cl',ecl,lt1,lt2,el⟩:=hl.at;injection ecl with ecl1 _ ecl2
 obtain⟨pb',po',epb,hpb0⟩:=el 0 iD;rw[<-ecl1]at epb;injection epb with epb
 injection epb with epb1 epb2
 have lpb:pb<w.heap.size:=by rw[epb1];exact fo hpb0.1.1
 rw[<-ecl2]at lt1;clear epb1 epb2 ecl1 ecl2 hpb0 pb' po' pl cl' el;have lw1:=aC cZ;have lw2:=aC ly;have X1:KSz (fun k=>k<w0.heap.size\/k=pb\/k=bw\/k=bx) w W:=⟨fun k hk=>hW.block k (by rcases hk with hk|rfl|rfl|rfl<;>first|(have:=aI.size;omega)|assumption),hW.size⟩;obtain⟨S,hS⟩:∃ S,S=(fun k=>k<w0.heap.size\/k=pb\/k=bw\/k=bx):=⟨_,rfl⟩
 have My:am (∀ V,KSz S w V->js w0.heap.size w0 V/\V.heap[pb]?=w.heap[pb]?/\V.heap[bw]?=some (.cells #[.slice (some ⟨pb,po,none⟩) l.length cl] 54)/\V.heap[bx]?=some (.cells #[.pointer (some ⟨B,0,none⟩)] 94)):=aa (fun V hV=>by
  subst hS
  exact⟨fun k hk=>(hV.1 k (.inl hk)).trans (aI.block k hk),hV.1 pb (.inr (.inl rfl)),(hV.1 bw (.inr (.inr (.inl rfl)))).trans cZ,(hV.1 bx (.inr (.inr (.inr rfl)))).trans ly⟩)
 rw[<-hS]at oO X1
 have RH:am (∀ V V',KSz S w V->Below V.heap.size V V'->KSz S w V'):=aa (fun V V' h1 h2=>⟨fun k hk=>(h2.block k (by
  have h4:=h1.2;subst hS;rcases hk with hk|rfl|rfl|rfl
  ·have:=aI.size;omega
  ·omega
  ·omega
  ·omega)).trans (h1.1 k hk),Nat.le_trans h1.2 h2.size⟩)
 have B3:am (∀ (d:List (List Lk)) (c:List Lk) (r:List (List Lk)) (W1:World) (v:Value),dO s l=d++c :: r->bh W1 v c->(∀ b,v.ownBlock=some b->b=pb\/w.heap.size<=b)->J d.length S W1->YieldAt Fence.wide 0 Tryz.prog yl #[v] W1 fun e W'=>(e=.returned (.bool true)/\KSz S W1 W'/\W1.heap.size<=W'.heap.size/\J (d++[c]).length S W')\/(e=.returned (.bool false)/\∃ i,i<=(dO s l).length/\Jx i S W')):=aa (fun d c r W1 v e hv kr hj=>by
  obtain⟨h1,h2,h3,h4⟩:=LM (x:=[]) e;obtain⟨fn,tmps,assign,body,hy,hR⟩:=hY d.length S W1 #[v] h1 ⟨v,rfl,by rw[h2];exact hv,kr⟩ hj;refine⟨fn,tmps,assign,body,hy,hR.mono ?_⟩;rintro e W' ⟨g1,g2,g3⟩;rcases g3 with ⟨rfl,g3⟩|⟨rfl,g3⟩
  ·exact .inl ⟨rfl,⟨g2,g1⟩,g1,by rw[h4];exact g3⟩
  ·exact .inr ⟨rfl,_,h1,g3⟩)
 have ZE:am (∀ i V V',J i S V->Below V.heap.size V V'->J i S V'):=aa (fun i V V' h1 h2=>hJ i S S V V' h1 h2 (gQ.refl _ _ _));have nZ:am (dO s l=[]++l.dropLast :: ((if 1<l.length then [⟨(l.getD 1 default).x,-1⟩ :: l.drop 2] else [])++gG s l 0)):=aa (Cq s l);have UR:=aa (fun V (hV:KSz S w V)=>kM hl (My.o V hV).2.1);have Oz:=aa (Jz hl);have Yj:=aa hx;have gz:am (∀ V,KSz S w V->∀ e f:Nat,e<eS s->f<eS s->Calls Tryz.prog 97 #[.pointer (some ⟨B,0,none⟩),.int .i64 (e:Nat),.int .i64 (f:Nat)] V fun r w'=>r=.returned (.int .i64 (maskN (fun p=>linkB s p e f) (nS s):Nat))/\Below V.heap.size V w'):=aa (fun V hV e f he hf=>LA s hs B e f he hf V (ScAt.kp gj (My.o V hV).1));have X3:am (∀ V,KSz S w V->iH V):=aa (fun V hV=>iH.keep hT (My.o V hV).1);have uM:=aa X1;have MF:=aa oO;have HE4:=aa hE;have gK:nS s<=5:=hs.n.2.1;clear hY hJ oM oO X1 hl gj hT hS hs hx hW aI cZ ly hyl lw1 lw2 lpb;have J9:am (bh W (.slice (some ⟨pb,po,none⟩) (l.length - 1) cl) l.dropLast):=aa (by rw[List.dropLast_eq_take];exact xR (UR.o W uM.o) _ (by omega));have JY:am (∀ V,KSz S w V->∀ i,i<l.length->bh V (.slice (some ⟨pb,po,none⟩) (i+1) cl) (l.take (i+1))):=aa (fun V hV i hi=>xR (UR.o V hV) _ hi);have Yq:am (∀ V,KSz S w V->∀ k,k<l.length->bh V (.slice (some ⟨pb,po+k * 2,none⟩) (l.length - k) (cl - k)) (l.drop k)):=aa (fun V hV k hk=>by have h:=NW (UR.o V hV) k (by omega);rwa [if_neg (by omega)]at h)
 have Zk:am (∀ V,KSz S w V->∀ i,i<l.length->∃ e:Nat,(l.getD i default).x=(e:Int)/\(l.getD i default).x.toNat=e/\e<eS s/\V.cell? ⟨pb,po+i * 2,none⟩=some (.int .i64 (e:Int))):=aa (fun V hV i hi=>by
  obtain⟨a,c,e1,_,_,e2⟩:=(UR.o V hV).at;obtain⟨b',o',e3,h1,h2⟩:=e2 i hi;injection e1 with e4 e5 e6
  rw[<-e4]at e3;injection e3 with e3
  injection e3 with e7 e8
  subst e7 e8;have h3:=Yj.o l[i] (List.getElem_mem hi);have hg:l.getD i default=l[i]:=by simp[hi]
  rw[hg];refine⟨l[i].x.toNat,by omega,rfl,h3.2,?_⟩;rw[h1.1];congr 2
  omega)
 have B4:am (∀ V,KSz S w V->V.cell? ⟨bw,0,none⟩=some (.slice (some ⟨pb,po,none⟩) l.length cl)/\V.cell? ⟨bx,0,none⟩=some (.pointer (some ⟨B,0,none⟩))):=aa (fun V hV=>⟨(ab (My.o V hV).2.2.1 0).trans rfl,(ab (My.o V hV).2.2.2 0).trans rfl⟩);have Er:am (∀ i,i<l.length->gG s l i=ii s l i 0++gG s l (i+1)):=aa (Nb s l);have yV:am (gG s l l.length=[]):=aa (PE s l);have Vl:am (∀ i j,l.length<=i+2+j->ii s l i j=[]):=aa (PF s l);have HJN:am (∀ i j,i+2+j<l.length->byB s (l.getD i default).x.toNat (l.getD (l.length - 1 - j) default).x.toNat=false->ii s l i j=ii s l i (j+1)):=aa (fun i j h hb=>Nd s l i j h (by unfold xo;rw[hb];rfl));have V7:am (∀ i j,i+2+j<l.length->byB s (l.getD i default).x.toNat (l.getD (l.length - 1 - j) default).x.toNat=true->ii s l i j=(l.take (i+1)++⟨(l.getD (l.length - 1 - j) default).x,byP s (l.getD i default).x.toNat (l.getD (l.length - 1 - j) default).x.toNat⟩ :: l.drop (l.length - 1 - j+1)) :: ii s l i (j+1)):=aa (fun i j h hb=>Nc s l i j h (by unfold xo;rw[hb];rfl));have q8:am (1<l.length->dO s l=[l.dropLast]++(⟨(l.getD 1 default).x,-1⟩ :: l.drop 2) :: gG s l 0):=aa (fun h=>by rw[Cq,if_pos h];rfl);have UV:am (¬ 1<l.length->dO s l=[l.dropLast]++gG s l 0):=aa (fun h=>by rw[Cq,if_neg h];rfl)
 have YF:am (1<l.length->cF (⟨(l.getD 1 default).x,-1⟩ :: l.drop 2)=(cF (l.drop 1)).set 1 (.int .i64 (-1))):=aa (fun h=>by
  rw[List.drop_eq_getElem_cons h,show l.getD 1 default=l[1] by simp[h]]
  rfl)
 obtain⟨n,hn⟩:∃ n,l.length=n:=⟨_,rfl⟩;have HN:=aa hn;rw[hn]at iD nW J9 JY Yq Zk B4 Er yV Vl HJN V7 q8 UV YF lt1 lt2;clear hn;have tw:=(B4.o W uM.o).1;refine(callsIn_wide (n:=0)).1 ?_;refine callsIn_of_wp Tryz.func96 rfl trivial ?_ rfl;simp only[Tryz.ntmps96,List.size_toArray,List.length_cons,List.length_nil,Nat.reduceAdd,Nat.reduceSub,Array.replicate_succ,Array.replicate_zero,List.push_toArray,List.append_toArray,List.nil_append,List.cons_append];have jc:IntKind.i64.wrap ((n:Int) - 1)=((n - 1:Nat):Int):=by rw[IntWalk.i64_in _ (by omega)];omega
 obtain⟨fn,tmps,assign,body,pO,hR⟩:=B3.o [] _ _ W _ nZ.o J9.o (fun b hb=>.inl (dp hb).symm) MF.o;have HR:=aa hR;clear hR
 gi_wp2
 refine⟨rfl,HR.o.mono ?_⟩;rintro e W3 (⟨rfl,iA,EJ,Ce⟩|⟨rfl,i,hi,sY⟩)
 case inr=>
  gi_wp2
  refine bodyPost_ret (results_none rfl _ _ _) rfl ?_;exact⟨⟨_,rfl⟩,_,.inr ⟨_,hi,sY⟩⟩
 clear tw HR pO;have oP:=aa (KSz.trans uM.o iA);have VF:=aa Ce;clear iA Ce J9;have tw:=(B4.o W3 oP.o).1
 have Vf:am (∃ d,dO s l=d++gG s l 0):=aa (by
  by_cases h:1<n
  ·exact⟨_,by rw[q8.o h,List.append_cons]⟩
  ·exact⟨_,UV.o h⟩)
 by_cases jS:1<n
 case' pos=>
  have Zh:decide ((1:Int)<(n:Int))=true:=decide_eq_true (by omega);have kg:=aa (vP (.slice (some ⟨pb,po+2,none⟩) (n - 1) (cl - 1)) (l.drop 1) W3 (Yq.o W3 oP.o 1 (by omega)) (by rw[List.length_drop,HN.o];omega));rw[List.length_drop,HN.o]at kg
  have z':am (∀ y∈(⟨(l.getD 1 default).x,-1⟩ :: l.drop 2:List Lk),bN y.x/\bN y.p):=aa (fun y hy=>by
   rcases List.mem_cons.1 hy with rfl|hy
   ·have h1:=Oz.o (l.getD 1 default) (by rw[show l.getD 1 default=l[1]'(by rw[HN.o];omega) by simp[HN.o,jS]];exact List.getElem_mem _);exact⟨h1.1,⟨by dsimp only;omega,by dsimp only;omega⟩⟩
   ·exact Oz.o y (List.mem_of_mem_drop hy))
  have hn10:(0:Int)<((n - 1:Nat):Int):=by omega
  gi_wp2
  refine⟨trivial,rfl,callsIn_wide.2 (kg.o.mono ?_)⟩;rintro e w4 ⟨u,rfl,hu,cj⟩;obtain⟨g,c,rfl,qX,Ad,rJ,Hg⟩:=hu.some (by omega);obtain⟨⟨uo,tu⟩,fu⟩:=Hg 1 (by omega);have HO:=aa hu;have eG:=aa cj;clear kg hu cj tw Hg;have hn100:0<n - 1:=by omega
  have lW:am (bh (w4.setCell ⟨g,1,none⟩ (.int .i64 (-1))) (.slice (some ⟨g,0,none⟩) (n - 1) c) (⟨(l.getD 1 default).x,-1⟩ :: l.drop 2)/\Below W3.heap.size W3 (w4.setCell ⟨g,1,none⟩ (.int .i64 (-1)))):=aa (by
   have h1:=L3 HO.o 1 (.int .i64 (-1)) (by rw[mf,List.length_drop,HN.o];omega) (YF.o jS);have e1:(⟨(l.getD 1 default).x,-1⟩ :: l.drop 2:List Lk).length=n - 1:=by rw[List.length_cons,List.length_drop,HN.o];omega
   refine⟨aH.links (base:=W3.heap.size) (by rw[e1];exact h1) z'.o (by rw[e1];omega),eG.o.setCell (p:=⟨g,1,none⟩) qX _⟩)
  obtain⟨fn2,tmps2,assign2,body2,pO,hR⟩:=B3.o [l.dropLast] _ _ (w4.setCell ⟨g,1,none⟩ (.int .i64 (-1))) _ (q8.o jS) lW.o.1 (fun b hb=>.inr (by have e:=dp hb;have h1:=oP.o.2;dsimp only at e;omega)) (ZE.o _ _ _ VF.o lW.o.2);have HR:=aa hR;clear hR
  gi_wp2
  refine⟨rfl,HR.o.mono ?_⟩;rintro e W6 (⟨rfl,MJ,hz6,hj6⟩|⟨rfl,i,hi,hJx6⟩)
  case inr=>
   clear B3
   gi_wp2
   refine bodyPost_ret (results_none rfl _ _ _) rfl ?_;exact⟨⟨_,rfl⟩,_,.inr ⟨_,hi,hJx6⟩⟩
  have yT:=aa (KSz.trans (RH.o _ _ oP.o lW.o.2) MJ);have MD:am (∃ d,dO s l=d++gG s l 0/\J d.length S W6):=aa ⟨_,by rw[q8.o jS,List.append_cons],hj6⟩;clear MJ hj6 hz6 lW HR pO HO eG tu fu qX Ad rJ hn100 hn10 z' Zh
  gi_wp2
 case' neg=>
  have Zh:decide ((1:Int)<(n:Int))=false:=decide_eq_false (by omega);obtain⟨W6,mn⟩:∃ W6,W6=W3:=⟨_,rfl⟩;rw[<-mn]at oP VF ⊢;have yT:=aa oP.o;have MD:am (∃ d,dO s l=d++gG s l 0/\J d.length S W6):=aa ⟨_,UV.o jS,VF.o⟩;clear mn tw
  gi_wp2
  clear Zh
 all_goals
  clear Vf jS oP VF uM MF nZ q8 UV YF;obtain⟨W0,aZ⟩:∃ W0,W0=W6:=⟨_,rfl⟩;rw[<-aZ]at yT MD ⊢;clear aZ
  gi_loopw [32] (fun i wr=>∃ (i':Nat) (d:List (List Lk)),i'<=n/\i=.int .i64 i'/\dO s l=d++gG s l i'/\KSz S w wr/\J d.length S wr) (fun i _=>n - (intOf i).toNat)
  ·
   obtain⟨d,h1,h2⟩:=MD.o;exact⟨0,d,by omega,rfl,h1,yT.o,h2⟩
  ·
   clear yT MD W0;obtain⟨i,d,hi,rfl,hd,gk,Au⟩:=hrel;have kx:=aa gk;have jp:=aa Au;have HD:=aa hd;clear gk Au hd;by_cases aB:i<n
   ·obtain⟨wrA,kw⟩:∃ x,x=wr:=⟨_,rfl⟩;rw[<-kw]at kx jp ⊢;clear kw;have HDI':am (dO s l=d++(ii s l i 0++gG s l (i+1))):=aa (by rw[<-Er.o i aB];exact HD.o)
    gi_wp2
    gi_loopw [7] (fun v wr=>∃ (j:Nat) (d:List (List Lk)),j<=n - 1/\v=.int .i64 ((n - 1 - j:Nat):Int)/\dO s l=d++(ii s l i j++gG s l (i+1))/\KSz S w wr/\J d.length S wr) (fun v _=>(intOf v).toNat)
    ·exact⟨0,d,by omega,by rw[Nat.sub_zero],HDI'.o,kx.o,jp.o⟩
    ·
     clear kx jp HD HDI' d;obtain⟨j,d,hj,rfl,hd,gk,Au⟩:=hrel;have kx:=aa gk;have jp:=aa Au;have HD:=aa hd;obtain⟨k,hk⟩:∃ k,n - 1 - j=k:=⟨_,rfl⟩;rw[hk];have HJE1:=aa (Vl.o i j);have J':=aa (HJN.o i j);have FK:=aa (V7.o i j);rw[hk]at J' FK;have hnk1:k+1+j<=n:=by omega
     have hnk2:n<=k+1+j:=by omega
     clear Au hd hk;have hwi:IntKind.i64.wrap ((i:Int)+2)=(i:Int)+2:=by rw[IntWalk.i64_in _ (by omega)]
     by_cases pT:i+2<=k
     ·obtain⟨e,GH,BS,he3,he4⟩:=Zk.o wr gk i aB;obtain⟨f,eU,vg,VT,hf4⟩:=Zk.o wr gk k (by omega);rw[BS,vg]at J' FK;rw[eU]at FK;have hbv:=(B4.o wr gk).1;have BN:=(B4.o wr gk).2;have yb:∀ z:ExtW wr,z.val.cell? ⟨bw,0,none⟩=_:=fun z=>ak z.ext hbv
      have yx:∀ z:ExtW wr,z.val.cell? ⟨bx,0,none⟩=_:=fun z=>ak z.ext BN
      have ye:∀ z:ExtW wr,z.val.cell? ⟨pb,po+i * 2,none⟩=_:=fun z=>ak z.ext he4
      have yf:∀ z:ExtW wr,z.val.cell? ⟨pb,po+k * 2,none⟩=_:=fun z=>ak z.ext hf4
      have bW:am (∀ y:ExtW wr,Calls Tryz.prog 97 #[.pointer (some ⟨B,0,none⟩),.int .i64 (e:Nat),.int .i64 (f:Nat)] y.val fun r w''=>r=.returned (.int .i64 (maskN (fun p=>linkB s p e f) (nS s):Nat))/\∃ z:ExtW wr,w''=z.val):=aa (fun y=>Calls.ext_of (gz.o y.val (RH.o _ _ kx.o y.ext) e f he3 VT));have HZ:am (maskN (fun p=>linkB s p e f) (nS s)=0↔byB s e f=false):=aa (kF _ _);have HUP:am (maskN (fun p=>linkB s p e f) (nS s)=maskN (fun p=>decide (p<nS s)&&linkB s p e f) 8):=aa (Xd (by omega) _);have uX:am (firstIx 8 (fun p=>decide (p<nS s)&&linkB s p e f)=byP s e f):=aa (Th (by omega) _);have gZ:i<n:=aB;have mL:k<n:=by omega
      have wY:am ((l.getD k default).x=f):=aa eU;have aP:am (∀ e f':Nat,bN (byP s e f')/\bN (f:Int)):=aa (fun e f'=>⟨by have:=CI (nS s) fun p=>linkB s p e f';unfold byP;generalize firstIx (nS s) _=z at this;exact⟨by omega,by omega⟩,by have:=HE4.o;exact⟨by omega,by omega⟩⟩);clear GH BS eU vg he4 hf4 hbv BN gk he3 VT;obtain⟨m,hm⟩:∃ m,maskN (fun p=>linkB s p e f) (nS s)=m:=⟨_,rfl⟩;rw[hm]at bW HZ HUP;clear hm
      gi_wp2
      refine wpIn_wide.2 ?_;refine aD (by kernel_rfl) (by kernel_rfl) ?_
      repeat (go_big_quiet_step ((go_at_call 97;with_reducible exact bW.o _)))
      refine wpQuiet_nil ?_;rintro _ ⟨xq,rfl⟩;have n8:=aa (RH.o _ _ kx.o xq.ext);have Oy:=aa (ZE.o _ _ _ jp.o xq.ext);generalize xq.val=wr2 at n8 Oy ⊢;clear yb yx ye yf bW kx jp xq wr;obtain⟨wr,lg⟩:∃ x,x=wr2:=⟨_,rfl⟩;rw[<-lg]at n8 Oy ⊢;clear lg;have TL:0<k->IntKind.i64.wrap ((k:Int) - 1)=((n - 1 - (j+1):Nat):Int):=fun _=>by rw[IntWalk.i64_in _ (by omega)];omega
      have TL:=TL (by omega);cases gR:byB s e f with
      | false=>
       obtain rfl:m=0:=HZ.o.2 gR;have eO:=aa (J'.o (by omega) gR);clear gR J' FK
       gi_wp2
       go_roundw
       ·exact⟨j+1,d,by omega,rfl,by rw[<-eO.o];exact HD.o,n8.o,Oy.o⟩
       ·simp[intOf];omega
      | true=>
       have wS:((m:Int) == 0)=false:=beq_eq_false_iff_ne.2 (fun h=>by have:=HZ.o.1 (by omega);rw[gR]at this;cases this);have xa:=aa (FK.o (by omega) gR);clear gR J' FK HZ;have Kb:=aa (JY.o wr n8.o i gZ);have T8:=aa (My.o wr n8.o).2.2.1;have Yx:=aa (Yq.o wr n8.o k mL);have uJ:am ((l.take (i+1)).length=i+1):=aa (by rw[List.length_take,HN.o];omega);have KA:am ((l.drop k).length=n - k):=aa (by rw[List.length_drop,HN.o]);have hwi1:IntKind.i64.wrap ((i:Int)+1)=((i+1:Nat):Int):=by rw[IntWalk.i64_in _ (by omega)];omega
       rw[HN.o]at T8
       gi_wp2
       refine wpIn_wide.2 ?_;have hS:List.Nodup [57,58,59,60,61,62,63,64]:=by decide
       refine fL 8 [57,58,59,60,61,62,63,64] [MP.eq (.slice (some ⟨pb,po,none⟩) n cl),MP.eq (.int .i64 i),MP.eq (.int .i64 ((i+1:Nat):Int)),MP.eq (.slice (some ⟨pb,po,none⟩) (i+1) cl),ZP wr.heap.size (l.take (i+1)),MP.eq (.slice (some ⟨pb,po,none⟩) n cl),MP.eq (.int .i64 k),MP.eq (.slice (some ⟨pb,po+k * 2,none⟩) (n - k) (cl - k))] (by kernel_rfl) (by simp) hS rfl (by kernel_rfl) (by kernel_rfl) (by kernel_rfl) ?step ?tail
       case step=>
        intro x W i o s F hi ho hs hB ap hF;rcases (show i=0\/i=1\/i=2\/i=3\/i=4\/i=5\/i=6\/i=7 by omega) with rfl|rfl|rfl|rfl|rfl|rfl|rfl|rfl
        all_goals (obtain rfl:=dp ho.symm;obtain rfl:=dp hs.symm;clear hi ho hs)
        ·obtain⟨g1,h1⟩:=cK hF 1 (.pointer (some ⟨bw,0,none⟩)) (by decide) rfl;have tw:=ab (af hB T8.o) 0;simp at tw;clear hF ap
         go_wp2_with fail
         exact aY.mk _ (Below.refl _ _) rfl rfl
        ·obtain⟨g6,h6⟩:=cK hF 6 (.int .i64 i) (by decide) rfl;clear hF ap
         go_wp2_with fail
         exact aY.mk _ (Below.refl _ _) rfl rfl
        ·obtain⟨e1,f1⟩:=aQ hF 1 58 _ hS rfl (by kernel_rfl) (ap ⟨1,.data⟩ (by simp) rfl);clear hF ap
         go_wp2_with fail
         exact aY.mk _ (Below.refl _ _) rfl rfl
        ·obtain⟨e0,f0⟩:=aQ hF 0 57 _ hS rfl (by kernel_rfl) (ap ⟨0,.data⟩ (by simp) rfl);obtain⟨e2,f2⟩:=aQ hF 2 59 _ hS rfl (by kernel_rfl) (ap ⟨2,.data⟩ (by simp) rfl);clear hF ap
         go_wp2_with fail
         exact aY.mk _ (Below.refl _ _) rfl rfl
        ·obtain⟨e3,f3⟩:=aQ hF 3 60 _ hS rfl (by kernel_rfl) (ap ⟨3,.data⟩ (by simp) rfl);clear hF ap
         go_wp2_with fail
         refine(vP _ _ W (Kb.o.up up_link hB) (by rw[uJ.o];omega)).mono ?_;rintro e w9 ⟨u9,rfl,jK,dS⟩;have nQ:=aa (jK.base hB.size);clear jK
         go_wp2_with fail
         exact aY.mk _ dS nQ.o rfl
        ·obtain⟨g1,h1⟩:=cK hF 1 (.pointer (some ⟨bw,0,none⟩)) (by decide) rfl;have tw:=ab (af hB T8.o) 0;simp at tw;clear hF ap
         go_wp2_with fail
         exact aY.mk _ (Below.refl _ _) rfl rfl
        ·obtain⟨g7,h7⟩:=cK hF 7 (.int .i64 k) (by decide) rfl;clear hF ap
         go_wp2_with fail
         exact aY.mk _ (Below.refl _ _) rfl rfl
        ·obtain⟨e5,f5⟩:=aQ hF 5 62 _ hS rfl (by kernel_rfl) (ap ⟨5,.data⟩ (by simp) rfl);obtain⟨e6,f6⟩:=aQ hF 6 63 _ hS rfl (by kernel_rfl) (ap ⟨6,.data⟩ (by simp) rfl);clear hF ap
         go_wp2_with fail
         exact aY.mk _ (Below.refl _ _) rfl rfl
       case tail=>
        clear hS;intro x W3 F hB aU hF;have d4:aH W3 wr.heap.size 75 2 (x 4) (l.take (i+1)).length (cF (l.take (i+1))):=aU 4 (by omega);have d7:x 7=.slice (some ⟨pb,po+k * 2,none⟩) (n - k) (cl - k):=aU 7 (by omega);rw[uJ.o]at d4;obtain⟨a4,c4,e4⟩:=aH.slice d4;rw[e4]at d4;simp only[bz,cT,List.setIfInBounds_toArray,List.set_cons_succ,List.set_cons_zero,Nat.reduceAdd]at hF;rw[e4,d7]at hF;generalize x 0=s0,x 1=s1,x 2=s2,x 3=s3,x 5=s5,x 6=s6 at hF;subst hF;have oN:=aa hB;have wD:=aa d4;have Es:=aa (Yx.o.up up_link hB)
        have bA:am (∀ j u,(cF (l.drop k))[j]?=some u->W3.cell? (Addr.add ⟨pb,po+k * 2,none⟩ j)=some u):=aa (fun j u hj=>by
         obtain⟨b',o',c',e1,hc⟩:=Gz Es.o j u hj;injection e1 with e1
         injection e1 with e1
         injection e1 with e1 e2
         subst e1 e2;have:(Addr.add ⟨pb,po+k * 2,none⟩ j)=⟨pb,po+k * 2+j,none⟩:=by unfold Addr.add;split<;>simp_all
         rw[this];exact hc)
        have Q6:am ((cF (l.drop k)).length=(n - k) * 2):=aa (by rw[mf,KA.o]);have jT:am (i+1+(n - k)<=maxLen):=aa (by unfold maxLen;omega);have dD:am ((i+1+(n - k)) * 16<=140737488355328):=aa (by omega);clear aU d4 d7 e4 hB;simp only[List.drop_succ_cons,List.drop_zero]
        go_wp2_with (at_builtin;(refine aX _ rfl (.tmp 61) (.tmp 64) 54 rfl wr.heap.size 75 i0 _ 2 16 Tryz.underlying54 bO.o.1 bO.o.2.1 bO.o.2.2.1 bO.o.2.2.2 rfl (by decide) _ (i+1) _ rfl wD.o ⟨pb,po+k * 2,none⟩ (n - k) (cl - k) (cF (l.drop k)) rfl Q6.o bA.o (Dx _) jT.o dD.o oN.o.size ?_;intro v5 w5 OM hgrow5 _))
        have dE:Below wr.heap.size wr w5:=Below.grown oN.o hgrow5 oN.o.size (fun g hg=>(wD.o.lt g hg).1);obtain⟨g5,c5,rfl,qX,Ad,rJ,Hg⟩:=OM.some (by omega);obtain⟨⟨uo,tu⟩,fu⟩:=Hg ((i+1) * 2+1) (by omega);have hi5:i+1<i+1+(n - k):=by omega
        have UX:=aa (RH.o _ _ n8.o dE)
        have Ur:am (Calls Tryz.prog 83 #[.int .i64 m] w5 fun r w'=>r=.returned (.int .i64 (byP s e f))/\w5=w'):=aa (by
         have h:=DF (fun p=>decide (p<nS s)&&linkB s p e f) w5 (X3.o w5 UX.o);rw[<-HUP.o,uX.o]at h
         exact h)
        have Ew:am (aH w5 wr.heap.size 75 2 (.slice (some ⟨g5,0,none⟩) (i+1+(n - k)) c5) (i+1+(n - k)) (cF (l.take (i+1)++l.drop k))):=aa (by rw[jB];exact OM);have lf:=aa dE;clear OM hgrow5 Hg dE;have GQ:am (bN (byP s e f)/\bN (f:Int)):=aa (aP.o e f);generalize byP s e f=bp at Ur xa GQ
        gi_wp2
        refine⟨trivial,rfl,callsIn_wide.2 (Ur.o.mono ?_)⟩;rintro r w6 ⟨rfl,rfl⟩;have cW:bN bp/\bN (f:Int):=GQ.o;obtain⟨y,hy⟩:∃ y:Lk,y=⟨f,bp⟩:=⟨_,rfl⟩
        have R4:am (bh (w5.setCell ⟨g5,(i+1) * 2+1,none⟩ (.int .i64 bp)) (.slice (some ⟨g5,0,none⟩) (i+1+(n - k)) c5) (l.take (i+1)++⟨f,bp⟩ :: l.drop (k+1))/\Below wr.heap.size wr (w5.setCell ⟨g5,(i+1) * 2+1,none⟩ (.int .i64 bp))):=aa (by
         have e0:(l.getD k default).x=f:=wY.o;have e1:l.drop k=l.getD k default :: l.drop (k+1):=by rw[List.drop_eq_getElem_cons (by rw[HN.o];exact mL),show l.getD k default=l[k]'(by rw[HN.o];exact mL) by simp[HN.o,mL]]
         have e2:cF (l.take (i+1)++⟨f,bp⟩ :: l.drop (k+1))=(cF (l.take (i+1)++l.drop k)).set ((i+1) * 2+1) (.int .i64 bp):=by rw[e1,<-e0,Ti,uJ.o]
         have e3:(l.take (i+1)++⟨f,bp⟩ :: l.drop (k+1):List Lk).length=i+1+(n - k):=by rw[List.length_append,List.length_cons,uJ.o,List.length_drop,HN.o];omega
         have h1:=L3 Ew.o ((i+1) * 2+1) (.int .i64 bp) (by rw[mf,List.length_append,uJ.o,KA.o];omega) e2;refine⟨aH.links (base:=wr.heap.size) (by rw[e3];exact h1) (fun y hy=>?_) (by rw[e3];omega),lf.o.setCell (p:=⟨g5,(i+1) * 2+1,none⟩) qX _⟩;rcases List.mem_append.1 hy with hy|hy
         ·exact Oz.o y (List.mem_of_mem_take hy)
         rcases List.mem_cons.1 hy with rfl|hy
         ·exact⟨cW.2,cW.1⟩
         ·exact Oz.o y (List.mem_of_mem_drop hy))
        clear hy y cW Ur;obtain⟨fn,tmps,assign,body,pO,hR⟩:=B3.o d _ (ii s l i (j+1)++gG s l (i+1)) (w5.setCell ⟨g5,(i+1) * 2+1,none⟩ (.int .i64 bp)) _ (by rw[HD.o,xa.o];rfl) R4.o.1 (fun b hb=>.inr (by have e:=dp hb;have h1:=n8.o.2;dsimp only at e;omega)) (ZE.o _ _ _ Oy.o R4.o.2);have HR:=aa hR;clear hR;have RW:am (dO s l=(d++[l.take (i+1)++⟨f,bp⟩ :: l.drop (k+1)])++(ii s l i (j+1)++gG s l (i+1))):=aa (by rw[HD.o,xa.o];simp)
        gi_wp2
        refine⟨rfl,HR.o.mono ?_⟩;rintro r W9 (⟨rfl,Ar,RM,RX⟩|⟨rfl,i9,RF,hJx9⟩)
        ·have qZ:=aa (KSz.trans (RH.o _ _ n8.o R4.o.2) Ar);have HJ9:=aa RX;clear Ar RX RM HR pO
         gi_wp2
         go_roundw
         ·exact⟨j+1,_,by omega,rfl,RW.o,qZ.o,HJ9.o⟩
         ·simp[intOf];omega
        ·clear B3 HR pO
         gi_wp2
         refine bodyPost_ret (results_none rfl _ _ _) rfl ?_;exact⟨⟨_,rfl⟩,_,.inr ⟨_,RF,hJx9⟩⟩
     ·have HJE2:=aa (HJE1.o (by omega));clear gk
      gi_wp2
      go_roundw
      ·exact⟨i+1,d,by omega,by go_num,by rw[HD.o,HJE2.o];rfl,kx.o,jp.o⟩
      ·simp[intOf];omega
   ·obtain rfl:i=n:=by omega
    have HCE:am (d.length=(dO s l).length):=aa (by rw[HD.o,yV.o,List.append_nil])
    gi_wp2
    go_end0
    exact⟨⟨_,rfl⟩,_,.inl (by rw[<-HCE.o];exact jp.o)⟩
abbrev fw(k:Int) (u:Value):Array Value:=#[.int .i64 k,u,.slice none 0 0,.slice none 0 0,.slice none 0 0]
theorem yz(tmps:Array Value) (B:Nat) (W:World) (k e:Int) (u:Value) (h4:tmps[4]?.getD undef=.pointer (some ⟨B,0,none⟩)) (h5:tmps[5]?.getD undef=.int .i64 e)
  (hB:W.heap[B]?=some (.cells (fw k u) 58)):(results Tryz.f22 tmps).run Tryz.prog W=.ok (.tuple #[.agg (fw k u),.int .i64 e]) W:=by
 have t2:=ab hB;simp[results,Tryz.results22,go_sem,h4,h5,t2]
theorem CJ{w:World} {pb po n c:Nat} {l:List Lk} (h:bh w (.slice (some ⟨pb,po,none⟩) n c) l) (h0:0<l.length):pb<w.heap.size:=by
 obtain⟨pl,cl,e1,_,_,el⟩:=h.at;obtain⟨b,o,e2,h1⟩:=el 0 h0;injection e1 with e1
 rw[<-e1]at e2;injection e2 with e2
 injection e2 with e2
 rw[e2];exact fo h1.1.1
theorem Xe{s:Sys} {w:List Lk} {i:Nat} (hi:i<(dO s w).length) (h0:∀ j,j<i->jg s ((dO s w).getD j [])=false) (h1:jg s ((dO s w).getD i [])=true):jV s w=some ((dO s w).getD i []):=by
 refine Su (d:=(dO s w).take i) (r:=(dO s w).drop (i+1)) ?_ (fun x hx=>?_) h1
 ·rw[aA [] hi];simp
 ·obtain⟨j,hj,e⟩:=List.getElem_of_mem hx;rw[List.length_take]at hj;have h2:=h0 j (by omega);rw[aA [] (by omega)]at h2;rw[<-e,List.getElem_take];exact h2
theorem Xf{s:Sys} {w:List Lk} (h0:∀ j,j<(dO s w).length->jg s ((dO s w).getD j [])=false):jV s w=none:=by
 refine PG rfl (fun x hx=>?_);obtain⟨j,hj,e⟩:=List.getElem_of_mem hx;have h2:=h0 j hj;rw[aA [] hj,e]at h2;exact h2
theorem Xg{s:Sys} {w c:List Lk} (hw:walkE s w=0) (hc:c∈dO s w):∀ y∈c,0<=y.x/\y.x.toNat<eS s:=fun y hy=>by
 have h0:0<c.length:=List.length_pos_of_mem hy;exact FA ((Ga hc h0).walk hw) y hy
def ZW(vr:List Lk × Int) (r:Ending) (w':World):Prop:=∃ u,r=.returned (.tuple #[.agg (fw (if vr.2=0 then 1 else 0) u),.int .i64 vr.2])/\bh w' u vr.1
structure ShI (w w0:World) (b8 b9:Nat) (wk:List Lk) (ag:Bool) (Ds:List Nat) (V:World):Prop where
 old:Below w0.heap.size w0 V
 wk:∃ pb po cl,V.heap[b8]?=some (.cells #[.slice (some ⟨pb,po,none⟩) wk.length cl] 54)/\bh V (.slice (some ⟨pb,po,none⟩) wk.length cl) wk/\(pb≠b8/\pb≠b9)/\w0.heap.size<=pb
 ag:V.heap[b9]?=some (.cells #[.bool ag] 4)
 marks:cX w.heap.size Ds V
theorem ShI.sta{w w0:World} {b8 b9 B:Nat} {wk:List Lk} {ag:Bool} {Ds:List Nat} (h1:w0.heap.size<=B) (h2:∀ D∈Ds,D<B) {A A':World} (c:Chg B A A') (h:ShI w w0 b8 b9 wk ag Ds A):ShI w w0 b8 b9 wk ag Ds A':=by
 obtain⟨pb,po,cl,k1,k2,k3⟩:=h.wk;exact⟨c.below h1 h.old.size h.old,⟨pb,po,cl,c.same _ _ k1 (.inr rfl),k2.ck up_link c.ck,k3⟩,c.same _ _ h.ag (.inr rfl),cO.marks h2 A A' c h.marks⟩
def ZZ(s:Sys) (w w0:World) (b6 b8:Nat) (F:List Lk) (n:Nat) (act:Act) (W:World):Prop:=∃ (b9:Nat) (wk:List Lk) (ag:Bool) (Ds:List Nat) (u0 u1 u3 u7 u10 u11 u12 u13 u14 u15 u16 u17 u18 u19 u20 u21 u22 u23 u24 u25 u26 u27 u28 u29 u30 u31 u32 u33 u34 u35:Value),
 act={ tmps:=#[u0,u1,.pointer (some ⟨w.heap.size,0,none⟩),u3,.pointer (some ⟨w.heap.size+1+1,0,none⟩),.int .i64 0,.pointer (some ⟨b6,0,none⟩),u7,.pointer (some ⟨b8,0,none⟩),.pointer (some ⟨b9,0,none⟩),u10,u11,u12,u13,u14,u15,u16,u17,u18,u19,u20,u21,u22,u23,u24,u25,u26,u27,u28,u29,u30,u31,u32,u33,u34,u35],defers:=nF Ds }/\n=2 * wk.length+(if ag then 1 else 0)/\walkE s wk=0/\(if ag then i8 s wk else wk)=F/\w0.heap.size<=b8/\b8<b9/\ShI w w0 b8 b9 wk ag Ds W
theorem JB(s:Sys) (hE:eS s<=256) (vc vs vt ve vw:Value) (c:Ct) (pv:Option Addr) (cv:Nat) (pl:Option Addr) (cl:Nat) (pp:Option Addr) (cp:Nat) (w:World) (hT:iH w) (hs:IsSys w s vc vs vt ve) (hN:movesN s.prob.a.states<1099511627776) (hw:bh w vw c.walk) :
  Calls Tryz.prog 22 #[.agg (bL s.prob vc vs s.n vt ve),.agg #[.int .i64 c.kind,vw,.slice pv c.nv cv,.slice pl c.nl cl,.slice pp c.np cp]] w fun r w'=>ZW (shortR s c) r w'/\Below w.heap.size w w':=by
 have HS:=aa hs;have HT:=aa hT;obtain⟨⟨pc,cc,rfl⟩,⟨ps,cs,rfl⟩,⟨pt,ct,rfl⟩,⟨pe,ce,rfl⟩⟩:=bB hs;obtain⟨pw,cw,rfl,lw1,lw2,_⟩:=hw.at;have VL:=aa hw;have HV:=aa (fun W (hb:Below w.heap.size w W)=>zS s hE _ _ _ _ _ c pv cv pl cl pp cp W (HS.o.up hb) hN (VL.o.up up_link hb))
 have VI:am (certE s c=0->verifyE s=0/\walkE s c.walk=0):=aa (fun h=>by
  unfold certE at h;split at h
  ·rename_i h1;exact absurd h h1
  rename_i h1;refine⟨sH (by omega),?_⟩;unfold AS at h;split at h
  ·omega
  split at h
  ·omega
  split at h
  ·rename_i h4;exact absurd h h4
  ·rename_i h4;omega)
 have Rj:am (certE s c=0->shortR s c=(i8 s c.walk,0)):=aa (fun h=>by unfold shortR;rw[if_neg (by omega)]);have dg:am (certE s c≠0->shortR s c=([],certE s c)):=aa (fun h=>by unfold shortR;rw[if_pos h]);generalize shortR s c=vr at Rj dg ⊢;obtain⟨ee,yK⟩:∃ ee,certE s c=ee:=⟨_,rfl⟩;rw[yK]at HV VI Rj dg;obtain⟨kd,wk0,nv,nl,np⟩:=c;dsimp only at *;clear hs hT hw yK;refine gq Tryz.func22 rfl ?_;simp only[Tryz.ntmps22,List.size_toArray,List.length_cons,List.length_nil,Nat.reduceAdd,Nat.reduceSub,Array.replicate_succ,Array.replicate_zero,List.push_toArray,List.append_toArray,List.nil_append,List.cons_append]
 go_wp2_with fail
 refine aN (fun W=>Below w.heap.size w W/\W.heap[w.heap.size+1]?=some (.cells #[.int .i64 kd,.slice pw wk0.length cw,.slice pv nv cv,.slice pl nl cl,.slice pp np cp] 58)/\W.heap[w.heap.size+1+1]?=some (.cells (fw 0 (.slice none 0 0)) 58)) ⟨by go_grown,ar _ (bd _ _ _),eI _ _ _ _⟩ (fun W0 aZ=>?_);obtain⟨aI,gl,ic⟩:=aZ;refine(HV.o W0 aI).mono ?_;rintro r w1 ⟨⟨v,rfl,h2,h3⟩,aJ⟩;have bK:=aa (ae aI aJ);have fM:=aa (af aJ gl);have Rk:=aa (af aJ ic);have gc:=aC Rk.o;by_cases hr:ee=0
 case neg=>
  have Vq:=aa (dg.o hr);obtain rfl:=h3 hr;have Hi:(ee != 0)=true:=by simpa using hr
  have Yh:=aa hr;clear aI aJ h2 h3 hr HV gl ic VI Rj dg
  go_wp2_with (refine wpList_store_row rfl 58 (.tmp 4) (.tmp 19) rfl (w.heap.size+1+1) (fw 0 (.slice none 0 0)) rfl rfl 58 _ (ar _ Rk.o) (by kernel_rfl) rfl (by simp[Value.oneCell']) (gT (fun W=>Below w.heap.size w W/\W.heap[w.heap.size+1+1]?=some (.cells (fw 0 (.slice none 0 0)) 58)) ⟨below_setRow (bK.o.alloc (by omega) _) (by omega) _,setRow_heap _ _ _ _ _ _ (ar _ Rk.o)⟩ ?_);intro W2 eY;have cS:=aa eY;clear eY)
  refine iE (yz _ (w.heap.size+1+1) _ 0 ee (.slice none 0 0) rfl rfl cS.o.2) ?_;have e1:=Vq.o;have e2:=Yh.o;subst e1;exact⟨⟨.slice none 0 0,by dsimp only;rw[if_neg e2],⟨none,0,rfl,⟨by simp,by omega,fun _=>rfl⟩,by simp,fun i x hx=>by simp at hx⟩⟩,cS.o.1⟩
 obtain⟨B,rfl,gj⟩:=h2 hr;have Vq:=aa (Rj.o hr);have HZ:=aa (VI.o hr);have dA:=aa (jh HZ.o.1);have kV:=aa gj;have cC:=(se s wk0).1 HZ.o.2;have At:=cC.1;have pF:=cC.2.1;subst hr;clear aI aJ h2 h3 HV gl ic VI Rj dg gj cC;have to:=fun o j=>ab (ar o fM.o) j
 go_wp2_with fail
 refine aN (fun W=>Below w1.heap.size w1 W/\W.heap[w1.heap.size]?=some (.cells #[.pointer (some ⟨B,0,none⟩)] 94)) ⟨by go_grown,aq _ _⟩ (fun W1 cD=>?_);have fx:=aa cD.1;have kW:=aa cD.2;clear cD to;refine(vP _ wk0 W1 (VL.o.up up_link (ae bK.o fx.o)) (by omega)).mono ?_;rintro r w2 ⟨u,rfl,hu,a8⟩;obtain⟨pb,cc2,rfl,qX,Ad,rJ,_⟩:=hu.some At;have HU:=aa (aH.links hu (Jz VL.o) (by omega));have cQ:=aa a8;have bY:=a8.size;have bP:=fx.o.size;have dL:=aC kW.o;clear hu a8;have Kc:=aa (kV.o.up fx.o);have ie:am (i8 s wk0=vr.1/\vr.2=0):=aa (by rw[Vq.o];exact⟨rfl,rfl⟩);have HRS1:=aa (af fx.o Rk.o);have xW:=aa (ae bK.o fx.o);have Kb:=aa (HT.o.up xW.o);clear Vq kV fM Rk
 go_wp2_with fail
 have oR:Below w2.heap.size w2 ((w2.alloc (Obj.cells #[Value.slice (some { block:=pb,off:=0 }) wk0.length cc2] 54)).alloc (Obj.cells #[Value.bool true] 4)):=by go_grown
 have bO:am (ShI w W1 w2.heap.size (w2.heap.size+1) wk0 true [] ((w2.alloc (Obj.cells #[Value.slice (some { block:=pb,off:=0 }) wk0.length cc2] 54)).alloc (Obj.cells #[Value.bool true] 4))):=aa
  ⟨ae cQ.o oR,⟨pb,0,cc2,ar _ (aq _ _),HU.o.up up_link oR,⟨by omega,by omega⟩,by omega⟩,bd _ _ _,cX.nil _ _⟩
 clear oR cQ HU;refine Ck (fun n act W=>ZZ s w W1 w1.heap.size w2.heap.size (i8 s wk0) n act W) (2 * wk0.length+1) ?start ?round
 case start=>exact⟨w2.heap.size+1,wk0,true,[],_,_,_,_,_,_,_,_,_,_,_,_,_,_,_,_,_,_,_,_,_,_,_,_,_,_,_,_,_,_,rfl,rfl,HZ.o.2,rfl,bY,by omega,bO.o⟩
 case round=>
  clear bO qX Ad rJ At pF lw1 lw2;have uT:W1.heap.size<=w2.heap.size:=bY;generalize w2.heap.size=b8 at uT;rintro n act W ⟨b9,wk,ag,Ds,u0,u1,u3,u7,u10,u11,u12,u13,u14,u15,u16,u17,u18,u19,u20,u21,u22,u23,u24,u25,u26,u27,u28,u29,u30,u31,u32,u33,u34,u35,rfl,hn,Sf,hF,_,dS,hI⟩;have cC:=(se s wk).1 Sf;have At:=cC.1;have pF:=cC.2.1;clear cC;have mq:∀ E∈Ds,E<W.heap.size:=hI.marks.lt;obtain⟨pb,po,cl',h8,lO,⟨hp8,VK⟩,wP⟩:=hI.wk;have t9:=ab hI.ag 0;have t8:=ab h8 0;have f9:=aE hI.ag 0;simp at t9 t8;have KX:=af hI.old HRS1.o;have HI:=aa hI;have HH8:=aa h8;have gz:=aa lO;have Yt:=aa hF;have OG:=aa KX;have HN:=aa hn;have xa:=aa (aC HRS1.o);cases ag with
  | false=>
   clear hI h8 lO hF KX hn f9
   go_wp2_with (refine wpList_store_row rfl 58 (.tmp 4) (.tmp 35) rfl (w.heap.size+1+1) (fw 1 (.slice (some ⟨pb,po,none⟩) wk.length cl')) rfl rfl 58 _ OG.o (by kernel_rfl) rfl (by simp[Value.oneCell']) ?_)
   have hm:cX w.heap.size Ds (W.setRow (w.heap.size+1+1) (fw 1 (.slice (some ⟨pb,po,none⟩) wk.length cl'))):=HI.o.marks.keep fun k o ho hc=>by
    rw[setRow_other _ _ _ _ (fun e=>by subst e;rw[OG.o]at ho;cases ho;cases hc)];exact ho
   have bQ:(W.setRow (w.heap.size+1+1) (fw 1 (.slice (some ⟨pb,po,none⟩) wk.length cl'))).heap[w.heap.size+1+1]?=some (.cells (fw 1 (.slice (some ⟨pb,po,none⟩) wk.length cl')) 58):=setRow_heap _ _ _ _ _ _ OG.o;refine rV hm (yz _ (w.heap.size+1+1) _ 1 0 (.slice (some ⟨pb,po,none⟩) wk.length cl') rfl rfl (rU hm _ _ bQ rfl)) ?_;have e1:=ie.o;obtain⟨x1,x2⟩:=vr;dsimp only at e1;obtain⟨e1,rfl⟩:=e1;have e3:wk=x1:=by rw[<-e1];exact Yt.o
   subst e3;refine⟨⟨_,rfl,?_⟩,mV (fun D hD=>(hm.2 D hD).1) (Nat.le_refl _) (below_setRow (ae xW.o HI.o.old) (by omega) _)⟩;refine fm.ck up_link (rU hm) (kM gz.o (setRow_other _ _ _ _ ?_));have:=xa.o;omega
  | true=>
   have vp:am (ShI w W1 b8 b9 wk false Ds (W.setCell ⟨b9,0,none⟩ (.bool false))):=aa
    ⟨hI.old.setCell (p:=⟨b9,0,none⟩) (by dsimp only;omega) _,⟨pb,po,cl',aK h8 (by omega) _ _,kM lO (Below.heap_setCell _ _ _ _ VK),⟨hp8,VK⟩,wP⟩,aF hI.ag _ _,hI.marks.keep fun k o ho hc=>aK ho (fun e=>by subst e;rw[hI.ag]at ho;cases ho;cases hc) _ _⟩
   have t6':=(ab (af vp.o.old kW.o) 0).trans rfl;have YO:(W.setCell ⟨b9,0,none⟩ (.bool false)).heap[b8]?=some (.cells #[.slice (some ⟨pb,po,none⟩) wk.length cl'] 54):=aK h8 (by omega) _ _;have t8':=(ab YO 0).trans rfl;have HLK1:am (bh (W.setCell ⟨b9,0,none⟩ (.bool false)) (.slice (some ⟨pb,po,none⟩) wk.length cl') wk):=aa (kM lO (Below.heap_setCell _ _ _ _ VK));have HH8':=aa YO;clear hI h8 lO hF KX hn YO HI OG HH8 gz t8
   go_wp2_with fail
   clear t6' t8';refine aN (fun V=>ShI w W1 b8 b9 wk false Ds V/\V.heap[b8]?=some (.cells #[.slice (some ⟨pb,po,none⟩) wk.length cl'] 54)/\bh V (.slice (some ⟨pb,po,none⟩) wk.length cl') wk/\V.heap.size=W.heap.size) ⟨vp.o,HH8'.o,HLK1.o,by simp⟩ (fun V hV=>?_);have HV:=aa hV.1;have HV8:=aa hV.2.1;have BT:=aa hV.2.2.1;have hVs:=hV.2.2.2;rw[<-hVs]at mq;clear hV vp HH8' HLK1 f9 t9 hVs W;refine(LB B (.slice (some ⟨pb,po,none⟩) wk.length cl') V ⟨_,_,_,rfl⟩).mono ?_;rintro r w3 ⟨rfl,rfl⟩
   go_wp2_with fail
   have rJ:Below V.heap.size V ((V.alloc (.cells #[.pointer (some ⟨B,0,none⟩)] 94)).alloc (.cells #[.slice (some ⟨pb,po,none⟩) wk.length cl'] 54)):=by go_grown
   refine bu (fun U=>Below V.heap.size V U/\U.heap[V.heap.size]?=some (.cells #[.pointer (some ⟨B,0,none⟩)] 94)/\U.heap[V.heap.size+1]?=some (.cells #[.slice (some ⟨pb,po,none⟩) wk.length cl'] 54)) ⟨rJ,ar _ (aq _ _),bd _ _ _⟩ (fun U hU=>?_);obtain⟨uN,tD,pH⟩:=hU;have hsU:=aC pH;have Hq:=aa (HV.o.sta (B:=V.heap.size) HV.o.old.size mq (Chg.of_below uN));have dr:=JA s dA.o hE wk At pF (FA Sf) B V.heap.size (V.heap.size+1) pb po cl' W1 Kb.o Kc.o U Hq.o.old (BT.o.up up_link uN) pH tD;have hpbV:=CJ BT.o At;have dT:=aa (fun (wk':List Lk) (ag':Bool) A A' (c:Chg U.heap.size A A') (h:ShI w W1 b8 b9 wk' ag' Ds A)=>h.sta (B:=U.heap.size) Hq.o.old.size (fun E hE=>by have:=mq E hE;omega) c);have hb8U:b8<V.heap.size:=aC HV8.o;have hb9U:b9<V.heap.size:=aC HV.o.ag;clear uN tD rJ
   refine M0 (gf:=96) (lb:=#[.pointer (some ⟨V.heap.size+1,0,none⟩),.pointer (some ⟨V.heap.size,0,none⟩)]) rfl (enters_of Tryz.func96 (by kernel_rfl) rfl) dr (Below.refl _ _) (fun k hk=>by have:=Hq.o.old.size;rcases hk with hk|rfl|rfl|rfl<;>omega) (fun i args _ _ h=>by obtain⟨v,h,_⟩:=h;rw[h];rfl)
    (fun i T A=>ShI w W1 b8 b9 wk false Ds A/\(∀ j,j<i->jg s ((dO s wk).getD j [])=false)/\(¬ T b8/\¬ T b9)/\(∀ k,T k->k<A.heap.size)/\U.heap.size<=A.heap.size)
    (fun c i T A=>c=.exit 2/\∃ c',jV s wk=some c'/\ShI w W1 b8 b9 c' true Ds A)
    (fun i T T' A A' h hc hw=>⟨dT.o _ _ _ _ hc h.1,h.2.1,⟨fun hk=>by
     rcases hw.2 _ hk with h1|h1
     ·exact h.2.2.1.1 h1
     ·have:=h.2.2.2.2;omega,fun hk=>by
     rcases hw.2 _ hk with h1|h1
     ·exact h.2.2.1.2 h1
     ·have:=h.2.2.2.2;omega⟩,fun k hk=>by
     rcases hw.2 _ hk with h1|h1
     ·exact Nat.lt_of_lt_of_le (h.2.2.2.1 k h1) hc.size
     ·exact h1.2,Nat.le_trans h.2.2.2.2 hc.size⟩)
    (fun c i T T' A A' h hc hw=>by obtain⟨h1,c',h2,h3⟩:=h;exact⟨h1,c',h2,dT.o _ _ _ _ hc h3⟩)
    ⟨Hq.o,fun j hj=>by omega,⟨by omega,by omega⟩,fun k hk=>by have:=Hq.o.old.size;rcases hk with hk|rfl|rfl|rfl<;>omega,Nat.le_refl _⟩ ?rnd ?done ?stop
   case done=>
    intro D T A hD oe hK;have mO:=Xf oe.2.1;have h9:=oe.1.ag;obtain⟨pb',po',cl'',k1,k2,⟨k3,k4⟩,k5⟩:=oe.1.wk;have t9:=ab h9 0;simp at t9;have hpa:=CJ k2 At;have h8A:=aC k1;have Eg:Below A.heap.size A (A.alloc (.cells #[.bool false] 4)):=by go_grown
    have Ao:am (ShI w W1 b8 A.heap.size wk false (D :: Ds) (A.alloc (.cells #[.bool false] 4))):=aa
     ⟨ae oe.1.old Eg,⟨pb',po',cl'',af Eg k1,k2.up up_link Eg,⟨k3,by omega⟩,k5⟩,aq _ _,(cX.cons oe.1.marks (by have:=xW.o.size;have:=Hq.o.old.size;omega) hK fun E hE=>by have:=mq E hE;omega).up Eg⟩
    have ik:am ((if false=true then i8 s wk else wk)=i8 s wk0):=aa (by rw[if_neg (by decide),<-M' mO];exact Yt.o);have ou:am (2 * wk.length+(if false=true then 1 else 0)<n):=aa (by rw[HN.o];simp);clear oe dr k1 k2 k3 k4 k5 mO
    go_wp2_with fail
    exact⟨_,ou.o,A.heap.size,wk,false,D :: Ds,_,_,_,_,_,_,_,_,_,_,_,_,_,_,_,_,_,_,_,_,_,_,_,_,_,_,_,_,_,_,rfl,rfl,Sf,ik.o,uT,by omega,Ao.o⟩
   case stop=>
    rintro D c i T A hD hi ⟨rfl,c',mO,oe⟩ hK;obtain⟨g1,g2,_,g4⟩:=uf mO;have h9:=oe.ag;obtain⟨pb',po',cl'',k1,k2,⟨k3,k4⟩,k5⟩:=oe.wk;have t9:=ab h9 0;simp at t9;have hpa:=CJ k2 g2;have h8A:=aC k1;have Eg:Below A.heap.size A (A.alloc (.cells #[.bool true] 4)):=by go_grown
    have Ao:am (ShI w W1 b8 A.heap.size c' true (D :: Ds) (A.alloc (.cells #[.bool true] 4))):=aa
     ⟨ae oe.old Eg,⟨pb',po',cl'',af Eg k1,k2.up up_link Eg,⟨k3,by omega⟩,k5⟩,aq _ _,(cX.cons oe.marks (by have:=xW.o.size;have:=Hq.o.old.size;omega) hK fun E hE=>by have:=mq E hE;omega).up Eg⟩
    have ik:am ((if true=true then i8 s c' else c')=i8 s wk0):=aa (by rw[if_pos rfl,<-Na mO];exact Yt.o);have ou:am (2 * c'.length+(if true=true then 1 else 0)<n):=aa (by have:=g4.len;rw[HN.o];simp;omega);have hwz':=g4.walk Sf;clear oe dr k1 k2 k3 k4 k5 mO g1 g4
    go_wp2_with fail
    exact⟨_,ou.o,A.heap.size,c',true,D :: Ds,_,_,_,_,_,_,_,_,_,_,_,_,_,_,_,_,_,_,_,_,_,_,_,_,_,_,_,_,_,_,rfl,rfl,hwz',ik.o,uT,by omega,Ao.o⟩
   case rnd=>
    rintro yl i T A args hi hl hlA hTl ⟨v,rfl,hv,hvb⟩ ⟨hSI,gL,⟨ht8,ht9⟩,hTA,hUA⟩;obtain⟨pv',cv',rfl,_⟩:=hv.at;have BL:=aa hv;have AJ:=aa hSI;have HTA:=aa hTA;have HMEM:am ((dO s wk).getD i []∈dO s wk):=aa (by rw[aA [] hi];exact List.getElem_mem hi);have eO:=aa (fun h=>Xe hi gL h);have fi:=aa (fun h:jg s ((dO s wk).getD i [])=false=>aV (p:=fun j=>jg s ((dO s wk).getD j [])=false) gL h);generalize (dO s wk).getD i []=cand at BL HMEM eO fi hv;have rS:=aa hvb;clear hv hSI hTA gL dr
    gi_wp2
    refine⟨Bod.refl _ _ _,fun X=>ShI w W1 b8 b9 wk false Ds X/\bh X (.slice pv' cand.length cv') cand/\(∀ k,T k->k<X.heap.size)/\U.heap.size<=X.heap.size,fun X X' c h=>⟨dT.o _ _ _ _ c h.1,h.2.1.ck up_link c.ck,fun k hk=>Nat.lt_of_lt_of_le (h.2.2.1 k hk) c.size,Nat.le_trans h.2.2.2 c.size⟩,⟨AJ.o,BL.o,HTA.o,hUA⟩,fun X hX jI=>?_⟩;obtain⟨rlp,jI⟩:=jI;have JM:=aC jI;clear jI rlp;have HX:=aa hX.1;have z':=aa hX.2.1;have XZ:=aa hX.2.2.1;have hUX:=hX.2.2.2;have tb6:=(ab (af HX.o.old kW.o) 0).trans rfl;have Wd:=aa (rF s dA.o B _ cand (Xg Sf HMEM.o) X (Kc.o.up HX.o.old) hX.2.1);obtain⟨pbx,pox,clx,q1,q2,⟨q3,q4⟩,q5⟩:=hX.1.wk;have Q1:=aa q1;have Q9:=aa hX.1.ag;clear hX q2 q3 q4 q5 q1
    gi_wp2
    refine⟨trivial,rfl,yh (Wd.o.mono ?_)⟩;rintro r W4 ⟨rfl,cj⟩;clear tb6 Wd;have eG:=aa cj;have r1:=af cj Q1.o;have r9:=af cj Q9.o;have s8:=ab r1 0;have s9:=ab r9 0;have f8:=aE r1 0;have f9:=aE r9 0;simp at s8 s9;have R1:=aa r1;have R9:=aa r9;clear r1 r9 cj;cases hg:jg s cand with
    | true=>
     have ri:=aa (eO.o hg)
     have h0c:0<cand.length:=by
      unfold jg at hg;rw[Bool.and_eq_true,decide_eq_true_eq]at hg;exact hg.1
     clear hg eO fi;have hne89:¬ (b9=b8):=by omega
     have hne98:¬ (b8=b9):=by omega
     gi_wp2
     obtain⟨pl9,cl9,e9,_,_,el9⟩:=z'.o.at;obtain⟨pbv,pov,e8,_⟩:=el9 0 h0c;injection e9 with e9
     rw[<-e9]at e8;subst e8;have hvo:=rS.o pbv rfl
     have bM:pbv≠b8/\pbv≠b9/\W1.heap.size<=pbv:=by
      have:=Hq.o.old.size;rcases hvo with rfl|h
      ·exact⟨hp8,VK,wP⟩
      ·omega
     have uI:∀ (k:Nat) (o:Obj),W4.heap[k]?=some o->o.isCells=false->((W4.setCell ⟨b8,0,none⟩ (.slice (some ⟨pbv,pov,none⟩) cand.length cv')).setCell ⟨b9,0,none⟩ (.bool true)).heap[k]?=some o:=fun k o ho hc=>
      aK (aK ho (fun e=>by subst e;rw[R1.o]at ho;cases ho;cases hc) _ _) (fun e=>by subst e;rw[R9.o]at ho;cases ho;cases hc) _ _
     refine⟨⟨by simp;have:=eG.o.size;omega,fun k hk=>?_,fun k o _ ho hc=>uI k o (af eG.o ho) hc⟩,rfl,_,ri.o,?_⟩
     ·rw[Below.heap_setCell _ _ _ _ (fun e=>ht9 (by dsimp only at e;rw[<-e];exact hk)),Below.heap_setCell _ _ _ _ (fun e=>ht8 (by dsimp only at e;rw[<-e];exact hk))];exact eG.o.block k (XZ.o k hk)
     ·refine⟨((ae HX.o.old eG.o).setCell (p:=⟨b8,0,none⟩) uT _).setCell (p:=⟨b9,0,none⟩) (by dsimp only;omega) _,⟨pbv,pov,cv',aK (aF R1.o _ _) hne98 _ _,kM (kM (z'.o.up up_link eG.o) (Below.heap_setCell _ _ _ _ bM.1)) (Below.heap_setCell _ _ _ _ bM.2.1),⟨bM.1,bM.2.1⟩,bM.2.2⟩,aF (aK R9.o hne89 _ _) _ _,(HX.o.marks.up eG.o).keep uI⟩
    | false=>
     have ri:=aa (fi.o hg);clear hg eO fi
     gi_wp2
     exact⟨Bod.of_below XZ.o eG.o,dT.o _ _ _ _ (Chg.of_below eG.o) HX.o,ri.o,⟨ht8,ht9⟩,fun k hk=>Nat.lt_of_lt_of_le (XZ.o k hk) eG.o.size,Nat.le_trans hUX eG.o.size⟩
def mX(s:Sys) (mem:List Nat) (i:Nat):List Lk:=if i=0 then gw s mem else gm s (mem.getD (i - 1) 0) (mem.drop i)
theorem LC(s:Sys) (mem:List Nat) (h:0<mem.length):mX s mem 0=⟨mem.getD 0 0,-1⟩ :: mX s mem 1:=by
 match mem,h with
 | a :: r,_=>rfl
theorem NX(s:Sys) (mem:List Nat) (i:Nat) (h0:0<i) (hi:i<mem.length):mX s mem i=gu s (mem.getD (i - 1) 0) (mem.getD i 0)++mX s mem (i+1):=by
 unfold mX;rw[if_neg (by omega),if_neg (by omega),List.drop_eq_getElem_cons hi,aA 0 hi,Nat.add_sub_cancel,aA 0 hi];rfl
theorem QM(s:Sys) (mem:List Nat):mX s mem mem.length=[]:=by
 unfold mX;split
 ·rename_i h;rw[List.eq_nil_of_length_eq_zero h];rfl
 ·rw[List.drop_length];rfl
structure SlS (J:Nat->(Nat->Prop)->World->Prop) (S:Nat->Prop) (w W:World) (yl c1 B:Nat) (x:Int) (d:Nat) (cur:Int) (T:Nat->Prop) (V:World):Prop where
 j:J d T V
 ks:KSz S w V
 sz:W.heap.size<=V.heap.size
 b3:V.heap[W.heap.size]?=some (.cells #[.func (.yield yl) #[] #[]] 80)
 b4:V.heap[W.heap.size+1]?=some (.cells #[.int .i64 cur] 3)
 x1:V.heap[c1]?=some (.cells #[.pointer (some ⟨B,0,none⟩)] 94)
 x2:V.heap[c1+1]?=some (.cells #[.int .i64 x] 3)
 t:T W.heap.size/\T (W.heap.size+1)/\T c1/\T (c1+1)
 tb:∀ k,T k->W.heap.size<=k/\k<V.heap.size
section
variable {J : Nat → (Nat → Prop) → World → Prop} {S : Nat → Prop} {w W : World} {yl c1 B : Nat} {x : Int} {d : Nat} {cur : Int} {T T' : Nat → Prop} {V V' : World}
theorem SlS.grow(h:SlS J S w W yl c1 B x d cur T V) (hJ:∀ i T T' A A',J i T A->ChT W.heap.size T A A'->gQ A A' T T'->J i T' A') (hS:∀ k,S k->k<w.heap.size) (hb:Below V.heap.size V V') (hw:gQ V V' T T'):SlS J S w W yl c1 B x d cur T' V':=
 ⟨hJ _ _ _ _ _ h.j (ChT.of_below h.sz hb) hw,⟨fun k hk=>(hb.block k (by have:=hS k hk;have:=h.ks.2;omega)).trans (h.ks.1 k hk),Nat.le_trans h.ks.2 hb.size⟩,Nat.le_trans h.sz hb.size,af hb h.b3,af hb h.b4,af hb h.x1,af hb h.x2,⟨hw.1 _ h.t.1,hw.1 _ h.t.2.1,hw.1 _ h.t.2.2.1,hw.1 _ h.t.2.2.2⟩,fun k hk=>by
  rcases hw.2 k hk with h1|h1
  ·exact⟨(h.tb k h1).1,Nat.lt_of_lt_of_le (h.tb k h1).2 hb.size⟩
  ·exact⟨by have:=h.sz;omega,h1.2⟩⟩
theorem SlS.chg{n:Nat} (h:SlS J S w W yl c1 B x d cur T V) (hJ:∀ i T T' A A',J i T A->ChT W.heap.size T A A'->gQ A A' T T'->J i T' A') (hS:∀ k,S k->k<w.heap.size) (hn:W.heap.size<=n) (hwn:w.heap.size<=n) (hc:Chg n V V'):SlS J S w W yl c1 B x d cur T V':=
 ⟨hJ _ _ _ _ _ h.j (ChT.of_chg hc hn h.sz) (gQ.refl _ _ _),⟨fun k hk=>by
  have h1:k<V.heap.size:=by have:=hS k hk;have:=h.ks.2;omega
  have h2:V.heap[k]?=some V.heap[k]:=Array.getElem?_eq_getElem h1;rw[hc.same k _ h2 (.inl (by have:=hS k hk;omega)),<-h2]
  exact h.ks.1 k hk,Nat.le_trans h.ks.2 hc.size⟩,Nat.le_trans h.sz hc.size,hc.same _ _ h.b3 (.inr rfl),hc.same _ _ h.b4 (.inr rfl),hc.same _ _ h.x1 (.inr rfl),hc.same _ _ h.x2 (.inr rfl),h.t,fun k hk=>⟨(h.tb k hk).1,Nat.lt_of_lt_of_le (h.tb k hk).2 hc.size⟩⟩
theorem SlS.put(h:SlS J S w W yl c1 B x d cur T V) (hJ:∀ i T T' A A',J i T A->ChT W.heap.size T A A'->gQ A A' T T'->J i T' A') (hS:∀ k,S k->k<W.heap.size) (hc:c1≠W.heap.size+1/\c1+1≠W.heap.size+1) (y:Int):SlS J S w W yl c1 B x d y T (V.setCell ⟨W.heap.size+1,0,none⟩ (.int .i64 y)):=
 ⟨hJ _ _ _ _ _ h.j (ChT.set h.t.2.1 (by omega) _ _) (gQ.refl _ _ _),⟨fun k hk=>(Below.heap_setCell _ _ _ _ (by have:=hS k hk;dsimp only;omega)).trans (h.ks.1 k hk),by simpa using h.ks.2⟩,by simpa using h.sz,aK h.b3 (by omega) _ _,aF h.b4 _ _,aK h.x1 hc.1 _ _,aK h.x2 hc.2 _ _,h.t,fun k hk=>by simpa using h.tb k hk⟩
theorem SlS.next{d':Nat} (h:SlS J S w W yl c1 B x d cur T V) (hS:∀ k,S k->k<w.heap.size) (hz:V.heap.size<=V'.heap.size) (hk:∀ k,T k\/S k->k<V.heap.size->V'.heap[k]?=V.heap[k]?) (hj:J d' T V'):SlS J S w W yl c1 B x d' cur T V':=
 ⟨hj,⟨fun k rM=>(hk k (.inr rM) (by have:=hS k rM;have:=h.ks.2;omega)).trans (h.ks.1 k rM),Nat.le_trans h.ks.2 hz⟩,Nat.le_trans h.sz hz,(hk _ (.inl h.t.1) (aC h.b3)).trans h.b3,(hk _ (.inl h.t.2.1) (aC h.b4)).trans h.b4,(hk _ (.inl h.t.2.2.1) (aC h.x1)).trans h.x1,(hk _ (.inl h.t.2.2.2) (aC h.x2)).trans h.x2,h.t,fun k rM=>⟨(h.tb k rM).1,Nat.lt_of_lt_of_le (h.tb k rM).2 hz⟩⟩
end
theorem QN(B:Nat) (x:Int) (w:World) :
  Calls Tryz.prog 49 #[.pointer (some ⟨B,0,none⟩),.int .i64 x] w fun r w'=>r=.returned (.func (.func 89) #[] #[.pointer (some ⟨w.heap.size,0,none⟩),.pointer (some ⟨w.heap.size+1,0,none⟩)])/\w'=(w.alloc (.cells #[.pointer (some ⟨B,0,none⟩)] 94)).alloc (.cells #[.int .i64 x] 3):=by
 go_enter Tryz.func49,Tryz.ntmps49
 go_wp2
 go_ret
 exact⟨rfl,rfl⟩
def XM(base:Nat) (l:List Lk):MP:=⟨fun x W=>bh W x l/\∀ k,x.ownBlock=some k->base<=k,fun _ _ _ h hb=>⟨h.1.up up_link hb,h.2⟩⟩
def UK(base:Nat) (l:List Lk):MP:=⟨fun x W=>∃ u,x=.tuple #[u,.bool true,.int .i64 0]/\bh W u l/\∀ k,u.ownBlock=some k->base<=k,fun _ _ _ h hb=>by obtain⟨u,e,h1,h2⟩:=h;exact⟨u,e,h1.up up_link hb,h2⟩⟩
theorem NY(s:Sys) (hv:verifyE s=0) (hE:eS s<=256) (hN:movesN s.prob.a.states<1099511627776) (B bx bl:Nat) (x:Int) (w0:World) (gj:ScAt w0 B s) (w:World) (aI:Below w0.heap.size w0 w)
  (ly:w.heap[bx]?=some (.cells #[.pointer (some ⟨B,0,none⟩)] 94)) (oL:w.heap[bl]?=some (.cells #[.int .i64 x] 3)) :
  UG Tryz.prog 89 #[.pointer (some ⟨bx,0,none⟩),.pointer (some ⟨bl,0,none⟩)] (fun i args=>args=#[((gw s (memL (partsS s) x)).getD i default).v]) (gw s (memL (partsS s) x)).length (fun k=>k<w0.heap.size\/k=bx\/k=bl) w:=by
 intro yl J Jx W hW hyl hJ oM hY oO;have lx:=aC ly;have ll:=aC oL;have nA:=aI.size;have TZ:=hW.size;obtain⟨S,hS⟩:∃ S,S=(fun k=>k<w0.heap.size\/k=bx\/k=bl):=⟨_,rfl⟩;have J5:∀ k,S k->k<w.heap.size:=fun k hk=>by subst hS;rcases hk with hk|rfl|rfl<;>omega
 have Zs:∀ k,S k->k<W.heap.size:=fun k hk=>by have:=J5 k hk;omega
 have B4:am (∀ V,KSz S w V->js w0.heap.size w0 V/\V.cell? ⟨bx,0,none⟩=some (.pointer (some ⟨B,0,none⟩))/\V.cell? ⟨bl,0,none⟩=some (.int .i64 x)):=aa (fun V hV=>by
  subst hS
  exact⟨fun k hk=>(hV.1 k (.inl hk)).trans (aI.block k hk),(ab ((hV.1 bx (.inr (.inl rfl))).trans ly) 0).trans rfl,(ab ((hV.1 bl (.inr (.inr rfl))).trans oL) 0).trans rfl⟩)
 have HSL:am (∀ k,k<w0.heap.size->S k):=aa (fun k hk=>by subst hS;exact .inl hk);obtain⟨mem,nC⟩:∃ mem,memL (partsS s) x=mem:=⟨_,rfl⟩;rw[nC]at hY ⊢;rw[<-hS]at hY
 have B3:am (∀ (d:List Lk) (c:Lk) (r:List Lk) (T:Nat->Prop) (W1:World),gw s mem=d++c :: r->J d.length T W1->W.heap.size<=W1.heap.size->YieldAt Fence.wide 0 Tryz.prog yl #[c.v] W1 fun e W'=>
   (W1.heap.size<=W'.heap.size/\(∀ k o,W.heap.size<=k->W1.heap[k]?=some o->o.isCells=false->W'.heap[k]?=some o))/\((e=.returned (.bool true)/\(∀ k,T k\/S k->k<W1.heap.size->W'.heap[k]?=W1.heap[k]?)/\J (d++[c]).length T W')\/(e=.returned (.bool false)/\∃ i,i<=(gw s mem).length/\Jx i T W'))):=aa (fun d c r T W1 e hj hz=>by
  obtain⟨h1,h2,h3,h4⟩:=LM (x:=default) e;obtain⟨fn,tmps,assign,body,hy,hR⟩:=hY d.length T W1 #[c.v] h1 (by dsimp only;rw[h2]) hj hz;refine⟨fn,tmps,assign,body,hy,hR.mono ?_⟩;rintro e W' ⟨g1,g4,g3⟩;rcases g3 with ⟨rfl,g2,g3⟩|⟨rfl,g3⟩
  ·exact⟨⟨g1,g4⟩,.inl ⟨rfl,g2,by rw[h4];exact g3⟩⟩
  ·exact⟨⟨g1,g4⟩,.inr ⟨rfl,_,h1,g3⟩⟩)
 have HJ:=aa hJ;have JN:=aa oM;have MF:=aa oO;have kV:=aa gj;have Mm:am (KSz S w W):=aa ⟨fun k hk=>hW.block k (J5 k hk),hW.size⟩;have dA:=aa (jh hv)
 have AC:am (∀ i,i<mem.length->mem.getD i 0<eS s):=aa (fun i hi=>by
  rw[aA 0 hi];have h1:mem[i]∈memL (partsS s) x:=by rw[nC];exact List.getElem_mem hi
  exact ss _ h1)
 have HNR:am (∀ i k,i<mem.length->k<mem.length->0<=(farL s (mem.getD k 0)).getD (mem.getD i 0) 0):=aa (fun i k hi hk=>by
  have h1:mem[i]∈memL (partsS s) x:=by rw[nC];exact List.getElem_mem hi
  have h2:mem[k]∈memL (partsS s) x:=by rw[nC];exact List.getElem_mem hk
  rw[aA 0 hi,aA 0 hk]
  exact xy dA.o _ _ (ss _ h1) (ss _ h2) ((kH.1 h1).2.trans (kH.1 h2).2.symm))
 have HWF:=aa (LC s mem);have HWN:=aa (NX s mem);have HWE:=aa (QM s mem);have eh:=aa (ae aI hW);clear hY hJ oM oO gj ly oL hS;have tw:=(B4.o W Mm.o).2;have t1:∀ o o',((W.alloc o).alloc o').cell? ⟨bx,0,none⟩=some (.pointer (some ⟨B,0,none⟩)):=fun o o'=>ak (show Below W.heap.size W ((W.alloc o).alloc o') by go_grown) tw.1
 have t2:∀ o o',((W.alloc o).alloc o').cell? ⟨bl,0,none⟩=some (.int .i64 x):=fun o o'=>ak (show Below W.heap.size W ((W.alloc o).alloc o') by go_grown) tw.2
 refine gq Tryz.func89 rfl ?_;simp only[Tryz.ntmps89,List.size_toArray,List.length_cons,List.length_nil,Nat.reduceAdd,Nat.reduceSub,Array.replicate_succ,Array.replicate_zero,List.push_toArray,List.append_toArray,List.nil_append,List.cons_append]
 go_wp2_with fail
 refine(yy B x _).mono ?_;rintro r w2 ⟨rfl,rfl⟩;clear t1 t2 tw
 go_wp2_with fail
 refine bu (fun U=>Below W.heap.size W U/\U.heap.size=W.heap.size+1+1+1+1/\U.heap[W.heap.size]?=some (.cells #[.func (.yield yl) #[] #[]] 80)/\U.heap[W.heap.size+1]?=some (.cells #[.int .i64 (-1)] 3)/\U.heap[W.heap.size+1+1]?=some (.cells #[.pointer (some ⟨B,0,none⟩)] 94)/\U.heap[W.heap.size+1+1+1]?=some (.cells #[.int .i64 x] 3))
  ⟨by go_grown,by simp,ar _ (ar _ (ar _ (aq _ _))),ar _ (ar _ (bd _ _ _)),ar _ (eI _ _ _ _),by have h:=aq (((W.alloc (.cells #[.func (.yield yl) #[] #[]] 80)).alloc (.cells #[.int .i64 (-1)] 3)).alloc (.cells #[.pointer (some ⟨B,0,none⟩)] 94)) (.cells #[.int .i64 x] 3);simpa using h⟩ (fun U hU=>?_)
 obtain⟨uN,tD,pH,mr,sL,Kv⟩:=hU;obtain⟨c1,kZ⟩:∃ c1,W.heap.size+1+1=c1:=⟨_,rfl⟩;rw[kZ]at sL Kv tD ⊢;have hc1':W.heap.size+2=c1:=kZ;clear kZ
 have HU:am (SlS J S w W yl c1 B x 0 (-1) (fun k=>W.heap.size<=k/\k<U.heap.size) U):=aa
  ⟨HJ.o _ _ _ _ _ MF.o (ChT.of_below (Nat.le_refl _) uN) ⟨fun k h=>h.elim,fun k h=>.inr h⟩,⟨fun k hk=>(uN.block k (Zs k hk)).trans (Mm.o.1 k hk),Nat.le_trans Mm.o.2 uN.size⟩,uN.size,pH,mr,sL,Kv,⟨by omega,by omega,by omega,by omega⟩,fun k h=>h⟩
 have uM:=aa (B4.o U HU.o.ks).1;have dr:=wA s B c1 (c1+1) x w0 kV.o U (ae eh.o uN) (by rw[ab sL];rfl) (by rw[ab Kv];rfl);rw[nC]at dr;have jE:=aa (fun d cur T A A' (hc:Chg U.heap.size A A') (h:SlS J S w W yl c1 B x d cur T A)=>h.chg HJ.o J5 (by omega) (by omega) hc);have hUs:=tD;clear uN tD pH mr sL Kv nC
 refine O9 (gf:=135) (lb:=#[.pointer (some ⟨c1,0,none⟩),.pointer (some ⟨c1+1,0,none⟩)]) rfl (enters_of Tryz.func135 (by kernel_rfl) rfl) dr (Below.refl _ _) (fun k hk=>by rcases hk with hk|rfl|rfl<;>omega) (fun i=>rfl)
  (fun i V=>∃ dl T,gw s mem=dl++mX s mem i/\SlS J S w W yl c1 B x dl.length (if i=0 then -1 else(mem.getD (i - 1) 0:Nat)) T V)
  (fun c i V=>c=.ret/\W.heap.size<=V.heap.size/\∃ T i,i<=(gw s mem).length/\Jx i T V)
  (fun i A A' hc h=>by obtain⟨dl,T,h1,h2⟩:=h;exact⟨dl,T,h1,jE.o _ _ _ _ _ hc h2⟩)
  (fun c i A A' hc h=>by obtain⟨h1,h0,T,i,h2,h3⟩:=h;exact⟨h1,Nat.le_trans h0 hc.size,T,i,h2,JN.o _ _ _ _ _ h3 (ChT.of_chg hc (by omega) h0) (gQ.refl _ _ _)⟩)
  ⟨[],_,rfl,HU.o⟩ ?rnd ?done ?stop
 case done=>
  rintro D V hD ⟨dl,T,h1,h2⟩ hK;rw[HWE.o,List.append_nil]at h1;have Hj:=aC hK
  go_wp2_with fail
  refine O5 hK (v:=.tuple #[]) (by simp[results,Tryz.results89,go_sem]) ⟨⟨_,rfl⟩,T,.inl ?_⟩;rw[h1];exact HJ.o _ _ _ _ _ h2.j (ChT.of_chg (Chg.put _ hK (B:=U.heap.size) hD rfl) (by omega) h2.sz) (gQ.refl _ _ _)
 case stop=>
  rintro D c i V hD hi ⟨rfl,h0,T,j,h1,h2⟩ hK;have Hj:=aC hK
  go_wp2_with fail
  refine iM hK (v:=.tuple #[]) (by simp[results,Tryz.results89,go_sem]) ⟨⟨_,rfl⟩,T,.inr ⟨j,h1,?_⟩⟩;exact JN.o _ _ _ _ _ h2 (ChT.of_chg (Chg.put _ hK (B:=U.heap.size) hD rfl) (by omega) h0) (gQ.refl _ _ _)
 case rnd=>
  rintro yi i V hi hl ⟨dl,T,JS,KF⟩;unfold xO;obtain⟨e,he⟩:∃ e,mem.getD i 0=e:=⟨_,rfl⟩;have jd:=AC.o i hi;rw[he]at jd ⊢;have HSL2:=aa KF;have HWY:=aa JS;have VN:=aa he;clear KF JS dr he
  gi_wp2
  refine⟨Bod.refl _ _ _,fun X=>SlS J S w W yl c1 B x dl.length (if i=0 then -1 else(mem.getD (i - 1) 0:Nat)) T X,fun A A' hc h=>jE.o _ _ _ _ _ hc h,HSL2.o,fun X hX jI=>?_⟩;obtain⟨rlp,jI⟩:=jI;have JM:=aC jI;clear jI rlp HSL2;have HX:=aa hX;have t3:=ab hX.b3 0;have t4:=ab hX.b4 0;have f4:=aE hX.b4 0;simp only[List.getElem?_toArray,List.getElem?_cons_zero]at t3 t4;clear hX;have OS:¬ (W.heap.size+1<w0.heap.size\/W.heap.size+1=c1\/W.heap.size+1=c1+1):=by omega
  have dD:am (∀ (T:Nat->Prop) (V W':World),T c1/\T (c1+1)->c1+1<V.heap.size->w0.heap.size<=V.heap.size->(V.heap.size<=W'.heap.size/\(∀ k,T k\/S k->k<V.heap.size->W'.heap[k]?=V.heap[k]?)/\(∀ k o,W.heap.size<=k->V.heap[k]?=some o->o.isCells=false->W'.heap[k]?=some o))->Bod U.heap.size (fun k=>k<w0.heap.size\/k=c1\/k=c1+1) V W'):=aa (fun T V W' ht hv h0 h=>⟨h.1,fun k hk=>by
   rcases hk with hk|rfl|rfl
   ·exact h.2.1 k (.inr (HSL.o k hk)) (by omega)
   ·exact h.2.1 _ (.inl ht.1) (by omega)
   ·exact h.2.1 _ (.inl ht.2) hv,fun k o hk ho hc=>h.2.2 k o (by omega) ho hc⟩)
  have kg:=aa (aC HX.o.x2);have h0X:w0.heap.size<=X.heap.size:=by have:=HX.o.sz;omega
  by_cases cM:i=0
  ·subst cM;rw[if_pos rfl]at t4 HX;have HP:=aa (HX.o.put HJ.o Zs ⟨by omega,by omega⟩ e);have t3':=ab HP.o.b3 0;simp only[List.getElem?_toArray,List.getElem?_cons_zero]at t3';have iU:am (gw s mem=dl++⟨e,-1⟩ :: mX s mem 1):=aa (by rw[HWY.o,HWF.o (by omega),VN.o]);obtain⟨fn,tmps,assign,body,pO,hR⟩:=B3.o dl ⟨e,-1⟩ _ T (X.setCell ⟨W.heap.size+1,0,none⟩ (.int .i64 e)) iU.o HP.o.j HP.o.sz;have HR:=aa hR;clear hR t3
   gi_wp2
   refine⟨rfl,ym (HR.o.mono ?_)⟩;rintro r W3 ⟨pY,(⟨rfl,uR,Ce⟩|⟨rfl,i9,RF,TR⟩)⟩
   ·have BV:=And.intro pY.1 (And.intro uR pY.2);have ef:=aa ((Bod.setCell (B:=U.heap.size) X ⟨W.heap.size+1,0,none⟩ (.int .i64 e) OS).trans (dD.o T _ W3 HP.o.t.2.2 (by have:=kg.o;simp;omega) (by simp;omega) BV));have Zf:=aa (HP.o.next J5 BV.1 BV.2.1 Ce);clear BV pY uR Ce HR pO t3' t4 f4 OS
    gi_wp2
    refine⟨ef.o,dl++[⟨e,-1⟩],T,by rw[iU.o,List.append_cons],?_⟩;rw[if_neg (by omega),Nat.zero_add,Nat.sub_self,VN.o];exact Zf.o
   ·have ef:=aa ((Bod.setCell (B:=U.heap.size) (S:=fun _=>False) X ⟨W.heap.size+1,0,none⟩ (.int .i64 e) (fun h=>h)).out.trans ⟨pY.1,fun k o hk ho hc=>pY.2 k o (by omega) ho hc⟩);have EJ:W.heap.size<=W3.heap.size:=Nat.le_trans HP.o.sz pY.1;clear pY HR pO t3' t4 f4 OS B3
    gi_wp2
    exact⟨ef.o,rfl,EJ,T,i9,RF,TR⟩
  ·rw[if_neg cM]at t4 HX;obtain⟨a,ha⟩:∃ a,mem.getD (i - 1) 0=a:=⟨_,rfl⟩;have ZD:=AC.o (i - 1) (by omega);have VV:=HNR.o (i - 1) i (by omega) hi;have eO:=aa (HWN.o i (by omega) hi);rw[ha,VN.o]at VV eO;rw[ha]at ZD t4 HX;obtain⟨path,In⟩:∃ path,gu s a e=path:=⟨_,rfl⟩;rw[In]at eO;have hlta:decide ((a:Int)<0)=false:=decide_eq_false (by omega);have hscX:=ScAt.kp kV.o (B4.o X HX.o.ks).1;obtain⟨vc,vs,vt,ve,vv,vl,q1,q2,_,_⟩:=hscX.ex;obtain⟨⟨qc,kc,rfl⟩,⟨qs,ks,rfl⟩,⟨qt,kt,rfl⟩,⟨qe,ke,rfl⟩⟩:=bB q2;have VD:=aa (fun V (hb:Below X.heap.size X V)=>QI s hv hE _ _ _ _ a e ZD jd VV V (q2.up hb) hN);rw[In]at VD;have hplen:path.length<256:=by rw[<-In];have:=(E9 ZD jd VV).2.2;omega
   generalize s.prob.t.cases.length=nc,s.prob.a.states.length=ns,s.tab.length=nt,s.ex.length=ne at q1 VD;have Hb:=aa q1;have TB:=aa (B4.o X HX.o.ks).2.1;have jJ:=aa HX.o.b4;obtain⟨b4,cj⟩:∃ b4,W.heap.size+1=b4:=⟨_,rfl⟩;rw[cj]at t4 f4 jJ ⊢;clear hscX q1 q2 In VV ha f4 t3 OS
   gi_wp2
   have hS:List.Nodup [24,25,26,27,28,29,30,23,31,32,33,6,7,8]:=by decide
   refine A4 14 [24,25,26,27,28,29,30,23,31,32,33,6,7,8] [MP.eq (.pointer (some ⟨B,0,none⟩)),MP.eq (.pointer (some ⟨B,0,none⟩)),MP.eq (.pointer (some ⟨B,0,none⟩)),MP.eq (.agg #[.int .i64 s.prob.t.n,.int .i64 s.prob.t.ins,.int .i64 s.prob.t.outs,.slice qc nc kc,.int .i64 s.prob.a.n,.slice qs ns ks,.int .i64 s.prob.rounds,.int .i64 s.n,.slice qt nt kt,.slice qe ne ke]),MP.eq (.int .i64 a),MP.eq (.int .i64 e),UK X.heap.size (⟨a,-1⟩ :: path),UK X.heap.size (⟨a,-1⟩ :: path),XM X.heap.size (⟨a,-1⟩ :: path),MP.eq (.bool true),MP.eq (.int .i64 0),XM X.heap.size (⟨a,-1⟩ :: path),MP.eq (.bool true),MP.eq (.int .i64 0)] (by kernel_rfl) rfl hS rfl (by kernel_rfl) (fun ⟨_,_,h⟩=>h) (by kernel_rfl) ?step ?tail
   case step=>
    intro xq Wq iq oq sq F hi ho hs hB ap hF;rcases (show iq=0\/iq=1\/iq=2\/iq=3\/iq=4\/iq=5\/iq=6\/iq=7\/iq=8\/iq=9\/iq=10\/iq=11\/iq=12\/iq=13 by omega) with rfl|rfl|rfl|rfl|rfl|rfl|rfl|rfl|rfl|rfl|rfl|rfl|rfl|rfl
    all_goals (obtain rfl:=dp ho.symm;obtain rfl:=dp hs.symm;clear hi ho hs)
    ·obtain⟨g1,h1⟩:=cK hF 1 (.pointer (some ⟨bx,0,none⟩)) (by decide) rfl;have tb:=ak hB TB.o;clear hF ap
     go_wp2_with fail
     exact aY.mk _ (Below.refl _ _) rfl rfl
    ·obtain⟨e0,f0⟩:=aQ hF 0 24 _ hS rfl (by kernel_rfl) (ap ⟨0,.data⟩ (by simp) rfl);clear hF ap
     go_wp2_with fail
     exact aY.mk _ (Below.refl _ _) rfl rfl
    ·obtain⟨e1,f1⟩:=aQ hF 1 25 _ hS rfl (by kernel_rfl) (ap ⟨1,.data⟩ (by simp) rfl);clear hF ap
     go_wp2_with fail
     exact aY.mk _ (Below.refl _ _) rfl rfl
    ·obtain⟨e2,f2⟩:=aQ hF 2 26 _ hS rfl (by kernel_rfl) (ap ⟨2,.data⟩ (by simp) rfl);have tb:=ab (af hB Hb.o);clear hF ap
     go_wp2_with fail
     exact aY.mk _ (Below.refl _ _) rfl rfl
    ·obtain⟨g4,h4⟩:=cK hF 4 (.pointer (some ⟨b4,0,none⟩)) (by decide) rfl;have tb:=ab (af hB jJ.o) 0;simp only[List.getElem?_toArray,List.getElem?_cons_zero]at tb;clear hF ap
     go_wp2_with fail
     exact aY.mk _ (Below.refl _ _) rfl rfl
    ·obtain⟨g5,h5⟩:=cK hF 5 (.int .i64 e) (by decide) rfl;clear hF ap
     go_wp2_with fail
     exact aY.mk _ (Below.refl _ _) rfl rfl
    ·obtain⟨e3,f3⟩:=aQ hF 3 27 _ hS rfl (by kernel_rfl) (ap ⟨3,.data⟩ (by simp) rfl);obtain⟨e4,f4⟩:=aQ hF 4 28 _ hS rfl (by kernel_rfl) (ap ⟨4,.data⟩ (by simp) rfl);obtain⟨e5,f5⟩:=aQ hF 5 29 _ hS rfl (by kernel_rfl) (ap ⟨5,.data⟩ (by simp) rfl);clear hF ap
     go_wp2_with fail
     refine(VD.o Wq hB).mono ?_;rintro r w9 ⟨u9,rfl,⟨Ha,jK⟩,dS⟩;have RJ:=aa Ha;have nQ:=aa (fun k hk=>Nat.le_trans hB.size (jK k hk));clear Ha jK
     go_wp2_with fail
     exact aY.mk _ dS ⟨_,rfl,RJ.o,nQ.o⟩ rfl
    ·have d6:=ap ⟨6,.data⟩ (by simp) rfl;obtain⟨u6,eu6,RV,RP⟩:=d6;obtain⟨e6,f6⟩:=aQ hF 6 30 _ hS rfl (by kernel_rfl) eu6;clear hF ap
     go_wp2_with fail
     exact aY.mk _ (Below.refl _ _) ⟨_,rfl,RV,RP⟩ rfl
    ·have d7:=ap ⟨7,.data⟩ (by simp) rfl;obtain⟨u6,eu6,RV,RP⟩:=d7;obtain⟨e7,f7⟩:=aQ hF 7 23 _ hS rfl (by kernel_rfl) eu6;clear hF ap
     go_wp2_with fail
     exact aY.mk _ (Below.refl _ _) ⟨RV,RP⟩ rfl
    ·have d7:=ap ⟨7,.data⟩ (by simp) rfl;obtain⟨u6,eu6,RV,RP⟩:=d7;obtain⟨e7,f7⟩:=aQ hF 7 23 _ hS rfl (by kernel_rfl) eu6;clear hF ap
     go_wp2_with fail
     exact aY.mk _ (Below.refl _ _) rfl rfl
    ·have d7:=ap ⟨7,.data⟩ (by simp) rfl;obtain⟨u6,eu6,RV,RP⟩:=d7;obtain⟨e7,f7⟩:=aQ hF 7 23 _ hS rfl (by kernel_rfl) eu6;clear hF ap
     go_wp2_with fail
     exact aY.mk _ (Below.refl _ _) rfl rfl
    ·have d8:=ap ⟨8,.data⟩ (by simp) rfl;obtain⟨e8,f8⟩:=aQ hF 8 31 _ hS rfl (by kernel_rfl) rfl;clear hF ap
     go_wp2_with fail
     exact aY.mk _ (Below.refl _ _) d8 rfl
    ·obtain⟨e9,f9⟩:=aQ hF 9 32 _ hS rfl (by kernel_rfl) (ap ⟨9,.data⟩ (by simp) rfl);clear hF ap
     go_wp2_with fail
     exact aY.mk _ (Below.refl _ _) rfl rfl
    ·obtain⟨e10,f10⟩:=aQ hF 10 33 _ hS rfl (by kernel_rfl) (ap ⟨10,.data⟩ (by simp) rfl);clear hF ap
     go_wp2_with fail
     exact aY.mk _ (Below.refl _ _) rfl rfl
   case tail=>
    clear hS;intro xq Wq F hB aU hF;have d11:bh Wq (xq 11) (⟨a,-1⟩ :: path)/\∀ k,(xq 11).ownBlock=some k->X.heap.size<=k:=aU 11 (by omega);have d12:xq 12=.bool true:=aU 12 (by omega);have d13:xq 13=.int .i64 0:=aU 13 (by omega);clear aU;obtain⟨lO,aS⟩:=d11;obtain⟨pu,cu,eu,lu1,lu2,el⟩:=lO.at;obtain⟨g,o,rfl,uS⟩:=el 0 (by simp);rw[eu]at lO aS;simp only[bz,cT,List.setIfInBounds_toArray,List.set_cons_succ,List.set_cons_zero,Nat.reduceAdd]at hF;rw[eu,d12,d13]at hF;generalize xq 0=s0,xq 1=s1,xq 2=s2,xq 3=s3,xq 4=s4,xq 5=s5,xq 6=s6,xq 7=s7,xq 8=s8,xq 9=s9,xq 10=s10 at hF;subst hF;have hgX:=aS g rfl;have hgW:g<Wq.heap.size:=fo uS.1.1;have pI:(⟨a,-1⟩ :: path:List Lk).length=path.length+1:=by simp
    rw[pI]at lO lu1 lu2 ⊢;have gz:=aa lO
    have Um:am (gQ X Wq T (fun k=>T k\/k=g)):=aa ⟨fun k hk=>.inl hk,fun k hk=>by
     rcases hk with hk|rfl
     ·exact .inl hk
     ·exact .inr ⟨hgX,hgW⟩⟩
    have HQ:=aa (HX.o.grow HJ.o J5 hB Um.o);have eo:am (Bod U.heap.size (fun k=>k<w0.heap.size\/k=c1\/k=c1+1) X Wq):=aa (Bod.of_below (fun k hk=>by have:=kg.o;rcases hk with hk|rfl|rfl<;>omega) hB);clear lO aS d12 d13 eu el uS hB pI;have hmin:min (1:Int) ((path.length:Int)+1)=1:=by omega
    subst cj;have sX:cu=1->path.length=0:=fun h=>by omega
    have HJ2:=aa HQ.o.j;generalize hgT:(fun k=>T k\/k=g)=T2 at HQ HJ2 Um;have YB:am (T2 g):=aa (by rw[<-hgT];exact .inr rfl);clear hgT Um HJ2 t4 TB Hb jJ HX VD
    have HELT:am (∀ k (hk:k<path.length),Wq.cell? ⟨g,o+2+k * 2,none⟩=some (.int .i64 (path[k]).x)/\Wq.cell? ⟨g,o+2+k * 2+1,none⟩=some (.int .i64 (path[k]).p)):=aa (fun k hk=>by
     obtain⟨pl9,cl9,e9,_,_,el9⟩:=gz.o.at;injection e9 with e9
     obtain⟨b9,o9,e8,h8⟩:=el9 (k+1) (by simp;omega);rw[<-e9]at e8;injection e8 with e8
     injection e8 with e7 e6
     subst e7 e6;rw[show o+(k+1) * 2=o+2+k * 2 by omega]at h8
     exact⟨h8.1.1,h8.2.1⟩)
    obtain⟨m,hm⟩:∃ m,path.length=m:=⟨_,rfl⟩;have HM:=aa hm;rw[hm]at hmin sX lu1 hplen ⊢;clear hm gz
    gi_wp2
    case' inl=>have hcu0:m=0:=by omega
    case' inr=>have hcu0:True:=trivial
    all_goals
     gi_loopw [40] (fun k wr=>∃ (k':Nat) (d:List Lk),k'<=m/\k=.int .i64 k'/\gw s mem=d++(path.drop k'++mX s mem (i+1))/\SlS J S w W yl c1 B x d.length a T2 wr/\Bod U.heap.size (fun k=>k<w0.heap.size\/k=c1\/k=c1+1) X wr/\wr.heap[g]?=Wq.heap[g]?) (fun k _=>m - (intOf k).toNat)
     ·exact⟨0,dl,by omega,rfl,by rw[HWY.o,eO.o];rfl,HQ.o,eo.o,rfl⟩
     ·
      obtain⟨k,d,hk,rfl,hd,hq,jn,VP⟩:=hrel;have HD:=aa hd;have yM:=aa hq;have aP:=aa jn;have B':=aa VP;clear hd hq jn VP;by_cases aB:k<m
      ·first
        | (exfalso;omega)
        | (
      have uR:k<path.length:=by rw[HM.o];exact aB
      have c0:=HELT.o k uR;have eQ:∀ o',wr.cell? ⟨g,o',none⟩=Wq.cell? ⟨g,o',none⟩:=fun o'=>by unfold World.cell?;rw[B'.o]
      rw[<-eQ,<-eQ]at c0;have q8:am (gw s mem=d++path[k] :: (path.drop (k+1)++mX s mem (i+1))):=aa (by rw[HD.o,List.drop_eq_getElem_cons uR];rfl);generalize path[k]=y at c0 q8;obtain⟨yx,yp⟩:=y;obtain⟨cx,cp⟩:=c0;dsimp only at cx cp;have Cd:Below wr.heap.size wr (wr.alloc (.cells #[.int .i64 yx,.int .i64 yp] 75)):=by go_grown
      have sU:=aa (yM.o.grow HJ.o J5 Cd (gQ.refl _ _ _));have t3':∀ o',(wr.alloc o').cell? ⟨W.heap.size,0,none⟩=some (.func (.yield yl) #[] #[]):=fun o'=>(ab (ar o' yM.o.b3) 0).trans rfl
      obtain⟨fn,tmps,assign,body,pO,hR⟩:=B3.o d ⟨yx,yp⟩ _ T2 (wr.alloc (.cells #[.int .i64 yx,.int .i64 yp] 75)) q8.o sU.o.j sU.o.sz;have HR:=aa hR;have vz:am (Bod U.heap.size (fun k=>k<w0.heap.size\/k=c1\/k=c1+1) X (wr.alloc (.cells #[.int .i64 yx,.int .i64 yp] 75))):=aa (aP.o.trans (Bod.of_below (fun k hk=>by have:=aC yM.o.x2;have:=yM.o.sz;rcases hk with hk|rfl|rfl<;>omega) Cd));have HGA:am ((wr.alloc (.cells #[.int .i64 yx,.int .i64 yp] 75)).heap[g]?=Wq.heap[g]?):=aa ((Cd.block g (yM.o.tb g YB.o).2).trans B'.o);clear hR eQ Cd
      gi_wp2
      refine⟨rfl,ym (HR.o.mono ?_)⟩;rintro r W9 ⟨pY,(⟨rfl,uR,RX⟩|⟨rfl,i9,RF,TR⟩)⟩
      ·have BV:=And.intro pY.1 (And.intro uR pY.2);have fy:=aa (vz.o.trans (dD.o T2 _ W9 sU.o.t.2.2 (aC sU.o.x2) (by have:=sU.o.sz;omega) BV));have HP9:=aa (sU.o.next J5 BV.1 BV.2.1 RX);have KM:=aa ((BV.2.1 g (.inl YB.o) (sU.o.tb g YB.o).2).trans HGA.o);clear BV pY uR RX HR pO t3' cx cp
       gi_wp2
       go_roundw
       ·exact⟨k+1,d++[⟨yx,yp⟩],by omega,by go_num,by rw[q8.o,List.append_cons],HP9.o,fy.o,KM.o⟩
       ·simp[intOf];omega
      ·have fy:=aa (vz.o.out.trans ⟨pY.1,fun k o hk ho hc=>pY.2 k o (by omega) ho hc⟩);have RM:W.heap.size<=W9.heap.size:=Nat.le_trans sU.o.sz pY.1;clear pY HR pO t3' cx cp B3
       gi_wp2
       exact⟨fy.o,rfl,RM,T2,i9,RF,TR⟩)
      ·obtain rfl:k=m:=by omega
       have HDE:am (gw s mem=d++mX s mem (i+1)):=aa (by rw[HD.o,<-HM.o,List.drop_length];rfl);have HPE:=aa (yM.o.put HJ.o Zs ⟨by omega,by omega⟩ e);have Sa:=aa (aP.o.trans (Bod.setCell (B:=U.heap.size) (S:=fun k=>k<w0.heap.size\/k=c1\/k=c1+1) wr ⟨W.heap.size+1,0,none⟩ (.int .i64 e) (by dsimp only;omega)));have t4':=ab yM.o.b4 0;have f4':=aE yM.o.b4 0;simp only[List.getElem?_toArray,List.getElem?_cons_zero]at t4'
       gi_wp2
       refine⟨Sa.o,d,T2,HDE.o,?_⟩;rw[if_neg (by omega),Nat.add_sub_cancel,VN.o];exact HPE.o
theorem xS(k:Int) (a:List Lk) (va vb:Value) (p1 p2 p3 q1 q2 q3:Option Addr) (c1 c2 c3 d1 d2 d3:Nat) (w:World) (ha:bh w va a) (hb:bh w vb a) :
  Calls Tryz.prog 20 #[.agg #[.int .i64 k,va,.slice p1 0 c1,.slice p2 0 c2,.slice p3 0 c3],.agg #[.int .i64 k,vb,.slice q1 0 d1,.slice q2 0 d2,.slice q3 0 d3]] w fun r w'=>r=.returned (.bool true)/\Below w.heap.size w w':=by
 have Ao:=aa (fun W (h:Below w.heap.size w W)=>NP va vb a a W (ha.up up_link h) (hb.up up_link h));obtain⟨pa,ca,rfl,_,_,_⟩:=ha.at;obtain⟨pb,cb,rfl,_,_,_⟩:=hb.at;rw[decide_eq_true (rfl:a=a)]at Ao;generalize a.length=n at Ao ⊢;clear ha hb
 go_enter Tryz.func20,Tryz.ntmps20
 go_wp2_with fail
 refine aN (fun W=>Below w.heap.size w W/\W.heap[w.heap.size]?=some (.cells #[.int .i64 k,.slice pa n ca,.slice p1 0 c1,.slice p2 0 c2,.slice p3 0 c3] 58)/\W.heap[w.heap.size+1]?=some (.cells #[.int .i64 k,.slice pb n cb,.slice q1 0 d1,.slice q2 0 d2,.slice q3 0 d3] 58)) ⟨by go_grown,ar _ (aq _ _),by have h:=aq (w.alloc (.cells #[.int .i64 k,.slice pa n ca,.slice p1 0 c1,.slice p2 0 c2,.slice p3 0 c3] 58)) (.cells #[.int .i64 k,.slice pb n cb,.slice q1 0 d1,.slice q2 0 d2,.slice q3 0 d3] 58);simpa using h⟩ (fun W0 aZ=>?_);obtain⟨aI,bI,nR⟩:=aZ;refine(Ao.o W0 aI).mono ?_;rintro r w1 ⟨rfl,aJ⟩;have bK:=aa (ae aI aJ);have tA:=ab (af aJ bI);have tC:=ab (af aJ nR);clear aI bI nR aJ Ao
 go_wp2_with fail
 go_ret
 exact⟨rfl,bK.o⟩
theorem DQ(n:Nat) (hn:n<=4096) (x:Int) (w:World) :
  Calls Tryz.prog 45 #[.int .i64 n,.int .i64 x] w fun r w'=>∃ u,r=.returned u/\aH w' w.heap.size 3 1 u n ((List.replicate n x).map (Value.int .i64))/\Below w.heap.size w w':=by
 obtain⟨i0,cM,bX,bP,bY⟩:=info_parts Tryz.infoInt;have bO:=aa (And.intro cM (And.intro bX (And.intro bP bY)));clear cM bX bP bY;have dT:am (∀ k,List.replicate (k+1) x=List.replicate k x++[x]):=aa fun k=>List.replicate_succ'
 go_enter Tryz.func45,Tryz.ntmps45
 go_wp2_with fail
 go_loopw [5,6] (fun o i wr=>∃ k:Nat,k<=n/\i=.int .i64 k/\Below w.heap.size w wr/\aH wr w.heap.size 3 1 o k ((List.replicate k x).map (Value.int .i64))) (fun _ i _=>n - (intOf i).toNat)
 ·exact⟨0,by omega,rfl,Below.refl _ _,aH.nil _ _ _ _⟩
 ·
  obtain⟨k,hk,rfl,az,aS⟩:=hrel;obtain⟨al,cl2,rfl⟩:=aS.slice;have bG:=aa aS;have aP:=aa az;clear aS az;by_cases aB:k<n
  ·have cL:=aa (bG.o.up ((Below.refl _ wr).alloc (Nat.le_refl _) (.cells #[.int .i64 x] 3)));have bA:=aa (dx wr [.int .i64 x] 3);have io:am (k+1<=maxLen):=aa (by unfold maxLen;omega);have lV:am ((k+1) * 8<=140737488355328):=aa (by omega);have fH:am (w.heap.size<=(wr.alloc (.cells #[.int .i64 x] 3)).heap.size):=aa (by have:=aP.o.size;simp;omega)
   go_wp2_with (at_builtin;(refine aX _ rfl (.tmp 12) (.tmp 14) 38 rfl w.heap.size 3 i0 _ 1 8 Tryz.underlying38 bO.o.1 bO.o.2.1 bO.o.2.2.1 bO.o.2.2.2 rfl (by decide) _ k _ rfl cL.o ⟨wr.heap.size,0,none⟩ 1 1 [.int .i64 x] rfl rfl bA.o (by simp[Value.oneCell']) io.o lV.o fH.o ?_;intro v6 w6 eP dQ _))
   go_roundw
   ·
    refine⟨k+1,by omega,by go_num,dB aP.o (Nat.le_refl _) cL.o dQ,?_⟩;rw[dT.o,List.map_append];exact eP
   ·simp[intOf];omega
  ·obtain rfl:k=n:=by omega
   go_wp2_with fail
   go_ret
   exact⟨_,rfl,bG.o,aP.o⟩
theorem QO(n:Nat) (hn:n<=4096) (x:Int) (hx:bN x) (w:World) :
  Calls Tryz.prog 45 #[.int .i64 n,.int .i64 x] w fun r w'=>∃ u,r=.returned u/\aT w' u (List.replicate n x)/\Below w.heap.size w w':=by
 refine(DQ n hn x w).mono ?_;rintro r w' ⟨u,rfl,ho,hb⟩;exact⟨_,rfl,fI (l:=List.replicate n x) (base:=w.heap.size) (by rw[List.length_replicate];exact ho) (fun y hy=>by rw[List.eq_of_mem_replicate hy];exact hx) (by simp;omega),hb⟩
theorem JC(v:Value) (l:List Int) (x:Int) (w:World) (hv:aT w v l) :
  Calls Tryz.prog 44 #[v,.int .i64 x] w fun r w'=>r=.returned (.bool (l.contains x))/\w=w':=by
 obtain⟨pl,cl,rfl,el⟩:=df hv;obtain⟨_,_,_,_,cC,_⟩:=hv.at;have EL:=aa el;have HY:am (∀ k,k<l.length->l.getD k 0=x->l.contains x=true):=aa fun k hk h=>by rw[List.contains_iff_mem,<-h,aA 0 hk];exact List.getElem_mem hk
 have fi:am ((∀ k,k<l.length->l.getD k 0≠x)->l.contains x=false):=aa fun h=>by
  cases hc:l.contains x with
  | false=>rfl
  | true=>
   obtain⟨k,hk,e⟩:=List.getElem_of_mem (List.contains_iff_mem.1 hc);exact absurd (by rw[aA 0 hk];exact e) (h k hk)
 generalize l.contains x=b at HY fi ⊢;clear hv el
 go_enter Tryz.func44,Tryz.ntmps44
 go_wp2_with fail
 go_loop [5] (fun i=>∃ k:Nat,k<=l.length/\i=.int .i64 k/\∀ j,j<k->l.getD j 0≠x) (fun i=>l.length - (intOf i).toNat)
 ·exact⟨0,by omega,rfl,fun j hj=>by omega⟩
 ·
  obtain⟨k,hk,rfl,hz⟩:=hrel;have HZ:=aa hz;clear hz;by_cases aB:k<l.length
  ·obtain⟨b1,o1,rfl,c1⟩:=EL.o k aB;have Sc:=aa (HY.o k aB);have eO:am (l.getD k 0≠x->∀ j,j<k+1->l.getD j 0≠x):=aa fun h=>aV HZ.o h
   generalize l.getD k 0=y at c1 Sc eO;by_cases cG:y=x
   ·have HR:=aa (Sc.o cG);have hd:(y == x)=true:=by simp[cG]
    clear cG
    go_wp2_with fail
    go_ret
    exact⟨aR (by rw[HR.o]),rfl⟩
   ·have HN:=aa (eO.o cG);have hd:(y == x)=false:=beq_eq_false_iff_ne.2 cG;clear cG
    go_wp2_with fail
    go_round
    ·exact⟨k+1,by omega,by go_num,HN.o⟩
    ·simp[intOf];omega
  ·have HR:=aa (fi.o fun j hj=>HZ.o j (by omega))
   go_wp2_with fail
   go_ret
   exact⟨aR (by rw[HR.o]),rfl⟩
theorem JD(vl:Value) (l:List Lk) (hn:l.length<=1048576) (w:World) (hl:bh w vl l) :
  Calls Tryz.prog 144 #[vl] w fun r w'=>∃ u,r=.returned u/\aT w' u (l.map fun y=>y.x)/\Below w.heap.size w w':=by
 obtain⟨i0,cM,bX,bP,bY⟩:=info_parts Tryz.infoInt;have bO:=aa (And.intro cM (And.intro bX (And.intro bP bY)));clear cM bX bP bY;obtain⟨pl,cl,rfl,lt1,lt2,el⟩:=hl.at;have EL:=aa el
 have fZ:am (∀ y∈l.map fun y=>y.x,bN y):=aa (fun y hy=>by
  obtain⟨z,hz,rfl⟩:=List.mem_map.1 hy;obtain⟨i,hi,rfl⟩:=List.getElem_of_mem hz;obtain⟨b,o,_,h1⟩:=el i hi
  exact h1.1.2)
 obtain⟨L,hL⟩:∃ L:Nat->List Int,L=fun k=>(l.take k).map fun y=>y.x:=⟨_,rfl⟩
 have iw:am (L 0=[]/\(∀ k (hk:k<l.length),L (k+1)=L k++[(l[k]).x])/\L l.length=l.map fun y=>y.x):=aa (by
  subst hL
  exact⟨rfl,fun k hk=>by dsimp only;rw[List.take_succ_eq_append_getElem hk,List.map_append];rfl,by simp⟩)
 generalize (l.map fun y=>y.x)=F at fZ iw ⊢;have Cc:am (L l.length=F):=aa iw.o.2.2;clear hl el hL
 go_enter Tryz.func144,Tryz.ntmps144
 go_wp2_with fail
 go_loopw [3,4] (fun o i wr=>∃ k:Nat,k<=l.length/\i=.int .i64 k/\Below w.heap.size w wr/\aH wr w.heap.size 3 1 o k ((L k).map (Value.int .i64))) (fun _ i _=>l.length - (intOf i).toNat)
 ·exact⟨0,by omega,rfl,Below.refl _ _,by rw[iw.o.1];exact aH.nil _ _ _ _⟩
 ·
  obtain⟨k,hk,rfl,az,aS⟩:=hrel;obtain⟨al,cl2,rfl⟩:=aS.slice;have bG:=aa aS;have aP:=aa az;by_cases aB:k<l.length
  ·obtain⟨b1,o1,rfl,h1⟩:=EL.o k aB;have c1:=ak az h1.1.1;have dT:=aa (iw.o.2.1 k aB);generalize (l[k]).x=x at c1 dT;clear aS az h1;have cL:=aa (bG.o.up ((Below.refl _ wr).alloc (Nat.le_refl _) (.cells #[.int .i64 x] 3)));have bA:=aa (dx wr [.int .i64 x] 3);have io:am (k+1<=maxLen):=aa (by unfold maxLen;omega);have lV:am ((k+1) * 8<=140737488355328):=aa (by omega);have fH:am (w.heap.size<=(wr.alloc (.cells #[.int .i64 x] 3)).heap.size):=aa (by have:=aP.o.size;simp;omega)
   go_wp2_with (at_builtin;(refine aX _ rfl (.tmp 11) (.tmp 17) 38 rfl w.heap.size 3 i0 _ 1 8 Tryz.underlying38 bO.o.1 bO.o.2.1 bO.o.2.2.1 bO.o.2.2.2 rfl (by decide) _ k _ rfl cL.o ⟨wr.heap.size,0,none⟩ 1 1 [.int .i64 x] rfl rfl bA.o (by simp[Value.oneCell']) io.o lV.o fH.o ?_;intro v6 w6 eP dQ _))
   go_roundw
   ·
    refine⟨k+1,by omega,by go_num,dB aP.o (Nat.le_refl _) cL.o dQ,?_⟩;rw[dT.o,List.map_append];exact eP
   ·simp[intOf];omega
  ·obtain rfl:k=l.length:=by omega
   have vB:F.length=l.length:=by have h1:=aS.1;rw[Cc.o,List.length_map]at h1;omega
   have HQ:am (aT wr (.slice al l.length cl2) F):=aa (fI (base:=w.heap.size) (by rw[vB,<-Cc.o];exact aS) fZ.o (by omega));clear aS az vB
   go_wp2_with fail
   go_ret
   exact⟨_,rfl,HQ.o,aP.o⟩
theorem zT(v:Value) (l:List Int) (x:Int) (hn:l.length<=4096) (w:World) (hv:aT w v l) :
  Calls Tryz.prog 52 #[v,.int .i64 x] w fun r w'=>∃ u,r=.returned u/\aT w' u ((memL l x).map fun e:Nat=>(e:Int))/\Below w.heap.size w w'/\∀ b,u.ownBlock=some b->w.heap.size<=b:=by
 obtain⟨i0,cM,bX,bP,bY⟩:=info_parts Tryz.infoInt;have bO:=aa (And.intro cM (And.intro bX (And.intro bP bY)));clear cM bX bP bY;obtain⟨pl,cl,rfl,el⟩:=df hv;have EL:=aa el;obtain⟨L,hL⟩:∃ L:Nat->List Int,L=fun k=>(gI l x k).map fun e:Nat=>(e:Int):=⟨_,rfl⟩
 have iw:am (L 0=[]/\(∀ k,l.getD k 0=x->L (k+1)=L k++[(k:Int)])/\(∀ k,l.getD k 0≠x->L (k+1)=L k)/\(∀ k,(L k).length<=k)/\∀ k,k<=4096->∀ y∈L k,bN y):=aa (by
  subst hL;refine⟨rfl,fun k h=>by dsimp only;rw[uE h,List.map_append];rfl,fun k h=>by dsimp only;rw[CF h],fun k=>?_,fun k hk y hy=>?_⟩
  ·dsimp only;rw[List.length_map];exact Nat.le_trans (List.length_filter_le _ _) (by simp)
  ·obtain⟨j,hj,rfl⟩:=List.mem_map.1 hy;have:=List.mem_range.1 (List.mem_filter.1 hj).1
   exact⟨by omega,by omega⟩)
 have HF:am (L l.length=(memL l x).map fun e:Nat=>(e:Int)):=aa (by subst hL;rfl);generalize ((memL l x).map fun e:Nat=>(e:Int))=F at HF ⊢;obtain⟨n,BM⟩:∃ n,l.length=n:=⟨_,rfl⟩;rw[BM]at EL HF hn ⊢;clear hv el hL BM
 go_enter Tryz.func52,Tryz.ntmps52
 go_wp2_with fail
 go_loopw [5,6] (fun o i wr=>∃ k:Nat,k<=n/\i=.int .i64 k/\Below w.heap.size w wr/\aH wr w.heap.size 3 1 o (L k).length ((L k).map (Value.int .i64))) (fun _ i _=>n - (intOf i).toNat)
 ·exact⟨0,by omega,rfl,Below.refl _ _,by rw[iw.o.1];exact aH.nil _ _ _ _⟩
 ·
  obtain⟨k,hk,rfl,az,aS⟩:=hrel;obtain⟨al,cl2,rfl⟩:=aS.slice;have bG:=aa aS;have aP:=aa az;have Kk:=iw.o.2.2.2.1 k;by_cases aB:k<n
  ·obtain⟨b1,o1,rfl,c0⟩:=EL.o k aB;have c1:=ak az c0;have sZ:=aa (iw.o.2.1 k);have ri:=aa (iw.o.2.2.1 k);obtain⟨q,hq⟩:∃ q,(L k).length=q:=⟨_,rfl⟩;rw[hq]at bG Kk ⊢;have HQ:=aa hq;generalize l.getD k 0=y at c1 sZ ri;clear aS az c0 hq;by_cases cG:y=x
   ·have dT:=aa (sZ.o cG);have ku:am ((L (k+1)).length=q+1):=aa (by rw[dT.o,List.length_append,HQ.o];rfl);have hd:(y == x)=true:=by simp[cG]
    clear cG;have cL:=aa (bG.o.up ((Below.refl _ wr).alloc (Nat.le_refl _) (.cells #[.int .i64 (k:Int)] 3)));have bA:=aa (dx wr [.int .i64 (k:Int)] 3);have io:am (q+1<=maxLen):=aa (by unfold maxLen;omega);have lV:am ((q+1) * 8<=140737488355328):=aa (by omega);have fH:am (w.heap.size<=(wr.alloc (.cells #[.int .i64 (k:Int)] 3)).heap.size):=aa (by have:=aP.o.size;simp;omega)
    go_wp2_with (at_builtin;(refine aX _ rfl (.tmp 19) (.tmp 21) 38 rfl w.heap.size 3 i0 _ 1 8 Tryz.underlying38 bO.o.1 bO.o.2.1 bO.o.2.2.1 bO.o.2.2.2 rfl (by decide) _ q _ rfl cL.o ⟨wr.heap.size,0,none⟩ 1 1 [.int .i64 (k:Int)] rfl rfl bA.o (by simp[Value.oneCell']) io.o lV.o fH.o ?_;intro v6 w6 eP dQ _))
    go_roundw
    ·
     refine⟨k+1,by omega,by go_num,dB aP.o (Nat.le_refl _) cL.o dQ,?_⟩;rw[ku.o,dT.o,List.map_append];exact eP
    ·simp[intOf];omega
   ·have dT:=aa (ri.o cG);have hd:(y == x)=false:=beq_eq_false_iff_ne.2 cG;clear cG
    go_wp2_with fail
    go_roundw
    ·
     refine⟨k+1,by omega,by go_num,aP.o,?_⟩;rw[dT.o,HQ.o];exact bG.o
    ·simp[intOf];omega
  ·obtain rfl:k=n:=by omega
   have HQ:am (aT wr (.slice al (L k).length cl2) F):=aa (by rw[<-HF.o];exact fI (l:=L k) (base:=w.heap.size) aS (iw.o.2.2.2.2 k hn) (by omega));have Rv:am (∀ b,(Value.slice al (L k).length cl2).ownBlock=some b->w.heap.size<=b):=aa (fun b hb=>(aS.lt b hb).1);clear aS az
   go_wp2_with fail
   go_ret
   exact⟨_,rfl,HQ.o,aP.o,Rv.o⟩
theorem JE(x0:Value) (p1:Option Addr) (n1 c1:Nat) (p2:Option Addr) (n2 c2:Nat) (f:Int) (w:World) (h0:∃ a n c,x0=.slice a n c) :
  Calls Tryz.prog 80 #[.agg #[x0,.slice p1 n1 c1,.slice p2 n2 c2],.int .i64 f] w fun e w'=>e=.returned (if f=0/\0<n2 then .slice p2 n2 c2 else .slice p1 n1 c1)/\Below w.heap.size w w':=by
 obtain⟨a0,m0,k0,rfl⟩:=h0;by_cases hf:f=0
 ·have hd:(f == 0)=true:=by simp[hf]
  by_cases hl:0<n2
  ·have e1:decide ((0:Int)<(n2:Int))=true:=decide_eq_true (by omega);have e2:decide (0<n2)=true:=decide_eq_true hl;rw[if_pos ⟨hf,hl⟩];clear hf hl
   go_enter Tryz.func80,Tryz.ntmps80
   go_wp2_with fail
   go_ret
   exact⟨rfl,by go_grown⟩
  ·have e1:decide ((0:Int)<(n2:Int))=false:=decide_eq_false (by omega);have e2:decide (0<n2)=false:=decide_eq_false hl;rw[if_neg (fun h=>hl h.2)];clear hf hl
   go_enter Tryz.func80,Tryz.ntmps80
   go_wp2_with fail
   go_ret
   exact⟨rfl,by go_grown⟩
 ·have hd:(f == 0)=false:=beq_eq_false_iff_ne.2 hf;rw[if_neg (fun h=>hf h.1)];clear hf
  go_enter Tryz.func80,Tryz.ntmps80
  go_wp2_with fail
  go_ret
  exact⟨rfl,by go_grown⟩
theorem Xh(s:Sys) (hs:SysOk s) (e:Nat) (he:e<eS s) (vc vs vt ve:Value) (w:World) (cH:IsSys w s vc vs vt ve) :
  Calls Tryz.prog 40 #[.agg (bL s.prob vc vs s.n vt ve),.int .i64 e] w fun r w'=>∃ u,r=.returned u/\aT w' u (valuesS s e)/\Below w.heap.size w w':=by
 obtain⟨i0,cM,bX,bP,bY⟩:=info_parts Tryz.infoInt;have bO:=aa (And.intro cM (And.intro bX (And.intro bP bY)));clear cM bX bP bY;have HS:=aa cH;obtain⟨⟨pc,cc,rfl⟩,⟨ps,cs,rfl⟩,⟨pt,ct,rfl⟩,⟨pe,ce,rfl⟩⟩:=bB cH;clear cH;obtain⟨b,o,_,ce',e0,rfl,pw,nw,cw,pv,cv,c1,c2,c3,mS,eU,hZ,-⟩:=gX hs HS.o.ex he;injection e0 with e01 e02 e03
 subst e01;have CS:nw<=6:=by have:=hs.rounds;omega
 clear e02 e03 mS;have rL:=aa (fun W (hb:Below w.heap.size w W)=>BD (cN s e).c (fltS s e) pw nw cw (.slice pv (s.prob.rounds.toNat+1) cv) W CS (fun h=>by obtain⟨b1,o1,q1,q2⟩:=eU h;exact⟨b1,o1,q1,ak hb q2⟩) hZ);obtain⟨fg,mm⟩:=hs.cas e he;obtain⟨k,hk⟩:∃ k:Nat,(cN s e).c=k:=⟨(cN s e).c.toNat,by omega⟩;rw[hk,Int.toNat_natCast]at mm;obtain⟨pc',cc',e1,_,_,ec⟩:=HS.o.cases.at;injection e1 with e11 e12 e13
 subst e11;clear e12 e13;obtain⟨bc,oc,rfl,⟨x0,cx0,dj⟩,⟨x1,cx1,dL⟩,⟨x2,cx2,eA⟩⟩:=ec k mm;have Hg:s.prob.t.cases[k]=s.prob.t.cases.getD (cN s e).c.toNat default:=by rw[hk,Int.toNat_natCast];exact(aA default mm).symm
 rw[Hg]at dj dL eA;obtain⟨p0,q0,rfl,_⟩:=dj;have kW:=aa dL;have fG:=aa eA;obtain⟨p1,q1,rfl,_⟩:=dL;obtain⟨p2,q2,rfl,_⟩:=eA
 have l4:am (eD w (if fltS s e=0/\0<(s.prob.t.cases.getD (cN s e).c.toNat default).calm.length then .slice p2 (s.prob.t.cases.getD (cN s e).c.toNat default).calm.length q2 else .slice p1 (s.prob.t.cases.getD (cN s e).c.toNat default).out.length q1) (vecE s e)):=aa (by
  unfold vecE gt;split
  ·exact fG.o
  ·exact kW.o)
 have Yu:am (∃ a n c,(if fltS s e=0/\0<(s.prob.t.cases.getD (cN s e).c.toNat default).calm.length then Value.slice p2 (s.prob.t.cases.getD (cN s e).c.toNat default).calm.length q2 else .slice p1 (s.prob.t.cases.getD (cN s e).c.toNat default).out.length q1)=.slice a n c):=aa (by
  split
  ·exact⟨_,_,_,rfl⟩
  ·exact⟨_,_,_,rfl⟩)
 have B6:=aa (fun W=>JE (.slice p0 (s.prob.t.cases.getD (cN s e).c.toNat default).inp.length q0) p1 (s.prob.t.cases.getD (cN s e).c.toNat default).out.length q1 p2 (s.prob.t.cases.getD (cN s e).c.toNat default).calm.length q2 (fltS s e) W ⟨_,_,_,rfl⟩);have rS:am (∀ v:Nat,valB s e v=hasV (vecE s e) (List.replicate (nS s) (v:Int))):=aa fun v=>rfl
 have fj:=hs.n.2.2.1;have gK:=hs.n.2.1;have rK:=hs.outs.2.2;have V9:=hs.outs.2.1;have ZB:am (iJ s e (oS s)=valuesS s e):=aa rfl;have BT:=aa (CG s e);have HVY:=aa (fun k (h:valB s e k=true)=>Jw h);have HVN:=aa (fun k (h:valB s e k=false)=>LX h);have kX:iJ s e 0=[]:=rfl;have Ef:=aa kX;generalize (if fltS s e=0/\0<(s.prob.t.cases.getD (cN s e).c.toNat default).calm.length then Value.slice p2 (s.prob.t.cases.getD (cN s e).c.toNat default).calm.length q2 else .slice p1 (s.prob.t.cases.getD (cN s e).c.toNat default).out.length q1)=V at l4 Yu B6;obtain⟨va,vn,vk,rfl⟩:=Yu.o;rw[hk]at rL c1;obtain⟨n,hn⟩:∃ n,nS s=n:=⟨_,rfl⟩;obtain⟨oo,hoq⟩:∃ oo,oS s=oo:=⟨_,rfl⟩;obtain⟨m,hm⟩:∃ m,s.ex.length=m:=⟨_,rfl⟩;have pW:e<m:=by rw[<-hm];exact he
 rw[hn]at fj gK rS;rw[hoq]at rK V9 ZB;rw[hm];obtain⟨vl,vh⟩:∃ vl,vecE s e=vl:=⟨_,rfl⟩;rw[vh]at l4 rS;have ou:=aa fj;have HOO:=aa rK;generalize valuesS s e=vs0 at ZB ⊢;generalize (s.prob.t.cases.getD (cN s e).c.toNat default).inp.length=l0 at cx0 B6;generalize (s.prob.t.cases.getD (cN s e).c.toNat default).out.length=l1 at cx1 B6;generalize (s.prob.t.cases.getD (cN s e).c.toNat default).calm.length=l2 at cx2 B6;generalize fltS s e=fl at rL B6;obtain⟨rn,hrn⟩:∃ rn,s.prob.rounds.toNat+1=rn:=⟨_,rfl⟩;rw[hrn]at rL c3;clear Yu eU hZ hn hoq hm vh hk fg Hg fj rK kW fG ec kX hrn
 go_enter Tryz.func40,Tryz.ntmps40
 have d1:∀ o',(w.alloc o').cell? ⟨b,o+e * 3,none⟩=_:=fun o'=>ak (by go_grown) c1
 have d2:∀ o',(w.alloc o').cell? ⟨b,o+e * 3+1,none⟩=_:=fun o'=>ak (by go_grown) c2
 have d3:∀ o',(w.alloc o').cell? ⟨b,o+e * 3+2,none⟩=_:=fun o'=>ak (by go_grown) c3
 go_wp2_with fail
 clear d1 d2 d3 c1 c2 c3;refine bu (fun W=>Below w.heap.size w W/\(∃ c,W.heap[w.heap.size]?=some (.cells c 35)/\c=bL s.prob (.slice (some ⟨bc,oc,none⟩) s.prob.t.cases.length cc) (.slice ps s.prob.a.states.length cs) s.n (.slice pt s.tab.length ct) (.slice (some ⟨b,o,none⟩) m ce))/\W.heap[w.heap.size+1]?=some (.cells #[.int .i64 k,.slice pw nw cw,.slice pv rn cv] 89)) ⟨by go_grown,⟨_,ar _ (aq _ _),rfl⟩,bd _ _ _⟩ (fun W0 aZ=>?_);obtain⟨aI,⟨_,hA,rfl⟩,hX⟩:=aZ;have ed:=aa aI;have HA:=aa hA;have HX:=aa hX;have yC:∀ z:ExtW W0,z.val.cell? ⟨w.heap.size,3,none⟩=some (.slice (some ⟨bc,oc,none⟩) s.prob.t.cases.length cc):=fun z=>(ab (af z.ext HA.o) 3).trans rfl
 have yX:∀ z:ExtW W0,∀ j,z.val.cell? ⟨w.heap.size+1,j,none⟩=_:=fun z=>ab (af z.ext HX.o)
 have y0:∀ z:ExtW W0,z.val.cell? ⟨bc,oc+k * 3,none⟩=_:=fun z=>ak (ae ed.o z.ext) cx0
 have y1:∀ z:ExtW W0,z.val.cell? ⟨bc,oc+k * 3+1,none⟩=_:=fun z=>ak (ae ed.o z.ext) cx1
 have y2:∀ z:ExtW W0,z.val.cell? ⟨bc,oc+k * 3+2,none⟩=_:=fun z=>ak (ae ed.o z.ext) cx2
 have K1:am (∀ y:ExtW W0,Calls Tryz.prog 61 #[.agg #[.int .i64 (k:Int),.slice pw nw cw,.slice pv rn cv]] y.val fun r w''=>r=.returned (.int .i64 fl)/\∃ z:ExtW W0,w''=z.val):=aa (fun y=>Calls.ext_of (rL.o y.val (ae ed.o y.ext)));have K2:am (∀ y:ExtW W0,Calls Tryz.prog 80 #[.agg #[.slice p0 l0 q0,.slice p1 l1 q1,.slice p2 l2 q2],.int .i64 fl] y.val fun r w''=>r=.returned (.slice va vn vk)/\∃ z:ExtW W0,w''=z.val):=aa (fun y=>Calls.ext_of (B6.o y.val));clear aI hA hX cx0 cx1 cx2 rL B6;refine aD (by kernel_rfl) (by kernel_rfl) ?_
 repeat (go_big_quiet_step (first|(go_at_call 61;with_reducible exact K1.o _)|(go_at_call 80;with_reducible exact K2.o _)))
 refine wpQuiet_nil ?_;rintro _ ⟨xq,rfl⟩;have bT:=aa (ae ed.o xq.ext);have HAX:=aa (af xq.ext HA.o);clear yC yX y0 y1 y2;generalize xq.val=W1 at bT HAX ⊢;have hsw1:=bT.o.size
 go_wp2_with fail
 go_loopw [7,8] (fun q i wr=>∃ k:Nat,k<=oo/\i=.int .i64 k/\Below W1.heap.size W1 wr/\aH wr W1.heap.size 3 1 q (iJ s e k).length ((iJ s e k).map (Value.int .i64))) (fun _ i _=>oo - (intOf i).toNat)
 ·exact⟨0,by omega,rfl,Below.refl _ _,by rw[Ef.o];exact aH.nil _ _ _ _⟩
 ·
  obtain⟨v,hv,rfl,az,aS⟩:=hrel;obtain⟨al,cl2,rfl⟩:=aS.slice;have bG:=aa aS;have aP:=aa az;have uY:=af az HAX.o;have tO:wr.cell? ⟨w.heap.size,2,none⟩=some (.int .i64 (oo:Int)):=(ab uY 2).trans (by rw[<-HOO.o];rfl);have tN:wr.cell? ⟨w.heap.size,7,none⟩=some (.int .i64 (n:Int)):=(ab uY 7).trans (by rw[<-ou.o];rfl);have Kk:=BT.o v;clear aS az uY;by_cases aB:v<oo
  ·have mx:(v:Int)<(oo:Int):=by omega
   have Ao:=aa (QO n (by omega) (v:Int) ⟨by omega,by omega⟩ wr)
   go_wp2_with fail
   clear tO tN;refine Ao.o.mono ?_;rintro r w2 ⟨u,rfl,hu,a8⟩;have HU:=aa hu;have cQ:=aa (ae aP.o a8);have Ob:=aa a8;obtain⟨au,cu,rfl,_⟩:=hu.at;have YU:=aa (Ge _ _ vl _ w2 (l4.o.up up_ints (ae bT.o cQ.o)) HU.o);rw[<-rS.o]at YU;rw[List.length_replicate]at YU ⊢;clear hu a8 Ao
   go_wp2_with fail
   refine YU.o.mono ?_;rintro r w3 ⟨rfl,bH⟩;have ef:=aa (ae cQ.o bH);have HOWN2:=aa (bG.o.up (ae Ob.o bH));clear bH bG;have bG:=HOWN2;obtain⟨wr4,lg⟩:∃ x,x=wr:=⟨_,rfl⟩;subst lg;obtain⟨wr,lg⟩:∃ x,x=w3:=⟨_,rfl⟩;subst lg;clear aP;have aP:=ef;obtain⟨q,hq⟩:∃ q,(iJ s e v).length=q:=⟨_,rfl⟩;rw[hq]at bG Kk ⊢;have HQ:=aa hq;clear hq;cases hb:valB s e v with
   | true=>
    have dT:=aa (HVY.o v hb);have ku:am ((iJ s e (v+1)).length=q+1):=aa (by rw[dT.o,List.length_append,HQ.o];rfl);clear hb;have cL:=aa (bG.o.up ((Below.refl _ wr).alloc (Nat.le_refl _) (.cells #[.int .i64 (v:Int)] 3)));have bA:=aa (dx wr [.int .i64 (v:Int)] 3);have io:am (q+1<=maxLen):=aa (by unfold maxLen;omega);have lV:am ((q+1) * 8<=140737488355328):=aa (by omega);have fH:am (W1.heap.size<=(wr.alloc (.cells #[.int .i64 (v:Int)] 3)).heap.size):=aa (by have:=aP.o.size;simp;omega)
    go_wp2_with (at_builtin;(refine aX _ rfl (.tmp 40) (.tmp 42) 38 rfl W1.heap.size 3 i0 _ 1 8 Tryz.underlying38 bO.o.1 bO.o.2.1 bO.o.2.2.1 bO.o.2.2.2 rfl (by decide) _ q _ rfl cL.o ⟨wr.heap.size,0,none⟩ 1 1 [.int .i64 (v:Int)] rfl rfl bA.o (by simp[Value.oneCell']) io.o lV.o fH.o ?_;intro v6 w6 eP dQ _))
    go_roundw
    ·
     refine⟨v+1,by omega,by go_num,dB aP.o (Nat.le_refl _) cL.o dQ,?_⟩;rw[ku.o,dT.o,List.map_append];exact eP
    ·simp[intOf];omega
   | false=>
    have dT:=aa (HVN.o v hb);clear hb
    go_wp2_with fail
    go_roundw
    ·
     refine⟨v+1,by omega,by go_num,aP.o,?_⟩;rw[dT.o,HQ.o];exact bG.o
    ·simp[intOf];omega
  ·obtain rfl:v=oo:=by omega
   clear tN
   have HI:am (aT wr (.slice al (iJ s e v).length cl2) vs0):=aa (by
    rw[<-ZB.o];refine fI (l:=iJ s e v) bG.o (fun y hy=>?_) (by omega);obtain⟨j,hj,rfl⟩:=List.mem_map.1 hy;have:=List.mem_range.1 (List.mem_filter.1 hj).1
    exact⟨by omega,by omega⟩)
   go_wp2_with fail
   go_ret
   exact⟨_,rfl,HI.o,ae bT.o aP.o⟩
theorem NZ(t:Tk) (vc:Value) (w:World) (hv:bS w vc t.cases) :
  Calls Tryz.prog 79 #[.agg #[.int .i64 t.n,.int .i64 t.ins,.int .i64 t.outs,vc]] w fun e w'=>e=.returned (.bool (agreeB t))/\Below w.heap.size w w':=by
 obtain⟨pc,cc,rfl,l1,m1,e1⟩:=hv.at;clear hv;have E:=aa e1;clear e1
 have fi:am (∀ k j,k<t.cases.length->j<(t.cases.getD k default).out.length->constB ((t.cases.getD k default).out.getD j [])=false->agreeB t=false):=aa fun k j hk hj h=>by
  cases ha:agreeB t with
  | false=>rfl
  | true=>rw[(nH t).1 ha k hk j hj]at h;cases h
 have jN:am ((∀ k,k<t.cases.length->∀ j,j<(t.cases.getD k default).out.length->constB ((t.cases.getD k default).out.getD j [])=true)->agreeB t=true):=aa fun h=>(nH t).2 h
 generalize agreeB t=ag at fi jN
 go_enter Tryz.func79,Tryz.ntmps79
 go_wp2_with fail
 refine bu (fun W=>Below w.heap.size w W/\W.heap[w.heap.size]?=some (.cells #[.int .i64 t.n,.int .i64 t.ins,.int .i64 t.outs,.slice pc t.cases.length cc] 24)) ⟨by go_grown,aq _ _⟩ (fun W0 aZ=>?_);have ed:=aa aZ.1;have jm:=aa aZ.2;clear aZ
 go_loopw [3] (fun i wr=>∃ k:Nat,k<=t.cases.length/\i=.int .i64 k/\Below W0.heap.size W0 wr/\∀ q,q<k->∀ j,j<(t.cases.getD q default).out.length->constB ((t.cases.getD q default).out.getD j [])=true) (fun i _=>t.cases.length - (intOf i).toNat)
 ·exact⟨0,by omega,rfl,Below.refl _ _,fun q hq=>by omega⟩
 ·
  obtain⟨k,hk,rfl,az,aW⟩:=hrel;have H:=aa aW;clear aW;have dH:=ae ed.o az;have eh:=aa dH;have HBR0:=aa az;have tA:=ab (af az jm.o);by_cases aB:k<t.cases.length
  ·obtain⟨b1,o1,rfl,⟨x0,cx0,dj⟩,⟨x1,cx1,dL⟩,⟨x2,cx2,eA⟩⟩:=E.o k aB;have HG:=aa (aA default aB);obtain⟨p1,q1,rfl,xV,Tz,ex⟩:=dL.at;have EX:=aa ex;have D1:=aa cx1;have q6:=aa (fun j=>fi.o k j aB);rw[HG.o]at q6;clear cx0 cx1 cx2 dj dL eA ex;generalize t.cases[k]=c at D1 EX HG q6 xV Tz
   go_wp2_with fail
   clear tA;obtain⟨wrA,kw⟩:∃ x,x=wr:=⟨_,rfl⟩;subst kw
   go_loopw [4] (fun i wr=>∃ j:Nat,j<=c.out.length/\i=.int .i64 j/\Below W0.heap.size W0 wr/\∀ q,q<j->constB (c.out.getD q [])=true) (fun i _=>c.out.length - (intOf i).toNat)
   ·exact⟨0,by omega,rfl,HBR0.o,fun q hq=>by omega⟩
   ·
    obtain⟨j,hj,rfl,jn,aW⟩:=hrel;have H2:=aa aW;clear aW;have eo:=aa jn;have bT:=aa (ae ed.o jn);have tA:=ab (af jn jm.o);have d1:=ak bT.o D1.o;by_cases fS:j<c.out.length
    ·obtain⟨b3,o3,rfl,vx,cvx,GR⟩:=EX.o j fS;have dv:=ak bT.o cvx;have Ej:=aa (GR.up up_int bT.o);have Ca:=aa (aA [] fS);rw[Nat.mul_one]at dv;clear cvx GR jn
     go_wp2_with fail
     refine(NQ vx _ wr Ej.o).mono ?_;rintro e w4 ⟨rfl,cj⟩;have eG:=aa (ae eo.o cj);clear dv cj tA d1;cases hc:constB c.out[j] with
     | false=>
      have HR:=aa (q6.o j fS (by rw[Ca.o];exact hc));clear hc
      go_wp2_with fail
      go_ret
      exact⟨aR (by rw[HR.o]),ae ed.o eG.o⟩
     | true=>
      have HN:=aa (aV (p:=fun q=>constB (c.out.getD q [])=true) H2.o (by rw[Ca.o];exact hc));clear hc
      go_wp2_with fail
      go_roundw
      ·exact⟨j+1,by omega,by go_num,eG.o,HN.o⟩
      ·simp[intOf];omega
    ·obtain rfl:j=c.out.length:=by omega
     have HN:am (∀ q,q<k+1->∀ j,j<(t.cases.getD q default).out.length->constB ((t.cases.getD q default).out.getD j [])=true):=aa (aV (p:=fun q=>∀ j,j<(t.cases.getD q default).out.length->constB ((t.cases.getD q default).out.getD j [])=true) H.o (by rw[HG.o];exact H2.o));clear jn
     go_wp2_with fail
     go_roundw
     ·exact⟨k+1,by omega,by go_num,eo.o,HN.o⟩
     ·simp[intOf];omega
  ·obtain rfl:k=t.cases.length:=by omega
   have HR:=aa (jN.o fun q hq=>H.o q hq)
   go_wp2_with fail
   go_ret
   exact⟨aR (by rw[HR.o]),eh.o⟩
theorem Xi{s:Sys} {e v:Nat} (hv:v<oS s):(valuesS s e).contains (v:Int)=valB s e v:=by
 cases h:valB s e v with
 | true=>
  rw[List.contains_iff_mem];exact List.mem_map.2 ⟨v,List.mem_filter.2 ⟨List.mem_range.2 hv,h⟩,rfl⟩
 | false=>
  cases hc:(valuesS s e).contains (v:Int) with
  | false=>rfl
  | true=>
   rw[List.contains_iff_mem]at hc;obtain⟨y,hy,e1⟩:=List.mem_map.1 hc;have h2:=(List.mem_filter.1 hy).2;have:y=v:=by omega
   rw[this,h]at h2;cases h2
def xT(l:List Int):MP:=⟨fun x W=>aT W x l,fun _ _ _ h hb=>h.up up_int hb⟩
theorem BF(s:Sys) (hs:SysOk s) (l:List Nat) (hl:∀ e∈l,e<eS s) (vl vc vs vt ve:Value) (w:World) (cH:IsSys w s vc vs vt ve) (hv:aT w vl (l.map fun e:Nat=>(e:Int))) :
  Calls Tryz.prog 86 #[.agg (bL s.prob vc vs s.n vt ve),vl] w fun r w'=>r=.returned (.int .i64 (comB s l))/\Below w.heap.size w w':=by
 have HS:=aa cH;obtain⟨⟨qc,kc,rfl⟩,⟨qs,ks,rfl⟩,⟨qt,kt,rfl⟩,⟨qe,ke,rfl⟩⟩:=bB cH;have HOF:=aa (fun e (he:e<eS s) W (hb:Below w.heap.size w W)=>Xh s hs e he _ _ _ _ W (HS.o.up hb));obtain⟨pl,cl,rfl,el⟩:=df hv;obtain⟨_,_,_,_,cC,_⟩:=hv.at;rw[List.length_map]at el cC ⊢
 have EL:am (∀ i (hi:i<l.length),∃ b o,pl=some ⟨b,o,none⟩/\w.cell? ⟨b,o+i,none⟩=some (.int .i64 (l[i]:Nat))):=aa (fun i hi=>by
  obtain⟨b,o,e1,h1⟩:=el i hi;refine⟨b,o,e1,?_⟩;rw[h1]
  simp[hi])
 have HLM:am (∀ i (hi:i<l.length),l[i]<eS s):=aa (fun i hi=>hl _ (List.getElem_mem hi));have HHV:am (∀ e v,v<oS s->(valuesS s e).contains (v:Int)=valB s e v):=aa (fun e v h=>Xi h);have wT:am (∀ v,v<oS s->(∀ j,j<v->l.all (fun e=>valB s e j)=false)->l.all (fun e=>valB s e v)=true->comB s l=v):=aa (fun v h1 h2 h3=>dk (oS s) v _ h1 h2 h3)
 have Ov:am ((∀ j,j<oS s->l.all (fun e=>valB s e j)=false)->comB s l=-1):=aa (fun h=>by
  unfold comB;rcases bE (oS s) (fun v=>l.all fun e=>valB s e v) with ⟨e,_⟩|⟨k,hk,_,h2,_⟩
  ·exact e
  ·rw[h k hk]at h2;cases h2)
 have la:am (∀ v i (hi:i<l.length),((l.take (i+1)).all fun e=>valB s e v)=(((l.take i).all fun e=>valB s e v)&&valB s l[i] v)):=aa (fun v i hi=>by rw[List.take_succ_eq_append_getElem hi,List.all_append];simp);have Ro:am (∀ v,((l.take l.length).all fun e=>valB s e v)=l.all fun e=>valB s e v):=aa (fun v=>by rw[List.take_length]);have J9:am (∀ v,((l.take 0).all fun e=>valB s e v)=true):=aa (fun v=>by simp);generalize hA:(fun (v i:Nat)=>(l.take i).all fun e=>valB s e v)=A at *;have la:am (∀ v i (hi:i<l.length),A v (i+1)=(A v i&&valB s l[i] v)):=aa (fun v i hi=>by rw[<-hA];exact la.o v i hi);have Ro:am (∀ v,A v l.length=l.all fun e=>valB s e v):=aa (fun v=>by rw[<-hA];exact Ro.o v);have J9:am (∀ v,A v 0=true):=aa (fun v=>by rw[<-hA];exact J9.o v);generalize comB s l=r at wT Ov ⊢;have YZ:s.prob.t.outs=(oS s:Int):=by have:=hs.outs;unfold oS at *;omega
 have V9:oS s<=8:=hs.outs.2.1;obtain⟨no,gL⟩:∃ no,oS s=no:=⟨_,rfl⟩;rw[gL]at HHV wT Ov YZ V9;obtain⟨n,hn⟩:∃ n,l.length=n:=⟨_,rfl⟩;have HN:=aa hn;rw[hn]at cC ⊢;have HOS:=aa YZ;clear cH hv el hl hA gL hn YZ
 go_enter Tryz.func86,Tryz.ntmps86
 go_wp2_with fail
 refine bu (fun W=>Below w.heap.size w W/\∃ c,W.heap[w.heap.size]?=some (.cells c 35)/\c=bL s.prob (.slice qc s.prob.t.cases.length kc) (.slice qs s.prob.a.states.length ks) s.n (.slice qt s.tab.length kt) (.slice qe s.ex.length ke)) ⟨by go_grown,_,aq _ _,rfl⟩ (fun W1 cD=>?_);obtain⟨aJ,_,eK,rfl⟩:=cD;have bK:=aa aJ;have db:=aa eK;clear aJ eK
 go_loopw [5] (fun i wr=>∃ v:Nat,v<=no/\i=.int .i64 v/\Below W1.heap.size W1 wr/\∀ j,j<v->(l.all fun e=>valB s e j)=false) (fun i _=>no - (intOf i).toNat)
 ·exact⟨0,by omega,rfl,Below.refl _ _,fun j hj=>by omega⟩
 ·
  obtain⟨v,hv,rfl,az,aW⟩:=hrel;have H:=aa aW;have aP:=aa az;have tA:=ab (af az db.o);clear aW;by_cases aB:v<no
  ·have hd:decide ((v:Int)<s.prob.t.outs)=true:=decide_eq_true (by have:=HOS.o;omega);have HAV:am (A v 0=true):=aa (J9.o v);clear az
   go_wp2_with fail
   clear tA hd;obtain⟨wrA,kw⟩:∃ x,x=wr:=⟨_,rfl⟩;subst kw
   go_loopw [6,7] (fun a i wr=>∃ k:Nat,k<=n/\i=.int .i64 k/\a=.bool (A v k)/\Below W1.heap.size W1 wr) (fun _ i _=>n - (intOf i).toNat)
   ·exact⟨0,by omega,rfl,by rw[HAV.o],aP.o⟩
   ·
    obtain⟨k,hk,rfl,rfl,J8⟩:=hrel;have vf:=aa J8;by_cases yZ:k<n
    ·have mL:k<l.length:=by rw[HN.o];exact yZ
     obtain⟨b1,o1,rfl,c1⟩:=EL.o k mL;have GO:=aa (la.o v k mL);have jd:=HLM.o k mL;generalize l[k]'mL=e at c1 GO jd;have C1:=aa (ak (ae bK.o J8) c1);have Hb:=aa (af J8 db.o);have pG:=aa (HHV.o e v aB);cases DZ:A v k with
     | false=>
      rw[DZ]at GO;clear J8 c1 DZ jd
      go_wp2_with fail
      refine aD (by kernel_rfl) (by kernel_rfl) ?_
      repeat (go_big_quiet_step (fail))
      refine wpQuiet_nil ?_;rintro _ ⟨xq,rfl⟩
      go_wp2_with fail
      go_roundw
      ·exact⟨k+1,by omega,by go_num,by rw[GO.o];rfl,ae vf.o xq.ext⟩
      ·simp[intOf];omega
     | true=>
      rw[DZ]at GO;have RS:=aa jd;generalize valB s e v=bv at GO pG;generalize s.prob.t.cases.length=nc,s.prob.a.states.length=ns,s.tab.length=nt,s.ex.length=ne at Hb HOF;clear J8 c1 DZ jd
      go_wp2_with fail
      have hS:List.Nodup [22,23,24,25,26,27,28,29,30,31,32]:=by decide
      refine fL 11 [22,23,24,25,26,27,28,29,30,31,32] [MP.eq (.bool true),MP.eq (.bool true),MP.eq (.agg #[.int .i64 s.prob.t.n,.int .i64 s.prob.t.ins,.int .i64 s.prob.t.outs,.slice qc nc kc,.int .i64 s.prob.a.n,.slice qs ns ks,.int .i64 s.prob.rounds,.int .i64 s.n,.slice qt nt kt,.slice qe ne ke]),MP.eq (.slice (some ⟨b1,o1,none⟩) n cl),MP.eq (.int .i64 k),MP.eq (.pointer (some ⟨b1,o1+k,none⟩)),MP.eq (.int .i64 (e:Nat)),xT (valuesS s e),MP.eq (.int .i64 v),MP.eq (.bool bv),MP.eq (.bool bv)] (by kernel_rfl) (by simp) hS rfl (by kernel_rfl) (by kernel_rfl) (by kernel_rfl) ?step ?tail
      case step=>
       intro xq Wq iq oq sq F hi ho hs hB ap hF;rcases (show iq=0\/iq=1\/iq=2\/iq=3\/iq=4\/iq=5\/iq=6\/iq=7\/iq=8\/iq=9\/iq=10 by omega) with rfl|rfl|rfl|rfl|rfl|rfl|rfl|rfl|rfl|rfl|rfl
       all_goals (obtain rfl:=dp ho.symm;obtain rfl:=dp hs.symm;clear hi ho hs)
       ·obtain⟨g6,h6⟩:=cK hF 6 (.bool true) (by decide) rfl;clear hF ap
        go_wp2_with fail
        exact aY.mk _ (Below.refl _ _) rfl rfl
       ·obtain⟨e0,f0⟩:=aQ hF 0 22 _ hS rfl (by kernel_rfl) (ap ⟨0,.data⟩ (by simp) rfl);clear hF ap
        go_wp2_with fail
        exact aY.mk _ (Below.refl _ _) rfl rfl
       ·obtain⟨g2,h2⟩:=cK hF 2 (.pointer (some ⟨w.heap.size,0,none⟩)) (by decide) rfl;have m1:=fE hF 1 23 (.bool true) hS rfl (by kernel_rfl) (ap ⟨1,.guard⟩ (by simp) rfl);have tb:=ab (af hB Hb.o);clear hF ap
        go_wp2_with fail
        exact aY.mk _ (Below.refl _ _) rfl rfl
       ·obtain⟨g1,h1⟩:=cK hF 1 (.slice (some ⟨b1,o1,none⟩) n cl) (by decide) rfl;have m1:=fE hF 1 23 (.bool true) hS rfl (by kernel_rfl) (ap ⟨1,.guard⟩ (by simp) rfl);clear hF ap
        go_wp2_with fail
        exact aY.mk _ (Below.refl _ _) rfl rfl
       ·obtain⟨g7,h7⟩:=cK hF 7 (.int .i64 k) (by decide) rfl;have m1:=fE hF 1 23 (.bool true) hS rfl (by kernel_rfl) (ap ⟨1,.guard⟩ (by simp) rfl);clear hF ap
        go_wp2_with fail
        exact aY.mk _ (Below.refl _ _) rfl rfl
       ·obtain⟨e3,f3⟩:=aQ hF 3 25 _ hS rfl (by kernel_rfl) (ap ⟨3,.data⟩ (by simp) rfl);obtain⟨e4,f4⟩:=aQ hF 4 26 _ hS rfl (by kernel_rfl) (ap ⟨4,.data⟩ (by simp) rfl);have m1:=fE hF 1 23 (.bool true) hS rfl (by kernel_rfl) (ap ⟨1,.guard⟩ (by simp) rfl);clear hF ap
        go_wp2_with fail
        exact aY.mk _ (Below.refl _ _) rfl rfl
       ·obtain⟨e5,f5⟩:=aQ hF 5 27 _ hS rfl (by kernel_rfl) (ap ⟨5,.data⟩ (by simp) rfl);have m1:=fE hF 1 23 (.bool true) hS rfl (by kernel_rfl) (ap ⟨1,.guard⟩ (by simp) rfl);have tb:=ak hB C1.o;clear hF ap
        go_wp2_with fail
        exact aY.mk _ (Below.refl _ _) rfl rfl
       ·obtain⟨e2,f2⟩:=aQ hF 2 24 _ hS rfl (by kernel_rfl) (ap ⟨2,.data⟩ (by simp) rfl);obtain⟨e6,f6⟩:=aQ hF 6 28 _ hS rfl (by kernel_rfl) (ap ⟨6,.data⟩ (by simp) rfl);have m1:=fE hF 1 23 (.bool true) hS rfl (by kernel_rfl) (ap ⟨1,.guard⟩ (by simp) rfl);clear hF ap
        go_wp2_with fail
        refine(HOF.o e RS.o Wq (ae bK.o (ae vf.o hB))).mono ?_;rintro r w9 ⟨u9,rfl,nX,dS⟩;have wV:=aa nX;clear nX
        go_wp2_with fail
        exact aY.mk _ dS wV.o rfl
       ·obtain⟨g5,h5⟩:=cK hF 5 (.int .i64 v) (by decide) rfl;have m1:=fE hF 1 23 (.bool true) hS rfl (by kernel_rfl) (ap ⟨1,.guard⟩ (by simp) rfl);clear hF ap
        go_wp2_with fail
        exact aY.mk _ (Below.refl _ _) rfl rfl
       ·have d7:=ap ⟨7,.data⟩ (by simp) rfl;obtain⟨e8,f8⟩:=aQ hF 8 30 _ hS rfl (by kernel_rfl) (ap ⟨8,.data⟩ (by simp) rfl);have m1:=fE hF 1 23 (.bool true) hS rfl (by kernel_rfl) (ap ⟨1,.guard⟩ (by simp) rfl);have d7':aT Wq (xq 7) (valuesS s e):=d7;obtain⟨e7,f7⟩:=aQ hF 7 29 _ hS rfl (by kernel_rfl) rfl;clear hF ap
        go_wp2_with fail
        refine(JC _ (valuesS s e) v Wq d7').mono ?_;rintro r w9 ⟨rfl,rfl⟩;rw[pG.o]
        go_wp2_with fail
        exact aY.mk _ (Below.refl _ _) rfl rfl
       ·obtain⟨e1,f1⟩:=aQ hF 1 23 _ hS rfl (by kernel_rfl) (ap ⟨1,.data⟩ (by simp) rfl);obtain⟨e9,f9⟩:=aQ hF 9 31 _ hS rfl (by kernel_rfl) (ap ⟨9,.data⟩ (by simp) rfl);clear hF ap
        go_wp2_with fail
        exact aY.mk _ (Below.refl _ _) rfl rfl
      case tail=>
       clear hS;intro xq W3 F hB aU hF;have e11:xq 10=.bool bv:=aU 10 (by omega);clear aU;simp only[bz,cT,List.setIfInBounds_toArray,List.set_cons_succ,List.set_cons_zero,Nat.reduceAdd]at hF;rw[e11]at hF;generalize xq 0=s0,xq 1=s1,xq 2=s2,xq 3=s3,xq 4=s4,xq 5=s5,xq 6=s6,xq 7=s7,xq 8=s8,xq 9=s9 at hF;subst hF;have bT:=aa (ae vf.o hB);clear hB e11;simp only[List.drop_succ_cons,List.drop_zero]
       go_wp2_with fail
       go_roundw
       ·exact⟨k+1,by omega,by go_num,by rw[GO.o];rfl,bT.o⟩
       ·simp[intOf];omega
    ·obtain rfl:k=n:=by omega
     have RA:=aa (Ro.o v);rw[HN.o]at RA;cases DZ:A v k with
     | true=>
      have HR:=aa (wT.o v aB H.o (by rw[<-RA.o];exact DZ));clear DZ J8
      go_wp2_with fail
      go_ret
      exact⟨aG (by rw[HR.o]),ae bK.o vf.o⟩
     | false=>
      have ri:=aa (aV (p:=fun j=>(l.all fun e=>valB s e j)=false) H.o (by rw[<-RA.o];exact DZ));clear DZ J8
      go_wp2_with fail
      go_roundw
      ·exact⟨v+1,by omega,by go_num,vf.o,ri.o⟩
      ·simp[intOf];omega
  ·obtain rfl:v=no:=by omega
   have hd:decide ((v:Int)<s.prob.t.outs)=false:=decide_eq_false (by have:=HOS.o;omega);have HR:=aa (Ov.o H.o);clear az
   go_wp2_with fail
   go_ret
   exact⟨aG (by rw[HR.o]),ae bK.o aP.o⟩
def Tj(q:Nat->Nat->Bool) (i k:Nat) (x:Int):Prop:=(x=-1/\∀ j,j<k->q j i=false)\/∃ m,m<i/\firstIx i (fun k=>q k i)=m/\x=(br q i).1.getD m 0/\0<=x
theorem Xj{q:Nat->Nat->Bool} {i:Nat} {x:Int} (h:Tj q i i x):(x<0->br q (i+1)=((br q i).1++[(br q i).2],(br q i).2+1))/\(0<=x->br q (i+1)=((br q i).1++[x],(br q i).2)):=by
 rcases h with ⟨rfl,h⟩|⟨m,hm,h1,h2,h3⟩
 ·refine⟨fun _=>?_,fun h=>by omega⟩;rw[br];rw[dM _ _ h,if_pos (by omega)]
 ·refine⟨fun h=>by omega,fun _=>?_⟩;rw[br];rw[h1,if_neg (by omega),Int.toNat_natCast,h2]
theorem BG(q:Nat->Nat->Bool):∀ i,0<=(br q i).2/\(br q i).2<=i/\∀ x∈(br q i).1,0<=x/\x<=i
 | 0=>⟨by simp[br],by simp[br],fun x hx=>by simp[br]at hx⟩
 | i+1=>by
  obtain⟨h1,h2,h3⟩:=BG q i;have hl:=km q i;rw[br];split
  ·refine⟨by dsimp only;omega,by dsimp only;omega,fun x hx=>?_⟩;rcases List.mem_append.1 hx with hx|hx
   ·have:=h3 x hx;omega
   ·rw[List.mem_singleton.1 hx];omega
  ·rename_i h4;refine⟨h1,by dsimp only;omega,fun x hx=>?_⟩;rcases List.mem_append.1 hx with hx|hx
   ·have:=h3 x hx;omega
   ·rw[List.mem_singleton.1 hx];rcases bE i (fun k=>q k i) with ⟨e,_⟩|⟨k,hk,e,_⟩
    ·omega
    ·rw[e,Int.toNat_natCast,aA 0 (by omega)];have:=h3 _ (List.getElem_mem (l:=(br q i).1) (n:=k) (by omega));omega
theorem BH(v:Value) (l:List Int) (hl:l.length<=4096) (w:World) (hv:aT w v l) :
  Calls Tryz.prog 140 #[v] w fun r w'=>∃ u,r=.returned u/\aT w' u (lG l)/\Below w.heap.size w w':=by
 obtain⟨pl,cl,rfl,el⟩:=df hv;have EL:=aa el;obtain⟨i0,cM,bX,bP,bY⟩:=info_parts Tryz.infoInt;have bO:=aa (And.intro cM (And.intro bX (And.intro bP bY)));obtain⟨q,hq⟩:∃ q:Nat->Nat->Bool,q=fun k i=>decide (l.getD k 0=l.getD i 0):=⟨_,rfl⟩
 have HQ:am (∀ k i,q k i=decide (l.getD k 0=l.getD i 0)):=aa fun k i=>by rw[hq]
 have gz:am (lG l=(br q l.length).1):=aa (by rw[hq];rfl);have mK:=aa (BG q);have ku:=aa (km q);have iK:=aa (fun i x=>Xj (q:=q) (i:=i) (x:=x));obtain⟨n,hn⟩:∃ n,l.length=n:=⟨_,rfl⟩;rw[hn]at EL hl gz ⊢;clear hv el hq hn cM bX bP bY
 go_enter Tryz.func140,Tryz.ntmps140
 go_wp2_with fail
 go_loopw [3,4,5] (fun o nx i wr=>∃ k:Nat,k<=n/\i=.int .i64 k/\nx=.int .i64 (br q k).2/\Below w.heap.size w wr/\aH wr w.heap.size 3 1 o k ((br q k).1.map (Value.int .i64))) (fun _ _ i _=>n - (intOf i).toNat)
 ·exact⟨0,by omega,rfl,rfl,Below.refl _ _,aH.nil _ _ _ _⟩
 ·
  obtain⟨i,hi,rfl,rfl,az,aS⟩:=hrel;obtain⟨al,cl2,rfl⟩:=aS.slice;have bG:=aa aS;have aP:=aa az;have z5:=az.size;clear aS az;obtain⟨wrA,kw⟩:∃ x,x=wr:=⟨_,rfl⟩;subst kw;by_cases aB:i<n
  ·obtain⟨bi,oi,rfl,ci⟩:=EL.o i aB;have di:=ak aP.o ci;have MG:=mK.o i
   go_wp2_with fail
   go_loopw [6,7] (fun x j wr=>∃ k:Nat,k<=i/\j=.int .i64 k/\Below wrA.heap.size wrA wr/\∃ y:Int,x=.int .i64 y/\Tj q i k y) (fun _ j _=>i - (intOf j).toNat)
   ·exact⟨0,by omega,rfl,Below.refl _ _,-1,rfl,.inl ⟨rfl,fun j hj=>by omega⟩⟩
   ·
    obtain⟨k,hk,rfl,jn,y,rfl,Oc⟩:=hrel;have UD:=aa Oc;have eo:=aa jn;by_cases lX:k<i/\y<0
    ·obtain⟨EQ,hy⟩:=lX;have GK:decide ((k:Int)<(i:Int))=true:=decide_eq_true (by omega);have TW:decide (k<i)=true:=decide_eq_true EQ;have gM:decide (y<0)=true:=decide_eq_true hy;obtain⟨bk,ok,e1,ck⟩:=EL.o k (by omega);injection e1 with e1
     injection e1 with e11 e12
     subst e11 e12;have y1:∀ z:ExtW wr,z.val.cell? ⟨bi,oi+k,none⟩=_:=fun z=>ak (ae aP.o (ae eo.o z.ext)) ck
     have y2:∀ z:ExtW wr,z.val.cell? ⟨bi,oi+i,none⟩=_:=fun z=>ak (ae aP.o (ae eo.o z.ext)) ci
     have yZ:k<n:=by omega
     have fi:am (∀ j,j<k->q j i=false):=aa (by
      rcases UD.o with ⟨_,h⟩|⟨m,_,_,_,h⟩
      ·exact h
      ·omega)
     cases BX:q k i with
     | true=>
      have cG:l.getD k 0=l.getD i 0:=of_decide_eq_true ((HQ.o k i).symm.trans BX);have HF:am (firstIx i (fun k=>q k i)=k):=aa (dk _ _ _ EQ fi.o BX);have cC:=ku.o i;have ru:((br q i).1.map (Value.int .i64))[k]?=some (.int .i64 ((br q i).1.getD k 0)):=by rw[List.getElem?_map,List.getElem?_eq_getElem (by omega),aA 0 (by omega)];rfl
      obtain⟨g,c',ev,cv⟩:=bG.o.cell k _ ru;injection ev with ev1 ev2 ev3
      subst ev1;clear ev2 ev3;have dv:=ak eo.o cv;have HY:am (0<=(br q i).1.getD k 0):=aa (by rw[aA 0 (by omega)];exact(MG.2.2 _ (List.getElem_mem _)).1);rw[cG]at y1;clear Oc jn cG BX ru cv ck cC;generalize l.getD i 0=x at y1 y2;have lP:(x == x)=true:=by simp
      go_wp2_with fail
      refine aD (by kernel_rfl) (by kernel_rfl) ?_
      repeat (go_big_quiet_step (fail))
      refine wpQuiet_nil ?_;rintro _ ⟨xq,rfl⟩;have dv2:=ak xq.ext dv;clear y1 y2
      go_wp2_with fail
      go_roundw
      ·exact⟨k+1,by omega,by go_num,ae eo.o xq.ext,_,rfl,.inr ⟨k,EQ,HF.o,rfl,HY.o⟩⟩
      ·simp[intOf];omega
     | false=>
      have cG:¬ l.getD k 0=l.getD i 0:=of_decide_eq_false ((HQ.o k i).symm.trans BX)
      have RT:am (y=-1):=aa (by
       rcases UD.o with ⟨h,_⟩|⟨m,_,_,_,h⟩
       ·exact h
       ·omega)
      have zY:am (∀ j,j<k+1->q j i=false):=aa (aV fi.o BX);have lP:(l.getD k 0 == l.getD i 0)=false:=beq_eq_false_iff_ne.2 cG;clear Oc jn cG BX ck;generalize l.getD i 0=x at y1 y2 lP;generalize l.getD k 0=x2 at y1 lP
      go_wp2_with fail
      refine aD (by kernel_rfl) (by kernel_rfl) ?_
      repeat (go_big_quiet_step (fail))
      refine wpQuiet_nil ?_;rintro _ ⟨xq,rfl⟩;clear y1 y2
      go_wp2_with fail
      go_roundw
      ·exact⟨k+1,by omega,by go_num,ae eo.o xq.ext,_,rfl,.inl ⟨RT.o,zY.o⟩⟩
      ·simp[intOf];omega
    ·have HE:am (Tj q i i y):=aa (by
      rcases UD.o with ⟨h,h2⟩|h
      ·have:k=i:=by omega
       rw[this]at h2;exact .inl ⟨h,h2⟩
      ·exact .inr h)
     have bT:=aa (ae aP.o jn);have Ou:=aa (bG.o.up jn);have io:am (i+1<=maxLen):=aa (by unfold maxLen;omega);have dD:am ((i+1) * 8<=140737488355328):=aa (by omega);have RS:=aa (iK.o i y HE.o);obtain⟨nx,mO⟩:∃ nx,(br q i).2=nx:=⟨_,rfl⟩;rw[mO]at MG RS;clear Oc jn;by_cases hy:y<0
     ·have EQ:¬ k<i:=fun h=>lX ⟨h,hy⟩
      have GK:decide ((k:Int)<(i:Int))=false:=decide_eq_false (by omega);have TW:decide (k<i)=false:=decide_eq_false EQ;have gM:decide (y<0)=true:=decide_eq_true hy;have dT:=aa (RS.o.1 hy);clear lX EQ;have cL:=aa (Ou.o.up ((Below.refl _ wr).alloc (Nat.le_refl _) (.cells #[.int .i64 nx] 3)));have bA:=aa (dx wr [.int .i64 nx] 3);have fH:am (w.heap.size<=(wr.alloc (.cells #[.int .i64 nx] 3)).heap.size):=aa (by have:=bT.o.size;simp;omega)
      go_wp2_with (at_builtin;(refine aX _ rfl (.tmp 41) (.tmp 43) 38 rfl w.heap.size 3 i0 _ 1 8 Tryz.underlying38 bO.o.1 bO.o.2.1 bO.o.2.2.1 bO.o.2.2.2 rfl (by decide) _ i _ rfl cL.o ⟨wr.heap.size,0,none⟩ 1 1 [.int .i64 nx] rfl rfl bA.o (by simp[Value.oneCell']) io.o dD.o fH.o ?_;intro v6 w6 eP dQ _))
      go_roundw
      ·
       refine⟨i+1,by omega,by go_num,qK (by rw[dT.o]),dB bT.o (Nat.le_refl _) cL.o dQ,?_⟩;rw[dT.o,List.map_append];exact eP
      ·simp[intOf];omega
     ·have gM:decide (y<0)=false:=decide_eq_false hy;have dT:=aa (RS.o.2 (by omega));by_cases EQ:k<i
      ·have GK:decide ((k:Int)<(i:Int))=true:=decide_eq_true (by omega);have TW:decide (k<i)=true:=decide_eq_true EQ;clear lX;have cL:=aa (Ou.o.up ((Below.refl _ wr).alloc (Nat.le_refl _) (.cells #[.int .i64 y] 3)));have bA:=aa (dx wr [.int .i64 y] 3);have fH:am (w.heap.size<=(wr.alloc (.cells #[.int .i64 y] 3)).heap.size):=aa (by have:=bT.o.size;simp;omega)
       go_wp2_with (at_builtin;(refine aX _ rfl (.tmp 41) (.tmp 43) 38 rfl w.heap.size 3 i0 _ 1 8 Tryz.underlying38 bO.o.1 bO.o.2.1 bO.o.2.2.1 bO.o.2.2.2 rfl (by decide) _ i _ rfl cL.o ⟨wr.heap.size,0,none⟩ 1 1 [.int .i64 y] rfl rfl bA.o (by simp[Value.oneCell']) io.o dD.o fH.o ?_;intro v6 w6 eP dQ _))
       go_roundw
       ·
        refine⟨i+1,by omega,by go_num,qK (by rw[dT.o]),dB bT.o (Nat.le_refl _) cL.o dQ,?_⟩;rw[dT.o,List.map_append];exact eP
       ·simp[intOf];omega
      ·have GK:decide ((k:Int)<(i:Int))=false:=decide_eq_false (by omega);have TW:decide (k<i)=false:=decide_eq_false EQ;clear lX;have cL:=aa (Ou.o.up ((Below.refl _ wr).alloc (Nat.le_refl _) (.cells #[.int .i64 y] 3)));have bA:=aa (dx wr [.int .i64 y] 3);have fH:am (w.heap.size<=(wr.alloc (.cells #[.int .i64 y] 3)).heap.size):=aa (by have:=bT.o.size;simp;omega)
       go_wp2_with (at_builtin;(refine aX _ rfl (.tmp 41) (.tmp 43) 38 rfl w.heap.size 3 i0 _ 1 8 Tryz.underlying38 bO.o.1 bO.o.2.1 bO.o.2.2.1 bO.o.2.2.2 rfl (by decide) _ i _ rfl cL.o ⟨wr.heap.size,0,none⟩ 1 1 [.int .i64 y] rfl rfl bA.o (by simp[Value.oneCell']) io.o dD.o fH.o ?_;intro v6 w6 eP dQ _))
       go_roundw
       ·
        refine⟨i+1,by omega,by go_num,qK (by rw[dT.o]),dB bT.o (Nat.le_refl _) cL.o dQ,?_⟩;rw[dT.o,List.map_append];exact eP
       ·simp[intOf];omega
  ·obtain rfl:i=n:=by omega
   go_wp2_with fail
   go_ret
   refine⟨_,rfl,?_,aP.o⟩;rw[gz.o];have h1:=ku.o i;exact fI (l:=(br q i).1) (base:=w.heap.size) (by rw[h1];exact bG.o) (fun x hx=>by have:=(mK.o i).2.2 x hx;exact⟨by omega,by omega⟩) (by omega)
end Go.Proofs.YtmeaoneaephjeaaGreatDoor
