/-
  A part of the proof: lemmas and contracts that the parts behind it use. Each one's conditions are its own premises.
-/
import Derived.WalkKit
import Derived.ProofKit
import Derived.OpenShut
import Derived.ShutString
import Derived.ChangeOld
import Derived.Below
import Derived.SizedLaws
import Derived.Deep.Slices
import Derived.Test.YtmeaoneaephjeaaGreatDoorRows
import Derived.Test.YtmeaoneaephjeaaGreatDoorTie
import Derived.Test.YtmeaoneaephjeaaGreatDoorCards
import Derived.LaidMore
import Derived.Stop.Joined
import Derived.SevenTiedAt
import Derived.Test.YtmeaoneaephjeaaGreatDoorT11
set_option maxRecDepth 100000
set_option maxHeartbeats 8000000
set_option linter.unusedVariables false
set_option linter.unusedSimpArgs false
namespace Go.Proofs.YtmeaoneaephjeaaGreatDoor
open Go.RowKit Go Go.Shelf
attribute [local go_sem] Oper.semAt_some
def Wg(vr:List Lk × Bool × Int) (r:Ending) (w':World):Prop:=∃ u,r=.returned (.tuple #[.agg (eL (if vr.2.1 then 1 else 0) u),.bool vr.2.1,.int .i64 vr.2.2])/\bJ w' u vr.1
theorem lu(tmps:Array Value) (B:Nat) (W:World) (k e:Int) (ok:Bool) (u:Value) (h2:tmps[2]?.getD undef=.pointer (some ⟨B,0,none⟩)) (h3:tmps[3]?.getD undef=.pointer (some ⟨B+1,0,none⟩)) (h4:tmps[4]?.getD undef=.pointer (some ⟨B+1+1,0,none⟩))
  (hB:W.heap[B]?=some (.cells (eL k u) 58)) (hC:W.heap[B+1]?=some (.cells #[.bool ok] 4)) (hD:W.heap[B+1+1]?=some (.cells #[.int .i64 e] 39)):(results Tryz.f18 tmps).run Tryz.prog W=.ok (.tuple #[.agg (eL k u),.bool ok,.int .i64 e]) W:=by
 have t2:=ab hB;have t3:=ab hC 0;have t4:=ab hD 0;simp at t3 t4;simp[results,Tryz.results18,go_sem,h2,h3,h4,t2,t3,t4]
theorem nY{W:World} {B:Nat} {k e e':Int} {ok ok':Bool} {u:Value} (hB:W.heap[B]?=some (.cells (eL k u) 58)) (hC:W.heap[B+1]?=some (.cells #[.bool ok'] 4)) (hD:W.heap[B+1+1]?=some (.cells #[.int .i64 e'] 39)) :
  ((W.setCell ⟨B+1,0,none⟩ (.bool ok)).setCell ⟨B+1+1,0,none⟩ (.int .i64 e)).heap[B]?=some (.cells (eL k u) 58)/\((W.setCell ⟨B+1,0,none⟩ (.bool ok)).setCell ⟨B+1+1,0,none⟩ (.int .i64 e)).heap[B+1]?=some (.cells #[.bool ok] 4)/\((W.setCell ⟨B+1,0,none⟩ (.bool ok)).setCell ⟨B+1+1,0,none⟩ (.int .i64 e)).heap[B+1+1]?=some (.cells #[.int .i64 e] 39):=
 ⟨aN (aN hB (by omega) _ _) (by omega) _ _,aN (aH hC _ _) (by omega) _ _,aH (aN hD (by omega) _ _) _ _⟩
theorem yv(w:World):bJ w (.slice none 0 0) []:=⟨none,0,rfl,⟨by simp,by omega,fun _=>rfl⟩,by simp,fun i x hx=>by simp at hx⟩
theorem sS{w w':World} {v:Value} {l:List Lk} (h:bJ w v l) (hk:∀ b,v.ownBlock=some b->w'.heap[b]?=w.heap[b]?):bJ w' v l:=by
 cases hl:l with
 | nil=>
  subst hl;obtain⟨a,c,e,h1,h2,_⟩:=h;exact⟨a,c,e,h1,h2,fun i x hx=>by simp at hx⟩
 | cons y r=>
  obtain⟨a,c,e,_,_,h3⟩:=h.at;obtain⟨b,o,rfl,_⟩:=h3 0 (by rw[hl];simp);subst e;rw[<-hl];exact kr h (hk b rfl)
def Ea(u0 b8:Nat) (l:List Lk) (T:Nat->Prop) (A:World):Prop:=∃ v,A.heap[b8]?=some (.cells (eL 1 v) 58)/\aI A u0 75 2 v l.length (cH l)/\∀ g,v.ownBlock=some g->¬ T g
theorem Ea.ch{u0 b8:Nat} {l:List Lk} {T T':Nat->Prop} {A A':World} (h:Ea u0 b8 l T A) (hb:b8<u0) (hc:ChT u0 T A A') (hw:gG A A' T T'):Ea u0 b8 l T' A':=by
 obtain⟨v,h1,h2,h3⟩:=h;refine⟨v,(hc.low _ hb).trans h1,h2.keep fun g o hg ho=>?_,fun g hg ht=>?_⟩
 ·have eK:o.isCells=true:=by
   rcases h2.2 with ⟨e,_⟩|⟨g',_,_,_,e,_,e2,_⟩
   ·rw[e]at hg;cases hg
   ·rw[e]at hg;injection hg with hg
    subst hg;rw[e2]at ho;injection ho with ho
    subst ho;rfl
  exact hc.same g o ho eK (h3 g hg)
 ·rcases hw.2 g ht with h5|h5
  ·exact h3 g hg h5
  ·have:=(h2.lt g hg).2;omega
structure FdI (s:Sys) (w4:World) (u0 b8:Nat) (way:List Lk) (i:Nat) (T:Nat->Prop) (A:World):Prop where
 old:Below w4.heap.size w4 A
 sz:u0<=A.heap.size
 out:Ea u0 b8 (way.take i) T A
 left:A.heap[b8+1]?=some (.cells #[.int .i64 (comM s (cF (way.take i)):Nat)] 3)
 no:∀ j,j<i->cM s (way.take (j+1))=false
 le:i<=4096
 len:(way.take i).length=i
 tb:∀ k,T k->k<A.heap.size
theorem FdI.ch{s:Sys} {w4:World} {u0 b8 i:Nat} {way:List Lk} {T T':Nat->Prop} {A A':World} (h:FdI s w4 u0 b8 way i T A) (h4:w4.heap.size<=u0) (hb:b8+1<u0) (hc:ChT u0 T A A') (hw:gG A A' T T'):FdI s w4 u0 b8 way i T' A':=
 ⟨hc.below h4 h.old,Nat.le_trans h.sz hc.size,h.out.ch (by omega) hc hw,(hc.low _ (by omega)).trans h.left,h.no,h.le,h.len,fun k hk=>by
  rcases hw.2 k hk with h1|h1
  ·exact Nat.lt_of_lt_of_le (h.tb k h1) hc.size
  ·exact h1.2⟩
structure FdX (w4:World) (u0 b8:Nat) (F:List Lk) (T:Nat->Prop) (A:World):Prop where
 old:Below w4.heap.size w4 A
 sz:u0<=A.heap.size
 out:Ea u0 b8 F T A
 le:F.length<=4096
structure FdY (w:World) (F:List Lk) (A:World):Prop where
 old:Below w.heap.size w A
 r2:A.heap[w.heap.size+1]?=some (.cells (eL 0 (.slice none 0 0)) 58)
 r3:A.heap[w.heap.size+1+1]?=some (.cells #[.bool false] 4)
 r4:A.heap[w.heap.size+1+1+1]?=some (.cells #[.int .i64 17] 39)
 lt:4096<F.length
theorem Fo(s:Sys) (hE:eS s<=256) (vc vs vt ve:Value) (w:World) (hT:io w) (hs:IsSys w s vc vs vt ve) (hN:movesN s.prob.a.states<1099511627776) :
  Calls Tryz.prog 18 #[.agg (cj s.prob vc vs s.n vt ve)] w fun r w'=>Wg (findW s) r w'/\Below w.heap.size w w':=by
 have HS:=aa hs;have HT:=aa hT;obtain⟨⟨pc,cc,rfl⟩,⟨ps,cs,rfl⟩,⟨pt,ct,rfl⟩,⟨pe,ce,rfl⟩⟩:=bM hs;clear hs hT;have HC:=aa (fun W (hb:Below w.heap.size w W)=>nV s hE _ _ _ _ W (HS.o.up hb) hN)
 have oZ:am (readyE s=0->verifyE s=0/\agreeB s.prob.t=true):=aa fun h=>by
  refine⟨rI h,?_⟩;unfold readyE at h;split at h
  ·rename_i h1;exact absurd h h1
  split at h
  ·assumption
  ·omega
 have dd:am (readyE s≠0->findW s=([],false,readyE s)):=aa fun h=>by unfold findW;rw[if_pos h]
 have eH:am (readyE s=0->lW s<0->findW s=([],false,0)):=aa fun h h2=>by unfold findW;rw[if_neg (by omega),if_pos h2]
 have gk:am (readyE s=0->¬ lW s<0->findW s=if 4096<(kE s).length then([],false,17) else(kE s,true,0)):=aa fun h h2=>by unfold findW;rw[if_neg (by omega),if_neg h2]
 generalize findW s=vr at dd eH gk ⊢;obtain⟨re,ka⟩:∃ re,readyE s=re:=⟨_,rfl⟩;rw[ka]at dd eH gk HC oZ;clear ka;refine gd Tryz.func18 rfl ?_;simp only[Tryz.ntmps18,List.size_toArray,List.length_cons,List.length_nil,Nat.reduceAdd,Nat.reduceSub,Array.replicate_succ,Array.replicate_zero,List.push_toArray,List.append_toArray,List.nil_append,List.cons_append]
 go_wp2_with fail
 refine aQ (fun W=>Below w.heap.size w W/\W.heap[w.heap.size+1]?=some (.cells (eL 0 (.slice none 0 0)) 58)/\W.heap[w.heap.size+1+1]?=some (.cells #[.bool false] 4)/\W.heap[w.heap.size+1+1+1]?=some (.cells #[.int .i64 0] 39))
  ⟨by go_grown,az _ (az _ (bz _ _ _)),az _ (eA _ _ _ _),by have h:=aq (((w.alloc (.cells (cj s.prob (.slice pc s.prob.t.cases.length cc) (.slice ps s.prob.a.states.length cs) s.n (.slice pt s.tab.length ct) (.slice pe s.ex.length ce)) 35)).alloc (.cells (eL 0 (.slice none 0 0)) 58)).alloc (.cells #[.bool false] 4)) (.cells #[.int .i64 0] 39);simpa using h⟩ (fun W0 bh=>?_)
 obtain⟨aJ,mw,Dj,C'⟩:=bh;refine(HC.o W0 aJ).mono ?_;rintro r w1 ⟨v,rfl,aM,h2,h3⟩;have bL:=aa (ae aJ aM);have fY:=aa (af aM mw);have iS:=aa (af aM Dj);have kH:=aa (af aM C');have fV:=aC kH.o;by_cases hr:re=0
 case neg=>
  have HV:=aa (dd.o hr);obtain rfl:=h2 hr;have FC:(re != 0)=true:=by simpa using hr
  clear aJ aM h2 h3 hr HC mw Dj C' dd eH gk oZ
  go_wp2_with (refine wpList_store_row rfl 58 (.tmp 2) (.tmp 18) rfl (w.heap.size+1) (eL 0 (.slice none 0 0)) rfl rfl 58 _ (az _ fY.o) (by kernel_rfl) rfl (by simp[Value.oneCell']) (gL (fun W=>Below w.heap.size w W/\W.heap[w.heap.size+1]?=some (.cells (eL 0 (.slice none 0 0)) 58)/\W.heap[w.heap.size+1+1]?=some (.cells #[.bool false] 4)/\W.heap[w.heap.size+1+1+1]?=some (.cells #[.int .i64 0] 39)) ⟨below_setRow (bL.o.alloc (by omega) _) (by omega) _,setRow_heap _ _ _ _ _ _ (az _ fY.o),by rw[setRow_other _ _ _ _ (by omega)];exact az _ iS.o,by rw[setRow_other _ _ _ _ (by omega)];exact az _ kH.o⟩ ?_);intro W2 fh;have cQ:=aa fh;clear fh;have t3:=ab cQ.o.2.2.1 0;have z3:=aG cQ.o.2.2.1 0;have t4:=ab cQ.o.2.2.2 0;have z4:=aG cQ.o.2.2.2 0;simp at t3 t4)
  obtain⟨y1,y2,y3⟩:=nY (ok:=false) (e:=re) cQ.o.2.1 cQ.o.2.2.1 cQ.o.2.2.2;have e1:=HV.o;subst e1;exact ik (lu _ (w.heap.size+1) _ 0 re false _ rfl rfl rfl y1 y2 y3) ⟨⟨_,rfl,yv _⟩,(cQ.o.1.setCell (by dsimp only;omega) _).setCell (by dsimp only;omega) _⟩
 obtain⟨B,rfl,hB,fW⟩:=h3 hr;have df:=aa (eH.o hr);have rM:=aa (gk.o hr);have tZ:=aa (oZ.o hr).1;have FD:=aa (oZ.o hr).2;have dI:=aa (iZ tZ.o);have HP:=aa (zz tZ.o);have jA:=aa fW;subst hr;clear aJ aM h2 h3 HC fW mw Dj C' dd eH gk oZ;have tb:=fun o j=>ab (az o fY.o) j
 go_wp2_with fail
 clear tb;refine aQ (fun W=>Below w1.heap.size w1 W/\W.heap[w1.heap.size]?=some (.cells #[.pointer (some ⟨B,0,none⟩)] 94)) ⟨by go_grown,aq _ _⟩ (fun W1 cO=>?_);have gz:=aa cO.1;have kJ:=aa cO.2;clear cO;have Jl:=aa (jA.o.up gz.o);have wK:=aa (ae bL.o gz.o);refine(uB s dI.o HP.o hE B W1 Jl.o (HT.o.up wK.o)).mono ?_;rintro r w3 ⟨u,rfl,hu,bH⟩;have qr:=aa (wT u (i8 s) (-1) w3 hu);obtain⟨pu,cu,rfl,_⟩:=hu.at;have dX:=aa (ae gz.o bH);have El:=aa (af bH kJ.o);clear hu bH;have QH:am (firstIx (i8 s).length (fun i=>decide ((-1:Int)=(i8 s).getD i 0))=labI s):=aa rfl;rw[QH.o]at qr;have TQ:=aa (fun h=>R5 (s:=s) HP.o h);have F5:=aa (fun h=>R6 (s:=s) HP.o h);obtain⟨cn,CW⟩:∃ cn,(i8 s).length=cn:=⟨_,rfl⟩;rw[CW]at qr ⊢;clear QH CW;generalize labI s=lab at qr TQ F5
 go_wp2_with fail
 refine qr.o.mono ?_;rintro r w4 ⟨rfl,bR⟩;have eU:=aa (ae dX.o bR);have Es:=aa (af bR El.o);have y':=aa (ae bL.o eU.o);have Jg:=aa (af eU.o fY.o);have NT:=aa (af eU.o iS.o);have N0:=aa (af eU.o kH.o);clear bR qr dX El kJ gz Jl wK;by_cases Xg:lW s<0
 ·have aD:=TQ.o Xg;have hd:decide (lab<0)=true:=decide_eq_true aD;have e1:=df.o Xg;subst e1;clear df rM TQ F5 aD
  go_wp2_with (refine wpList_store_row rfl 58 (.tmp 2) (.tmp 25) rfl (w.heap.size+1) (eL 0 (.slice none 0 0)) rfl rfl 58 _ Jg.o (by kernel_rfl) rfl (by simp[Value.oneCell']) (gL (fun W=>Below w.heap.size w W/\W.heap[w.heap.size+1]?=some (.cells (eL 0 (.slice none 0 0)) 58)/\W.heap[w.heap.size+1+1]?=some (.cells #[.bool false] 4)/\W.heap[w.heap.size+1+1+1]?=some (.cells #[.int .i64 0] 39)) ⟨below_setRow y'.o (by omega) _,setRow_heap _ _ _ _ _ _ Jg.o,by rw[setRow_other _ _ _ _ (by omega)];exact NT.o,by rw[setRow_other _ _ _ _ (by omega)];exact N0.o⟩ ?_);intro W2 fh;have cQ:=aa fh;clear fh;have t3:=ab cQ.o.2.2.1 0;have z3:=aG cQ.o.2.2.1 0;have t4:=ab cQ.o.2.2.2 0;have z4:=aG cQ.o.2.2.2 0;simp at t3 t4)
  obtain⟨y1,y2,y3⟩:=nY (ok:=false) (e:=0) cQ.o.2.1 cQ.o.2.2.1 cQ.o.2.2.2;exact ik (lu _ (w.heap.size+1) _ 0 0 false _ rfl rfl rfl y1 y2 y3) ⟨⟨_,rfl,yv _⟩,(cQ.o.1.setCell (by dsimp only;omega) _).setCell (by dsimp only;omega) _⟩
 obtain⟨la,zc,hleq⟩:=F5.o (by omega);have hd:decide (lab<0)=false:=decide_eq_false (by omega);have HV:=aa (rM.o (by omega));have tt:am (kE s=nQ s (gF s (memL (partsS s) lab))):=aa (by rw[hleq];rfl);have F4:=aa (Vu dI.o lab);clear df rM TQ F5 Xg la hleq;have QN:=y'.o.size;have tb:=ab Es.o 0;simp at tb;have tb':∀ o o',((w4.alloc o).alloc o').cell? ⟨w1.heap.size,0,none⟩=some (.pointer (some ⟨B,0,none⟩)):=fun o o'=>ak (show Below w4.heap.size w4 ((w4.alloc o).alloc o') by go_grown) tb
 go_wp2_with fail
 refine(PL B lab _).mono ?_;rintro r w5 ⟨rfl,rfl⟩;clear tb tb'
 go_wp2_with fail
 refine bF (fun U=>Below w4.heap.size w4 U/\U.heap.size=w4.heap.size+1+1+1+1/\U.heap[w4.heap.size]?=some (.cells (eL 1 (.slice none 0 0)) 58)/\U.heap[w4.heap.size+1]?=some (.cells #[.int .i64 255] 3)/\U.heap[w4.heap.size+1+1]?=some (.cells #[.pointer (some ⟨B,0,none⟩)] 94)/\U.heap[w4.heap.size+1+1+1]?=some (.cells #[.int .i64 lab] 3))
  ⟨by go_grown,by simp,az _ (az _ (az _ (aq _ _))),az _ (az _ (bz _ _ _)),az _ (eA _ _ _ _),by have h:=aq (((w4.alloc (.cells (eL 1 (.slice none 0 0)) 58)).alloc (.cells #[.int .i64 255] 3)).alloc (.cells #[.pointer (some ⟨B,0,none⟩)] 94)) (.cells #[.int .i64 lab] 3);simpa using h⟩ (fun U hU=>?_)
 obtain⟨sU,za,rR,mm,yF,I6⟩:=hU;have HSC4:=aa (jA.o.up eU.o);have dj:=M6 s tZ.o hE hN B (w4.heap.size+1+1) (w4.heap.size+1+1+1) lab w4 HSC4.o U sU yF I6;obtain⟨way,I8⟩:∃ way,gF s (memL (partsS s) lab)=way:=⟨_,rfl⟩;rw[I8]at dj tt F4;obtain⟨F,hF⟩:∃ F,kE s=F:=⟨_,rfl⟩;rw[hF]at tt HV;obtain⟨i0,cY,cC,bY,cD⟩:=info_parts Tryz.infoLink;have bZ:=aa (And.intro cY (And.intro cC (And.intro bY cD)))
 have JW:am (∀ y∈F,bT y.x/\bT y.p):=aa (fun y hy=>by
  rw[tt.o]at hy;obtain⟨h1,h2⟩:=F4.o y (List.mem_of_mem_take hy);have:=dI.o.n.2.1
  exact⟨⟨by omega,by omega⟩,⟨by omega,by omega⟩⟩)
 have HU:am (FdI s w4 U.heap.size w4.heap.size way 0 (fun _=>False) U):=aa ⟨sU,Nat.le_refl _,⟨_,rR,aI.nil _ _ _ _,fun g hg=>by cases hg⟩,by rw[List.take_zero,show comM s (cF [])=255 from A5 s];exact mm,fun j hj=>by omega,by omega,by simp,fun k h=>h.elim⟩;have S1:=aa (fun i T T' A A' (h:FdI s w4 U.heap.size w4.heap.size way i T A) (hc:ChT U.heap.size T A A') (hw:gG A A' T T')=>h.ch (by omega) (by omega) hc hw);have ju:=dI.o.n.2.1;have TO:=dI.o.outs.2.1;clear sU rR mm yF I6 I8 hF cY cC bY cD
 refine L6 (gf:=89) (lb:=#[.pointer (some ⟨w4.heap.size+1+1,0,none⟩),.pointer (some ⟨w4.heap.size+1+1+1,0,none⟩)]) rfl (enters_of Tryz.func89 (by kernel_rfl) rfl) dj (Below.refl _ _) (fun k hk=>by rcases hk with hk|rfl|rfl<;>omega) (fun i args h=>by rw[h];rfl)
  (FdI s w4 U.heap.size w4.heap.size way)
  (fun c i T A=>(c=.exit 0/\FdX w4 U.heap.size w4.heap.size F T A)\/(c=.ret/\FdY w F A))
  (fun i T T' A A' h hc hw=>S1.o i T T' A A' h hc hw)
  (fun c i T T' A A' h hc hw=>by
   rcases h with ⟨h1,h⟩|⟨h1,h⟩
   ·exact .inl ⟨h1,hc.below (by omega) h.old,Nat.le_trans h.sz hc.size,h.out.ch (by omega) hc hw,h.le⟩
   ·exact .inr ⟨h1,hc.below (by omega) h.old,(hc.low _ (by omega)).trans h.r2,(hc.low _ (by omega)).trans h.r3,(hc.low _ (by omega)).trans h.r4,h.lt⟩)
  HU.o ?rnd ?done ?stop
 case done=>
  intro D T A hD nq hK;have qC:FdX w4 U.heap.size w4.heap.size F T A:=⟨nq.old,nq.sz,by rw[tt.o,K9 nq.no];have h:=nq.out;rw[List.take_length]at h;exact h,by rw[tt.o,K9 nq.no];exact nq.le⟩;have Ao:am (F.length<=4096):=aa qC.le;clear nq;obtain⟨v,jU,kV,_⟩:=qC.out;have FN:=aC hK;have nE:=nd kV JW.o (by have:=qC.le;omega);obtain⟨pv,cv,rfl⟩:=kV.slice;have X1:=aa qC.old;have ig:=aa nE;have ox:=aa jU;have Y2:=aa (af qC.old Jg.o);have Y3:=aa (af qC.old NT.o);have Y4:=aa (af qC.old N0.o);have t8:=ab jU;have Le:=aa hK;have hbU:w.heap.size+1+1+1<D:=by omega
  have iG:am (∀ b,(Value.slice pv F.length cv).ownBlock=some b->U.heap.size<=b):=aa (fun b hb=>(kV.lt b hb).1);have Gg:am (¬ (Value.slice pv F.length cv).ownBlock=some D):=aa (fun e=>kV.isCells hK rfl e.symm);clear jU kV nE dj hK qC
  go_wp2_with (refine wpList_store_row rfl 58 (.tmp 2) (.tmp 54) rfl (w.heap.size+1) (eL 1 (.slice pv F.length cv)) rfl rfl 58 _ Y2.o (by kernel_rfl) rfl (by simp[Value.oneCell']) (gL (fun W=>(Below w.heap.size w W/\bJ W (.slice pv F.length cv) F/\W.heap[D]?=some (.deferred (some [])))/\W.heap[w.heap.size+1]?=some (.cells (eL 1 (.slice pv F.length cv)) 58)/\W.heap[w.heap.size+1+1]?=some (.cells #[.bool false] 4)/\W.heap[w.heap.size+1+1+1]?=some (.cells #[.int .i64 0] 39)) ⟨⟨below_setRow (ae y'.o X1.o) (by omega) _,sS ig.o (fun b hb=>by rw[setRow_other _ _ _ _ (by have:=iG.o b hb;omega)]),by rw[setRow_other _ _ _ _ (by omega)];exact Le.o⟩,setRow_heap _ _ _ _ _ _ Y2.o,by rw[setRow_other _ _ _ _ (by omega)];exact Y3.o,by rw[setRow_other _ _ _ _ (by omega)];exact Y4.o⟩ ?_);intro W2 fh;have cQ:=aa fh;clear fh;have t3:=ab cQ.o.2.2.1 0;have z3:=aG cQ.o.2.2.1 0;have t4:=ab cQ.o.2.2.2 0;have z4:=aG cQ.o.2.2.2 0;simp at t3 t4)
  obtain⟨y1,y2,y3⟩:=nY (ok:=true) (e:=0) cQ.o.2.1 cQ.o.2.2.1 cQ.o.2.2.2;refine iz (aN (aN cQ.o.1.2.2 (by omega) _ _) (by omega) _ _) (lu _ (w.heap.size+1) _ 1 0 true _ rfl rfl rfl ((World.putObj_heap_other (by omega)).trans y1) ((World.putObj_heap_other (by omega)).trans y2) ((World.putObj_heap_other (by omega)).trans y3)) ?_;have e1:=HV.o;rw[if_neg (by have:=Ao.o;omega)]at e1;subst e1;refine⟨⟨_,rfl,sS cQ.o.1.2.1 (fun b hb=>by have h1:=iG.o b hb;have h2:b≠D:=fun e=>Gg.o (e ▸ hb);rw[World.putObj_heap_other h2,Below.heap_setCell _ _ _ _ (by dsimp only;omega),Below.heap_setCell _ _ _ _ (by dsimp only;omega)])⟩,eR (by omega) ((cQ.o.1.1.setCell (by dsimp only;omega) _).setCell (by dsimp only;omega) _)⟩
 case stop=>
  rintro D c i T A hD hi h hK;rcases h with ⟨rfl,qC⟩|⟨rfl,hY⟩
  case inr=>
   have FN:=aC hK
   go_wp2_with fail
   refine iz hK (lu _ (w.heap.size+1) _ 0 17 false _ rfl rfl rfl ((World.putObj_heap_other (by omega)).trans hY.r2) ((World.putObj_heap_other (by omega)).trans hY.r3) ((World.putObj_heap_other (by omega)).trans hY.r4)) ?_;have e1:=HV.o;rw[if_pos hY.lt]at e1;subst e1;exact⟨⟨_,rfl,yv _⟩,eR (by omega) hY.old⟩
  have Ao:am (F.length<=4096):=aa qC.le;obtain⟨v,jU,kV,_⟩:=qC.out;have FN:=aC hK;have nE:=nd kV JW.o (by have:=qC.le;omega);obtain⟨pv,cv,rfl⟩:=kV.slice;have X1:=aa qC.old;have ig:=aa nE;have ox:=aa jU;have Y2:=aa (af qC.old Jg.o);have Y3:=aa (af qC.old NT.o);have Y4:=aa (af qC.old N0.o);have t8:=ab jU;have Le:=aa hK;have hbU:w.heap.size+1+1+1<D:=by omega
  have iG:am (∀ b,(Value.slice pv F.length cv).ownBlock=some b->U.heap.size<=b):=aa (fun b hb=>(kV.lt b hb).1);have Gg:am (¬ (Value.slice pv F.length cv).ownBlock=some D):=aa (fun e=>kV.isCells hK rfl e.symm);clear jU kV nE dj hK qC
  go_wp2_with (refine wpList_store_row rfl 58 (.tmp 2) (.tmp 54) rfl (w.heap.size+1) (eL 1 (.slice pv F.length cv)) rfl rfl 58 _ Y2.o (by kernel_rfl) rfl (by simp[Value.oneCell']) (gL (fun W=>(Below w.heap.size w W/\bJ W (.slice pv F.length cv) F/\W.heap[D]?=some (.deferred (some [])))/\W.heap[w.heap.size+1]?=some (.cells (eL 1 (.slice pv F.length cv)) 58)/\W.heap[w.heap.size+1+1]?=some (.cells #[.bool false] 4)/\W.heap[w.heap.size+1+1+1]?=some (.cells #[.int .i64 0] 39)) ⟨⟨below_setRow (ae y'.o X1.o) (by omega) _,sS ig.o (fun b hb=>by rw[setRow_other _ _ _ _ (by have:=iG.o b hb;omega)]),by rw[setRow_other _ _ _ _ (by omega)];exact Le.o⟩,setRow_heap _ _ _ _ _ _ Y2.o,by rw[setRow_other _ _ _ _ (by omega)];exact Y3.o,by rw[setRow_other _ _ _ _ (by omega)];exact Y4.o⟩ ?_);intro W2 fh;have cQ:=aa fh;clear fh;have t3:=ab cQ.o.2.2.1 0;have z3:=aG cQ.o.2.2.1 0;have t4:=ab cQ.o.2.2.2 0;have z4:=aG cQ.o.2.2.2 0;simp at t3 t4)
  obtain⟨y1,y2,y3⟩:=nY (ok:=true) (e:=0) cQ.o.2.1 cQ.o.2.2.1 cQ.o.2.2.2;refine iz (aN (aN cQ.o.1.2.2 (by omega) _ _) (by omega) _ _) (lu _ (w.heap.size+1) _ 1 0 true _ rfl rfl rfl ((World.putObj_heap_other (by omega)).trans y1) ((World.putObj_heap_other (by omega)).trans y2) ((World.putObj_heap_other (by omega)).trans y3)) ?_;have e1:=HV.o;rw[if_neg (by have:=Ao.o;omega)]at e1;subst e1;refine⟨⟨_,rfl,sS cQ.o.1.2.1 (fun b hb=>by have h1:=iG.o b hb;have h2:b≠D:=fun e=>Gg.o (e ▸ hb);rw[World.putObj_heap_other h2,Below.heap_setCell _ _ _ _ (by dsimp only;omega),Below.heap_setCell _ _ _ _ (by dsimp only;omega)])⟩,eR (by omega) ((cQ.o.1.1.setCell (by dsimp only;omega) _).setCell (by dsimp only;omega) _)⟩
 case rnd=>
  rintro yl i T V args hi hl hlV hT rfl iE;obtain⟨y,hy⟩:∃ y,way.getD i default=y:=⟨_,rfl⟩;have XQ:way[i]=y:=by rw[<-hy];simp[hi]
  obtain⟨⟨jb,Uv⟩,hyp⟩:=F4.o way[i] (List.getElem_mem hi);rw[XQ]at jb Uv hyp;have fk:=aa (R8 (s:=s) hi);rw[hy]at fk ⊢;obtain⟨yx,yp⟩:=y;dsimp only at jb Uv hyp fk;obtain⟨e,he⟩:∃ e:Nat,yx=e:=⟨yx.toNat,by omega⟩;subst he;rw[Int.toNat_natCast]at Uv fk;have oy:=aa iE;have HYW:=aa XQ;clear iE hy XQ dj jb
  gi_wp2
  have TW:Below V.heap.size V (V.alloc (.cells #[.int .i64 e,.int .i64 yp] 75)):=by go_grown
  refine⟨Bod.of_below (fun k hk=>hk.2) TW,fun X=>FdI s w4 U.heap.size w4.heap.size way i T X/\X.heap[V.heap.size]?=some (.cells #[.int .i64 e,.int .i64 yp] 75)/\∀ g v,X.heap[w4.heap.size]?=some (.cells (eL 1 v) 58)->v.ownBlock=some g->g<V.heap.size,?_,⟨S1.o _ _ _ _ _ oy.o (ChT.of_below oy.o.sz TW) (gG.refl _ _ _),aq _ _,fun g v h1 h2=>?_⟩,fun X hX jz=>?_⟩
  ·intro A A' c h;refine⟨S1.o _ _ _ _ _ h.1 (ChT.of_chg c (Nat.le_refl _) h.1.sz) (gG.refl _ _ _),c.same _ _ h.2.1 (.inr rfl),fun g v h1 h2=>?_⟩;obtain⟨v0,h3,_⟩:=h.1.out;have h4:=c.same _ _ h3 (.inr rfl);rw[h1]at h4;have h5:=dp h4;injection h5 with h5
   injection h5 with h5
   simp at h5;exact h.2.2 g v0 h3 (by rw[<-h5];exact h2)
  ·obtain⟨v0,h3,h4,_⟩:=oy.o.out;have h6:=af TW h3;rw[h1]at h6;have h5:=dp h6;injection h5 with h5
   injection h5 with h5
   simp at h5;exact(h4.lt g (by rw[<-h5];exact h2)).2
  obtain⟨rlp,jz⟩:=jz;have I':=aC jz;have hzV:=oy.o.sz;clear jz rlp TW oy;obtain⟨SS,Yd⟩:∃ SS:Nat->Prop,(fun k=>(T k\/k<w4.heap.size\/k=w4.heap.size+1+1\/k=w4.heap.size+1+1+1)/\k<V.heap.size)=SS:=⟨_,rfl⟩;rw[Yd];have HSS:am (∀ k,SS k->(T k\/k<w4.heap.size\/k=w4.heap.size+1+1\/k=w4.heap.size+1+1+1)/\k<V.heap.size):=aa (fun k hk=>by rw[<-Yd]at hk;exact hk);clear Yd;have HX:=aa hX.1;have bV:=aa hX.2.1;have jH:=aC hX.2.1;obtain⟨v,jU,kV,Qp⟩:=hX.1.out;rw[hX.1.len]at kV;obtain⟨pv,cv,rfl⟩:=kV.slice;have ox:=aa jU;have df:=aa kV;have HV3':=aa Qp;have t8:=ab jU;have z8:=aG jU;have tb:=ab hX.2.1;have JF:=fun g h=>hX.2.2 g _ jU h
  have jv:=hX.1.no;have kW:=hX.1.le;by_cases WF:i=4096
  ·have HLT:am (4096<F.length):=aa (by rw[tt.o,<-WF];exact R7 hi jv);have hdd:((i:Int) == 4096)=true:=by rw[WF];rfl
   have y2:=af hX.1.old Jg.o;have y3:=af hX.1.old NT.o;have y4:=af hX.1.old N0.o;have Y2:=aa y2;have Y3:=aa y3;have Y4:=aa y4;clear hX jU kV Qp tb jv y2 y3 y4 JF
   gi_wp2_with (refine xK rfl 58 (.tmp 2) (.tmp 35) rfl (w.heap.size+1) (eL 0 (.slice none 0 0)) rfl rfl 58 _ Y2.o (by kernel_rfl) rfl (by simp[Value.oneCell']) (Gl (fun W=>Bdx U.heap.size X W/\Below w.heap.size w W/\W.heap[w.heap.size+1]?=some (.cells (eL 0 (.slice none 0 0)) 58)/\W.heap[w.heap.size+1+1]?=some (.cells #[.bool false] 4)/\W.heap[w.heap.size+1+1+1]?=some (.cells #[.int .i64 0] 39)) ⟨⟨(below_setRow (Below.refl 0 X) (Nat.zero_le _) _).size,fun k o hk ho hc=>by rw[setRow_other _ _ _ _ (by omega)];exact ho⟩,below_setRow (ae y'.o HX.o.old) (by omega) _,setRow_heap _ _ _ _ _ _ Y2.o,by rw[setRow_other _ _ _ _ (by omega)];exact Y3.o,by rw[setRow_other _ _ _ _ (by omega)];exact Y4.o⟩ ?_);intro W2 fh;have cQ:=aa fh;clear fh;have t3:=ab cQ.o.2.2.2.1 0;have z3:=aG cQ.o.2.2.2.1 0;have t4:=ab cQ.o.2.2.2.2 0;have z4:=aG cQ.o.2.2.2.2 0;simp at t3 t4)
   obtain⟨q1,q2,q3⟩:=nY (ok:=false) (e:=17) cQ.o.2.2.1 cQ.o.2.2.2.1 cQ.o.2.2.2.2;exact⟨⟨by simpa using cQ.o.1.size,fun k o hk ho hc=>aN (aN (cQ.o.1.same k o hk ho hc) (by omega) _ _) (by omega) _ _⟩,.inr ⟨rfl,(cQ.o.2.1.setCell (by dsimp only;omega) _).setCell (by dsimp only;omega) _,q1,q2,q3,HLT.o⟩⟩
  ·have hi5:i<4096:=by omega
   have hdd:((i:Int) == 4096)=false:=beq_eq_false_iff_ne.2 (by omega);have HX':=aa hX.1;have AP:∀ g,(Value.slice pv i cv).ownBlock=some g->g≠V.heap.size:=fun g hg=>by have:=JF g hg;omega
   have bO:=aa (kV.up ((Below.refl _ X).alloc (Nat.le_refl _) (.cells #[.int .i64 e,.int .i64 yp] 75)));have bE:=aa (dR X [.int .i64 (e:Int),.int .i64 yp] 75);have jJ:am (i+1<=maxLen):=aa (by unfold maxLen;omega);have eV:am ((i+1) * 16<=140737488355328):=aa (by omega);have gm:am (U.heap.size<=(X.alloc (.cells #[.int .i64 e,.int .i64 yp] 75)).heap.size):=aa (by have:=HX.o.sz;simp;omega);have hsX:=HX.o.sz;have tbA:∀ o j,(X.alloc o).cell? ⟨V.heap.size,j,none⟩=_:=fun o=>ab (az o hX.2.1)
   clear hX jU kV Qp jv WF
   gi_wp2_with (gi_at_builtin;(refine qS _ rfl (.tmp 37) (.tmp 39) 54 rfl U.heap.size 75 i0 _ 2 16 Tryz.underlying54 bZ.o.1 bZ.o.2.1 bZ.o.2.2.1 bZ.o.2.2.2 rfl (by decide) _ i _ rfl bO.o ⟨X.heap.size,0,none⟩ 1 1 [.int .i64 (e:Int),.int .i64 yp] rfl rfl bE.o (by simp[Value.oneCell']) jJ.o eV.o gm.o ?_;intro v4 w6 mD fc IZ;obtain⟨av4,cv4,rfl⟩:=mD.slice;have UC:=sE bO.o fc ox.o (by omega);have c8:=ab UC;have f8:=aG UC))
   have TA:=fc.size;simp only[World.size_alloc]at TA;obtain⟨W7,tD⟩:∃ W7,W7=w6.setCell ⟨w4.heap.size,1,none⟩ (.slice av4 (i+1) cv4):=⟨_,rfl⟩;rw[<-tD]
   have hkU:∀ k,k<U.heap.size->k≠w4.heap.size->∀ o,X.heap[k]?=some o->W7.heap[k]?=some o:=fun k hk hn o ho=>by
    rw[tD];exact aN (sE bO.o fc ho hk) hn _ _
   have h78:W7.heap[w4.heap.size]?=some (.cells (eL 1 (.slice av4 (i+1) cv4)) 58):=by rw[tD];exact(aH UC _ _).trans rfl
   have h7r:aI W7 U.heap.size 75 2 (.slice av4 (i+1) cv4) (i+1) (cH (way.take (i+1))):=by
    rw[tD,List.take_succ_eq_append_getElem hi,HYW.o,kq];exact mD.put (fun g hg e=>by subst e;have:=(mD.lt _ hg).1;omega) _ _
   have TT:Below w4.heap.size w4 W7:=by rw[tD];exact(BV HX.o.old (by omega) (by omega) bO.o fc).setCell (by dsimp only;omega) _
   have h7s:W7.heap.size=w6.heap.size:=by rw[tD];simp
   have h7nc:∀ (k:Nat) (o:Obj),X.heap[k]?=some o->o.isCells=false->W7.heap[k]?=some o:=fun k o ho hc=>by
    rw[tD];exact aN (mZ bO.o fc ho hc) (fun e=>by subst e;rw[ox.o]at ho;cases ho;cases hc) _ _
   have Wt:∀ k,k<X.heap.size->k≠w4.heap.size->(∀ g,(Value.slice pv i cv).ownBlock=some g->k≠g)->W7.heap[k]?=X.heap[k]?:=fun k h1 h2 h3=>by
    rw[tD,Below.heap_setCell _ _ _ _ h2,fc.block k (by simp;omega) (fun e=>h3 k e.symm rfl)];exact Below.heap_alloc X _ k h1
   have h7b:W7.heap[V.heap.size]?=some (.cells #[.int .i64 e,.int .i64 yp] 75):=(Wt _ jH (by omega) (fun g hg e=>AP g hg e.symm)).trans bV.o;have Aq:=hkU _ (by omega) (by omega) _ HX.o.left;have h7sc:=HSC4.o.up TT;have H78:=aa h78;have H7R:=aa h7r;have H7O:=aa TT;have H7N:=aa h7nc;have H7K:=aa Wt;have H79:=aa Aq;obtain⟨qv,kv,t10,ev⟩:=h7sc.val;obtain⟨bv,ov,rfl,tev⟩:=ev e Uv;have t5:=ab (af TT Es.o) 0;have t9:=ab Aq 0;have z9:=aG Aq 0;have tl:=ab h7b;simp only[List.getElem?_toArray,List.getElem?_cons_zero]at t5 t9;have lZ:bits .and .i64 ((comM s (cF (way.take i)):Nat):Int) ((gY s e:Nat):Int)=((comM s (cF (way.take i)) &&& gY s e:Nat):Int):=zT _ _ (by have:=K0 s (cF (way.take i));omega) (by have:=KZ s e;omega);rw[<-fk.o]at lZ;have HOB4:=aa IZ;generalize comM s (cF (way.take i))=ma,gY s e=mb at t9 tev lZ;obtain⟨mc,td⟩:∃ mc,comM s (cF (way.take (i+1)))=mc:=⟨_,rfl⟩;rw[td]at lZ;have HMC:=aa td;clear tD hkU h78 h7r TT h7nc Wt h7b Aq h7sc ev td tb tbA t8 z8 mD fc UC c8 f8 IZ fk;refine lf 10 (fun ⟨_,_,h⟩=>h) (by kernel_rfl) (by kernel_rfl) (by kernel_rfl) (fun ops Lq hops hLq=>?_);simp only[List.take_succ_cons,List.take_zero,List.drop_succ_cons,List.drop_zero]at hLq ⊢;have CR:=aa hLq;clear hLq;have Sv:=aa hops;clear hops
   repeat still_step
   refine wpStill_nil ?_;refine CR.o _ ?_;clear t10 tev t5
   go_wp2_with fail
   obtain⟨W8,oX⟩:∃ W8,W8=(W7.setCell ⟨w4.heap.size+1,0,none⟩ (.int .i64 mc)).drew:=⟨_,rfl⟩;rw[<-oX];have h8s:W8.heap.size=W7.heap.size:=by rw[oX];simp
   have Qu:∀ k,k≠w4.heap.size+1->W8.heap[k]?=W7.heap[k]?:=fun k hk=>by rw[oX];exact Below.heap_setCell W7 _ _ _ hk
   have XN:W8.heap[w4.heap.size+1]?=some (.cells #[.int .i64 mc] 3):=by rw[oX];exact(aH (W:=W7) H79.o 0 _).trans rfl
   have h8o:Below w4.heap.size w4 W8:=by rw[oX];exact(H7O.o.setCell (by dsimp only;omega) _).drew
   have h88:=(Qu _ (by omega)).trans H78.o;have h8r:aI W8 U.heap.size 75 2 (.slice av4 (i+1) cv4) (i+1) (cH (way.take (i+1))):=H7R.o.keep fun g o hg ho=>(Qu g (by have:=(H7R.o.lt g hg).1;omega)).trans ho
   have h8n:∀ (k:Nat) (o:Obj),X.heap[k]?=some o->o.isCells=false->W8.heap[k]?=some o:=fun k o ho hc=>by
    rw[Qu k (fun e=>by subst e;rw[HX.o.left]at ho;cases ho;cases hc)];exact H7N.o k o ho hc
   have NA:(way.take (i+1)).length=i+1:=by rw[List.length_take];omega
   have hnT:∀ g,(Value.slice av4 (i+1) cv4).ownBlock=some g->¬ T g:=fun g hg ht=>by
    rcases HOB4.o with h|h
    ·rw[h]at hg;exact HV3'.o g hg ht
    ·rw[h]at hg;injection hg with hg
     have:=HX.o.tb g ht;simp at hg;omega
   have I0:am (Ea U.heap.size w4.heap.size (way.take (i+1)) T W8):=aa ⟨_,h88,by rw[NA];exact h8r,hnT⟩
   have gV:am (cM s (way.take (i+1))=decide (mc=0)):=aa (by
    rw[<-HMC.o]
    exact Fh dI.o fun y hy=>(F4.o y (List.mem_of_mem_take hy)).1.2)
   have WB:X.heap.size<=W8.heap.size:=by omega
   have H89:=aa XN;have H8O:=aa h8o;have H8N:=aa h8n;have H8K:=aa Qu;have qJ:=aa NA;have t9':=ab XN 0;simp only[List.getElem?_toArray,List.getElem?_cons_zero]at t9';clear oX Qu XN h8o h88 h8r h8n hnT t9 z9 lZ tl NA CR Sv;by_cases vM:mc=0
   ·have HF8:am (F=way.take (i+1)):=aa (by rw[tt.o];exact V9 hi HX'.o.no (by rw[gV.o,vM];rfl));have hmz:((mc:Int) == 0)=true:=by rw[vM];rfl
    clear vM
    gi_wp2
    exact⟨⟨WB,fun k o _ ho hc=>H8N.o k o ho hc⟩,.inl ⟨rfl,H8O.o,by omega,by rw[HF8.o];exact I0.o,by rw[HF8.o,qJ.o];omega⟩⟩
   ·have hmz:((mc:Int) == 0)=false:=beq_eq_false_iff_ne.2 (by omega);have fZ:am (cM s (way.take (i+1))=false):=aa (by rw[gV.o];exact decide_eq_false vM);clear vM
    gi_wp2
    refine⟨⟨WB,fun k hk=>?_,fun k o _ ho hc=>H8N.o k o ho hc⟩,H8O.o,by omega,I0.o,by rw[HMC.o];exact H89.o,aW (p:=fun j=>cM s (way.take (j+1))=false) HX'.o.no fZ.o,by omega,qJ.o,fun k hk=>Nat.lt_of_lt_of_le (HX.o.tb k hk) WB⟩;obtain⟨kZ,mr⟩:=HSS.o k hk
    have bP:k≠w4.heap.size/\k≠w4.heap.size+1:=by
     rcases kZ with h|h|h|h
     ·have:=hT k h;omega
     ·omega
     ·omega
     ·omega
    rw[H8K.o k bP.2];refine H7K.o k (by omega) bP.1 fun g hg e=>?_
    subst e;have hgU:=(df.o.lt k hg).1;rcases kZ with h|h|h|h
    ·exact HV3'.o k hg h
    ·omega
    ·omega
    ·omega
theorem Co(k:Int) (a:List Lk) (va vb:Value) (p1 p2 p3 q1 q2 q3:Option Addr) (c1 c2 c3 d1 d2 d3:Nat) (w:World) (ha:bJ w va a) (hb:bJ w vb a) :
  Calls Tryz.prog 20 #[.agg #[.int .i64 k,va,.slice p1 0 c1,.slice p2 0 c2,.slice p3 0 c3],.agg #[.int .i64 k,vb,.slice q1 0 d1,.slice q2 0 d2,.slice q3 0 d3]] w fun r w'=>r=.returned (.bool true)/\Below w.heap.size w w':=by
 have yJ:=aa (fun W (h:Below w.heap.size w W)=>MX va vb a a W (ha.up up_link h) (hb.up up_link h));obtain⟨pa,ca,rfl,_,_,_⟩:=ha.at;obtain⟨pb,cb,rfl,_,_,_⟩:=hb.at;rw[decide_eq_true (rfl:a=a)]at yJ;generalize a.length=n at yJ ⊢;clear ha hb
 go_enter Tryz.func20,Tryz.ntmps20
 go_wp2_with fail
 refine aQ (fun W=>Below w.heap.size w W/\W.heap[w.heap.size]?=some (.cells #[.int .i64 k,.slice pa n ca,.slice p1 0 c1,.slice p2 0 c2,.slice p3 0 c3] 58)/\W.heap[w.heap.size+1]?=some (.cells #[.int .i64 k,.slice pb n cb,.slice q1 0 d1,.slice q2 0 d2,.slice q3 0 d3] 58)) ⟨by go_grown,az _ (aq _ _),by have h:=aq (w.alloc (.cells #[.int .i64 k,.slice pa n ca,.slice p1 0 c1,.slice p2 0 c2,.slice p3 0 c3] 58)) (.cells #[.int .i64 k,.slice pb n cb,.slice q1 0 d1,.slice q2 0 d2,.slice q3 0 d3] 58);simpa using h⟩ (fun W0 bh=>?_);obtain⟨aJ,bK,nu⟩:=bh;refine(yJ.o W0 aJ).mono ?_;rintro r w1 ⟨rfl,aM⟩;have bL:=aa (ae aJ aM);have tA:=ab (af aM bK);have tC:=ab (af aM nu);clear aJ bK nu aM yJ
 go_wp2_with fail
 go_ret
 exact⟨rfl,bL.o⟩
theorem M7(t:Tk) (vc:Value) (w:World) (hv:bN w vc t.cases) :
  Calls Tryz.prog 79 #[.agg #[.int .i64 t.n,.int .i64 t.ins,.int .i64 t.outs,vc]] w fun e w'=>e=.returned (.bool (agreeB t))/\Below w.heap.size w w':=by
 obtain⟨pc,cc,rfl,l1,m1,e1⟩:=hv.at;clear hv;have E:=aa e1;clear e1
 have fZ:am (∀ k j,k<t.cases.length->j<(t.cases.getD k default).out.length->constB ((t.cases.getD k default).out.getD j [])=false->agreeB t=false):=aa fun k j hk hj h=>by
  cases ha:agreeB t with
  | false=>rfl
  | true=>rw[(qh t).1 ha k hk j hj]at h;cases h
 have jT:am ((∀ k,k<t.cases.length->∀ j,j<(t.cases.getD k default).out.length->constB ((t.cases.getD k default).out.getD j [])=true)->agreeB t=true):=aa fun h=>(qh t).2 h
 generalize agreeB t=ag at fZ jT
 go_enter Tryz.func79,Tryz.ntmps79
 go_wp2_with fail
 refine bF (fun W=>Below w.heap.size w W/\W.heap[w.heap.size]?=some (.cells #[.int .i64 t.n,.int .i64 t.ins,.int .i64 t.outs,.slice pc t.cases.length cc] 24)) ⟨by go_grown,aq _ _⟩ (fun W0 bh=>?_);have fE:=aa bh.1;have lz:=aa bh.2;clear bh
 go_loopw [3] (fun i wr=>∃ k:Nat,k<=t.cases.length/\i=.int .i64 k/\Below W0.heap.size W0 wr/\∀ q,q<k->∀ j,j<(t.cases.getD q default).out.length->constB ((t.cases.getD q default).out.getD j [])=true) (fun i _=>t.cases.length - (intOf i).toNat)
 ·exact⟨0,by omega,rfl,Below.refl _ _,fun q hq=>by omega⟩
 ·
  obtain⟨k,hk,rfl,aB,aV⟩:=hrel;have H:=aa aV;clear aV;have dD:=ae fE.o aB;have eY:=aa dD;have HBR0:=aa aB;have tA:=ab (af aB lz.o);by_cases aD:k<t.cases.length
  ·obtain⟨b1,o1,rfl,⟨x0,cx0,dq⟩,⟨x1,cx1,dA⟩,⟨x2,cx2,dW⟩⟩:=E.o k aD;have HG:=aa (aA default aD);obtain⟨p1,q1,rfl,wJ,Te,ex⟩:=dA.at;have EX:=aa ex;have D1:=aa cx1;have qo:=aa (fun j=>fZ.o k j aD);rw[HG.o]at qo;clear cx0 cx1 cx2 dq dA dW ex;generalize t.cases[k]=c at D1 EX HG qo wJ Te
   go_wp2_with fail
   clear tA;obtain⟨wrA,lV⟩:∃ x,x=wr:=⟨_,rfl⟩;subst lV
   go_loopw [4] (fun i wr=>∃ j:Nat,j<=c.out.length/\i=.int .i64 j/\Below W0.heap.size W0 wr/\∀ q,q<j->constB (c.out.getD q [])=true) (fun i _=>c.out.length - (intOf i).toNat)
   ·exact⟨0,by omega,rfl,HBR0.o,fun q hq=>by omega⟩
   ·
    obtain⟨j,hj,rfl,ni,aV⟩:=hrel;have H2:=aa aV;clear aV;have fg:=aa ni;have bV:=aa (ae fE.o ni);have tA:=ab (af ni lz.o);have d1:=ak bV.o D1.o;by_cases fJ:j<c.out.length
    ·obtain⟨b3,o3,rfl,vx,cvx,Ga⟩:=EX.o j fJ;have dv:=ak bV.o cvx;have Dk:=aa (Ga.up up_int bV.o);have Am:=aa (aA [] fJ);rw[Nat.mul_one]at dv;clear cvx Ga ni
     go_wp2_with fail
     refine(MY vx _ wr Dk.o).mono ?_;rintro e w4 ⟨rfl,bR⟩;have eU:=aa (ae fg.o bR);clear dv bR tA d1;cases hc:constB c.out[j] with
     | false=>
      have HR:=aa (qo.o j fJ (by rw[Am.o];exact hc));clear hc
      go_wp2_with fail
      go_ret
      exact⟨aR (by rw[HR.o]),ae fE.o eU.o⟩
     | true=>
      have HN:=aa (aW (p:=fun q=>constB (c.out.getD q [])=true) H2.o (by rw[Am.o];exact hc));clear hc
      go_wp2_with fail
      go_roundw
      ·exact⟨j+1,by omega,by go_num,eU.o,HN.o⟩
      ·simp[intOf];omega
    ·obtain rfl:j=c.out.length:=by omega
     have HN:am (∀ q,q<k+1->∀ j,j<(t.cases.getD q default).out.length->constB ((t.cases.getD q default).out.getD j [])=true):=aa (aW (p:=fun q=>∀ j,j<(t.cases.getD q default).out.length->constB ((t.cases.getD q default).out.getD j [])=true) H.o (by rw[HG.o];exact H2.o));clear ni
     go_wp2_with fail
     go_roundw
     ·exact⟨k+1,by omega,by go_num,fg.o,HN.o⟩
     ·simp[intOf];omega
  ·obtain rfl:k=t.cases.length:=by omega
   have HR:=aa (jT.o fun q hq=>H.o q hq)
   go_wp2_with fail
   go_ret
   exact⟨aR (by rw[HR.o]),eY.o⟩
theorem VG{s:Sys} {e v:Nat} (hv:v<oS s):(valuesS s e).contains (v:Int)=valB s e v:=by
 cases h:valB s e v with
 | true=>
  rw[List.contains_iff_mem];exact List.mem_map.2 ⟨v,List.mem_filter.2 ⟨List.mem_range.2 hv,h⟩,rfl⟩
 | false=>
  cases hc:(valuesS s e).contains (v:Int) with
  | false=>rfl
  | true=>
   rw[List.contains_iff_mem]at hc;obtain⟨y,hy,e1⟩:=List.mem_map.1 hc;have h2:=(List.mem_filter.1 hy).2;have:y=v:=by omega
   rw[this,h]at h2;cases h2
def Yn(l:List Int):MP:=⟨fun x W=>aX W x l,fun _ _ _ h hb=>h.up up_int hb⟩
theorem KC(s:Sys) (hs:SysOk s) (l:List Nat) (hl:∀ e∈l,e<eS s) (vl vc vs vt ve:Value) (w:World) (dy:IsSys w s vc vs vt ve) (hv:aX w vl (l.map fun e:Nat=>(e:Int))) :
  Calls Tryz.prog 86 #[.agg (cj s.prob vc vs s.n vt ve),vl] w fun r w'=>r=.returned (.int .i64 (comB s l))/\Below w.heap.size w w':=by
 have HS:=aa dy;obtain⟨⟨qc,kc,rfl⟩,⟨qs,ks,rfl⟩,⟨qt,kt,rfl⟩,⟨qe,ke,rfl⟩⟩:=bM dy;have HOF:=aa (fun e (he:e<eS s) W (hb:Below w.heap.size w W)=>Vp s hs e he _ _ _ _ W (HS.o.up hb));obtain⟨pl,cl,rfl,el⟩:=dY hv;obtain⟨_,_,_,_,cN,_⟩:=hv.at;rw[List.length_map]at el cN ⊢
 have EL:am (∀ i (hi:i<l.length),∃ b o,pl=some ⟨b,o,none⟩/\w.cell? ⟨b,o+i,none⟩=some (.int .i64 (l[i]:Nat))):=aa (fun i hi=>by
  obtain⟨b,o,e1,h1⟩:=el i hi;refine⟨b,o,e1,?_⟩;rw[h1]
  simp[hi])
 have HLM:am (∀ i (hi:i<l.length),l[i]<eS s):=aa (fun i hi=>hl _ (List.getElem_mem hi));have HHV:am (∀ e v,v<oS s->(valuesS s e).contains (v:Int)=valB s e v):=aa (fun e v h=>VG h);have C6:am (∀ v,v<oS s->(∀ j,j<v->l.all (fun e=>valB s e j)=false)->l.all (fun e=>valB s e v)=true->comB s l=v):=aa (fun v h1 h2 h3=>dB (oS s) v _ h1 h2 h3)
 have NE:am ((∀ j,j<oS s->l.all (fun e=>valB s e j)=false)->comB s l=-1):=aa (fun h=>by
  unfold comB;rcases bI (oS s) (fun v=>l.all fun e=>valB s e v) with ⟨e,_⟩|⟨k,hk,_,h2,_⟩
  ·exact e
  ·rw[h k hk]at h2;cases h2)
 have jy:am (∀ v i (hi:i<l.length),((l.take (i+1)).all fun e=>valB s e v)=(((l.take i).all fun e=>valB s e v)&&valB s l[i] v)):=aa (fun v i hi=>by rw[List.take_succ_eq_append_getElem hi,List.all_append];simp);have Qa:am (∀ v,((l.take l.length).all fun e=>valB s e v)=l.all fun e=>valB s e v):=aa (fun v=>by rw[List.take_length]);have Ja:am (∀ v,((l.take 0).all fun e=>valB s e v)=true):=aa (fun v=>by simp);generalize hA:(fun (v i:Nat)=>(l.take i).all fun e=>valB s e v)=A at *;have jy:am (∀ v i (hi:i<l.length),A v (i+1)=(A v i&&valB s l[i] v)):=aa (fun v i hi=>by rw[<-hA];exact jy.o v i hi);have Qa:am (∀ v,A v l.length=l.all fun e=>valB s e v):=aa (fun v=>by rw[<-hA];exact Qa.o v);have Ja:am (∀ v,A v 0=true):=aa (fun v=>by rw[<-hA];exact Ja.o v);generalize comB s l=r at C6 NE ⊢;have XO:s.prob.t.outs=(oS s:Int):=by have:=hs.outs;unfold oS at *;omega
 have TO:oS s<=8:=hs.outs.2.1;obtain⟨no,jv⟩:∃ no,oS s=no:=⟨_,rfl⟩;rw[jv]at HHV C6 NE XO TO;obtain⟨n,hn⟩:∃ n,l.length=n:=⟨_,rfl⟩;have HN:=aa hn;rw[hn]at cN ⊢;have HOS:=aa XO;clear dy hv el hl hA jv hn XO
 go_enter Tryz.func86,Tryz.ntmps86
 go_wp2_with fail
 refine bF (fun W=>Below w.heap.size w W/\∃ c,W.heap[w.heap.size]?=some (.cells c 35)/\c=cj s.prob (.slice qc s.prob.t.cases.length kc) (.slice qs s.prob.a.states.length ks) s.n (.slice qt s.tab.length kt) (.slice qe s.ex.length ke)) ⟨by go_grown,_,aq _ _,rfl⟩ (fun W1 cO=>?_);obtain⟨aM,_,eN,rfl⟩:=cO;have bL:=aa aM;have dN:=aa eN;clear aM eN
 go_loopw [5] (fun i wr=>∃ v:Nat,v<=no/\i=.int .i64 v/\Below W1.heap.size W1 wr/\∀ j,j<v->(l.all fun e=>valB s e j)=false) (fun i _=>no - (intOf i).toNat)
 ·exact⟨0,by omega,rfl,Below.refl _ _,fun j hj=>by omega⟩
 ·
  obtain⟨v,hv,rfl,aB,aV⟩:=hrel;have H:=aa aV;have aU:=aa aB;have tA:=ab (af aB dN.o);clear aV;by_cases aD:v<no
  ·have hd:decide ((v:Int)<s.prob.t.outs)=true:=decide_eq_true (by have:=HOS.o;omega);have HAV:am (A v 0=true):=aa (Ja.o v);clear aB
   go_wp2_with fail
   clear tA hd;obtain⟨wrA,lV⟩:∃ x,x=wr:=⟨_,rfl⟩;subst lV
   go_loopw [6,7] (fun a i wr=>∃ k:Nat,k<=n/\i=.int .i64 k/\a=.bool (A v k)/\Below W1.heap.size W1 wr) (fun _ i _=>n - (intOf i).toNat)
   ·exact⟨0,by omega,rfl,by rw[HAV.o],aU.o⟩
   ·
    obtain⟨k,hk,rfl,rfl,JA⟩:=hrel;have CP:=aa JA;by_cases yQ:k<n
    ·have mu:k<l.length:=by rw[HN.o];exact yQ
     obtain⟨b1,o1,rfl,c1⟩:=EL.o k mu;have FY:=aa (jy.o v k mu);have iV:=HLM.o k mu;generalize l[k]'mu=e at c1 FY iV;have C1:=aa (ak (ae bL.o JA) c1);have Ge:=aa (af JA dN.o);have ox:=aa (HHV.o e v aD);cases Dl:A v k with
     | false=>
      rw[Dl]at FY;clear JA c1 Dl iV
      go_wp2_with fail
      refine aE (by kernel_rfl) (by kernel_rfl) ?_
      repeat (go_big_quiet_step (fail))
      refine wpQuiet_nil ?_;rintro _ ⟨xq,rfl⟩
      go_wp2_with fail
      go_roundw
      ·exact⟨k+1,by omega,by go_num,by rw[FY.o];rfl,ae CP.o xq.ext⟩
      ·simp[intOf];omega
     | true=>
      rw[Dl]at FY;have Qh:=aa iV;generalize valB s e v=bv at FY ox;generalize s.prob.t.cases.length=nc,s.prob.a.states.length=ns,s.tab.length=nt,s.ex.length=ne at Ge HOF;clear JA c1 Dl iV
      go_wp2_with fail
      have hS:List.Nodup [22,23,24,25,26,27,28,29,30,31,32]:=by decide
      refine fD 11 [22,23,24,25,26,27,28,29,30,31,32] [MP.eq (.bool true),MP.eq (.bool true),MP.eq (.agg #[.int .i64 s.prob.t.n,.int .i64 s.prob.t.ins,.int .i64 s.prob.t.outs,.slice qc nc kc,.int .i64 s.prob.a.n,.slice qs ns ks,.int .i64 s.prob.rounds,.int .i64 s.n,.slice qt nt kt,.slice qe ne ke]),MP.eq (.slice (some ⟨b1,o1,none⟩) n cl),MP.eq (.int .i64 k),MP.eq (.pointer (some ⟨b1,o1+k,none⟩)),MP.eq (.int .i64 (e:Nat)),Yn (valuesS s e),MP.eq (.int .i64 v),MP.eq (.bool bv),MP.eq (.bool bv)] (by kernel_rfl) (by simp) hS rfl (by kernel_rfl) (by kernel_rfl) (by kernel_rfl) ?step ?tail
      case step=>
       intro xq Wq iq oq sq F hi ho hs hB ar hF;rcases (show iq=0\/iq=1\/iq=2\/iq=3\/iq=4\/iq=5\/iq=6\/iq=7\/iq=8\/iq=9\/iq=10 by omega) with rfl|rfl|rfl|rfl|rfl|rfl|rfl|rfl|rfl|rfl|rfl
       all_goals (obtain rfl:=dp ho.symm;obtain rfl:=dp hs.symm;clear hi ho hs)
       ·obtain⟨g6,h6⟩:=cW hF 6 (.bool true) (by decide) rfl;clear hF ar
        go_wp2_with fail
        exact bB.mk _ (Below.refl _ _) rfl rfl
       ·obtain⟨e0,f0⟩:=aT hF 0 22 _ hS rfl (by kernel_rfl) (ar ⟨0,.data⟩ (by simp) rfl);clear hF ar
        go_wp2_with fail
        exact bB.mk _ (Below.refl _ _) rfl rfl
       ·obtain⟨g2,h2⟩:=cW hF 2 (.pointer (some ⟨w.heap.size,0,none⟩)) (by decide) rfl;have m1:=fx hF 1 23 (.bool true) hS rfl (by kernel_rfl) (ar ⟨1,.guard⟩ (by simp) rfl);have tb:=ab (af hB Ge.o);clear hF ar
        go_wp2_with fail
        exact bB.mk _ (Below.refl _ _) rfl rfl
       ·obtain⟨g1,h1⟩:=cW hF 1 (.slice (some ⟨b1,o1,none⟩) n cl) (by decide) rfl;have m1:=fx hF 1 23 (.bool true) hS rfl (by kernel_rfl) (ar ⟨1,.guard⟩ (by simp) rfl);clear hF ar
        go_wp2_with fail
        exact bB.mk _ (Below.refl _ _) rfl rfl
       ·obtain⟨g7,h7⟩:=cW hF 7 (.int .i64 k) (by decide) rfl;have m1:=fx hF 1 23 (.bool true) hS rfl (by kernel_rfl) (ar ⟨1,.guard⟩ (by simp) rfl);clear hF ar
        go_wp2_with fail
        exact bB.mk _ (Below.refl _ _) rfl rfl
       ·obtain⟨e3,f3⟩:=aT hF 3 25 _ hS rfl (by kernel_rfl) (ar ⟨3,.data⟩ (by simp) rfl);obtain⟨e4,f4⟩:=aT hF 4 26 _ hS rfl (by kernel_rfl) (ar ⟨4,.data⟩ (by simp) rfl);have m1:=fx hF 1 23 (.bool true) hS rfl (by kernel_rfl) (ar ⟨1,.guard⟩ (by simp) rfl);clear hF ar
        go_wp2_with fail
        exact bB.mk _ (Below.refl _ _) rfl rfl
       ·obtain⟨e5,f5⟩:=aT hF 5 27 _ hS rfl (by kernel_rfl) (ar ⟨5,.data⟩ (by simp) rfl);have m1:=fx hF 1 23 (.bool true) hS rfl (by kernel_rfl) (ar ⟨1,.guard⟩ (by simp) rfl);have tb:=ak hB C1.o;clear hF ar
        go_wp2_with fail
        exact bB.mk _ (Below.refl _ _) rfl rfl
       ·obtain⟨e2,f2⟩:=aT hF 2 24 _ hS rfl (by kernel_rfl) (ar ⟨2,.data⟩ (by simp) rfl);obtain⟨e6,f6⟩:=aT hF 6 28 _ hS rfl (by kernel_rfl) (ar ⟨6,.data⟩ (by simp) rfl);have m1:=fx hF 1 23 (.bool true) hS rfl (by kernel_rfl) (ar ⟨1,.guard⟩ (by simp) rfl);clear hF ar
        go_wp2_with fail
        refine(HOF.o e Qh.o Wq (ae bL.o (ae CP.o hB))).mono ?_;rintro r w9 ⟨u9,rfl,hu9,eC⟩;have HU9:=aa hu9;clear hu9
        go_wp2_with fail
        exact bB.mk _ eC HU9.o rfl
       ·obtain⟨g5,h5⟩:=cW hF 5 (.int .i64 v) (by decide) rfl;have m1:=fx hF 1 23 (.bool true) hS rfl (by kernel_rfl) (ar ⟨1,.guard⟩ (by simp) rfl);clear hF ar
        go_wp2_with fail
        exact bB.mk _ (Below.refl _ _) rfl rfl
       ·have d7:=ar ⟨7,.data⟩ (by simp) rfl;obtain⟨e8,f8⟩:=aT hF 8 30 _ hS rfl (by kernel_rfl) (ar ⟨8,.data⟩ (by simp) rfl);have m1:=fx hF 1 23 (.bool true) hS rfl (by kernel_rfl) (ar ⟨1,.guard⟩ (by simp) rfl);have d7':aX Wq (xq 7) (valuesS s e):=d7;obtain⟨e7,f7⟩:=aT hF 7 29 _ hS rfl (by kernel_rfl) rfl;clear hF ar
        go_wp2_with fail
        refine(RY _ (valuesS s e) v Wq d7').mono ?_;rintro r w9 ⟨rfl,rfl⟩;rw[ox.o]
        go_wp2_with fail
        exact bB.mk _ (Below.refl _ _) rfl rfl
       ·obtain⟨e1,f1⟩:=aT hF 1 23 _ hS rfl (by kernel_rfl) (ar ⟨1,.data⟩ (by simp) rfl);obtain⟨e9,f9⟩:=aT hF 9 31 _ hS rfl (by kernel_rfl) (ar ⟨9,.data⟩ (by simp) rfl);clear hF ar
        go_wp2_with fail
        exact bB.mk _ (Below.refl _ _) rfl rfl
      case tail=>
       clear hS;intro xq W3 F hB aS hF;have e11:xq 10=.bool bv:=aS 10 (by omega);clear aS;simp only[bD,cX,List.setIfInBounds_toArray,List.set_cons_succ,List.set_cons_zero,Nat.reduceAdd]at hF;rw[e11]at hF;generalize xq 0=s0,xq 1=s1,xq 2=s2,xq 3=s3,xq 4=s4,xq 5=s5,xq 6=s6,xq 7=s7,xq 8=s8,xq 9=s9 at hF;subst hF;have bV:=aa (ae CP.o hB);clear hB e11;simp only[List.drop_succ_cons,List.drop_zero]
       go_wp2_with fail
       go_roundw
       ·exact⟨k+1,by omega,by go_num,by rw[FY.o];rfl,bV.o⟩
       ·simp[intOf];omega
    ·obtain rfl:k=n:=by omega
     have P4:=aa (Qa.o v);rw[HN.o]at P4;cases Dl:A v k with
     | true=>
      have HR:=aa (C6.o v aD H.o (by rw[<-P4.o];exact Dl));clear Dl JA
      go_wp2_with fail
      go_ret
      exact⟨aF (by rw[HR.o]),ae bL.o CP.o⟩
     | false=>
      have qE:=aa (aW (p:=fun j=>(l.all fun e=>valB s e j)=false) H.o (by rw[<-P4.o];exact Dl));clear Dl JA
      go_wp2_with fail
      go_roundw
      ·exact⟨v+1,by omega,by go_num,CP.o,qE.o⟩
      ·simp[intOf];omega
  ·obtain rfl:v=no:=by omega
   have hd:decide ((v:Int)<s.prob.t.outs)=false:=decide_eq_false (by have:=HOS.o;omega);have HR:=aa (NE.o H.o);clear aB
   go_wp2_with fail
   go_ret
   exact⟨aF (by rw[HR.o]),ae bL.o aU.o⟩
theorem M8{w w':World} {B:Nat} (h:w'.heap[B]?=w.heap[B]?) (o:Nat):w'.cell? ⟨B,o,none⟩=w.cell? ⟨B,o,none⟩:=by
 simp[World.cell?,h]
theorem Iz(s:Sys) (hs:SysOk s) (hE:eS s<=256) (vc vs vt ve:Value) (w:World) (dy:IsSys w s vc vs vt ve) :
  Calls Tryz.prog 42 #[.agg (cj s.prob vc vs s.n vt ve)] w fun r w'=>∃ u,r=.returned u/\aX w' u (choiceS s)/\Below w.heap.size w w':=by
 have HS:=aa dy;obtain⟨⟨qc,kc,rfl⟩,⟨qs,ks,rfl⟩,⟨qt,kt,rfl⟩,⟨qe,ke,rfl⟩⟩:=bM dy;have Yf:=aa (fun W (hb:Below w.heap.size w W)=>MR s hs hE _ _ _ _ W (HS.o.up hb));have HCO:=aa (fun (l:List Nat) (hl:∀ e∈l,e<eS s) vl W (hb:Below w.heap.size w W) (hv:aX W vl (l.map fun e:Nat=>(e:Int)))=>KC s hs l hl vl _ _ _ _ W (HS.o.up hb) hv);have Ll:am (chQ s 0 0=List.replicate (eS s) 0):=aa (RA s);have TP:am (∀ (k i:Nat) (hi:i<(memL (partsS s) k).length),chQ s k (i+1)=(chQ s k i).set ((memL (partsS s) k).getD i 0) (comB s (memL (partsS s) k))):=aa (fun k i hi=>RB hi);have HQN:=aa (RC s);have Xq:am (∀ k:Nat,(memL (partsS s) k).length=0->chQ s k 0=choiceS s):=aa (fun k h=>RD h);have rL:=aa (U2 s);have vy:=aa (m8 s);have WO:=aa (dK s);have CJ:am (∀ (k:Nat),∀ e∈memL (partsS s) k,e<eS s):=aa (fun k=>ry)
 have jd:am (∀ x∈choiceS s,bT x):=aa (fun x hx=>by
  obtain⟨e,_,rfl⟩:=List.mem_map.1 hx
  exact vf s _ hs.outs.2.1)
 have Xl:am (∀ l,bT (comB s l)):=aa (fun l=>vf s l hs.outs.2.1);generalize choiceS s=CH at Xq rL jd ⊢;generalize chQ s=Q at Ll TP HQN Xq rL vy;have gc:=jp (fun _=>0) (eS s) hE;have HZ0:am (fC (eS s) (fun _=>(0:Int)) 0=bG (List.replicate (eS s) 0)):=aa (by unfold fC bG;simp[List.map_const']);obtain⟨m,hm⟩:∃ m,eS s=m:=⟨_,rfl⟩;have J0:s.ex.length=eS s:=rfl;rw[J0,hm]at Yf HCO ⊢;rw[hm]at Ll rL vy WO CJ hE gc HZ0;clear dy hm J0
 go_enter Tryz.func42,Tryz.ntmps42
 go_wp2_with fail
 refine aQ (fun W=>Below w.heap.size w W/\∃ c,W.heap[w.heap.size]?=some (.cells c 35)/\c=cj s.prob (.slice qc s.prob.t.cases.length kc) (.slice qs s.prob.a.states.length ks) s.n (.slice qt s.tab.length kt) (.slice qe m ke)) ⟨by go_grown,_,aq _ _,rfl⟩ (fun W0 bh=>?_);obtain⟨aJ,_,bK,rfl⟩:=bh;refine(Yf.o W0 aJ).mono ?_;rintro r w1 ⟨u,rfl,hu,aM⟩;have HU:=aa hu;obtain⟨pu,cu,rfl,eu⟩:=dY hu;have bL:=aa (ae aJ aM);have dN:=aa (af aM bK);have Gh:=WO.o;rw[Gh]at HU ⊢;clear hu eu aJ aM bK Yf Gh
 go_wp2_with fail
 clear gc;refine bF (fun W=>Below w1.heap.size w1 W/\W.heap[w1.heap.size]?=some (.cells (bG (Q 0 0)) 3)) ⟨by go_grown,by rw[Ll.o,<-HZ0.o];exact aq _ _⟩ (fun W1 cO=>?_);obtain⟨jx,oR⟩:=cO;obtain⟨g,hg⟩:∃ g,w1.heap.size=g:=⟨_,rfl⟩;rw[hg]at oR ⊢;have gz:=aa jx;have oA:=aa oR;have vP:=aa hg;have hwg:=bL.o.size;rw[hg]at hwg;have Av:=aC dN.o;rw[hg]at Av;clear jx oR hg
 have I0:am (∀ (V:World) (l:List Int),V.heap[g]?=some (.cells (bG l) 3)->l.length=m->l=CH->aX V (.slice (some ⟨g,0,none⟩) m m) CH):=aa (fun V l h1 h2 h3=>by
  subst h3
  exact Fi h2 (by omega) h1 jd.o)
 go_loopw [5] (fun i wr=>∃ k:Nat,k<=m/\i=.int .i64 k/\Below w1.heap.size w1 wr/\wr.heap[g]?=some (.cells (bG (Q k 0)) 3)) (fun i _=>m - (intOf i).toNat)
 ·exact⟨0,by omega,rfl,gz.o,oA.o⟩
 ·
  obtain⟨k,hk,rfl,aB,oI⟩:=hrel;have aU:=aa aB;have AS:=aa oI;have dx:=ae bL.o aB;have eY:=aa dx;by_cases aD:k<m
  ·have LE:=aa (It _ (partsS s) k (by rw[WO.o];omega) wr (HU.o.up up_int aB));have sX:=aa (CJ.o k);have vG:=aa (TP.o k);have qo:=aa (HQN.o k);have XS:=aa (Xq.o k);clear aB oI dx;generalize memL (partsS s) k=L at LE sX vG qo XS
   go_wp2_with fail
   refine LE.o.mono ?_;rintro r w4 ⟨u4,rfl,mm,bR,IZ⟩;have vO:=aa mm;obtain⟨pl,cl,rfl,el⟩:=dY mm;rw[List.length_map]at el vO ⊢
   have EL:am (∀ i (hi:i<L.length),∃ b o,pl=some ⟨b,o,none⟩/\w4.cell? ⟨b,o+i,none⟩=some (.int .i64 (L.getD i 0:Nat))):=aa (fun i hi=>by
    obtain⟨b,o,e1,h1⟩:=el i hi;refine⟨b,o,e1,?_⟩;rw[h1]
    simp[hi])
   have JF:g<wr.heap.size:=(Array.getElem?_eq_some_iff.1 AS.o).1
   have HNG:am (∀ b o,pl=some ⟨b,o,none⟩->b≠g):=aa (fun b o hp=>by
    have:=IZ b (by rw[hp];rfl)
    omega)
   clear IZ JF;have eU:=aa (ae aU.o bR);have Ug:=aa (af bR AS.o);have y':=aa (ae eY.o bR);obtain⟨ln,xE⟩:∃ ln,L.length=ln:=⟨_,rfl⟩;have qJ:=aa xE;rw[xE]at vG qo XS EL vO ⊢;obtain⟨_,_,_,_,Qx,_⟩:=mm.at;rw[List.length_map,xE]at Qx;clear mm el bR xE LE;by_cases zc:ln=0
   ·have HR:=aa (I0.o w4 _ Ug.o (vy.o k 0) (XS.o zc));have hd:((ln:Int) == 0)=true:=by simp[zc]
    clear zc
    go_wp2_with fail
    go_ret
    exact⟨_,rfl,HR.o,y'.o⟩
   ·have hd:((ln:Int) == 0)=false:=beq_eq_false_iff_ne.2 (by omega);have tA:=ab (af eU.o dN.o)
    go_wp2_with fail
    refine(HCO.o L sX.o _ w4 y'.o vO.o).mono ?_;rintro r w5 ⟨rfl,dG⟩;generalize comB s L=cv at vG ⊢;have lC:=aa (ae eU.o dG);have HG5:=aa (af dG Ug.o);have H45:=aa dG;clear tA dG
    go_wp2_with fail
    obtain⟨wrA,lV⟩:∃ x,x=wr:=⟨_,rfl⟩;subst lV;have hsz4:=H45.o.size
    go_loopw [8] (fun i wr=>∃ j:Nat,j<=ln/\i=.int .i64 j/\Below w1.heap.size w1 wr/\wr.heap[g]?=some (.cells (bG (Q k j)) 3)/\(∀ q,q<w4.heap.size->q≠g->wr.heap[q]?=w4.heap[q]?)) (fun i _=>ln - (intOf i).toNat)
    ·exact⟨0,by omega,rfl,lC.o,HG5.o,fun q hq _=>H45.o.block q hq⟩
    ·
     obtain⟨j,hj,rfl,FK,LG,Cx⟩:=hrel;have Ls:=aa FK;have Am:=aa LG;have XV:=aa Cx;by_cases fJ:j<ln
     ·obtain⟨b1,o1,rfl,c1⟩:=EL.o j fJ;have HSJ:=aa (vG.o j fJ);have hjl':j<L.length:=by rw[qJ.o];exact fJ
      have hLj:L.getD j 0<m:=by
       rw[aA 0 hjl'];exact sX.o _ (List.getElem_mem hjl')
      generalize L.getD j 0=e at c1 HSJ hLj;have Db:=HNG.o b1 o1 rfl
      have hcw:wr.cell? ⟨b1,o1+j,none⟩=some (.int .i64 (e:Nat)):=by
       rw[<-c1];exact M8 (Cx b1 (fo c1) Db) (o1+j)
      have tG:=ab Am.o;have tF:=aG Am.o;have jG:(bG (Q k j))[e]?=some (.int .i64 ((Q k j).getD e 0)):=gi _ _ (by rw[vy.o];exact hLj)
      have HN7:am (∀ x,x=Value.int .i64 cv->Below w1.heap.size w1 (wr.setCell ⟨g,e,none⟩ x)/\(wr.setCell ⟨g,e,none⟩ x).heap[g]?=some (.cells (bG (Q k (j+1))) 3)/\(∀ q,q<w4.heap.size->q≠g->(wr.setCell ⟨g,e,none⟩ x).heap[q]?=w4.heap[q]?)):=aa (fun x hx=>by
       subst hx;refine⟨Ls.o.setCell (p:=⟨g,e,none⟩) (Nat.le_of_eq vP.o) _,?_,fun q hq hqg=>?_⟩
       ·rw[aH Am.o,mg,HSJ.o]
       ·rw[Below.heap_setCell _ _ _ _ hqg]
        exact XV.o q hq hqg)
      clear FK LG Cx c1
      go_wp2_with fail
      go_roundw
      ·exact⟨j+1,by omega,by go_num,HN7.o _ rfl⟩
      ·simp[intOf];omega
     ·obtain rfl:j=ln:=by omega
      have QU:am (wr.heap[g]?=some (.cells (bG (Q (k+1) 0)) 3)):=aa (by rw[<-qo.o];exact Am.o);clear FK LG Cx
      go_wp2_with fail
      go_roundw
      ·exact⟨k+1,by omega,by go_num,Ls.o,QU.o⟩
      ·simp[intOf];omega
  ·obtain rfl:k=m:=by omega
   have HR:=aa (I0.o wr _ oI (vy.o k 0) rL.o);clear aB oI dx
   go_wp2_with fail
   go_ret
   exact⟨_,rfl,HR.o,eY.o⟩
abbrev IA(s:Sys) (vc vs vt ve:Value) (w:World):Prop:=∀ W,Below w.heap.size w W->Calls Tryz.prog 39 #[.agg (cj s.prob vc vs s.n vt ve)] W fun r w'=>r=.returned (.int .i64 (readyE s))/\Below W.heap.size W w'
theorem Fp{s:Sys} (h:readyE s=0):SysOk s:=by
 refine iZ ?_;unfold readyE at h;split at h
 ·rename_i h1;exact absurd h h1
 ·omega
theorem KD(s:Sys) (hE:eS s<=256) (vc vs vt ve:Value) (w:World) (dy:IsSys w s vc vs vt ve) (hr:IA s vc vs vt ve w) :
  Calls Tryz.prog 14 #[.agg (cj s.prob vc vs s.n vt ve)] w fun r w'=>∃ u,r=.returned (.tuple #[u,.int .i64 (choiceR s).2])/\aX w' u (choiceR s).1/\Below w.heap.size w w':=by
 have HS:=aa dy;have FP:=aa hr;obtain⟨⟨qc,kc,rfl⟩,⟨qs,ks,rfl⟩,⟨qt,kt,rfl⟩,⟨qe,ke,rfl⟩⟩:=bM dy;have kT:=aa (fun (h:readyE s=0) W (hb:Below w.heap.size w W)=>Iz s (Fp h) hE _ _ _ _ W (HS.o.up hb));have dd:am (readyE s≠0->choiceR s=([],readyE s)):=aa fun h=>by unfold choiceR;rw[if_pos h]
 have eH:am (readyE s=0->choiceR s=(choiceS s,0)):=aa fun h=>by unfold choiceR;rw[if_neg (by omega)]
 generalize choiceR s=cr at dd eH ⊢;unfold IA at FP;generalize readyE s=re at dd eH FP kT;clear dy hr;generalize s.prob.t.cases.length=nc,s.prob.a.states.length=ns,s.tab.length=nt,s.ex.length=ne at FP kT ⊢
 go_enter Tryz.func14,Tryz.ntmps14
 go_wp2_with fail
 refine aQ (fun W=>Below w.heap.size w W/\∃ c,W.heap[w.heap.size]?=some (.cells c 35)/\c=cj s.prob (.slice qc nc kc) (.slice qs ns ks) s.n (.slice qt nt kt) (.slice qe ne ke)) ⟨by go_grown,_,aq _ _,rfl⟩ (fun W0 bh=>?_);obtain⟨aJ,_,bK,rfl⟩:=bh;refine(FP.o W0 aJ).mono ?_;rintro r w1 ⟨rfl,aM⟩;have bL:=aa (ae aJ aM);have tA:=ab (af aM bK);clear aJ bK aM FP;by_cases hz:re=0
 case neg=>
  have HV:=aa (dd.o hz);have LZ:(re != 0)=true:=by simpa using hz
  clear hz kT
  go_wp2_with fail
  go_ret2
  exact⟨_,by rw[HV.o];rfl,by rw[HV.o];exact mS _,bL.o⟩
 have HV:=aa (eH.o hz);have uj:=aa (kT.o hz);subst hz;clear kT
 go_wp2_with fail
 refine(uj.o w1 bL.o).mono ?_;rintro r w2 ⟨u,rfl,hu,aY⟩;have HU:=aa hu;have cV:=aa (ae bL.o aY);clear hu aY tA
 go_wp2_with fail
 go_ret2
 exact⟨_,by rw[HV.o];rfl,by rw[HV.o];exact HU.o,cV.o⟩
def Yu(cs:Array Value):MP:=⟨fun x W=>∃ b,x=.slice (some ⟨b,0,none⟩) 1 1/\W.heap[b]?=some (.cells cs 75),fun _ _ _ h hb=>by obtain⟨b,e,h1⟩:=h;exact⟨b,e,af hb h1⟩⟩
theorem IB{W:World} {b:Nat} {l:List Value} {t:TypeId} {f:Nat × Nat} (h:W.heap[b]?=some (.cells l.toArray t f)):∀ j u',l[j]?=some u'->W.cell? (Addr.add ⟨b,0,none⟩ j)=some u':=fun j u' hj=>by
 have e1:(Addr.add ⟨b,0,none⟩ j)=⟨b,j,none⟩:=by unfold Addr.add;split<;>simp_all
 rw[e1,ab h];simpa using hj
end Go.Proofs.YtmeaoneaephjeaaGreatDoor
namespace Go.Proofs.YtmeaoneaephjeaaGreatDoor
open Go.RowKit Go Go.Shelf
theorem PM{ls:List Lk} {n1 j k:Nat} (h:ls.length=n1+1) (hk:k+j=n1):cH ((jr ls).take (j+1))=cH ((jr ls).take j)++[.int .i64 (ls.getD k default).x,.int .i64 (if j=0 then -1 else(ls.getD (k+1) default).p)]:=by
 have hj:j<(jr ls).length:=by rw[lq];omega
 have h1:=wn ls j (by omega);rw[aA _ hj,show ls.length - 1 - j=k by omega,show ls.length - j=k+1 by omega]at h1;rw[List.take_succ_eq_append_getElem hj,kq,h1];rfl
structure OnR (w:World) (VS:List (Option Value)) (n:Nat) (ds CS:List Value) (D:Nat->Bool) (x:Nat->Value) (W:World):Prop where
 below:Below w.heap.size w W
 val:∀ j v,VS.getD j none=some v->D j=true->x j=v
 cl:D 4=true->D 9=false->aI W w.heap.size 75 2 (x 4) n ds
 bs:D 8=true->D 9=false->∃ g,x 8=.slice (some ⟨g,0,none⟩) 1 1/\W.heap[g]?=some (.cells CS.toArray 75)/\(D 4=true->(x 4).ownBlock≠some g)
 ap:D 9=true->aI W w.heap.size 75 2 (x 9) (n+1) (ds++CS)
 bd:D 10=true->x 10=.agg (eL 1 (x 9))
 al:D 11=true->∃ g,x 11=.pointer (some ⟨g,0,none⟩)/\w.heap.size<=g/\W.heap[g]?=some (.cells (if D 12=true then eL 1 (x 9) else eL 0 (.slice none 0 0)) 58)
 st:D 12=true->∀ j,j<12->D j=true
 dn:(D 9=true->D 8=true)/\(D 10=true->D 9=true)
section
variable {w W : World} {VS : List (Option Value)} {n : Nat} {ds CS : List Value} {D : Nat → Bool} {x : Nat → Value}
theorem OnR.start(x:Nat->Value) (hb:Below w.heap.size w W):OnR w VS n ds CS (fun _=>false) x W:=by
 refine⟨hb,?_,?_,?_,?_,?_,?_,?_,?_,?_⟩<;>intros<;>contradiction
theorem OnR.no12(h:OnR w VS n ds CS D x W) {i:Nat} (hi:i<12) (hD:D i=false):D 12=false:=by
 cases e:D 12 with
 | false=>rfl
 | true=>rw[h.st e i hi]at hD;cases hD
theorem OnR.set(h:OnR w VS n ds CS D x W) (i:Nat) (hi:i≠4/\i≠8/\i≠9/\i≠10/\i≠11/\i<12) {v:Value} (hD:D i=false) (hv:VS.getD i none=some v):OnR w VS n ds CS (br D i) (bQ x i v) W:=by
 have lS:=h.no12 hi.2.2.2.2.2 hD;have k:∀ j,j≠i->br D i j=D j:=fun j hj=>by simp[br,hj]
 have l:∀ j,j≠i->bQ x i v j=x j:=fun j hj=>eB _ _ hj
 refine⟨h.below,fun j u hu hd=>?_,?_,?_,?_,?_,?_,?_,by rw[k 9 (by omega),k 8 (by omega),k 10 (by omega)];exact h.dn⟩
 ·by_cases e:j=i
  ·subst e;rw[dC];exact dp (hv.symm.trans hu)
  ·rw[l j e];exact h.val j u hu (by rwa [k j e]at hd)
 ·rw[k 4 (by omega),k 9 (by omega),l 4 (by omega)];exact h.cl
 ·rw[k 8 (by omega),k 9 (by omega),k 4 (by omega),l 8 (by omega),l 4 (by omega)];exact h.bs
 ·rw[k 9 (by omega),l 9 (by omega)];exact h.ap
 ·rw[k 10 (by omega),l 10 (by omega),l 9 (by omega)];exact h.bd
 ·rw[k 11 (by omega),k 12 (by omega),l 11 (by omega),l 9 (by omega)];exact h.al
 ·rw[k 12 (by omega),lS];intro e;cases e
theorem OnR.grow{W':World} (h:OnR w VS n ds CS D x W) (hb:Below W.heap.size W W'):OnR w VS n ds CS D x W':=
 ⟨ae h.below hb,h.val,fun h1 h2=>(h.cl h1 h2).up hb,fun h1 h2=>by obtain⟨g,e,q,r⟩:=h.bs h1 h2;exact⟨g,e,af hb q,r⟩,fun h1=>(h.ap h1).up hb,h.bd,
  fun h1=>by obtain⟨g,e,q,r⟩:=h.al h1;exact⟨g,e,q,af hb r⟩,h.st,h.dn⟩
theorem OnR.clone{W':World} {u:Value} (h:OnR w VS n ds CS D x W) (hD:D 4=false) (hb:Below W.heap.size W W') (ho:aI W' W.heap.size 75 2 u n ds) (h4:VS.getD 4 none=none):OnR w VS n ds CS (br D 4) (bQ x 4 u) W':=by
 have lS:=h.no12 (by omega) hD;have g:=h.grow hb;have k:∀ j,j≠4->br D 4 j=D j:=fun j hj=>by simp[br,hj]
 have l:∀ j,j≠4->bQ x 4 u j=x j:=fun j hj=>eB _ _ hj
 refine⟨g.below,fun j u' hu hd=>?_,fun _ _=>?_,?_,?_,?_,?_,?_,by rw[k 9 (by omega),k 8 (by omega),k 10 (by omega)];exact h.dn⟩
 ·by_cases e:j=4
  ·subst e;rw[h4]at hu;cases hu
  ·rw[l j e];exact g.val j u' hu (by rwa [k j e]at hd)
 ·rw[dC];exact ho.base h.below.size
 ·rw[k 8 (by omega),k 9 (by omega),l 8 (by omega)];intro h1 h2;obtain⟨b,e,q,_⟩:=h.bs h1 h2;refine⟨b,e,af hb q,fun _ e4=>?_⟩;rw[dC]at e4;have h5:=(ho.lt b e4).1;have h6:=aC q;omega
 ·rw[k 9 (by omega),l 9 (by omega)];exact g.ap
 ·rw[k 10 (by omega),l 10 (by omega),l 9 (by omega)];exact g.bd
 ·rw[k 11 (by omega),k 12 (by omega),l 11 (by omega),l 9 (by omega)];exact g.al
 ·rw[k 12 (by omega),lS];intro e;cases e
theorem OnR.news(h:OnR w VS n ds CS D x W) (hD:D 8=false) (h8:VS.getD 8 none=none):OnR w VS n ds CS (br D 8) (bQ x 8 (.slice (some ⟨W.heap.size,0,none⟩) 1 1)) (W.alloc (.cells CS.toArray 75)):=by
 have lS:=h.no12 (by omega) hD;have h9:D 9=false:=by cases e:D 9 with|false=>rfl|true=>rw[h.dn.1 e]at hD;cases hD
 have hb:Below W.heap.size W (W.alloc (.cells CS.toArray 75)):=(Below.refl _ _).alloc (Nat.le_refl _) _;have g:=h.grow hb;have k:∀ j,j≠8->br D 8 j=D j:=fun j hj=>by simp[br,hj]
 have l:∀ j,j≠8->bQ x 8 (.slice (some ⟨W.heap.size,0,none⟩) 1 1) j=x j:=fun j hj=>eB _ _ hj
 refine⟨g.below,fun j u' hu hd=>?_,?_,fun _ _=>⟨W.heap.size,dC _ _ _,aq _ _,?_⟩,?_,?_,?_,?_,by rw[k 9 (by omega),k 10 (by omega)];exact⟨fun _=>by simp[br],h.dn.2⟩⟩
 ·by_cases e:j=8
  ·subst e;rw[h8]at hu;cases hu
  ·rw[l j e];exact g.val j u' hu (by rwa [k j e]at hd)
 ·rw[k 4 (by omega),k 9 (by omega),l 4 (by omega)];exact g.cl
 ·rw[k 4 (by omega),l 4 (by omega)];intro h1 e;have:=((h.cl h1 h9).lt _ e).2;omega
 ·rw[k 9 (by omega),l 9 (by omega)];exact g.ap
 ·rw[k 10 (by omega),l 10 (by omega),l 9 (by omega)];exact g.bd
 ·rw[k 11 (by omega),k 12 (by omega),l 11 (by omega),l 9 (by omega)];exact g.al
 ·rw[k 12 (by omega),lS];intro e;cases e
theorem OnR.app{w3:World} {v':Value} (h:OnR w VS n ds CS D x W) (hD:D 9=false) (ha:D 4=true) (Cw:D 8=true) (h9:VS.getD 9 none=none) (ho:aI w3 w.heap.size 75 2 v' (n+1) (ds++CS)) (hg:W.grownBy w3 (x 4).ownBlock):OnR w VS n ds CS (br D 9) (bQ x 9 v') w3:=by
 have lS:=h.no12 (by omega) hD;have xh:D 10=false:=by cases e:D 10 with|false=>rfl|true=>rw[h.dn.2 e]at hD;cases hD
 have hc:=h.cl ha hD;have k:∀ j,j≠9->br D 9 j=D j:=fun j hj=>by simp[br,hj]
 have l:∀ j,j≠9->bQ x 9 v' j=x j:=fun j hj=>eB _ _ hj
 have e9:br D 9 9=true:=by simp[br]
 refine⟨h.below.grown hg h.below.size (fun g e=>(hc.lt g e).1),fun j u' hu hd=>?_,?_,?_,fun _=>?_,?_,?_,?_,⟨fun _=>by rw[k 8 (by omega)];exact Cw,fun _=>e9⟩⟩
 ·by_cases e:j=9
  ·subst e;rw[h9]at hu;cases hu
  ·rw[l j e];exact h.val j u' hu (by rwa [k j e]at hd)
 ·rw[e9];intro _ e;cases e
 ·rw[e9];intro _ e;cases e
 ·rw[dC];exact ho
 ·rw[k 10 (by omega),xh];intro e;cases e
 ·rw[k 11 (by omega),k 12 (by omega),l 11 (by omega),lS];intro h1;obtain⟨g,e,q,r⟩:=h.al h1;rw[lS]at r;refine⟨g,e,q,?_⟩;rw[hg.block g (aC r) (fun e4=>hc.ne r (by decide) g e4.symm rfl)];exact r
 ·rw[k 12 (by omega),lS];intro e;cases e
theorem OnR.build(h:OnR w VS n ds CS D x W) (hD:D 10=false) (hd9:D 9=true) (xh:VS.getD 10 none=none):OnR w VS n ds CS (br D 10) (bQ x 10 (.agg (eL 1 (x 9)))) W:=by
 have lS:=h.no12 (by omega) hD;have k:∀ j,j≠10->br D 10 j=D j:=fun j hj=>by simp[br,hj]
 have l:∀ j,j≠10->bQ x 10 (.agg (eL 1 (x 9))) j=x j:=fun j hj=>eB _ _ hj
 refine⟨h.below,fun j u' hu hd=>?_,?_,?_,?_,fun _=>?_,?_,?_,by rw[k 9 (by omega),k 8 (by omega)];exact⟨h.dn.1,fun _=>hd9⟩⟩
 ·by_cases e:j=10
  ·subst e;rw[xh]at hu;cases hu
  ·rw[l j e];exact h.val j u' hu (by rwa [k j e]at hd)
 ·rw[k 4 (by omega),k 9 (by omega),l 4 (by omega)];exact h.cl
 ·rw[k 8 (by omega),k 9 (by omega),k 4 (by omega),l 8 (by omega),l 4 (by omega)];exact h.bs
 ·rw[k 9 (by omega),l 9 (by omega)];exact h.ap
 ·rw[dC,l 9 (by omega)]
 ·rw[k 11 (by omega),k 12 (by omega),l 11 (by omega),l 9 (by omega)];exact h.al
 ·rw[k 12 (by omega),lS];intro e;cases e
theorem OnR.box(h:OnR w VS n ds CS D x W) (hD:D 11=false) (IX:VS.getD 11 none=none):OnR w VS n ds CS (br D 11) (bQ x 11 (.pointer (some ⟨W.heap.size,0,none⟩))) (W.alloc (.cells (eL 0 (.slice none 0 0)) 58)):=by
 have lS:=h.no12 (by omega) hD;have g:=h.grow (W':=W.alloc (.cells (eL 0 (.slice none 0 0)) 58)) ((Below.refl _ _).alloc (Nat.le_refl _) _);have k:∀ j,j≠11->br D 11 j=D j:=fun j hj=>by simp[br,hj]
 have l:∀ j,j≠11->bQ x 11 (.pointer (some ⟨W.heap.size,0,none⟩)) j=x j:=fun j hj=>eB _ _ hj
 refine⟨g.below,fun j u' hu hd=>?_,?_,?_,?_,?_,fun _=>⟨W.heap.size,dC _ _ _,h.below.size,?_⟩,?_,by rw[k 9 (by omega),k 8 (by omega),k 10 (by omega)];exact h.dn⟩
 ·by_cases e:j=11
  ·subst e;rw[IX]at hu;cases hu
  ·rw[l j e];exact g.val j u' hu (by rwa [k j e]at hd)
 ·rw[k 4 (by omega),k 9 (by omega),l 4 (by omega)];exact g.cl
 ·rw[k 8 (by omega),k 9 (by omega),k 4 (by omega),l 8 (by omega),l 4 (by omega)];exact g.bs
 ·rw[k 9 (by omega),l 9 (by omega)];exact g.ap
 ·rw[k 10 (by omega),l 10 (by omega),l 9 (by omega)];exact g.bd
 ·rw[k 12 (by omega),lS];exact aq _ _
 ·rw[k 12 (by omega),lS];intro e;cases e
theorem OnR.store(h:OnR w VS n ds CS D x W) (hD:D 12=false) (aS:∀ j,j<12->D j=true) {g:Nat} (hx:x 11=.pointer (some ⟨g,0,none⟩)) (lS:VS.getD 12 none=none):OnR w VS n ds CS (br D 12) x (W.setRow g (eL 1 (x 9))):=by
 obtain⟨g',e,hg,hb⟩:=h.al (aS 11 (by omega));rw[hx]at e;injection e with e;injection e with e;injection e with e _ _
 subst e;rw[hD]at hb;have I5:=h.ap (aS 9 (by omega));have k:∀ j,j≠12->br D 12 j=D j:=fun j hj=>by simp[br,hj]
 have e9:br D 12 9=true:=by rw[k 9 (by omega)];exact aS 9 (by omega)
 refine⟨below_setRow h.below hg _,fun j u' hu hd=>?_,?_,?_,fun _=>?_,?_,fun _=>⟨g,hx,hg,?_⟩,fun _ j hj=>?_,by rw[k 9 (by omega),k 8 (by omega),k 10 (by omega)];exact h.dn⟩
 ·by_cases e:j=12
  ·subst e;rw[lS]at hu;cases hu
  ·exact h.val j u' hu (by rwa [k j e]at hd)
 ·rw[e9];intro _ e;cases e
 ·rw[e9];intro _ e;cases e
 ·refine I5.keep fun b o aY ho=>?_
  rw[setRow_other _ _ _ _ (I5.ne hb (by decide) b aY)];exact ho
 ·rw[k 10 (by omega)];exact h.bd
 ·rw[if_pos (by simp[br])];exact setRow_heap _ _ _ _ _ _ hb
 ·rw[k j (by omega)];exact aS j hj
end
end Go.Proofs.YtmeaoneaephjeaaGreatDoor
namespace Go.Proofs.YtmeaoneaephjeaaGreatDoor
open Go.ChangeShapes Go.WideShapes Go.ChangeAt Go.RowKit Go Go.Deep
section
variable {H : Type} {enc : TypeId × Value → H} {w : World}
abbrev nf(enc:TypeId × Value->H) (w:World) (fuel:Nat) (t:TypeId) (cs:List Value) (x:DataW H × List MemPlace):Prop:=DataW.trod enc Tryz.prog w 0 (fun _=>true) true fuel t cs=some x
def yw(t:TypeId) (d:DataW H):Prop:=∀ n∈d.weights Tryz.prog t,n<=reachBytes
theorem IC{n:Int} (h:(Lit.int .i64 n).wf=true):bT n:=by
 simp[Lit.wf,IntKind.min,IntKind.max,IntKind.bits,IntKind.signed]at h;unfold bT;omega
theorem Cp{ts:List TypeId} {ds:List (DataW H)} {j:Nat} {t:TypeId} {d:DataW H} (ht:ts[j]?=some t) (hd:ds[j]?=some d) {n:Nat} (hn:n∈d.weights Tryz.prog t):n∈DataW.weightsEach Tryz.prog ts ds:=DataW.weights_mem_each ht hd n hn
theorem Eb{e:TypeId} {ds:List (DataW H)} {d:DataW H} (hd:d∈ds) {n:Nat} (hn:n∈d.weights Tryz.prog e):n∈DataW.weightsAll Tryz.prog e ds:=by
 induction ds with
 | nil=>cases hd
 | cons x r ih=>
  simp only[DataW.weightsAll,List.mem_append];rcases List.mem_cons.1 hd with rfl|h
  ·exact .inl hn
  ·exact .inr (ih h)
theorem rt{fs:Array Field} {t:TypeId} {fuel:Nat} {cs:List Value} {x:DataW H × List MemPlace} (ht:Tryz.prog.underlying t=some (.struct fs)) (h:nf enc w fuel t cs x) (hz:yw t x.1) :
  cs.length=Tryz.prog.cellsOf t/\∃ n,∀ (i:Nat) (f:Field),fs[i]?=some f->∃ y,nf enc w n f.type ((cs.drop f.offset).take (Tryz.prog.cellsOf f.type)) y/\yw f.type y.1:=by
 obtain⟨xs,n,_,rfl,hl,hx,hf⟩:=DataW.trod_struct ht h;refine⟨hl,n,fun i f hi=>?_⟩;have aD:i<xs.length:=by have:=(Array.getElem?_eq_some_iff.1 hi).1;omega
 refine⟨xs[i],(hf i f hi).trans (List.getElem?_eq_getElem aD),fun m hm=>hz m ?_⟩;simp only[DataW.weights,ht];exact Cp (j:=i) (by simp[hi]) (by simp[aD]) hm
def qk(enc:TypeId × Value->H) (w:World) (t:TypeId) (k:Nat):Prop:=∀ fuel cs x,nf enc w fuel t cs x->cs.length=k/\∀ j,j<k->∃ n,cs[j]?=some (.int .i64 n)/\bT n
theorem wF{t:TypeId} (ht:Tryz.prog.underlying t=some (.int .i64)):qk enc w t 1:=fun fuel cs x h=>by
 obtain⟨n,rfl,_,hw⟩:=DataW.trod_int ht h;refine⟨rfl,fun j hj=>⟨n,?_,IC hw⟩⟩;obtain rfl:j=0:=by omega
 rfl
theorem ID{t e:TypeId} {m:Nat} (ht:Tryz.prog.underlying t=some (.array m e)) (he:Tryz.prog.underlying e=some (.int .i64)) (h1:Tryz.prog.cellsOf e=1) (hk:Tryz.prog.cellsOf t=m):qk enc w t m:=fun fuel cs x h=>by
 obtain⟨xs,n,_,_,hl,hx,hf⟩:=DataW.trod_array ht h;refine⟨by rw[hl,hk],fun j hj=>?_⟩;have h2:=hf j hj;rw[h1,Nat.mul_one,List.getElem?_eq_getElem (by omega)]at h2;obtain⟨v,e1,_,hw⟩:=DataW.trod_int he h2;refine⟨v,?_,IC hw⟩;have h3:((cs.drop j).take 1)[0]?=cs[j]?:=by simp
 rw[<-h3,e1];rfl
theorem wG{t:TypeId} {f0 f1:Field} {k0 k1:Nat} (ht:Tryz.prog.underlying t=some (.struct #[f0,f1])) (o0:f0.offset=0) (o1:f1.offset=k0) (c0:Tryz.prog.cellsOf f0.type=k0) (c1:Tryz.prog.cellsOf f1.type=k1) (ct:Tryz.prog.cellsOf t=k0+k1)
  (h0:qk enc w f0.type k0) (h1:qk enc w f1.type k1):qk enc w t (k0+k1):=fun fuel cs x h=>by
 obtain⟨xs,n,_,_,hl,hx,hf⟩:=DataW.trod_struct ht h;refine⟨by rw[hl,ct],fun j hj=>?_⟩;have g0:=hf 0 f0 rfl;have g1:=hf 1 f1 rfl;have dW:xs.length=2:=hx;rw[o0,c0,List.getElem?_eq_getElem (by omega)]at g0;rw[o1,c1,List.getElem?_eq_getElem (by omega)]at g1;by_cases kX:j<k0
 ·obtain⟨v,e,hv⟩:=(h0 _ _ _ g0).2 j kX;refine⟨v,?_,hv⟩;rw[<-e];simp[List.getElem?_take_of_lt kX]
 ·obtain⟨v,e,hv⟩:=(h1 _ _ _ g1).2 (j - k0) (by omega);refine⟨v,?_,hv⟩;rw[<-e,List.getElem?_take_of_lt (by omega),List.getElem?_drop,show k0+(j - k0)=j by omega]
def Cq{α:Type} (enc:TypeId × Value->H) (w:World) (t:TypeId) (k:Nat) (R:World->Nat->Nat->α->Prop):Prop:=
 ∀ fuel cs x b off,nf enc w fuel t cs x->yw t x.1->(∀ j,j<k->w.cell? ⟨b,off+j,none⟩=cs[j]?)->∃ a:α,R w b off a
theorem opn_int:Cq enc w 3 1 ge:=fun fuel cs x b off h _ hc=>by
 obtain⟨n,rfl,_,hw⟩:=DataW.trod_int Tryz.underlying3 h;exact⟨n,(hc 0 (by omega)).trans rfl,IC hw⟩
theorem wX{a:Addr} {j:Nat} (h:a.spot=none):a.add j=⟨a.block,a.off+j,none⟩:=by
 obtain⟨b,o,s⟩:=a;simp at h;subst h;unfold Addr.add;split<;>simp_all
theorem Ec{α:Type} {t e:TypeId} {k:Nat} {R:World->Nat->Nat->α->Prop} (hu:Tryz.prog.underlying t=some (.slice e)) (hk:Tryz.prog.cellsOf e=k) (eZ:0<k) (gH:8<=Tryz.prog.bytesOf e) (he:Cq enc w e k R)
  {fuel:Nat} {cs:List Value} {x:DataW H × List MemPlace} (h:nf enc w fuel t cs x) (hz:yw t x.1):∃ v l,cs=[v]/\fe k R w v l:=by
 rcases open_slice hu h with ⟨rfl,_⟩|⟨a,len,cap,m,n,D,Pl,rfl,_,hl,hm,CQ,rfl,hi⟩
 ·exact⟨_,[],rfl,none,0,rfl,⟨by simp,by omega,fun _=>rfl⟩,by simp,fun i x hx=>by simp at hx⟩
 ·have td:m=cap:=by rw[CQ];rfl
  subst td
  have hw:(((List.range len).map D).length+((List.range (m - len)).map fun j=>D (len+j)).length) * Tryz.prog.bytesOf e<=reachBytes:=by
   refine hz _ ?_;simp only[DataW.weights,hu];exact List.mem_cons_self
  have vJ:m * 8<=reachBytes:=by
   refine Nat.le_trans (Nat.mul_le_mul_left m gH) ?_;refine Nat.le_trans ?_ hw;rw[List.length_map,List.length_map,List.length_range,List.length_range];exact Nat.mul_le_mul_right _ (by omega)
  have hw3:m<=17592186044416:=by unfold reachBytes at vJ;omega
  have hsp0:0<len->a.spot=none:=fun h0=>by
   obtain⟨cs',hc,ht⟩:=hi 0 (by omega);rw[hk]at hc;obtain⟨_,bX,CV⟩:=World.cells?_some hc;have h1:=CV 0 eZ;rw[List.getElem?_eq_getElem (by omega)]at h1;have:=World.cell?_spot h1;simpa[Addr.add] using this
  have key:∀ i:Fin len,∃ y:α,a.spot=none/\R w a.block (a.off+i.1 * k) y:=fun i=>by
   obtain⟨cs',hc,ht⟩:=hi i.1 (by have:=i.2;omega);rw[hk]at hc;obtain⟨_,bX,CV⟩:=World.cells?_some hc;have hsp:=hsp0 (by have:=i.2;omega)
   have bY:yw e (D i.1):=fun q hq=>hz q (by
    simp only[DataW.weights,hu];refine List.mem_cons_of_mem _ (List.mem_append_left _ (Eb (d:=D i.1) ?_ hq))
    exact List.mem_map.2 ⟨i.1,List.mem_range.2 i.2,rfl⟩)
   obtain⟨y,hy⟩:=he _ _ _ a.block (a.off+i.1 * k) ht bY (fun j hj=>by
    rw[<-CV j hj,wX hsp,wX rfl])
   exact⟨y,hsp,hy⟩
  refine⟨_,List.ofFn fun i=>Classical.choose (key i),rfl,some a,m,by rw[List.length_ofFn],⟨by rw[List.length_ofFn];omega,by omega,fun h=>by cases h⟩,by rw[List.length_ofFn];omega,fun i y hy=>?_⟩;have gQ:i<len:=by have:=(List.getElem?_eq_some_iff.1 hy).1;simpa using this
  have e1:y=Classical.choose (key ⟨i,gQ⟩):=by
   rw[List.getElem?_ofFn]at hy;simp[gQ]at hy;exact hy.symm
  obtain⟨hs,hr⟩:=Classical.choose_spec (key ⟨i,gQ⟩);refine⟨a.block,a.off,?_,by rw[e1];exact hr⟩;obtain⟨b,o,s⟩:=a;simp at hs;subst hs;rfl
theorem yy{α:Type} {t e:TypeId} {k:Nat} {R:World->Nat->Nat->α->Prop} (hu:Tryz.prog.underlying t=some (.slice e)) (hk:Tryz.prog.cellsOf e=k) (eZ:0<k) (gH:8<=Tryz.prog.bytesOf e) (he:Cq enc w e k R):Cq enc w t 1 (mH k R):=fun fuel cs x b off h hz hc=>by
 obtain⟨v,l,rfl,hl⟩:=Ec hu hk eZ gH he h hz;exact⟨l,v,(hc 0 (by omega)).trans rfl,hl⟩
theorem IE{cs:List Value} {j:Nat} (h:j<cs.length):(cs.drop j).take 1=[cs[j]]:=by
 rw[List.drop_eq_getElem_cons h];rfl
theorem Tryz.cInt:Tryz.prog.cellsOf 3=1:=by kernel_rfl
theorem Tryz.cInts:Tryz.prog.cellsOf 38=1:=by kernel_rfl
theorem Tryz.cVecs:Tryz.prog.cellsOf 56=1:=by kernel_rfl
theorem Tryz.cCase:Tryz.prog.cellsOf 135=3:=by kernel_rfl
theorem Tryz.cGraph:Tryz.prog.cellsOf 139=6:=by kernel_rfl
theorem Tryz.cRound:Tryz.prog.cellsOf 141=7:=by kernel_rfl
theorem Tryz.cMove:Tryz.prog.cellsOf 143=8:=by kernel_rfl
theorem Tryz.cMoves:Tryz.prog.cellsOf 136=1:=by kernel_rfl
theorem opn_ints:Cq enc w 38 1 xG:=yy Tryz.underlying38 Tryz.cInt (by omega) (of_decide_eq_true (by kernel_rfl)) opn_int
theorem opn_vecs:Cq enc w 56 1 uH:=yy Tryz.underlying56 Tryz.cInts (by omega) (of_decide_eq_true (by kernel_rfl)) opn_ints
theorem opn_case:Cq enc w 135 3 GR:=fun fuel cs x b off h hz hc=>by
 obtain⟨hl,n,hf⟩:=rt Tryz.underlying135 h hz;rw[Tryz.cCase]at hl;obtain⟨y0,r0,z0⟩:=hf 0 _ rfl;obtain⟨y1,r1,z1⟩:=hf 1 _ rfl;obtain⟨y2,r2,z2⟩:=hf 2 _ rfl;change nf enc w n 38 ((cs.drop 0).take (Tryz.prog.cellsOf 38)) y0 at r0;change nf enc w n 56 ((cs.drop 1).take (Tryz.prog.cellsOf 56)) y1 at r1;change nf enc w n 56 ((cs.drop 2).take (Tryz.prog.cellsOf 56)) y2 at r2;rw[Tryz.cInts,IE (by omega)]at r0;rw[Tryz.cVecs,IE (by omega)]at r1 r2
 obtain⟨a0,h0⟩:=opn_ints _ _ _ b off r0 z0 (fun j hj=>by obtain rfl:j=0:=by omega
                                                         rw[hc 0 (by omega),List.getElem?_eq_getElem (by omega)];rfl)
 obtain⟨a1,h1⟩:=opn_vecs _ _ _ b (off+1) r1 z1 (fun j hj=>by obtain rfl:j=0:=by omega
                                                             rw[show off+1+0=off+1 by omega,hc 1 (by omega),List.getElem?_eq_getElem (by omega)];rfl)
 obtain⟨a2,h2⟩:=opn_vecs _ _ _ b (off+2) r2 z2 (fun j hj=>by obtain rfl:j=0:=by omega
                                                             rw[show off+2+0=off+2 by omega,hc 2 (by omega),List.getElem?_eq_getElem (by omega)];rfl)
 exact⟨⟨a0,a1,a2⟩,h0,h1,h2⟩
theorem allInt_graph:qk enc w 139 6:=wG (k0:=1) (k1:=5) Tryz.underlying139 rfl rfl Tryz.cInt (by kernel_rfl) Tryz.cGraph (wF Tryz.underlying3) (ID Tryz.underlying137 Tryz.underlying3 Tryz.cInt (by kernel_rfl))
theorem allInt_round:qk enc w 141 7:=wG (k0:=6) (k1:=1) Tryz.underlying141 rfl rfl Tryz.cGraph Tryz.cInt Tryz.cRound allInt_graph (wF Tryz.underlying3)
theorem allInt_move:qk enc w 143 8:=wG (k0:=7) (k1:=1) Tryz.underlying143 rfl rfl Tryz.cRound Tryz.cInt Tryz.cMove allInt_round (wF Tryz.underlying3)
theorem opn_move:Cq enc w 143 8 BG:=fun fuel cs x b off h _ hc=>by
 have ha:=(allInt_move _ _ _ h).2;obtain⟨n0,e0,i0⟩:=ha 0 (by omega);obtain⟨n1,e1,i1⟩:=ha 1 (by omega);obtain⟨n2,e2,i2⟩:=ha 2 (by omega);obtain⟨n3,e3,i3⟩:=ha 3 (by omega);obtain⟨n4,e4,i4⟩:=ha 4 (by omega);obtain⟨n5,e5,i5⟩:=ha 5 (by omega);obtain⟨n6,e6,i6⟩:=ha 6 (by omega);obtain⟨n7,e7,i7⟩:=ha 7 (by omega);exact⟨⟨⟨⟨n0,n1,n2,n3,n4,n5⟩,n6⟩,n7⟩,⟨⟨(hc 0 (by omega)).trans e0,i0⟩,⟨(hc 1 (by omega)).trans e1,i1⟩,⟨(hc 2 (by omega)).trans e2,i2⟩,⟨(hc 3 (by omega)).trans e3,i3⟩,⟨(hc 4 (by omega)).trans e4,i4⟩,⟨(hc 5 (by omega)).trans e5,i5⟩,⟨(hc 6 (by omega)).trans e6,i6⟩⟩,(hc 7 (by omega)).trans e7,i7⟩
theorem opn_moves:Cq enc w 136 1 Dx:=yy Tryz.underlying136 Tryz.cMove (by omega) (of_decide_eq_true (by kernel_rfl)) opn_move
theorem Yo{l:List Value} (h:l.length=7):∃ c0 c1 c2 c3 c4 c5 c6,l=[c0,c1,c2,c3,c4,c5,c6]:=by
 match l,h with
 | [c0,c1,c2,c3,c4,c5,c6],_=>exact⟨c0,c1,c2,c3,c4,c5,c6,rfl⟩
theorem Tryz.cProb:Tryz.prog.cellsOf 29=7:=by kernel_rfl
theorem Tryz.cTask:Tryz.prog.cellsOf 24=4:=by kernel_rfl
theorem Tryz.cAdv:Tryz.prog.cellsOf 27=2:=by kernel_rfl
theorem Tryz.cCases:Tryz.prog.cellsOf 22=1:=by kernel_rfl
theorem Tryz.cStates:Tryz.prog.cellsOf 25=1:=by kernel_rfl
theorem PN{fuel:Nat} {c0 c1 c2 c3:Value} {x:DataW H × List MemPlace} (h:nf enc w fuel 24 [c0,c1,c2,c3] x) (hz:yw 24 x.1) :
  ∃ (t:Tk),c0=.int .i64 t.n/\c1=.int .i64 t.ins/\c2=.int .i64 t.outs/\bN w c3 t.cases:=by
 obtain⟨_,n,hf⟩:=rt Tryz.underlying24 h hz;obtain⟨u0,s0,_⟩:=hf 0 _ rfl;obtain⟨u1,s1,_⟩:=hf 1 _ rfl;obtain⟨u2,s2,_⟩:=hf 2 _ rfl;obtain⟨u3,s3,q3⟩:=hf 3 _ rfl;change nf enc w n 3 (([c0,c1,c2,c3].drop 0).take (Tryz.prog.cellsOf 3)) u0 at s0;change nf enc w n 3 (([c0,c1,c2,c3].drop 1).take (Tryz.prog.cellsOf 3)) u1 at s1;change nf enc w n 3 (([c0,c1,c2,c3].drop 2).take (Tryz.prog.cellsOf 3)) u2 at s2;change nf enc w n 22 (([c0,c1,c2,c3].drop 3).take (Tryz.prog.cellsOf 22)) u3 at s3;change yw 22 u3.1 at q3;rw[Tryz.cInt]at s0 s1 s2;rw[Tryz.cCases]at s3;obtain⟨m0,e0,_,_⟩:=DataW.trod_int Tryz.underlying3 s0;obtain⟨m1,e1,_,_⟩:=DataW.trod_int Tryz.underlying3 s1;obtain⟨m2,e2,_,_⟩:=DataW.trod_int Tryz.underlying3 s2;obtain⟨vc,cases,e3,g3⟩:=Ec Tryz.underlying22 Tryz.cCase (by omega) (of_decide_eq_true (by kernel_rfl)) opn_case s3 q3;simp at e0 e1 e2 e3;subst e3;exact⟨⟨m0,m1,m2,cases⟩,e0,e1,e2,g3⟩
theorem Sd{fuel:Nat} {c0 c1:Value} {x:DataW H × List MemPlace} (h:nf enc w fuel 27 [c0,c1] x) (hz:yw 27 x.1) :
  ∃ (a:Adv),c0=.int .i64 a.n/\bA w c1 a.states:=by
 obtain⟨_,n,hf⟩:=rt Tryz.underlying27 h hz;obtain⟨u0,s0,_⟩:=hf 0 _ rfl;obtain⟨u1,s1,q1⟩:=hf 1 _ rfl;change nf enc w n 3 (([c0,c1].drop 0).take (Tryz.prog.cellsOf 3)) u0 at s0;change nf enc w n 25 (([c0,c1].drop 1).take (Tryz.prog.cellsOf 25)) u1 at s1;change yw 25 u1.1 at q1;rw[Tryz.cInt]at s0;rw[Tryz.cStates]at s1;obtain⟨m0,e0,_,_⟩:=DataW.trod_int Tryz.underlying3 s0;obtain⟨vs,states,e1,g1⟩:=Ec Tryz.underlying25 Tryz.cMoves (by omega) (of_decide_eq_true (by kernel_rfl)) opn_moves s1 q1;simp at e0 e1;subst e1;exact⟨⟨m0,states⟩,e0,g1⟩
theorem PO{fuel:Nat} {cs:List Value} {x:DataW H × List MemPlace} (h:nf enc w fuel 29 cs x) (hz:yw 29 x.1) :
  ∃ (p:Pb) (vc vs:Value),cs=[.int .i64 p.t.n,.int .i64 p.t.ins,.int .i64 p.t.outs,vc,.int .i64 p.a.n,vs,.int .i64 p.rounds]/\bN w vc p.t.cases/\bA w vs p.a.states:=by
 obtain⟨hl,n,hf⟩:=rt Tryz.underlying29 h hz;rw[Tryz.cProb]at hl;obtain⟨c0,c1,c2,c3,c4,c5,c6,rfl⟩:=Yo hl;obtain⟨y0,r0,z0⟩:=hf 0 _ rfl;obtain⟨y1,r1,z1⟩:=hf 1 _ rfl;obtain⟨y2,r2,z2⟩:=hf 2 _ rfl;change nf enc w n 24 (([c0,c1,c2,c3,c4,c5,c6].drop 0).take (Tryz.prog.cellsOf 24)) y0 at r0;change nf enc w n 27 (([c0,c1,c2,c3,c4,c5,c6].drop 4).take (Tryz.prog.cellsOf 27)) y1 at r1;change nf enc w n 3 (([c0,c1,c2,c3,c4,c5,c6].drop 6).take (Tryz.prog.cellsOf 3)) y2 at r2;rw[Tryz.cTask]at r0;rw[Tryz.cAdv]at r1;rw[Tryz.cInt]at r2;obtain⟨t,rfl,rfl,rfl,g0⟩:=PN r0 z0;obtain⟨a,rfl,g1⟩:=Sd r1 z1;obtain⟨m6,e6,_,_⟩:=DataW.trod_int Tryz.underlying3 r2;simp at e6;subst e6;exact⟨⟨t,a,m6⟩,c3,c5,rfl,g0,g1⟩
end
end Go.Proofs.YtmeaoneaephjeaaGreatDoor
namespace Go.Proofs.YtmeaoneaephjeaaGreatDoor
open Go.ChangeShapes Go.WideShapes Go.ChangeAt Go.WideMaps Go.WideElems Go.RowKit Go
set_option linter.unusedVariables false
theorem KE{P:Program} {w:World} {r:Reach} {base:Nat} {t:TypeId} {v:Value} (ht:P.underlying t=some (.int .u8)) (h:Value.okWide P w r base t v):∃ n,v=.int .u8 n/\0<=n/\n<=255:=by
 obtain⟨n,rfl⟩:=okWide_int ht h;simp only[Value.okWide,ht,Cell.okWide,Cell.ok]at h;have h2:=h.2;simp[IntKind.has,IntKind.min,IntKind.max,IntKind.signed,IntKind.bits]at h2;exact⟨n,rfl,by omega,by omega⟩
abbrev Cr {H : Type} : List (String × DataW H) := [("math/bits.deBruijn32tab", Rows.laid_math_bits_deBruijn32tab), ("math/bits.deBruijn64tab", Rows.laid_math_bits_deBruijn64tab)]
theorem Tryz.g64 : Tryz.prog.globalNamed "math/bits.deBruijn64tab" = some 1 := by kernel_rfl
theorem Tryz.t64:(Tryz.prog.globals[1]?).map (·.type)=some 268:=by kernel_rfl
theorem Tryz.cU8:Tryz.prog.cellsOf 5=1:=by kernel_rfl
theorem Se(os:Os) (args:Array Value):laidMetH Tryz.prog Cr ((World.doorLaid Tryz.prog 400 os).forCall (fun _ _=>0) ⟨#[],args,[]⟩).memory:=
 laidMetH_of_parts3 (fuel:=8) (laidMet_of_run' 8 (by kernel_rfl) (by kernel_rfl)) (by kernel_rfl) (by kernel_rfl)
theorem Yp{H:Type}:(Rows.laid_math_bits_deBruijn64tab:DataW H)=.agg (Lib.deBruijn64tab.map fun n:Nat=>.lit (.int .u8 ((n:Nat):Int))):=rfl
theorem Sf{H:Type} (tab:List Nat) (i:Nat) (hi:i<tab.length) (m:Int) (h:(tab.map fun n:Nat=>(DataW.lit (.int .u8 ((n:Nat):Int)):DataW H))[i]?=some (.lit (.int .u8 m))):m=((tab.getD i 0:Nat):Int):=by
 rw[List.getElem?_map,List.getElem?_eq_getElem hi]at h;rw[aA 0 hi];injection h with h
 injection h with h
 injection h with _ h
 exact h.symm
theorem VH{W:World} (h:laidMetH Tryz.prog Cr W):io W:=by
 rw[MakeChecks.laidMetH_plain _ _ _ (by kernel_rfl)]at h;obtain⟨ps,⟨g1,t1,cs1,f1,p1,q1,_,_,_,_,⟨g0,t0,cs0,f0,p0,q0,tk,ht0,UE,Ub,_⟩,_⟩,_⟩:=h;obtain rfl:=dp (Tryz.g64.symm.trans tk);obtain rfl:=dp (Tryz.t64.symm.trans ht0);rw[Yp]at Ub;obtain⟨xs,m1,rfl,dA,cN,ju,jY⟩:=DataW.trod_array Tryz.underlying268 Ub;simp only[Prod.mk.injEq,DataW.agg.injEq]at dA;intro i hi;have hi64:i<64:=hi;have h2:=jY i hi;rw[Tryz.cU8,Nat.mul_one,List.getElem?_eq_getElem (by omega)]at h2;obtain⟨m,e1,e2,_⟩:=DataW.trod_int Tryz.underlying5 h2;have hc:=World.var?_cell tk UE i;have h3:((cs0.toList.drop i).take 1)[0]?=cs0[i]?:=by simp
 rw[e1]at h3;have h4:cs0[i]?=some (.int .u8 m):=h3.symm.trans rfl;rw[h4]at hc;rw[hc]
 have h5:(xs.map (·.1))[i]?=some (.lit (.int .u8 m)):=by
  rw[List.getElem?_map,List.getElem?_eq_getElem (by omega),e2];rfl
 rw[<-dA.1]at h5;rw[Sf _ i hi m h5]
theorem Tryz.own:ownKnob Tryz.prog.godebug=none:=by kernel_rfl
theorem Tryz.laidOut:laidOutB Tryz.prog=true:=by kernel_rfl
end Go.Proofs.YtmeaoneaephjeaaGreatDoor
