/-
  A part of the proof: lemmas and contracts that the parts behind it use. Each one's conditions are its own premises.
-/
import Derived.Test.YtmeaoneaephjeaaGreatDoorK9
set_option maxRecDepth 100000
set_option maxHeartbeats 8000000
set_option linter.unusedVariables false
set_option linter.unusedSimpArgs false
namespace Go.Proofs.YtmeaoneaephjeaaGreatDoor
open Go.RowKit Go Go.Shelf
attribute [local go_sem] Oper.semAt_some
structure TwoBox (w:World) (n:Nat) (VS:List Value) (CA CZ CB:Array Value) (t:TypeId) (D:Nat->Bool) (x:Nat->Value) (W:World):Prop where
 below:Below w.heap.size w W
 val:∀ i,i<n->D i=true->x i=VS.getD i undef
 a:D n=true->∃ g,x n=.pointer (some ⟨g,0,none⟩)/\w.heap.size<=g/\W.heap[g]?=some (.cells (if D (n+2) then CA else CZ) t)
 b:D (n+1)=true->∃ g,x (n+1)=.pointer (some ⟨g,0,none⟩)/\w.heap.size<=g/\W.heap[g]?=some (.cells (if D (n+3) then CB else CZ) t)
 ne:D n=true->D (n+1)=true->x n≠x (n+1)
 oa:D (n+2)=true->D n=true
 ob:D (n+3)=true->D (n+1)=true
section
variable {w W : World} {n : Nat} {VS : List Value} {CA CZ CB : Array Value} {t : TypeId} {D : Nat → Bool} {x : Nat → Value}
theorem TwoBox.start(hb:Below w.heap.size w W):TwoBox w n VS CA CZ CB t (fun _=>false) x W:=by
 refine⟨hb,?_,?_,?_,?_,?_,?_⟩<;>intros<;>contradiction
theorem TwoBox.set(h:TwoBox w n VS CA CZ CB t D x W) (i:Nat) (hi:i<n) {v:Value} (_:D i=false) (hv:v=VS.getD i undef):TwoBox w n VS CA CZ CB t (bz D i) (cA x i v) W:=by
 have k:∀ j,n<=j->bz D i j=D j:=fun j hj=>by simp[bz,show j≠i by omega]
 have l:∀ j,n<=j->cA x i v j=x j:=fun j hj=>fK _ _ (by omega)
 refine⟨h.below,fun j hj hd=>?_,?_,?_,?_,?_,?_⟩
 ·by_cases e:j=i
  ·subst e;rw[ff,hv]
  ·rw[fK _ _ e];exact h.val j hj (by simpa[bz,e] using hd)
 ·rw[k n (by omega),k (n+2) (by omega),l n (by omega)];exact h.a
 ·rw[k (n+1) (by omega),k (n+3) (by omega),l (n+1) (by omega)];exact h.b
 ·rw[k n (by omega),k (n+1) (by omega),l n (by omega),l (n+1) (by omega)];exact h.ne
 ·rw[k n (by omega),k (n+2) (by omega)];exact h.oa
 ·rw[k (n+1) (by omega),k (n+3) (by omega)];exact h.ob
theorem TwoBox.alloc_a(h:TwoBox w n VS CA CZ CB t D x W) (hD:D n=false):TwoBox w n VS CA CZ CB t (bz D n) (cA x n (.pointer (some ⟨W.heap.size,0,none⟩))) (W.alloc (.cells CZ t)):=by
 have hz:=h.below.size;have h2:D (n+2)=false:=by cases e:D (n+2) with|false=>rfl|true=>rw[h.oa e]at hD;cases hD
 have k:∀ j,j≠n->bz D n j=D j:=fun j hj=>by simp[bz,hj]
 have l:∀ j,j≠n->cA x n (.pointer (some ⟨W.heap.size,0,none⟩)) j=x j:=fun j hj=>fK _ _ hj
 refine⟨h.below.alloc hz _,fun j hj hd=>?_,fun _=>⟨W.heap.size,ff _ _ _,hz,?_⟩,?_,fun _ hd=>?_,?_,?_⟩
 ·rw[l j (by omega)];exact h.val j hj (by rwa [k j (by omega)]at hd)
 ·rw[k (n+2) (by omega),h2];exact ak _ _
 ·rw[k (n+1) (by omega),k (n+3) (by omega),l (n+1) (by omega)]
  intro hd;obtain⟨g,g1,g2,g3⟩:=h.b hd;exact⟨g,g1,g2,am _ g3⟩
 ·rw[k (n+1) (by omega)]at hd
  obtain⟨g,g1,g2,g3⟩:=h.b hd;rw[ff,l (n+1) (by omega),g1];have:=ar g3;intro e;injection e with e;injection e with e;injection e with e;omega
 ·rw[k (n+2) (by omega),h2];intro e;cases e
 ·rw[k (n+1) (by omega),k (n+3) (by omega)];exact h.ob
theorem TwoBox.alloc_b(h:TwoBox w n VS CA CZ CB t D x W) (hD:D (n+1)=false):TwoBox w n VS CA CZ CB t (bz D (n+1)) (cA x (n+1) (.pointer (some ⟨W.heap.size,0,none⟩))) (W.alloc (.cells CZ t)):=by
 have hz:=h.below.size;have h2:D (n+3)=false:=by cases e:D (n+3) with|false=>rfl|true=>rw[h.ob e]at hD;cases hD
 have k:∀ j,j≠n+1->bz D (n+1) j=D j:=fun j hj=>by simp[bz,hj]
 have l:∀ j,j≠n+1->cA x (n+1) (.pointer (some ⟨W.heap.size,0,none⟩)) j=x j:=fun j hj=>fK _ _ hj
 refine⟨h.below.alloc hz _,fun j hj hd=>?_,?_,fun _=>⟨W.heap.size,ff _ _ _,hz,?_⟩,fun hd _=>?_,?_,?_⟩
 ·rw[l j (by omega)];exact h.val j hj (by rwa [k j (by omega)]at hd)
 ·rw[k n (by omega),k (n+2) (by omega),l n (by omega)]
  intro hd;obtain⟨g,g1,g2,g3⟩:=h.a hd;exact⟨g,g1,g2,am _ g3⟩
 ·rw[k (n+3) (by omega),h2];exact ak _ _
 ·rw[k n (by omega)]at hd
  obtain⟨g,g1,g2,g3⟩:=h.a hd;rw[ff,l n (by omega),g1];have:=ar g3;intro e;injection e with e;injection e with e;injection e with e;omega
 ·rw[k n (by omega),k (n+2) (by omega)];exact h.oa
 ·rw[k (n+3) (by omega),h2];intro e;cases e
theorem TwoBox.store_a(h:TwoBox w n VS CA CZ CB t D x W) (ha:D n=true) (_:D (n+2)=false) {g:Nat} (hg:x n=.pointer (some ⟨g,0,none⟩)):TwoBox w n VS CA CZ CB t (bz D (n+2)) x (W.setRow g CA):=by
 have k:∀ j,j≠n+2->bz D (n+2) j=D j:=fun j hj=>by simp[bz,hj]
 obtain⟨g',g1,g2,g3⟩:=h.a ha;obtain rfl:g'=g:=by rw[hg]at g1;injection g1 with e;injection e with e;injection e with e;exact e.symm
 refine⟨rR g2 h.below,fun j hj hd=>h.val j hj (by rwa [k j (by omega)]at hd),fun _=>⟨g',g1,g2,?_⟩,?_,?_,?_,?_⟩
 ·rw[show bz D (n+2) (n+2)=true by simp[bz]];exact qP _ _ _ _ _ g3
 ·rw[k (n+1) (by omega),k (n+3) (by omega)]
  intro hd;obtain⟨g4,q1,q2,q3⟩:=h.b hd;have bM:g4≠g':=fun e=>h.ne ha hd (by rw[g1,q1,e])
  exact⟨g4,q1,q2,by rw[setRow_other _ _ _ _ bM];exact q3⟩
 ·rw[k n (by omega),k (n+1) (by omega)];exact h.ne
 ·rw[k n (by omega)];exact fun _=>ha
 ·rw[k (n+1) (by omega),k (n+3) (by omega)];exact h.ob
theorem TwoBox.store_b(h:TwoBox w n VS CA CZ CB t D x W) (hb:D (n+1)=true) (_:D (n+3)=false) {g:Nat} (hg:x (n+1)=.pointer (some ⟨g,0,none⟩)):TwoBox w n VS CA CZ CB t (bz D (n+3)) x (W.setRow g CB):=by
 have k:∀ j,j≠n+3->bz D (n+3) j=D j:=fun j hj=>by simp[bz,hj]
 obtain⟨g',g1,g2,g3⟩:=h.b hb;obtain rfl:g'=g:=by rw[hg]at g1;injection g1 with e;injection e with e;injection e with e;exact e.symm
 refine⟨rR g2 h.below,fun j hj hd=>h.val j hj (by rwa [k j (by omega)]at hd),?_,fun _=>⟨g',g1,g2,?_⟩,?_,?_,?_⟩
 ·rw[k n (by omega),k (n+2) (by omega)]
  intro hd;obtain⟨g4,q1,q2,q3⟩:=h.a hd;have bM:g4≠g':=fun e=>h.ne hd hb (by rw[g1,q1,e])
  exact⟨g4,q1,q2,by rw[setRow_other _ _ _ _ bM];exact q3⟩
 ·rw[show bz D (n+3) (n+3)=true by simp[bz]];exact qP _ _ _ _ _ g3
 ·rw[k n (by omega),k (n+1) (by omega)];exact h.ne
 ·rw[k n (by omega),k (n+2) (by omega)];exact h.oa
 ·rw[k (n+1) (by omega)];exact fun _=>hb
end
theorem US{a b:Nat} (ha:a<1024) (hb:b<1024) (p:Nat):bits .or .i64 (a:Int) (b:Int)=((a ||| b:Nat):Int)/\hasB ((a ||| b:Nat):Int) p=(hasB (a:Int) p || hasB (b:Int) p):=by
 refine⟨vj _ _ (by omega) (by omega),?_⟩;rw[mT _ (by omega),mT _ (by omega),mT _ (by omega),Int.toNat_natCast,Int.toNat_natCast,Int.toNat_natCast,Nat.testBit_or]
theorem Kr{s:Sys} (hs:SysOk s) {e:Nat} (he:e<eS s):∃ a:Nat,fltS s e=a/\a<1024:=by
 have hn:=hs.n;have sy:=hs.flt e he;refine⟨(fltS s e).toNat,by omega,?_⟩;have h3:((2:Int) ^ nS s)=(((2:Nat) ^ nS s:Nat):Int):=by simp
 have h2:=sy.2;rw[h3]at h2;have h4:(2:Nat) ^ nS s<=2 ^ 5:=Nat.pow_le_pow_right (by omega) hn.2.1;omega
theorem J2(s:Sys) (hs:SysOk s) (B e f:Nat) (he:e<eS s) (hf:f<eS s) (w:World) (fO:ScAt w B s) :
  Calls Tryz.prog 97 #[.pointer (some ⟨B,0,none⟩),.int .i64 (e:Nat),.int .i64 (f:Nat)] w fun r w'=>r=.returned (.int .i64 (maskN (fun p=>linkB s p e f) (nS s):Nat))/\Below w.heap.size w w':=by
 obtain⟨qc,qs,qt,qe,qv,ql,q1,q2,_,_⟩:=fO.ex;obtain⟨b,o,_,ce,rfl,rfl,pw,nw,cw,pv,cv,c1,c2,c3,lT,ez,gP,b2,o2,pr,cr,rfl,c4,bV⟩:=iu hs q2.ex he;obtain⟨b',o',_,ce',e0,rfl,pw',nw',cw',pv',cv',d1,d2,d3,Ms,wN,sO,b3,o3,pr',cr',rfl,d4,l9⟩:=iu hs q2.ex hf;injection e0 with e1 e2 e3
 injection e1 with e1
 injection e1 with e1 e4
 subst e1 e4 e3;clear e2;have hn:=hs.n;obtain⟨rr,CV⟩:∃ rr:Nat,s.prob.rounds=rr:=⟨s.prob.rounds.toNat,by have:=hs.rounds.1;omega⟩;have Fs:s.prob.rounds.toNat=rr:=by omega
 have pL:rr<=6:=by have:=hs.rounds;omega
 rw[Fs]at lT Ms c3 c4 d3 d4;have lT:=lT.symm;have Ms:=Ms.symm;subst lT;subst Ms;have T6:Hid (w.cell? ⟨B,6,none⟩=some (.int .i64 (rr:Nat))):=aa ((ab q1 6).trans (by rw[<-CV];rfl));have T7:Hid (w.cell? ⟨B,7,none⟩=some (.int .i64 (nS s:Nat))):=aa ((ab q1 7).trans (by rw[<-hn.2.2.1];rfl));have T9:Hid (w.cell? ⟨B,9,none⟩=some (.slice (some ⟨b,o,none⟩) (eS s) ce)):=aa ((ab q1 9).trans rfl);have C1:=aa c1;have C2:=aa c2;have C3:=aa c3;have C4:=aa c4;have D1:=aa d1;have D2:=aa d2;have D3:=aa d3;have D4:=aa d4;obtain⟨fa,Cj,hfa2⟩:=Kr hs he;obtain⟨fb,V1,hfb2⟩:=Kr hs hf;have HK:Hid (∀ p,linkB s p e f=(!(hasB (fa:Int) p || hasB (fb:Int) p)&&decide (finS s e p=finS s f p))):=aa (fun p=>by unfold linkB;rw[Cj,V1,Bool.not_or]);obtain⟨pr2,cr2,e4,erow⟩:=fG bV;injection e4 with e41 e42 e43
 subst e41 e43;obtain⟨pr3,cr3,e5,erow'⟩:=fG l9;injection e5 with e51 e52 e53
 subst e51 e53;clear e42 e52
 have R1:Hid (∀ p,p<nS s->∃ b o,pr=some ⟨b,o,none⟩/\w.cell? ⟨b,o+p,none⟩=some (.int .i64 (finS s e p))):=aa (fun p hp=>by
  obtain⟨b,o,e1,h1⟩:=erow p (by simpa using hp);rw[nh hp]at h1
  exact⟨b,o,e1,h1⟩)
 have R2:Hid (∀ p,p<nS s->∃ b o,pr'=some ⟨b,o,none⟩/\w.cell? ⟨b,o+p,none⟩=some (.int .i64 (finS s f p))):=aa (fun p hp=>by
  obtain⟨b,o,e1,h1⟩:=erow' p (by simpa using hp);rw[nh hp]at h1
  exact⟨b,o,e1,h1⟩)
 rw[Cj]at ez gP;rw[V1]at wN sO;have AQ:=aa ez;have HF0:=aa gP;have pU:=aa wN;have HG0:=aa sO;have HM:=aa (fF (fun p=>linkB s p e f));have mO:=aa (fun k=>@xB (fun p=>linkB s p e f) k);have pN:=aa (fun k=>@qJ (fun p=>linkB s p e f) k);have ic:nS s<=5:=hn.2.1;generalize hm:eS s=m at *;generalize fq:nS s=n at *;clear q1 q2 c1 c2 c3 c4 d1 d2 d3 d4 bV l9 ez gP wN sO CV Fs Cj V1 fO hn hm fq hs erow erow'
 go_enter Tryz.func97,Tryz.ntmps97
 go_wp2_with fail
 obtain⟨VS,Db⟩:∃ VS:List Value,VS=[.pointer (some ⟨B,0,none⟩),.pointer (some ⟨B,0,none⟩),.pointer (some ⟨B,0,none⟩),.pointer (some ⟨B,9,none⟩),.slice (some ⟨b,o,none⟩) m ce,.int .i64 (e:Nat),.pointer (some ⟨b,o+e * 3,none⟩),.agg #[.int .i64 (cF s e).c,.slice pw rr cw,.slice (some ⟨b2,o2,none⟩) (rr+1) cv],.pointer (some ⟨B,0,none⟩),.pointer (some ⟨B,0,none⟩),.pointer (some ⟨B,0,none⟩),.pointer (some ⟨B,9,none⟩),.slice (some ⟨b,o,none⟩) m ce,.int .i64 (f:Nat),.pointer (some ⟨b,o+f * 3,none⟩),.agg #[.int .i64 (cF s f).c,.slice pw' rr cw',.slice (some ⟨b3,o3,none⟩) (rr+1) cv']]:=⟨_,rfl⟩;have hS:List.Nodup [14,15,16,17,18,19,20,21,22,23,24,25,26,27,28,29,8,9]:=by decide
 refine oI 20 [14,15,16,17,18,19,20,21,22,23,24,25,26,27,28,29,8,9] (TwoBox w 16 VS #[.int .i64 (cF s e).c,.slice pw rr cw,.slice (some ⟨b2,o2,none⟩) (rr+1) cv] #[.int .i64 0,.slice none 0 0,.slice none 0 0] #[.int .i64 (cF s f).c,.slice pw' rr cw',.slice (some ⟨b3,o3,none⟩) (rr+1) cv'] 89) (by kernel_rfl) rfl hS (by kernel_rfl) (fun x=>TwoBox.start (by go_grown)) ?step ?free ?last
 case step=>
  intro x W D i o' s' F ho uS hD aj hc hF;have hi:i<18:=(List.getElem?_eq_some_iff.1 uS).1;rcases (show i=0\/i=1\/i=2\/i=3\/i=4\/i=5\/i=6\/i=7\/i=8\/i=9\/i=10\/i=11\/i=12\/i=13\/i=14\/i=15\/i=16\/i=17 by omega) with rfl|rfl|rfl|rfl|rfl|rfl|rfl|rfl|rfl|rfl|rfl|rfl|rfl|rfl|rfl|rfl|rfl|rfl
  all_goals (obtain rfl:=cU ho.symm;obtain rfl:=cU uS.symm;clear hi ho uS;subst Db)
  ·obtain⟨e0,f0⟩:=bT hF 0 (.pointer (some ⟨B,0,none⟩)) (by decide) rfl
   clear hF aj
   go_wp2_with fail
   exact dp.mk (.pointer (some ⟨B,0,none⟩)) (hc.set 0 (by omega) hD rfl) rfl
  ·obtain⟨e0,f0⟩:=aJ hF 0 14 (.pointer (some ⟨B,0,none⟩)) hS rfl (by kernel_rfl) (hc.val 0 (by omega) (aj ⟨0,.data⟩ (by simp) rfl))
   clear hF aj
   go_wp2_with fail
   exact dp.mk (.pointer (some ⟨B,0,none⟩)) (hc.set 1 (by omega) hD rfl) rfl
  ·obtain⟨e1,f1⟩:=aJ hF 1 15 (.pointer (some ⟨B,0,none⟩)) hS rfl (by kernel_rfl) (hc.val 1 (by omega) (aj ⟨1,.data⟩ (by simp) rfl))
   clear hF aj
   go_wp2_with fail
   exact dp.mk (.pointer (some ⟨B,0,none⟩)) (hc.set 2 (by omega) hD rfl) rfl
  ·obtain⟨e2,f2⟩:=aJ hF 2 16 (.pointer (some ⟨B,0,none⟩)) hS rfl (by kernel_rfl) (hc.val 2 (by omega) (aj ⟨2,.data⟩ (by simp) rfl))
   clear hF aj
   go_wp2_with fail
   exact dp.mk (.pointer (some ⟨B,9,none⟩)) (hc.set 3 (by omega) hD rfl) rfl
  ·obtain⟨e3,f3⟩:=aJ hF 3 17 (.pointer (some ⟨B,9,none⟩)) hS rfl (by kernel_rfl) (hc.val 3 (by omega) (aj ⟨3,.data⟩ (by simp) rfl))
   have t9:=ai hc.below T9.out;clear hF aj
   go_wp2_with fail
   exact dp.mk (.slice (some ⟨b,o,none⟩) m ce) (hc.set 4 (by omega) hD rfl) rfl
  ·obtain⟨e0,f0⟩:=bT hF 1 (.int .i64 (e:Nat)) (by decide) rfl
   clear hF aj
   go_wp2_with fail
   exact dp.mk (.int .i64 (e:Nat)) (hc.set 5 (by omega) hD rfl) rfl
  ·obtain⟨e4,f4⟩:=aJ hF 4 18 (.slice (some ⟨b,o,none⟩) m ce) hS rfl (by kernel_rfl) (hc.val 4 (by omega) (aj ⟨4,.data⟩ (by simp) rfl))
   obtain⟨e5,f5⟩:=aJ hF 5 19 (.int .i64 (e:Nat)) hS rfl (by kernel_rfl) (hc.val 5 (by omega) (aj ⟨5,.data⟩ (by simp) rfl));clear hF aj
   go_wp2_with fail
   exact dp.mk (.pointer (some ⟨b,o+e * 3,none⟩)) (hc.set 6 (by omega) hD rfl) rfl
  ·obtain⟨e6,f6⟩:=aJ hF 6 20 (.pointer (some ⟨b,o+e * 3,none⟩)) hS rfl (by kernel_rfl) (hc.val 6 (by omega) (aj ⟨6,.data⟩ (by simp) rfl))
   have u1:=ai hc.below C1.out;have u2:=ai hc.below C2.out;have u3:=ai hc.below C3.out;clear hF aj
   go_wp2_with fail
   exact dp.mk (.agg #[.int .i64 (cF s e).c,.slice pw rr cw,.slice (some ⟨b2,o2,none⟩) (rr+1) cv]) (hc.set 7 (by omega) hD rfl) rfl
  ·obtain⟨e0,f0⟩:=bT hF 0 (.pointer (some ⟨B,0,none⟩)) (by decide) rfl
   clear hF aj
   go_wp2_with fail
   exact dp.mk (.pointer (some ⟨B,0,none⟩)) (hc.set 8 (by omega) hD rfl) rfl
  ·obtain⟨e8,f8⟩:=aJ hF 8 22 (.pointer (some ⟨B,0,none⟩)) hS rfl (by kernel_rfl) (hc.val 8 (by omega) (aj ⟨8,.data⟩ (by simp) rfl))
   clear hF aj
   go_wp2_with fail
   exact dp.mk (.pointer (some ⟨B,0,none⟩)) (hc.set 9 (by omega) hD rfl) rfl
  ·obtain⟨e9,f9⟩:=aJ hF 9 23 (.pointer (some ⟨B,0,none⟩)) hS rfl (by kernel_rfl) (hc.val 9 (by omega) (aj ⟨9,.data⟩ (by simp) rfl))
   clear hF aj
   go_wp2_with fail
   exact dp.mk (.pointer (some ⟨B,0,none⟩)) (hc.set 10 (by omega) hD rfl) rfl
  ·obtain⟨e10,f10⟩:=aJ hF 10 24 (.pointer (some ⟨B,0,none⟩)) hS rfl (by kernel_rfl) (hc.val 10 (by omega) (aj ⟨10,.data⟩ (by simp) rfl))
   clear hF aj
   go_wp2_with fail
   exact dp.mk (.pointer (some ⟨B,9,none⟩)) (hc.set 11 (by omega) hD rfl) rfl
  ·obtain⟨e11,f11⟩:=aJ hF 11 25 (.pointer (some ⟨B,9,none⟩)) hS rfl (by kernel_rfl) (hc.val 11 (by omega) (aj ⟨11,.data⟩ (by simp) rfl))
   have t9:=ai hc.below T9.out;clear hF aj
   go_wp2_with fail
   exact dp.mk (.slice (some ⟨b,o,none⟩) m ce) (hc.set 12 (by omega) hD rfl) rfl
  ·obtain⟨e0,f0⟩:=bT hF 2 (.int .i64 (f:Nat)) (by decide) rfl
   clear hF aj
   go_wp2_with fail
   exact dp.mk (.int .i64 (f:Nat)) (hc.set 13 (by omega) hD rfl) rfl
  ·obtain⟨e12,f12⟩:=aJ hF 12 26 (.slice (some ⟨b,o,none⟩) m ce) hS rfl (by kernel_rfl) (hc.val 12 (by omega) (aj ⟨12,.data⟩ (by simp) rfl))
   obtain⟨e13,f13⟩:=aJ hF 13 27 (.int .i64 (f:Nat)) hS rfl (by kernel_rfl) (hc.val 13 (by omega) (aj ⟨13,.data⟩ (by simp) rfl));clear hF aj
   go_wp2_with fail
   exact dp.mk (.pointer (some ⟨b,o+f * 3,none⟩)) (hc.set 14 (by omega) hD rfl) rfl
  ·obtain⟨e14,f14⟩:=aJ hF 14 28 (.pointer (some ⟨b,o+f * 3,none⟩)) hS rfl (by kernel_rfl) (hc.val 14 (by omega) (aj ⟨14,.data⟩ (by simp) rfl))
   have u1:=ai hc.below D1.out;have u2:=ai hc.below D2.out;have u3:=ai hc.below D3.out;clear hF aj
   go_wp2_with fail
   exact dp.mk (.agg #[.int .i64 (cF s f).c,.slice pw' rr cw',.slice (some ⟨b3,o3,none⟩) (rr+1) cv']) (hc.set 15 (by omega) hD rfl) rfl
  ·clear hF aj
   go_wp2_with fail
   exact dp.mk (.pointer (some ⟨W.heap.size,0,none⟩)) (hc.alloc_a hD) rfl
  ·clear hF aj
   go_wp2_with fail
   exact dp.mk (.pointer (some ⟨W.heap.size,0,none⟩)) (hc.alloc_b hD) rfl
 case free=>
  intro x W D i o' F ho h6 h8 hD aj hc hF;rcases (show i=18\/i=19 by simp at h6;omega) with rfl|rfl
  ·obtain rfl:=cU ho.symm
   have g7:=hc.val 7 (by omega) (aj ⟨7,.data⟩ (by simp) rfl);have gA:=aj ⟨16,.data⟩ (by simp) rfl;obtain⟨g,g1,g2,g3⟩:=hc.a gA;rw[hD]at g3;obtain⟨e7,_⟩:=aJ hF 7 21 (.agg #[.int .i64 (cF s e).c,.slice pw rr cw,.slice (some ⟨b2,o2,none⟩) (rr+1) cv]) hS rfl (by kernel_rfl) (by rw[g7,Db];rfl);obtain⟨e8,_⟩:=aJ hF 16 8 (.pointer (some ⟨g,0,none⟩)) hS rfl (by kernel_rfl) g1;refine wpList_store_row rfl 89 (.tmp 8) (.tmp 21) rfl g #[.int .i64 (cF s e).c,.slice pw rr cw,.slice (some ⟨b2,o2,none⟩) (rr+1) cv] e8 e7 89 _ g3 (by kernel_rfl) (by kernel_rfl) (by simp[Value.oneCell']) ?_;exact⟨rfl,hc.store_a gA hD g1⟩
  ·obtain rfl:=cU ho.symm
   have g7:=hc.val 15 (by omega) (aj ⟨15,.data⟩ (by simp) rfl);have gA:=aj ⟨17,.data⟩ (by simp) rfl;obtain⟨g,g1,g2,g3⟩:=hc.b gA;rw[hD]at g3;obtain⟨e7,_⟩:=aJ hF 15 29 (.agg #[.int .i64 (cF s f).c,.slice pw' rr cw',.slice (some ⟨b3,o3,none⟩) (rr+1) cv']) hS rfl (by kernel_rfl) (by rw[g7,Db];rfl);obtain⟨e8,_⟩:=aJ hF 17 9 (.pointer (some ⟨g,0,none⟩)) hS rfl (by kernel_rfl) g1;refine wpList_store_row rfl 89 (.tmp 9) (.tmp 29) rfl g #[.int .i64 (cF s f).c,.slice pw' rr cw',.slice (some ⟨b3,o3,none⟩) (rr+1) cv'] e8 e7 89 _ g3 (by kernel_rfl) (by kernel_rfl) (by simp[Value.oneCell']) ?_;exact⟨rfl,hc.store_b gA hD g1⟩
 case last=>
  intro x W1 D F aP hc hF;obtain⟨g1,a1,a2,a3⟩:=hc.a (aP 16 (by omega));obtain⟨g2,z1,z2,z3⟩:=hc.b (aP 17 (by omega));rw[aP 18 (by omega)]at a3;rw[aP 19 (by omega)]at z3;have bC:=aa hc.below;have pU:=aa a3;have rA:=aa z3;clear hc aP Db hS a2 a3 z2 z3;simp only[bd,cJ,List.setIfInBounds_toArray,List.set_cons_succ,List.set_cons_zero,Nat.reduceAdd]at hF;simp only[a1,z1]at hF;generalize x 0=s0,x 1=s1,x 2=s2,x 3=s3,x 4=s4,x 5=s5,x 6=s6,x 7=s7,x 8=s8,x 9=s9,x 10=s10,x 11=s11,x 12=s12,x 13=s13,x 14=s14,x 15=s15 at hF;subst hF;clear a1 z1;have t7:=ai bC.out T7.out
  go_wp2_with fail
  clear t7
  go_loopw [7,36] (fun v i wr=>∃ k:Nat,k<=n/\i=.int .i64 k/\v=.int .i64 (maskN (fun p=>linkB s p e f) k:Nat)/\Below w.heap.size w wr/\wr.heap[g1]?=some (.cells #[.int .i64 (cF s e).c,.slice pw rr cw,.slice (some ⟨b2,o2,none⟩) (rr+1) cv] 89)/\wr.heap[g2]?=some (.cells #[.int .i64 (cF s f).c,.slice pw' rr cw',.slice (some ⟨b3,o3,none⟩) (rr+1) cv'] 89)) (fun _ i _=>n - (intOf i).toNat)
  case atStart=>exact⟨0,by omega,rfl,rfl,bC.out,pU.out,rA.out⟩
  case round=>
   clear bC pU rA;obtain⟨k,hk,rfl,rfl,aq,ha,hc⟩:=hrel;have aR:=aa aq;have HA:=aa ha;have HC:=aa hc;by_cases az:k<n
   ·have gL:maskN (fun p=>linkB s p e f) k<1024:=by
     have h1:=HM.out k;have h2:(2:Nat) ^ k<=2 ^ 5:=Nat.pow_le_pow_right (by omega) (by omega);omega
    obtain⟨b6,o6,rfl,c6⟩:=R1.out k az;obtain⟨b7,o7,rfl,c7⟩:=R2.out k az;have HL:=aa (HK.out k);obtain⟨xe,hxe⟩:∃ xe,finS s e k=xe:=⟨_,rfl⟩;obtain⟨xf,hxf⟩:∃ xf,finS s f k=xf:=⟨_,rfl⟩;rw[hxe]at c6 HL;rw[hxf]at c7 HL;have tA:=ab ha;have tB:=ab hc;have t6:=ai aq T6.out;have y4:∀ z:ExtW wr,z.val.cell? ⟨b2,o2+rr,none⟩=_:=fun z=>ai (ae aR.out z.ext) C4.out
    have y5:∀ z:ExtW wr,z.val.cell? ⟨b3,o3+rr,none⟩=_:=fun z=>ai (ae aR.out z.ext) D4.out
    have y6:∀ z:ExtW wr,z.val.cell? ⟨b6,o6+k,none⟩=_:=fun z=>ai (ae aR.out z.ext) c6
    have y7:∀ z:ExtW wr,z.val.cell? ⟨b7,o7+k,none⟩=_:=fun z=>ai (ae aR.out z.ext) c7
    have yA:∀ z:ExtW wr,∀ j,z.val.cell? ⟨g1,j,none⟩=_:=fun z=>ab (af z.ext HA.out)
    have yB:∀ z:ExtW wr,∀ j,z.val.cell? ⟨g2,j,none⟩=_:=fun z=>ab (af z.ext HC.out)
    clear aq ha hc c6 c7 hxe hxf;generalize PG:maskN (fun p=>linkB s p e f) k=mk at gL ⊢;by_cases h0:rr=0
    ·have e1:=HF0.out h0
     have e2:=HG0.out h0;have e1:fa=0:=by omega
     have e2:fb=0:=by omega
     subst h0 e1 e2;have HL:Hid (linkB s k e f=(!hasB (0:Int) k&&decide (xe=xf))):=aa (by rw[HL.out];simp);simp only[Nat.add_zero]at y4 y5;clear AQ pU HF0 HG0;have gq:(bits .and .i64 0 1 == 0)=true:=by decide
     have hh:hasB (0:Int) k=false:=by unfold hasB;simp
     have CD:Hid (linkB s k e f=decide (xe=xf)):=aa (by rw[HL.out,hh];rfl);clear hh;by_cases hx:xe=xf
     ·subst hx
      have HB:Hid (linkB s k e f=true):=aa (by rw[CD.out];simp);clear CD
      go_wp2_with fail
      refine aB (by kernel_rfl) (by kernel_rfl) ?_
      repeat (go_big_quiet_step (fail))
      refine wpQuiet_nil ?_;rintro _ ⟨xq,rfl⟩;have bZ:=aa xq.ext;clear t6 yA yB y4 y5 y6 y7
      go_wp2_with fail
      go_roundw
      case rel=>exact⟨k+1,by omega,by go_num,vU (by rw[<-mO.out k HB.out,PG];exact tt (by omega) (by omega)),ae aR.out bZ.out,af bZ.out HA.out,af bZ.out HC.out⟩
      case measure=>simp[intOf];omega
     ·have dj:(xe == xf)=false:=by simpa using hx
      have dU:decide (xe=xf)=false:=decide_eq_false hx;have HB:Hid (linkB s k e f=false):=aa (by rw[CD.out,dU]);clear hx
      go_wp2_with fail
      refine aB (by kernel_rfl) (by kernel_rfl) ?_
      repeat (go_big_quiet_step (fail))
      refine wpQuiet_nil ?_;rintro _ ⟨xq,rfl⟩;have bZ:=aa xq.ext;clear t6 yA yB y4 y5 y6 y7
      go_wp2_with fail
      go_roundw
      case rel=>exact⟨k+1,by omega,by go_num,by rw[<-pN.out k HB.out,PG],ae aR.out bZ.out,af bZ.out HA.out,af bZ.out HC.out⟩
      case measure=>simp[intOf];omega
    ·obtain⟨q,rfl⟩:∃ q,rr=q+1:=⟨rr - 1,by omega⟩
     obtain⟨b8,o8,rfl,c8⟩:=AQ.out (by omega);obtain⟨b9,o9,rfl,c9⟩:=pU.out (by omega);rw[Nat.add_sub_cancel]at c8 c9;have t8:∀ z:ExtW wr,z.val.cell? ⟨b8,o8+q * 7+6,none⟩=_:=fun z=>ai (ae aR.out z.ext) c8
     have t9:∀ z:ExtW wr,z.val.cell? ⟨b9,o9+q * 7+6,none⟩=_:=fun z=>ai (ae aR.out z.ext) c9
     obtain⟨hor,H6⟩:=US hfa2 hfb2 k;rw[<-H6]at HL;clear c8 c9 H6
     go_wp2_with fail
     refine aB (by kernel_rfl) (by kernel_rfl) ?_
     repeat (go_big_quiet_step (fail))
     refine wpQuiet_nil ?_;rintro _ ⟨x9,rfl⟩;have t6:=ai x9.ext t6;have y4:=fun z:ExtW x9.val=>y4 ⟨z.val,ae x9.ext z.ext⟩
     have y5:=fun z:ExtW x9.val=>y5 ⟨z.val,ae x9.ext z.ext⟩
     have y6:=fun z:ExtW x9.val=>y6 ⟨z.val,ae x9.ext z.ext⟩
     have y7:=fun z:ExtW x9.val=>y7 ⟨z.val,ae x9.ext z.ext⟩
     have yA:=fun (z:ExtW x9.val) j=>yA ⟨z.val,ae x9.ext z.ext⟩ j
     have yB:=fun (z:ExtW x9.val) j=>yB ⟨z.val,ae x9.ext z.ext⟩ j
     dsimp only at y4 y5 y6 y7 yA yB;clear t8 t9 tA tB;have gq:=rI (((fa ||| fb:Nat):Int)) k;cases hh:hasB (((fa ||| fb:Nat):Int)) k with
     | true=>
      have HB:Hid (linkB s k e f=false):=aa (by rw[HL.out,hh];rfl);rw[hh]at gq;clear hh
      go_wp2_with fail
      refine aB (by kernel_rfl) (by kernel_rfl) ?_
      repeat (go_big_quiet_step (fail))
      refine wpQuiet_nil ?_;rintro _ ⟨xq,rfl⟩;have bZ:=aa (ae x9.ext xq.ext);clear t6 yA yB y4 y5 y6 y7
      go_wp2_with fail
      go_roundw
      case rel=>exact⟨k+1,by omega,by go_num,by rw[<-pN.out k HB.out,PG],ae aR.out bZ.out,af bZ.out HA.out,af bZ.out HC.out⟩
      case measure=>simp[intOf];omega
     | false=>
      rw[hh]at gq;have CD:Hid (linkB s k e f=decide (xe=xf)):=aa (by rw[HL.out,hh];rfl);clear hh;by_cases hx:xe=xf
      ·subst hx
       have HB:Hid (linkB s k e f=true):=aa (by rw[CD.out];simp);clear CD
       go_wp2_with fail
       refine aB (by kernel_rfl) (by kernel_rfl) ?_
       repeat (go_big_quiet_step (fail))
       refine wpQuiet_nil ?_;rintro _ ⟨xq,rfl⟩;have bZ:=aa (ae x9.ext xq.ext);clear t6 yA yB y4 y5 y6 y7
       go_wp2_with fail
       go_roundw
       case rel=>exact⟨k+1,by omega,by go_num,vU (by rw[<-mO.out k HB.out,PG];exact tt (by omega) (by omega)),ae aR.out bZ.out,af bZ.out HA.out,af bZ.out HC.out⟩
       case measure=>simp[intOf];omega
      ·have dj:(xe == xf)=false:=by simpa using hx
       have dU:decide (xe=xf)=false:=decide_eq_false hx;have HB:Hid (linkB s k e f=false):=aa (by rw[CD.out,dU]);clear hx
       go_wp2_with fail
       refine aB (by kernel_rfl) (by kernel_rfl) ?_
       repeat (go_big_quiet_step (fail))
       refine wpQuiet_nil ?_;rintro _ ⟨xq,rfl⟩;have bZ:=aa (ae x9.ext xq.ext);clear t6 yA yB y4 y5 y6 y7
       go_wp2_with fail
       go_roundw
       case rel=>exact⟨k+1,by omega,by go_num,by rw[<-pN.out k HB.out,PG],ae aR.out bZ.out,af bZ.out HA.out,af bZ.out HC.out⟩
       case measure=>simp[intOf];omega
   ·obtain rfl:k=n:=by omega
    clear aq ha hc
    go_wp2_with fail
    go_ret
    exact⟨rfl,aR.out⟩
theorem OH(t:Tk) (va vb:Value) (w:World) (ha:bK w va t.cases) (hb:bK w vb t.cases) :
  Calls Tryz.prog 181 #[.agg #[.int .i64 t.n,.int .i64 t.ins,.int .i64 t.outs,va],.agg #[.int .i64 t.n,.int .i64 t.ins,.int .i64 t.outs,vb]] w fun e w'=>e=.returned (.bool true)/\Below w.heap.size w w':=by
 obtain⟨pa,ca,rfl,la1,la2,ea⟩:=ha.at;obtain⟨pb,cb,rfl,lb1,lb2,eb⟩:=hb.at;have EA:=aa ea;have EB:=aa eb;clear ha hb ea eb;obtain⟨tn,ti,to,l⟩:=t;dsimp only at EA EB la1 la2 lb1 lb2 ⊢;obtain⟨m,hm⟩:∃ m,l.length=m:=⟨_,rfl⟩;have HM:=aa hm;rw[hm]at la1 la2 lb1 lb2 ⊢;clear hm;have Io:(tn != tn)=false:=by simp
 have fS:(ti != ti)=false:=by simp
 have pH:(to != to)=false:=by simp
 have hd:((m:Int) != (m:Int))=false:=by simp
 go_enter Tryz.func181,Tryz.ntmps181
 go_wp2_with fail
 refine bj (fun W=>Below w.heap.size w W/\W.heap[w.heap.size]?=some (.cells #[.int .i64 tn,.int .i64 ti,.int .i64 to,.slice pa m ca] 24)/\W.heap[w.heap.size+1]?=some (.cells #[.int .i64 tn,.int .i64 ti,.int .i64 to,.slice pb m cb] 24)) ⟨by go_grown,am _ (ak _ _),by have h:=ak (w.alloc (.cells #[.int .i64 tn,.int .i64 ti,.int .i64 to,.slice pa m ca] 24)) (.cells #[.int .i64 tn,.int .i64 ti,.int .i64 to,.slice pb m cb] 24);simpa using h⟩ (fun W0 aW=>?_);obtain⟨aC,br,iB⟩:=aW;have cM:=aa aC;have gT:=aa br;have mC:=aa iB;clear aC br iB
 go_loopw [5] (fun i wr=>∃ k:Nat,k<=m/\i=.int .i64 k/\Below W0.heap.size W0 wr) (fun i _=>m - (intOf i).toNat)
 case atStart=>exact⟨0,by omega,rfl,Below.refl _ _⟩
 case round=>
  obtain⟨k,hk,rfl,aq⟩:=hrel;have aR:=aa aq;have bZ:=aa (ae cM.out aq);clear aq;have HAA:=aa (af aR.out gT.out);have sJ:=aa (af aR.out mC.out);have tA:=ab HAA.out;by_cases az:k<m
  ·obtain⟨b1,o1,rfl,⟨x0,cx0,cS⟩,⟨x1,cx1,dj⟩,⟨x2,cx2,dU⟩⟩:=EA.out k (by rw[HM.out];exact az)
   obtain⟨b2,o2,rfl,⟨y0,cy0,iV⟩,⟨y1,cy1,jm⟩,⟨y2,cy2,iD⟩⟩:=EB.out k (by rw[HM.out];exact az);generalize l[k]'(by rw[HM.out];exact az)=c at cS dj dU iV jm iD;have PN:=aa (fun W (h:Below wr.heap.size wr W)=>lh x0 y0 c.inp c.inp W (cS.up up_int (ae bZ.out h)) (iV.up up_int (ae bZ.out h)));rw[rG]at PN;have eU:=aa (fun W (h:Below wr.heap.size wr W)=>EO x1 y1 c.out W (dj.up up_ints (ae bZ.out h)) (jm.up up_ints (ae bZ.out h)));have ly:=aa (fun W (h:Below wr.heap.size wr W)=>EO x2 y2 c.calm W (dU.up up_ints (ae bZ.out h)) (iD.up up_ints (ae bZ.out h)));obtain⟨p0,c0,rfl,_,_,_⟩:=cS.at;obtain⟨p1,c1,rfl,_,_,_⟩:=dj.at;obtain⟨p2,c2,rfl,_,_,_⟩:=dU.at;obtain⟨q0,d0,rfl,_,_,_⟩:=iV.at;obtain⟨q1,d1,rfl,_,_,_⟩:=jm.at;obtain⟨q2,d2,rfl,_,_,_⟩:=iD.at;clear cS dj dU iV jm iD;generalize c.inp.length=n0,c.out.length=n1,c.calm.length=n2 at cx0 cx1 cx2 cy0 cy1 cy2 PN eU ly;have C0:=aa (ai bZ.out cx0);have C1:=aa (ai bZ.out cx1);have C2:=aa (ai bZ.out cx2);have D0:=aa (ai bZ.out cy0);have D1:=aa (ai bZ.out cy1);have D2:=aa (ai bZ.out cy2);clear cx0 cx1 cx2 cy0 cy1 cy2
   go_wp2_with fail
   clear tA;obtain⟨VS,Db⟩:∃ VS:List Value,VS=[.pointer (some ⟨w.heap.size,3,none⟩),.slice (some ⟨b1,o1,none⟩) m ca,.int .i64 (k:Nat),.pointer (some ⟨b1,o1+k * 3,none⟩),.agg #[.slice p0 n0 c0,.slice p1 n1 c1,.slice p2 n2 c2],.pointer (some ⟨w.heap.size+1,3,none⟩),.slice (some ⟨b2,o2,none⟩) m cb,.int .i64 (k:Nat),.pointer (some ⟨b2,o2+k * 3,none⟩),.agg #[.slice q0 n0 d0,.slice q1 n1 d1,.slice q2 n2 d2]]:=⟨_,rfl⟩;have hS:List.Nodup [43,44,45,46,47,48,49,50,51,52,6,7]:=by decide
   refine oI 14 [43,44,45,46,47,48,49,50,51,52,6,7] (TwoBox wr 10 VS #[.slice p0 n0 c0,.slice p1 n1 c1,.slice p2 n2 c2] #[.slice none 0 0,.slice none 0 0,.slice none 0 0] #[.slice q0 n0 d0,.slice q1 n1 d1,.slice q2 n2 d2] 135) (by kernel_rfl) rfl hS (by kernel_rfl) (fun x=>TwoBox.start (by go_grown)) ?step ?free ?last
   case step=>
    intro x W D i o' s' F ho uS hD aj hc hF;have hi:i<12:=(List.getElem?_eq_some_iff.1 uS).1;rcases (show i=0\/i=1\/i=2\/i=3\/i=4\/i=5\/i=6\/i=7\/i=8\/i=9\/i=10\/i=11 by omega) with rfl|rfl|rfl|rfl|rfl|rfl|rfl|rfl|rfl|rfl|rfl|rfl
    all_goals (obtain rfl:=cU ho.symm;obtain rfl:=cU uS.symm;clear hi ho uS;subst Db)
    ·obtain⟨e0,f0⟩:=bT hF 2 (.pointer (some ⟨w.heap.size,0,none⟩)) (by decide) rfl
     clear hF aj
     go_wp2_with fail
     exact dp.mk (.pointer (some ⟨w.heap.size,3,none⟩)) (hc.set 0 (by omega) hD rfl) rfl
    ·obtain⟨e0,f0⟩:=aJ hF 0 43 (.pointer (some ⟨w.heap.size,3,none⟩)) hS rfl (by kernel_rfl) (hc.val 0 (by omega) (aj ⟨0,.data⟩ (by simp) rfl))
     have t9:=ab (af hc.below HAA.out);clear hF aj
     go_wp2_with fail
     exact dp.mk (.slice (some ⟨b1,o1,none⟩) m ca) (hc.set 1 (by omega) hD rfl) rfl
    ·obtain⟨e0,f0⟩:=bT hF 5 (.int .i64 (k:Nat)) (by decide) rfl
     clear hF aj
     go_wp2_with fail
     exact dp.mk (.int .i64 (k:Nat)) (hc.set 2 (by omega) hD rfl) rfl
    ·obtain⟨e1,f1⟩:=aJ hF 1 44 (.slice (some ⟨b1,o1,none⟩) m ca) hS rfl (by kernel_rfl) (hc.val 1 (by omega) (aj ⟨1,.data⟩ (by simp) rfl))
     obtain⟨e2,f2⟩:=aJ hF 2 45 (.int .i64 (k:Nat)) hS rfl (by kernel_rfl) (hc.val 2 (by omega) (aj ⟨2,.data⟩ (by simp) rfl));clear hF aj
     go_wp2_with fail
     exact dp.mk (.pointer (some ⟨b1,o1+k * 3,none⟩)) (hc.set 3 (by omega) hD rfl) rfl
    ·obtain⟨e3,f3⟩:=aJ hF 3 46 (.pointer (some ⟨b1,o1+k * 3,none⟩)) hS rfl (by kernel_rfl) (hc.val 3 (by omega) (aj ⟨3,.data⟩ (by simp) rfl))
     have u1:=ai hc.below C0.out;have u2:=ai hc.below C1.out;have u3:=ai hc.below C2.out;clear hF aj
     go_wp2_with fail
     exact dp.mk (.agg #[.slice p0 n0 c0,.slice p1 n1 c1,.slice p2 n2 c2]) (hc.set 4 (by omega) hD rfl) rfl
    ·obtain⟨e0,f0⟩:=bT hF 3 (.pointer (some ⟨w.heap.size+1,0,none⟩)) (by decide) rfl
     clear hF aj
     go_wp2_with fail
     exact dp.mk (.pointer (some ⟨w.heap.size+1,3,none⟩)) (hc.set 5 (by omega) hD rfl) rfl
    ·obtain⟨e5,f5⟩:=aJ hF 5 48 (.pointer (some ⟨w.heap.size+1,3,none⟩)) hS rfl (by kernel_rfl) (hc.val 5 (by omega) (aj ⟨5,.data⟩ (by simp) rfl))
     have t9:=ab (af hc.below sJ.out);clear hF aj
     go_wp2_with fail
     exact dp.mk (.slice (some ⟨b2,o2,none⟩) m cb) (hc.set 6 (by omega) hD rfl) rfl
    ·obtain⟨e0,f0⟩:=bT hF 5 (.int .i64 (k:Nat)) (by decide) rfl
     clear hF aj
     go_wp2_with fail
     exact dp.mk (.int .i64 (k:Nat)) (hc.set 7 (by omega) hD rfl) rfl
    ·obtain⟨e6,f6⟩:=aJ hF 6 49 (.slice (some ⟨b2,o2,none⟩) m cb) hS rfl (by kernel_rfl) (hc.val 6 (by omega) (aj ⟨6,.data⟩ (by simp) rfl))
     obtain⟨e7,f7⟩:=aJ hF 7 50 (.int .i64 (k:Nat)) hS rfl (by kernel_rfl) (hc.val 7 (by omega) (aj ⟨7,.data⟩ (by simp) rfl));clear hF aj
     go_wp2_with fail
     exact dp.mk (.pointer (some ⟨b2,o2+k * 3,none⟩)) (hc.set 8 (by omega) hD rfl) rfl
    ·obtain⟨e8,f8⟩:=aJ hF 8 51 (.pointer (some ⟨b2,o2+k * 3,none⟩)) hS rfl (by kernel_rfl) (hc.val 8 (by omega) (aj ⟨8,.data⟩ (by simp) rfl))
     have u1:=ai hc.below D0.out;have u2:=ai hc.below D1.out;have u3:=ai hc.below D2.out;clear hF aj
     go_wp2_with fail
     exact dp.mk (.agg #[.slice q0 n0 d0,.slice q1 n1 d1,.slice q2 n2 d2]) (hc.set 9 (by omega) hD rfl) rfl
    ·clear hF aj
     go_wp2_with fail
     exact dp.mk (.pointer (some ⟨W.heap.size,0,none⟩)) (hc.alloc_a hD) rfl
    ·clear hF aj
     go_wp2_with fail
     exact dp.mk (.pointer (some ⟨W.heap.size,0,none⟩)) (hc.alloc_b hD) rfl
   case free=>
    intro x W D i o' F ho h6 h8 hD aj hc hF;rcases (show i=12\/i=13 by simp at h6;omega) with rfl|rfl
    ·obtain rfl:=cU ho.symm
     have g7:=hc.val 4 (by omega) (aj ⟨4,.data⟩ (by simp) rfl);have gA:=aj ⟨10,.data⟩ (by simp) rfl;obtain⟨g,g1,g2,g3⟩:=hc.a gA;rw[hD]at g3;obtain⟨e7,_⟩:=aJ hF 4 47 (.agg #[.slice p0 n0 c0,.slice p1 n1 c1,.slice p2 n2 c2]) hS rfl (by kernel_rfl) (by rw[g7,Db];rfl);obtain⟨e8,_⟩:=aJ hF 10 6 (.pointer (some ⟨g,0,none⟩)) hS rfl (by kernel_rfl) g1;refine wpList_store_row rfl 135 (.tmp 6) (.tmp 47) rfl g #[.slice p0 n0 c0,.slice p1 n1 c1,.slice p2 n2 c2] e8 e7 135 _ g3 (by kernel_rfl) (by kernel_rfl) (by simp[Value.oneCell']) ?_;exact⟨rfl,hc.store_a gA hD g1⟩
    ·obtain rfl:=cU ho.symm
     have g7:=hc.val 9 (by omega) (aj ⟨9,.data⟩ (by simp) rfl);have gA:=aj ⟨11,.data⟩ (by simp) rfl;obtain⟨g,g1,g2,g3⟩:=hc.b gA;rw[hD]at g3;obtain⟨e7,_⟩:=aJ hF 9 52 (.agg #[.slice q0 n0 d0,.slice q1 n1 d1,.slice q2 n2 d2]) hS rfl (by kernel_rfl) (by rw[g7,Db];rfl);obtain⟨e8,_⟩:=aJ hF 11 7 (.pointer (some ⟨g,0,none⟩)) hS rfl (by kernel_rfl) g1;refine wpList_store_row rfl 135 (.tmp 7) (.tmp 52) rfl g #[.slice q0 n0 d0,.slice q1 n1 d1,.slice q2 n2 d2] e8 e7 135 _ g3 (by kernel_rfl) (by kernel_rfl) (by simp[Value.oneCell']) ?_;exact⟨rfl,hc.store_b gA hD g1⟩
   case last=>
    intro x W1 D F aP hc hF;obtain⟨g1,a1,a2,a3⟩:=hc.a (aP 10 (by omega));obtain⟨g2,z1,z2,z3⟩:=hc.b (aP 11 (by omega));rw[aP 12 (by omega)]at a3;rw[aP 13 (by omega)]at z3;have bC:=aa hc.below;have pU:=aa a3;have rA:=aa z3;clear hc aP Db hS a2 a3 z2 z3;simp only[bd,cJ,List.setIfInBounds_toArray,List.set_cons_succ,List.set_cons_zero,Nat.reduceAdd]at hF;simp only[a1,z1]at hF;generalize x 0=s0,x 1=s1,x 2=s2,x 3=s3,x 4=s4,x 5=s5,x 6=s6,x 7=s7,x 8=s8,x 9=s9 at hF;subst hF;clear a1 z1;have tA:=ab pU.out;have tC:=ab rA.out
    go_wp2_with fail
    refine(PN.out W1 bC.out).mono ?_;rintro r W2 ⟨rfl,aV⟩;have cB:=aa (ae bC.out aV);clear tA tC;have tA:=ab (af aV pU.out);have tC:=ab (af aV rA.out);have H12:=aa aV;clear aV
    go_wp2_with fail
    refine(eU.out W2 cB.out).mono ?_;rintro r W3 ⟨rfl,bA⟩;have dP:=aa (ae cB.out bA);clear tA tC;have tA:=ab (af (ae H12.out bA) pU.out);have tC:=ab (af (ae H12.out bA) rA.out);clear bA
    go_wp2_with fail
    refine(ly.out W3 dP.out).mono ?_;rintro r W4 ⟨rfl,cg⟩;have fe:=aa (ae dP.out cg);clear tA tC cg
    go_wp2_with fail
    go_roundw
    case rel=>exact⟨k+1,by omega,by go_num,ae aR.out fe.out⟩
    case measure=>simp[intOf];omega
  ·obtain rfl:k=m:=by omega
   go_wp2_with fail
   go_ret
   exact⟨rfl,bZ.out⟩
theorem OI(p:Pb) (vc vs uc us:Value) (w:World) (hc:bK w vc p.t.cases) (hs:bk w vs p.a.states) (kc:bK w uc p.t.cases) (ks:bk w us p.a.states) :
  Calls Tryz.prog 148 #[.agg (zS p vc vs),.agg (zS p uc us)] w fun e w'=>e=.returned (.bool true)/\Below w.heap.size w w':=by
 have HT:=aa (fun W (h:Below w.heap.size w W)=>OH p.t vc uc W (hc.up up_case h) (kc.up up_case h));have HA:=aa (fun W (h:Below w.heap.size w W)=>Ra p.a.n p.a.states vs us W (hs.up up_moves h) (ks.up up_moves h));obtain⟨p1,c1,rfl,_,_,_⟩:=hc.at;obtain⟨p2,c2,rfl,_,_,_⟩:=hs.at;obtain⟨p3,c3,rfl,_,_,_⟩:=kc.at;obtain⟨p4,c4,rfl,_,_,_⟩:=ks.at;generalize p.t.cases.length=n1,p.a.states.length=n2 at HT HA ⊢;clear hc hs kc ks
 go_enter Tryz.func148,Tryz.ntmps148
 go_wp2_with fail
 refine aL (fun W=>Below w.heap.size w W/\(∃ c,W.heap[w.heap.size]?=some (.cells c 29)/\c=zS p (.slice p1 n1 c1) (.slice p2 n2 c2))/\(∃ c,W.heap[w.heap.size+1]?=some (.cells c 29)/\c=zS p (.slice p3 n1 c3) (.slice p4 n2 c4))) ⟨by go_grown,⟨_,am _ (ak _ _),rfl⟩,⟨_,by have h:=ak (w.alloc (.cells (zS p (.slice p1 n1 c1) (.slice p2 n2 c2)) 29)) (.cells (zS p (.slice p3 n1 c3) (.slice p4 n2 c4)) 29);simpa using h,rfl⟩⟩ (fun W0 aW=>?_);obtain⟨aC,⟨_,br,rfl⟩,⟨_,iB,rfl⟩⟩:=aW;refine(HT.out W0 aC).mono ?_;rintro r W1 ⟨rfl,aG⟩;have bC:=aa (ae aC aG);have tA:=ab (af aG br);have tC:=ab (af aG iB);clear aC br iB aG
 go_wp2_with fail
 refine(HA.out W1 bC.out).mono ?_;rintro r W2 ⟨rfl,aV⟩;have cB:=aa (ae bC.out aV);clear tA tC aV
 go_wp2_with fail
 go_ret
 exact⟨rfl,cB.out⟩
theorem Ma(s z:Sys) (hp:z.prob=s.prob) (vc vs vt ve uc us ut ue:Value) (w:World) (hs:IsSys w s vc vs vt ve) (hz:IsSys w z uc us ut ue) :
  Calls Tryz.prog 102 #[.agg (bE s.prob vc vs s.n vt ve),.agg (bE s.prob uc us z.n ut ue)] w fun e w'=>e=.returned (.bool (decide ((s.n=z.n/\s.tab=z.tab)/\s.ex=z.ex)))/\Below w.heap.size w w':=by
 have TM:=aa (fun W (h:Below w.heap.size w W)=>OI s.prob vc vs uc us W (hs.cases.up up_case h) (hs.states.up up_moves h) (by have:=hz.cases.up up_case h;rwa [hp]at this) (by have:=hz.states.up up_moves h;rwa [hp]at this));have K9:=aa (fun W (h:Below w.heap.size w W)=>L7 s.n z.n vt ut s.tab z.tab W (hs.tab.up up_view h) (hz.tab.up up_view h));obtain⟨p1,c1,rfl,_,_,_⟩:=hs.cases.at;obtain⟨p2,c2,rfl,_,_,_⟩:=hs.states.at;obtain⟨p3,c3,rfl,_,_,_⟩:=hs.tab.at;obtain⟨q1,d1,rfl,_,_,_⟩:=hz.cases.at;obtain⟨q2,d2,rfl,_,_,_⟩:=hz.states.at;obtain⟨q3,d3,rfl,_,_,_⟩:=hz.tab.at;obtain⟨pa,ca,rfl,la1,la2,ea⟩:=hs.ex.at;obtain⟨pb,cb,rfl,lb1,lb2,eb⟩:=hz.ex.at;have EA:=aa ea;have EB:=aa eb;obtain⟨bt,sP⟩:∃ bt,decide (s.n=z.n/\s.tab=z.tab)=bt:=⟨_,rfl⟩;have Iw:Hid (bt=false->decide ((s.n=z.n/\s.tab=z.tab)/\s.ex=z.ex)=false):=aa fun h=>decide_eq_false fun e=>(of_decide_eq_false (sP.trans h)) e.1
 have gK:Hid (s.ex.length≠z.ex.length->decide ((s.n=z.n/\s.tab=z.tab)/\s.ex=z.ex)=false):=aa fun h=>decide_eq_false fun e=>h (by rw[e.2])
 have qm:Hid (∀ j,j<s.ex.length->s.ex.getD j default≠z.ex.getD j default->decide ((s.n=z.n/\s.tab=z.tab)/\s.ex=z.ex)=false):=aa fun j _ h=>decide_eq_false fun e=>h (by rw[e.2])
 have gU:Hid (bt=true/\s.ex.length=z.ex.length/\(∀ j,j<s.ex.length->s.ex.getD j default=z.ex.getD j default)->decide ((s.n=z.n/\s.tab=z.tab)/\s.ex=z.ex)=true):=aa fun ⟨h1,h2,h3⟩=>decide_eq_true ⟨of_decide_eq_true (sP.trans h1),eW default h2 h3⟩
 rw[sP]at K9;generalize decide ((s.n=z.n/\s.tab=z.tab)/\s.ex=z.ex)=r at Iw gK qm gU ⊢;generalize s.ex=ax at EA gK qm gU la1 la2 ⊢;generalize z.ex=ay at EB gK qm gU lb1 lb2 ⊢;rw[hp]at TM ⊢;clear hs hz ea eb sP hp;generalize s.prob.t.cases.length=n1,s.prob.a.states.length=n2,s.tab.length=n3,z.tab.length=n4 at TM K9 ⊢;obtain⟨n,hn⟩:∃ n,ax.length=n:=⟨_,rfl⟩;obtain⟨m,hm⟩:∃ m,ay.length=m:=⟨_,rfl⟩;have HN:=aa hn;have HM:=aa hm;rw[hn]at la1 la2 ⊢;rw[hm]at lb1 lb2 ⊢;clear hn hm
 go_enter Tryz.func102,Tryz.ntmps102
 go_wp2_with fail
 refine aL (fun W=>Below w.heap.size w W/\(∃ c,W.heap[w.heap.size]?=some (.cells c 35)/\c=bE s.prob (.slice p1 n1 c1) (.slice p2 n2 c2) s.n (.slice p3 n3 c3) (.slice pa n ca))/\(∃ c,W.heap[w.heap.size+1]?=some (.cells c 35)/\c=bE s.prob (.slice q1 n1 d1) (.slice q2 n2 d2) z.n (.slice q3 n4 d3) (.slice pb m cb))) ⟨by go_grown,⟨_,am _ (ak _ _),rfl⟩,⟨_,by have h:=ak (w.alloc (.cells (bE s.prob (.slice p1 n1 c1) (.slice p2 n2 c2) s.n (.slice p3 n3 c3) (.slice pa n ca)) 35)) (.cells (bE s.prob (.slice q1 n1 d1) (.slice q2 n2 d2) z.n (.slice q3 n4 d3) (.slice pb m cb)) 35);simpa using h,rfl⟩⟩ (fun W00 aW=>?_);obtain⟨aC,⟨_,br,rfl⟩,⟨_,iB,rfl⟩⟩:=aW;refine(TM.out W00 aC).mono ?_;rintro e W01 ⟨rfl,aG⟩;have HB01:=aa (ae aC aG);have HA01:=aa (af aG br);have HC01:=aa (af aG iB);have tA:=ab HA01.out;have tC:=ab HC01.out;clear aC br iB aG TM
 go_wp2_with fail
 refine(K9.out W01 HB01.out).mono ?_;rintro e W0 ⟨rfl,aG⟩;have cM:=aa (ae HB01.out aG);have gT:=aa (af aG HA01.out);have mC:=aa (af aG HC01.out);clear tA tC;have tA:=ab gT.out;have tC:=ab mC.out;clear aG K9;cases bt with
 | false=>
  have HR:Hid (r=false):=aa (by first|exact Iw.out rfl|exact Iw.out trivial)
  go_wp2_with fail
  go_ret
  exact⟨aN (by rw[HR.out]),cM.out⟩
 | true=>
  by_cases hl:n=m
  case neg=>
   have hd:(((n:Nat):Int) != ((m:Nat):Int))=true:=by simp;omega
   have HR:=aa (gK.out (by rw[HN.out,HM.out];exact hl));clear hl
   go_wp2_with fail
   go_ret
   exact⟨aN (by rw[HR.out]),cM.out⟩
  subst hl;have hd:((n:Int) != (n:Int))=false:=by simp
  go_wp2_with fail
  clear tA tC
  go_loopw [5] (fun i wr=>∃ k:Nat,k<=n/\i=.int .i64 k/\Below W0.heap.size W0 wr/\∀ j,j<k->ax.getD j default=ay.getD j default) (fun i _=>n - (intOf i).toNat)
  case atStart=>exact⟨0,by omega,rfl,Below.refl _ _,fun j hj=>by omega⟩
  case round=>
   obtain⟨k,hk,rfl,aq,aS⟩:=hrel;have H:=aa aS;have aR:=aa aq;have bZ:=aa (ae cM.out aq);clear aS aq;have tA:=ab (af aR.out gT.out);have tC:=ab (af aR.out mC.out);by_cases az:k<n
   ·obtain⟨b1,o1,rfl,⟨g0,_⟩,⟨v1,g1,h1⟩,⟨v2,g2,h2⟩⟩:=EA.out k (by rw[HN.out];exact az)
    obtain⟨b2,o2,rfl,⟨e0,_⟩,⟨u1,e1,i1⟩,⟨u2,e2,i2⟩⟩:=EB.out k (by rw[HM.out];exact az);have pV:=aa (ap (default:Ex) (show k<ax.length by rw[HN.out];exact az));have rg:=aa (ap (default:Ex) (show k<ay.length by rw[HM.out];exact az));generalize ax[k]'(by rw[HN.out];exact az)=x at g0 h1 h2 pV;generalize ay[k]'(by rw[HM.out];exact az)=y at e0 i1 i2 rg;have t0:=ai bZ.out g0;have t1:=ai bZ.out g1;have t2:=ai bZ.out g2;have r0:=ai bZ.out e0;have r1:=ai bZ.out e1;have r2:=ai bZ.out e2;have yJ:=aa (fun W (h:Below w.heap.size w W)=>L' x y v1 u1 v2 u2 W (h1.up up_round h) (i1.up up_round h) (h2.up up_ints h) (i2.up up_ints h));clear h1 h2 i1 i2 g0 g1 g2 e0 e1 e2
    go_wp2_with fail
    go_still_tail 10,(by kernel_rfl)
    go_wp2_with fail
    refine aL (fun W=>Below wr.heap.size wr W) (Below.drew (Below.refl _ _)) (fun W5 hW5=>?_);refine(yJ.out W5 (ae bZ.out hW5)).mono ?_;rintro e w6 ⟨rfl,gx⟩;have lO:=aa (ae aR.out (ae hW5 gx));clear hW5 gx t0 t1 t2 r0 r1 r2 tA tC yJ;cases cO:decide (x=y) with
    | true=>
     have nA:=aa (of_decide_eq_true cO);clear cO
     go_wp2_with fail
     go_roundw
     case rel=>exact⟨k+1,by omega,by go_num,lO.out,aT (p:=fun j=>ax.getD j default=ay.getD j default) H.out (by rw[pV.out,rg.out];exact nA.out)⟩
     case measure=>simp[intOf];omega
    | false=>
     have HR:=aa (qm.out k (by rw[HN.out];exact az) (by rw[pV.out,rg.out];exact of_decide_eq_false cO));clear cO
     go_wp2_with fail
     go_ret
     exact⟨aN (by rw[HR.out]),ae cM.out lO.out⟩
   ·obtain rfl:k=n:=by omega
    have HF:∀ j,j<ax.length->ax.getD j default=ay.getD j default:=fun j hj=>H.out j (by have:=HN.out;omega)
    have HR:Hid (r=true):=aa (gU.out ⟨by first|rfl|trivial,by rw[HN.out,HM.out],HF⟩);clear HF
    go_wp2_with fail
    go_ret
    exact⟨aN (by rw[HR.out]),bZ.out⟩
theorem OJ{W:World} {B:Nat} {now:List Int} {n:Nat} (hl:now.length=n) (hn:n<=65536) (h:W.heap[B]?=some (.cells (bJ now) 3)) (hr:∀ x∈now,bI x):aY W (.slice (some ⟨B,0,none⟩) n n) now:=by
 subst hl;refine⟨some ⟨B,0,none⟩,now.length,rfl,⟨Nat.le_refl _,by omega,fun e=>by cases e⟩,by omega,fun i x hx=>⟨B,0,rfl,?_⟩⟩;obtain⟨hi,rfl⟩:=List.getElem?_eq_some_iff.1 hx;refine⟨?_,hr _ (List.getElem_mem hi)⟩;rw[ab h,Nat.zero_add,Nat.mul_one];simp[bJ,hi]
theorem UT{s:Sys} (hv:verifyE s=0):0<s.tab.length:=by
 have hs:=jh hv;have h1:=lm hs (zu hv) (p:=0) hs.n.1;omega
theorem oY(s:Sys) (e:Nat) (out:List Int):∀ p,(ge s e out p).length=out.length
 | 0=>rfl
 | p+1=>by
  rw[ge];split
  ·exact oY s e out p
  ·rw[List.length_set];exact oY s e out p
theorem vZ(s:Sys):∀ e,(fJ s e).length=s.tab.length
 | 0=>by simp[fJ]
 | e+1=>by rw[fJ,oY,vZ s e]
theorem UU{s:Sys} (ho:oS s<=8):(∀ e,e<=eS s->∀ x∈fJ s e,bI x):=by
 have hp:∀ e,e<eS s->∀ out:List Int,(∀ x∈out,bI x)->∀ p,∀ x∈ge s e out p,bI x:=by
  intro e he out uI p;induction p with
  | zero=>exact uI
  | succ p ih=>
   rw[ge];split
   ·exact ih
   ·intro x hx
    rcases List.mem_or_eq_of_mem_set hx with h|h
    ·exact ih x h
    ·rw[h]
     unfold dm;rw[nh he];exact DK s _ ho
 intro e;induction e with
 | zero=>intro _ x hx;rw[fJ]at hx;rw[List.eq_of_mem_replicate hx];exact⟨by decide,by decide⟩
 | succ e ih=>intro he;rw[fJ];exact hp e (by omega) _ (ih (by omega)) _
theorem Ag{s:Sys} (h0:0<eS s) (k:Nat) (hk:k<=ng s):∃ e,e<eS s/\(aO s).getD e 0=k:=by
 obtain⟨i,hi,e⟩:=A5 (aO s) ((aO s).length - 1);rw[gB]at hi;have h1:=(Cb h0).1;rw[e]at h1;by_cases h2:k=ng s
 ·exact⟨i,by omega,by rw[h1,h2]⟩
 ·obtain⟨j,hj,h3⟩:=BA (vV s (nS s - 1)) i (by rw[ir];omega) (k:Int) (by omega) (by have h4:(gp s (nS s - 1)).getD i 0=(ng s:Int):=h1;omega)
  exact⟨j,by omega,h3⟩
theorem OK{s:Sys} (h0:0<eS s):(iR s).contains (-1)=true↔-1∈dm s:=by
 rw[List.contains_iff_mem];unfold iR kA dm;simp only[List.mem_map,List.mem_range];constructor
 ·rintro⟨k,hk,h1⟩
  obtain⟨e,he,h2⟩:=Ag h0 k (by omega);exact⟨e,he,by rw[h2];exact h1⟩
 ·rintro⟨e,he,h1⟩
  have h2:=pD h0 e he;have h3:=(ky s e he).1;exact⟨((aO s).getD e 0).toNat,by omega,by rw[show ((((aO s).getD e 0).toNat:Nat):Int)=(aO s).getD e 0 by omega];exact h1⟩
def Mb(u:Value) (ok:Bool) (e:Int):Value:=.tuple #[.agg #[u],.bool ok,.int .i64 e]
theorem rb(tmps:Array Value) (B:Nat) (W:World) (u:Value) (ok:Bool) (e:Int) (h2:tmps[2]?.getD undef=.pointer (some ⟨B,0,none⟩)) (h3:tmps[3]?.getD undef=.bool ok) (h4:tmps[4]?.getD undef=.int .i64 e)
  (hB:W.heap[B]?=some (.cells #[u] 49)):(results Tryz.f16 tmps).run Tryz.prog W=.ok (Mb u ok e) W:=by
 have t2:=ab hB 0;simp at t2;simp[results,Tryz.results16,go_sem,h2,h3,h4,t2,Mb]
theorem OL(s:Sys) (hE:eS s<=256) (vc vs vt ve:Value) (w:World) (hT:ii w) (hs:IsSys w s vc vs vt ve) (hN:movesN s.prob.a.states<1099511627776) :
  Calls Tryz.prog 16 #[.agg (bE s.prob vc vs s.n vt ve)] w fun r w'=>∃ u,r=.returned (Mb u (ruleR s).2.1 (ruleR s).2.2)/\aY w' u (ruleR s).1/\Below w.heap.size w w':=by
 have HS:=aa hs;have HT:=aa hT;obtain⟨⟨pc,cc,rfl⟩,⟨ps,cs,rfl⟩,⟨pt,ct,rfl⟩,⟨pe,ce,rfl⟩⟩:=bg hs;clear hs hT;have HC:=aa (fun W (hb:Below w.heap.size w W)=>nf s hE _ _ _ _ W (HS.out.up hb) hN)
 have nZ:Hid (readyE s=0->verifyE s=0):=aa fun h=>by
  unfold readyE at h;split at h
  ·rename_i h1;exact absurd h h1
  ·omega
 have cX:Hid (readyE s≠0->ruleR s=([],false,readyE s)):=aa fun h=>by unfold ruleR;rw[if_pos h]
 have dE:Hid (readyE s=0->-1∈dm s->ruleR s=([],false,0)):=aa fun h h2=>by unfold ruleR;rw[if_neg (by omega),if_pos h2]
 have fZ:Hid (readyE s=0->¬ -1∈dm s->ruleR s=(fJ s (eS s),true,0)):=aa fun h h2=>by unfold ruleR;rw[if_neg (by omega),if_neg h2]
 generalize ruleR s=vr at cX dE fZ ⊢;obtain⟨re,mG⟩:∃ re,readyE s=re:=⟨_,rfl⟩;rw[mG]at cX dE fZ HC nZ;clear mG
 go_enter Tryz.func16,Tryz.ntmps16
 go_wp2_with fail
 refine aL (fun W=>Below w.heap.size w W/\W.heap[w.heap.size+1]?=some (.cells #[.slice none 0 0] 49)/\∃ c,W.heap[w.heap.size]?=some (.cells c 35)/\c=bE s.prob (.slice pc s.prob.t.cases.length cc) (.slice ps s.prob.a.states.length cs) s.n (.slice pt s.tab.length ct) (.slice pe s.ex.length ce)) ⟨by go_grown,ba _ _ _,_,am _ (ak _ _),rfl⟩ (fun W0 aW=>?_);obtain⟨aC,gS,_,br,rfl⟩:=aW;refine(HC.out W0 aC).mono ?_;rintro e w1 ⟨v,rfl,aG,h2,h3⟩;have bC:=aa (ae aC aG);have gm:=aa (af aG gS);have dy:=aa (af aG br);have fP:=ar gm.out;by_cases hr:re=0
 case neg=>
  have HV:=aa (cX.out hr);obtain rfl:=h2 hr;have Fl:(re != 0)=true:=by simpa using hr
  have to:=ab gm.out 0;have zo:=aE gm.out 0;simp at to;clear aC aG h2 h3 hr HC gS br
  go_wp2_with fail
  exact bodyPost_ret (rb _ (w.heap.size+1) _ (.slice none 0 0) false re rfl rfl rfl (aF gm.out 0 _)) rfl ⟨_,by rw[HV.out],by rw[HV.out];exact oL _,bC.out.setCell (by dsimp only;omega) _⟩
 obtain⟨B,rfl,hB,fO⟩:=h3 hr;have kn:=aa fO;have cT:=aa (dE.out hr);have rk:=aa (fZ.out hr);have sH:=aa (nZ.out hr);have di:=aa (jh sH.out);have HP:=aa (zu sH.out);subst hr;clear aC aG h2 h3 HC fO gS br
 go_wp2_with fail
 refine(tz s di.out HP.out hE B w1 kn.out (HT.out.up bC.out)).mono ?_;rintro e w2 ⟨u,rfl,hu,aV⟩;have HU:=aa hu;have cB:=aa (ae bC.out aV);have eU:=aa (af aV gm.out);have mK:=aa (af aV dy.out);have IL:=aa (kn.out.up aV);obtain⟨pu,cu,rfl,eu⟩:=fG hu;have EU:=aa eu;obtain⟨cn,CF⟩:∃ cn,(iR s).length=cn:=⟨_,rfl⟩;rw[CF]at EU HU ⊢;have HCN:=aa CF;clear hu aV eu CF kn gm dy
 go_wp2_with fail
 refine(AZ _ (iR s) (-1) w2 HU.out).mono ?_;rintro e w3 ⟨rfl,bA⟩;have dP:=aa (ae cB.out bA);have D9:=aa bA;have ly:=aa (af bA eU.out);have wR:=aa (af bA mK.out);have R3:=aa (IL.out.up bA);have KX:=aa (HU.out.up up_int bA);have HCI:=aa (OK HP.out);cases T8:(iR s).contains (-1) with
 | true=>
  have HV:=aa (cT.out (HCI.out.1 T8));have to:=ab ly.out 0;have zo:=aE ly.out 0;simp at to;clear T8 bA
  go_wp2_with fail
  exact bodyPost_ret (rb _ (w.heap.size+1) _ (.slice none 0 0) false 0 rfl rfl rfl (aF ly.out 0 _)) rfl ⟨_,by rw[HV.out],by rw[HV.out];exact oL _,dP.out.setCell (by dsimp only;omega) _⟩
 | false=>
  have HV:=aa (rk.out (fun h=>by have:=HCI.out.2 h;rw[T8]at this;cases this));clear T8 bA IL eU mK cB HU;have tA:∀ o' j,(w3.alloc o').cell? ⟨w.heap.size,j,none⟩=_:=fun o' j=>ab (am o' wR.out) j
  have htp:=UT sH.out;have O9:=di.out.tab;have Jf:Hid (∀ n:Nat,fC n (fun _=>(-1:Int)) n=bJ (List.replicate n (-1))):=aa fun n=>by rw[q7];simp[List.map_const']
  go_wp2_with fail
  refine(vL (-1) s.tab.length htp O9 w3.heap.size _ (ak _ _)).mono ?_;rintro e w4 ⟨rfl,CG,cg⟩;have yH:Below w3.heap.size w3 w4:=ae (by go_grown) cg;have hRl:=ar CG;rw[show (w3.alloc (.cells #[.int .i64 (-1)] 3)).heap.size=w3.heap.size+1 by simp]at CG hRl ⊢;obtain⟨R,hR⟩:∃ R,w3.heap.size+1=R:=⟨_,rfl⟩;rw[hR]at CG hRl ⊢;have CN:w3.heap.size<R:=by omega
  have hR4':w4.heap[R]?=some (.cells (bJ (fJ s 0)) 3):=by rw[CG];unfold xC;rw[Jf.out];rfl
  have so:=aa hR4';have HB34:=aa yH;have tA4:=ab (af yH wR.out);clear cg hR CG hR4' tA Jf;have FG:=aa HS.out.ex;have HK:Hid (∀ k,k<eS s->_):=aa (fun k (hk:k<eS s)=>iu di.out FG.out hk);obtain⟨qc,qs,qt,qe,qv,ql,q1,_,_,q2⟩:=R3.out.ex;obtain⟨pl,cl,rfl,el⟩:=fG q2;rw[gB]at el q1;have EL:=aa el;have HLB:Hid (w3.cell? ⟨B,11,none⟩=some (.slice pl (eS s) cl)):=aa ((ab q1 11).trans rfl);have HBR3:=aa (ar q1);have qz:Hid (∀ k,k<eS s->0<=(aO s).getD k 0/\((aO s).getD k 0).toNat<(iR s).length/\(iR s).getD ((aO s).getD k 0).toNat 0=(dm s).getD k 0):=aa fun k hk=>⟨(ky s k hk).1,by have:=pD HP.out k hk;rw[show (iR s).length=ng s+1 by simp[iR,kA]];omega,Oz HP.out k hk⟩
  have HFN:Hid (∀ k p,k<eS s->p<nS s->0<=finS s k p/\finS s k p<s.tab.length):=aa fun k p hk hp=>lm di.out hk hp
  have gu:Hid (∀ x∈fJ s (eS s),bI x):=aa (UU di.out.outs.2.1 _ (Nat.le_refl _));have Wh:Hid (∀ k,(fJ s k).length=s.tab.length):=aa (vZ s);have HRP:Hid (∀ k p,(ge s k (fJ s k) p).length=s.tab.length):=aa fun k p=>by rw[oY,vZ]
  have Wd:=aa (fun k (hk:k<eS s) W (hb:Below w.heap.size w W)=>QY s sH.out k hk _ _ _ _ W (HS.out.up hb) hN);have jr:s.ex.length=eS s:=rfl;rw[jr]at tA4 wR Wd FG;obtain⟨m,hm⟩:∃ m,eS s=m:=⟨_,rfl⟩;have HM:=aa hm;have ic:=di.out.n.2.1;have pL:=di.out.rounds.2;obtain⟨rr,CV⟩:∃ rr:Nat,s.prob.rounds=rr:=⟨s.prob.rounds.toNat,by have:=di.out.rounds.1;omega⟩;have Lh:=aa CV;have Fs:s.prob.rounds.toNat=rr:=by omega
  rw[Fs]at HK;clear Fs;rw[hm]at hE HK EL HLB qz HFN gu Wd tA4 wR;clear jr q1 q2 el hm CV
  go_wp2_with fail
  clear tA4
  go_loopw [38] (fun i wr=>∃ k:Nat,k<=m/\i=.int .i64 k/\Below w3.heap.size w3 wr/\wr.heap[R]?=some (.cells (bJ (fJ s k)) 3)) (fun i _=>m - (intOf i).toNat)
  case atStart=>exact⟨0,by omega,rfl,HB34.out,so.out⟩
  case round=>
   clear so HB34;obtain⟨k,hk,rfl,aq,hR⟩:=hrel;have aR:=aa aq;have yz:=aa hR;have eP:=aa (ae dP.out aq);have WC:=aa (af aq wR.out);have hRl2:=ar hR;by_cases az:k<m
   ·obtain⟨b,o,_,ce',e0,rfl,pw,nw,cw,pv,cv,c1,c2,c3,-,-,-,b2,o2,pr,cr,rfl,c4,bV⟩:=HK.out k az
    injection e0 with e01 e02 e03
    subst e01;clear e02 e03;obtain⟨pr2,cr2,e4,erow⟩:=fG bV;injection e4 with e41 e42 e43
    subst e41 e43;clear e42
    have j8:Hid (∀ p,p<nS s->∃ b o,pr=some ⟨b,o,none⟩/\w.cell? ⟨b,o+p,none⟩=some (.int .i64 (finS s k p))):=aa (fun p hp=>by
     obtain⟨b,o,e1,h1⟩:=erow p (by simpa using hp);rw[nh hp]at h1
     exact⟨b,o,e1,h1⟩)
    have d1:=ai eP.out c1;have d2:=ai eP.out c2;have d3:=ai eP.out c3;have WL:=aa c4;have tA:∀ o' j,(wr.alloc o').cell? ⟨w.heap.size,j,none⟩=_:=fun o' j=>ab (am o' WC.out) j
    clear aq hR c1 c2 c3 c4 bV erow
    go_wp2_with fail
    clear tA d1 d2 d3;refine aL (fun W=>Below wr.heap.size wr W/\W.heap[wr.heap.size]?=some (.cells #[.int .i64 (cF s k).c,.slice pw nw cw,.slice (some ⟨b2,o2,none⟩) (rr+1) cv] 89)) ⟨by go_grown,ak _ _⟩ (fun W5 hW5=>?_);obtain⟨dO,hX5⟩:=hW5;refine(Wd.out k az W5 (ae eP.out dO)).mono ?_;rintro r w5 ⟨rfl,gx⟩;have oN:=ae dO gx;have tX:=ab (af gx hX5);have tA5:w5.cell? ⟨w.heap.size,6,none⟩=some (.int .i64 rr):=(ab (af oN WC.out) 6).trans (by rw[<-Lh.out];rfl);have tv:=ai (ae eP.out oN) WL.out;have iy:=aa (ae aR.out oN);have xb:=aa (af oN yz.out);obtain⟨wrA,lB⟩:∃ x,x=wr:=⟨_,rfl⟩;subst lB;obtain⟨g,hg⟩:∃ g,wrA.heap.size=g:=⟨_,rfl⟩;rw[hg]at tX ⊢;clear dO gx hX5 oN hg
    go_wp2_with fail
    clear tX tA5 tv
    go_loopw [61] (fun i wr=>∃ p:Nat,p<=nS s/\i=.int .i64 p/\Below w3.heap.size w3 wr/\wr.heap[R]?=some (.cells (bJ (ge s k (fJ s k) p)) 3)) (fun i _=>nS s - (intOf i).toNat)
    case atStart=>exact⟨0,by omega,rfl,iy.out,xb.out⟩
    case round=>
     clear iy xb;obtain⟨p,hp,rfl,aq,hR⟩:=hrel;have jx:=aa aq;have AE:=aa hR;by_cases E5:p<nS s
     ·obtain⟨b3,o3,rfl,c6⟩:=j8.out p E5
      obtain⟨z0,z1⟩:=HFN.out k p az E5;obtain⟨z,hz⟩:∃ z:Nat,finS s k p=z:=⟨(finS s k p).toNat,by omega⟩;rw[hz]at c6 z1;have HZ:=aa hz;have d6:=ai (ae dP.out aq) c6;have gq:=qG ((oblM s k:Nat):Int) p;have H6:hasB ((oblM s k:Nat):Int) p=!hasB (fltS s k) p:=by unfold oblM;rw[jg,decide_eq_true E5,Bool.true_and]
      rw[H6]at gq;have hp30:p<=30:=by omega
      have zt:z<s.tab.length:=by omega
      have HRL2:=aa (HRP.out k p);clear c6 z0 z1 hz H6;cases hb:hasB (fltS s k) p with
      | true=>
       have dz:Hid (ge s k (fJ s k) (p+1)=ge s k (fJ s k) p):=aa (by rw[ge,if_pos hb]);rw[hb]at gq;clear hb aq hR
       go_wp2_with fail
       go_roundw
       case rel=>exact⟨p+1,by omega,by go_num,jx.out,by rw[dz.out];exact AE.out⟩
       case measure=>simp[intOf];omega
      | false=>
       have dz:Hid (ge s k (fJ s k) (p+1)=(ge s k (fJ s k) p).set z ((dm s).getD k 0)):=aa (by rw[ge,if_neg (by rw[hb];simp),HZ.out,Int.toNat_natCast]);rw[hb]at gq;obtain⟨g1,g2,g3⟩:=qz.out k az;obtain⟨n,hn⟩:∃ n:Nat,(aO s).getD k 0=n:=⟨((aO s).getD k 0).toNat,by omega⟩;rw[hn,Int.toNat_natCast,HCN.out]at g2;rw[hn,Int.toNat_natCast]at g3;obtain⟨b4,o4,rfl,c7⟩:=EL.out k az;rw[hn]at c7;have d7:=ai aq c7;obtain⟨b5,o5,rfl,c8⟩:=EU.out n g2;rw[g3]at c8;have d8:=ai (ae D9.out aq) c8;have tl:=ai aq HLB.out;have tR:=ab hR z;rw[ki _ _ (by rw[HRL2.out];exact zt)]at tR;have zR:=aE hR z;generalize (dm s).getD k 0=x at d8 dz;generalize (ge s k (fJ s k) p).getD z 0=y at tR;clear hb aq hR g1 g3 hn c7 c8
       go_wp2_with fail
       go_roundw
       case rel=>exact⟨p+1,by omega,by go_num,jx.out.setCell (by dsimp only;omega) _,by rw[aF AE.out,x',dz.out]⟩
       case measure=>simp[intOf];omega
     ·obtain rfl:p=nS s:=by omega
      clear aq hR
      go_wp2_with fail
      go_roundw
      case rel=>exact⟨k+1,by omega,by go_num,jx.out,AE.out⟩
      case measure=>simp[intOf];omega
   ·obtain rfl:k=m:=by omega
    have to:=ab (af aq ly.out) 0;have zo:=aE (af aq ly.out) 0;simp at to;have PN:=aa (af aq ly.out);clear aq hR
    go_wp2_with fail
    refine bodyPost_ret (rb _ (w.heap.size+1) _ (.slice (some ⟨R,0,none⟩) s.tab.length s.tab.length) true 0 rfl rfl rfl (aF PN.out 0 _)) rfl ⟨_,by rw[HV.out],?_,eP.out.setCell (by dsimp only;omega) _⟩;rw[HV.out,HM.out];exact OJ (Wh.out k) (by omega) (aH yz.out (by have:=ar ly.out;omega) _ _) gu.out
theorem pE{w:World} {v:Value} {l:List Lk} (h:aU w v l) (j:Nat) (u:Value) (hu:(bF l)[j]?=some u):∃ b o c,v=.slice (some ⟨b,o,none⟩) l.length c/\w.cell? ⟨b,o+j,none⟩=some u:=by
 have hj:=(List.getElem?_eq_some_iff.1 hu).1;rw[eY]at hj;obtain⟨i,s,hs,rfl⟩:∃ i s,s<2/\j=i * 2+s:=⟨j / 2,j % 2,by omega,by omega⟩;have hi:i<l.length:=by omega
 unfold bF at hu;rw[ox Lk.c 2 (fun _=>rfl) l i s hi hs]at hu;obtain⟨a,cap,rfl,_,_,e⟩:=h.at;obtain⟨b,o,rfl,⟨c0,_⟩,⟨c1,_⟩⟩:=e i hi;refine⟨b,o,cap,rfl,?_⟩;rw[<-Nat.add_assoc];rcases (show s=0\/s=1 by omega) with rfl|rfl<;>(simp at hu;subst hu;first|exact c0|exact c1)
theorem rc{w:World} {v:Value} {l:List Lk} (h:aU w v l):∀ y∈l,bI y.x/\bI y.p:=fun y hy=>by
 obtain⟨i,hi,rfl⟩:=List.getElem_of_mem hy;obtain⟨a,cap,rfl,_,_,e⟩:=h.at;obtain⟨b,o,_,h1⟩:=e i hi;exact⟨h1.1.2,h1.2.2⟩
theorem ni{w:World} {a:Option Addr} {n c:Nat} {l:List Lk} (h:aU w (.slice a n c) l) (k:Nat) (hk:k<=l.length):aU w (.slice a k c) (l.take k):=by
 obtain⟨a',c',e,⟨h1,h2,h3⟩,h4,h5⟩:=h;injection e with e1 e2 e3
 subst e1 e3;refine⟨a,c,by rw[List.length_take,Nat.min_eq_left hk],⟨by rw[List.length_take];omega,h2,h3⟩,by rw[List.length_take];omega,fun i x hx=>h5 i x ?_⟩;rw[List.getElem?_take]at hx;split at hx
 ·exact hx
 ·cases hx
theorem Mc{w:World} {b o n c:Nat} {l:List Lk} (h:aU w (.slice (some ⟨b,o,none⟩) n c) l) (k:Nat) (hk:k<=l.length):aU w (.slice (some (if c=k then⟨b,o,none⟩ else⟨b,o+k * 2,none⟩)) (n - k) (c - k)) (l.drop k):=by
 obtain⟨a',c',e,⟨h1,h2,h3⟩,h4,h5⟩:=h;injection e with e1 e2 e3
 subst e1 e2 e3;refine⟨_,c - k,by rw[List.length_drop],⟨by rw[List.length_drop];omega,by omega,fun h=>by cases h⟩,by rw[List.length_drop];omega,fun i x hx=>?_⟩;rw[List.getElem?_drop]at hx;have hi:=(List.getElem?_eq_some_iff.1 hx).1;obtain⟨b',o',e,hr⟩:=h5 (k+i) x hx;injection e with e;injection e with e1 e2 e3
 subst e1 e2;refine⟨b,o+k * 2,by rw[if_neg (by omega)],?_⟩;rw[Nat.add_mul,<-Nat.add_assoc]at hr;exact hr
theorem tD(v:Value) (l:List Lk) (w:World) (hv:aU w v l) (hn:l.length<=1048576) :
  Calls Tryz.prog 27 #[v] w fun e w'=>∃ u,e=.returned u/\aD w' w.heap.size 75 2 u l.length (bF l)/\Below w.heap.size w w':=by
 obtain⟨i0,hi,cf,bP,cj⟩:=info_parts Tryz.infoLink;have HW:=aa (pE hv);have jK:=fun w=>Lib.run_eql_slice_nil (P:=Tryz.prog) w 54
 obtain⟨a,cap,rfl,⟨_,_,jH⟩,_,_⟩:=hv;cases a with
 | none=>
  have hl:l.length=0:=by have:=jH rfl;omega
  obtain rfl:l=[]:=List.eq_nil_of_length_eq_zero hl;obtain rfl:=jH rfl
  go_enter Tryz.func27,Tryz.ntmps27
  go_wp2_with fail
  go_ret
  exact⟨_,rfl,aD.nil _ _ _ _,Below.refl _ _⟩
 | some ad=>
  have bN:∀ j u,(bF l)[j]?=some u->(w.alloc (.cells #[] 75)).cell? (ad.add j)=some u:=fun j u hj=>by
   obtain⟨b,o,c,e,eB⟩:=HW.out j u hj;have:ad=⟨b,o,none⟩:=by simp at e;exact e.1
   subst this;have:(Addr.add ⟨b,o,none⟩ j)=⟨b,o+j,none⟩:=by unfold Addr.add;split<;>simp_all
   rw[this];exact ai (by go_grown) eB
  have aX:aD (w.alloc (.cells #[] 75)) w.heap.size 75 2 (.slice (some ⟨w.heap.size,0,none⟩) 0 0) 0 []:=⟨by simp,.inr ⟨w.heap.size,0,#[],(0,0),rfl,Nat.le_refl _,ak _ _,fun i hi=>by simp at hi,by omega,by simp[maxLen],by simp,by simp⟩⟩;have bB:=aa bN;have bL:=aa aX;clear bN aX jH
  go_enter Tryz.func27,Tryz.ntmps27
  go_wp2_with (at_builtin;(refine aZ _ rfl (.tmp 5) (.tmp 6) 54 rfl w.heap.size 75 i0 _ 2 16 Tryz.underlying54 hi cf bP cj rfl (by decide) _ 0 [] rfl bL.out ad l.length cap (bF l) rfl (eY l) bB.out (mX l) (by unfold maxLen;omega) (by omega) (by simp) ?_;intro v' w1 gG kZ _;obtain⟨av',cv',rfl⟩:=gG.slice))
  go_ret
  rw[Nat.zero_add,List.nil_append]at gG;refine⟨_,rfl,by simpa using gG,Below.grown (w:=w.alloc (.cells #[] 75)) (by go_grown) kZ (by simp) (fun k hk=>?_)⟩;cases hk;exact Nat.le_refl _
theorem aD.links{w:World} {base:Nat} {v:Value} {l:List Lk} (h:aD w base 75 2 v l.length (bF l)) (hx:∀ u∈l,bI u.x/\bI u.p) (hn:l.length<=1048576):aU w v l:=kQ h hx (by omega)
theorem Ks{w:World} {base g n c:Nat} {l:List Lk} (h:aD w base 75 2 (.slice (some ⟨g,0,none⟩) n c) n (bF l)) (j:Nat) (x:Value) (hj:j<(bF l).length) {m:List Lk} (hm:bF m=(bF l).set j x):aD (w.setCell ⟨g,j,none⟩ x) base 75 2 (.slice (some ⟨g,0,none⟩) n c) n (bF m):=by
 obtain⟨hl,h⟩:=h;refine⟨by rw[hm,List.length_set];exact hl,?_⟩;rcases h with ⟨h,_⟩|⟨g',cap,cur,fz,h1,h2,h3,h4,h5,h6,h7,h8⟩
 ·cases h
 injection h1 with e1 e2 e3
 injection e1 with e1
 injection e1 with e1
 subst e1 e3;refine .inr ⟨g,c,cur.setIfInBounds j x,fz,rfl,h2,aF h3 _ _,by simpa using h4,h5,h6,by simpa using h7,?_⟩;rw[hm,Array.toList_setIfInBounds,List.take_set,h8]
theorem IsSys.kp{w w':World} {s:Sys} {vc vs vt ve:Value} (h:IsSys w s vc vs vt ve) (hb:CK w w'):IsSys w' s vc vs vt ve:=⟨h.cases.ck up_case hb,h.states.ck up_moves hb,h.tab.ck up_view hb,h.ex.ck up_ex hb⟩
theorem ScAt.kp{w w':World} {B:Nat} {s:Sys} (h:ScAt w B s) (hk:iZ w.heap.size w w'):ScAt w' B s:=by
 obtain⟨vc,vs,vt,ve,vv,vl,h1,h2,h3,h4⟩:=h.ex;exact⟨vc,vs,vt,ve,vv,vl,(hk B (ar h1)).trans h1,h2.kp hk.ck,h3.ck up_int hk.ck,h4.ck up_int hk.ck⟩
theorem UV{n:Nat} (hn:n<=8) (q:Nat->Bool):maskN q n=maskN (fun p=>decide (p<n)&&q p) 8:=by
 refine Nat.eq_of_testBit_eq fun p=>?_
 rw[dI,dI];by_cases h:p<n
 ·rw[decide_eq_true h,decide_eq_true (show p<8 by omega)];rfl
 ·rw[decide_eq_false h];simp
theorem Rb{n:Nat} (hn:n<=8) (q:Nat->Bool):firstIx 8 (fun p=>decide (p<n)&&q p)=firstIx n q:=by
 rw[zW _ hn (fun v h1 h2=>by rw[decide_eq_false (by omega)];rfl)];exact lX _ _ _ fun p hp=>by rw[decide_eq_true hp];rfl
theorem aD.some{w:World} {base size n:Nat} {e:TypeId} {v:Value} {xs:List Value} (h:aD w base e size v n xs) (hn:0<n):∃ g c,v=.slice (some ⟨g,0,none⟩) n c/\base<=g/\g<w.heap.size/\n<=c/\∀ j,j<n * size->(∃ u,w.cell? ⟨g,j,none⟩=some u)/\w.frozen? ⟨g,j,none⟩=false:=by
 rcases h.2 with ⟨_,h0⟩|⟨g,cap,cur,fz,rfl,h2,h3,h4,h5,h6,h7,h8⟩
 ·omega
 refine⟨g,cap,rfl,h2,ar h3,h5,fun j hj=>?_⟩;have az:j<cur.size:=by rw[h7];exact Nat.lt_of_lt_of_le hj (Nat.mul_le_mul_right _ h5)
 refine⟨⟨cur[j],by rw[ab h3,Array.getElem?_eq_getElem az]⟩,?_⟩;simp only[World.frozen?,h3];have:=h4 j az;simpa using this
theorem Rc(a:List Lk) (y:Lk) (r:List Lk) (p:Int):bF (a++⟨y.x,p⟩ :: r)=(bF (a++y :: r)).set (a.length * 2+1) (.int .i64 p):=by
 rw[jj,jj,<-eY a,List.set_append_right _ _ (by omega),Nat.add_sub_cancel_left];rfl
def XM(base:Nat) (l:List Lk):MP:=⟨fun x W=>aD W base 75 2 x l.length (bF l),fun _ _ _ h hb=>h.up hb⟩
def XY(s:Sys) (l:List Lk) (pb n0:Nat) (i:Nat) (args:Array Value) (_:Nat->Prop) (W:World):Prop:=∃ v,args=#[v]/\aU W v ((dr s l).getD i [])/\∀ b,v.ownBlock=some b->b=pb\/n0<=b
structure KSz (S:Nat->Prop) (w w':World):Prop where
 keep:gj S w w'
 size:w.heap.size<=w'.heap.size
theorem KSz.trans{S:Nat->Prop} {a b c:World} (h:KSz S a b) (k:KSz S b c):KSz S a c:=⟨gj.trans h.1 k.1,Nat.le_trans h.2 k.2⟩
theorem jZ{w w':World} {pb po n c:Nat} {l:List Lk} (h:aU w (.slice (some ⟨pb,po,none⟩) n c) l) (hk:w'.heap[pb]?=w.heap[pb]?):aU w' (.slice (some ⟨pb,po,none⟩) n c) l:=by
 obtain⟨a',c',e,h1,h4,h5⟩:=h;refine⟨a',c',e,h1,h4,fun i x hx=>?_⟩;obtain⟨b,o,e2,hr⟩:=h5 i x hx;injection e with e3 e4 e5
 rw[<-e3]at e2;injection e2 with e2
 injection e2 with e6 e7
 have hc:∀ o',w'.cell? ⟨b,o',none⟩=w.cell? ⟨b,o',none⟩:=fun o'=>by unfold World.cell?;rw[<-e6,hk]
 refine⟨b,o,by rw[<-e3,e6,e7],⟨(hc _).trans hr.1.1,hr.1.2⟩,(hc _).trans hr.2.1,hr.2.2⟩
theorem J3(B:Nat) (v:Value) (w:World) (hv:∃ a n c,v=.slice a n c) :
  Calls Tryz.prog 55 #[.pointer (some ⟨B,0,none⟩),v] w fun r w'=>r=.returned (.func (.func 96) #[] #[.pointer (some ⟨w.heap.size+1,0,none⟩),.pointer (some ⟨w.heap.size,0,none⟩)])/\w'=(w.alloc (.cells #[.pointer (some ⟨B,0,none⟩)] 94)).alloc (.cells #[v] 54):=by
 obtain⟨a,n,c,rfl⟩:=hv
 go_enter Tryz.func55,Tryz.ntmps55
 go_wp2
 go_ret
 exact⟨rfl,rfl⟩
theorem Ho(s:Sys) (hs:SysOk s) (hE:eS s<=256) (l:List Lk) (gt:0<l.length) (mD:l.length<=4096) (hx:∀ y∈l,0<=y.x/\y.x.toNat<eS s) (B bx bw:Nat) (pb po cl:Nat) (w0:World) (hT:ii w0) (fO:ScAt w0 B s) (w:World) (aC:Below w0.heap.size w0 w) (hl:aU w (.slice (some ⟨pb,po,none⟩) l.length cl) l)
  (db:w.heap[bw]?=some (.cells #[.slice (some ⟨pb,po,none⟩) l.length cl] 54)) (kF:w.heap[bx]?=some (.cells #[.pointer (some ⟨B,0,none⟩)] 94)) :
  SG Tryz.prog 96 #[.pointer (some ⟨bw,0,none⟩),.pointer (some ⟨bx,0,none⟩)] (XY s l pb w.heap.size) (dr s l).length (fun k=>k<w0.heap.size\/k=pb\/k=bw\/k=bx) w:=by
 intro yl J Jx W hW hyl hJ nV hY nC;obtain⟨i0,cG,cf,bP,cj⟩:=info_parts Tryz.infoLink;have bQ:=aa (And.intro cG (And.intro cf (And.intro bP cj)));clear cG cf bP cj;obtain⟨pl,cl',ecl,lt1,lt2,el⟩:=hl.at;injection ecl with ecl1 _ ecl2
 obtain⟨pb',po',epb,hpb0⟩:=el 0 gt;rw[<-ecl1]at epb;injection epb with epb
 injection epb with epb1 epb2
 have lpb:pb<w.heap.size:=by rw[epb1];exact fj hpb0.1.1
 rw[<-ecl2]at lt1;clear epb1 epb2 ecl1 ecl2 hpb0 pb' po' pl cl' el;have lw1:=ar db;have lw2:=ar kF;have WI:KSz (fun k=>k<w0.heap.size\/k=pb\/k=bw\/k=bx) w W:=⟨fun k hk=>hW.block k (by rcases hk with hk|rfl|rfl|rfl<;>first|(have:=aC.size;omega)|assumption),hW.size⟩;obtain⟨S,hS⟩:∃ S,S=(fun k=>k<w0.heap.size\/k=pb\/k=bw\/k=bx):=⟨_,rfl⟩
 have K6:Hid (∀ V,KSz S w V->iZ w0.heap.size w0 V/\V.heap[pb]?=w.heap[pb]?/\V.heap[bw]?=some (.cells #[.slice (some ⟨pb,po,none⟩) l.length cl] 54)/\V.heap[bx]?=some (.cells #[.pointer (some ⟨B,0,none⟩)] 94)):=aa (fun V hV=>by
  subst hS
  exact⟨fun k hk=>(hV.1 k (.inl hk)).trans (aC.block k hk),hV.1 pb (.inr (.inl rfl)),(hV.1 bw (.inr (.inr (.inl rfl)))).trans db,(hV.1 bx (.inr (.inr (.inr rfl)))).trans kF⟩)
 rw[<-hS]at nC WI
 have PY:Hid (∀ V V',KSz S w V->Below V.heap.size V V'->KSz S w V'):=aa (fun V V' h1 h2=>⟨fun k hk=>(h2.block k (by
  have h4:=h1.2;subst hS;rcases hk with hk|rfl|rfl|rfl
  ·have:=aC.size;omega
  ·omega
  ·omega
  ·omega)).trans (h1.1 k hk),Nat.le_trans h1.2 h2.size⟩)
 have Ak:Hid (∀ (d:List (List Lk)) (c:List Lk) (r:List (List Lk)) (W1:World) (v:Value),dr s l=d++c :: r->aU W1 v c->(∀ b,v.ownBlock=some b->b=pb\/w.heap.size<=b)->J d.length S W1->YieldAt Fence.wide 0 Tryz.prog yl #[v] W1 fun e W'=>(e=.returned (.bool true)/\KSz S W1 W'/\W1.heap.size<=W'.heap.size/\J (d++[c]).length S W')\/(e=.returned (.bool false)/\∃ i,i<=(dr s l).length/\Jx i S W')):=aa (fun d c r W1 v e hv kE hj=>by
  obtain⟨h1,h2,h3,h4⟩:=Ki (x:=[]) e;obtain⟨fn,tmps,assign,body,hy,hR⟩:=hY d.length S W1 #[v] h1 ⟨v,rfl,by rw[h2];exact hv,kE⟩ hj;refine⟨fn,tmps,assign,body,hy,hR.mono ?_⟩;rintro e W' ⟨g1,g2,g3⟩;rcases g3 with ⟨rfl,g3⟩|⟨rfl,g3⟩
  ·exact .inl ⟨rfl,⟨g2,g1⟩,g1,by rw[h4];exact g3⟩
  ·exact .inr ⟨rfl,_,h1,g3⟩)
 have WM:Hid (∀ i V V',J i S V->Below V.heap.size V V'->J i S V'):=aa (fun i V V' h1 h2=>hJ i S S V V' h1 h2 (gr.refl _ _ _));have mC:Hid (dr s l=[]++l.dropLast :: ((if 1<l.length then [⟨(l.getD 1 default).x,-1⟩ :: l.drop 2] else [])++dL s l 0)):=aa (vR s l);have Tf:=aa (fun V (hV:KSz S w V)=>jZ hl (K6.out V hV).2.1);have MY:=aa (rc hl);have Wk:=aa hx;have gk:Hid (∀ V,KSz S w V->∀ e f:Nat,e<eS s->f<eS s->Calls Tryz.prog 97 #[.pointer (some ⟨B,0,none⟩),.int .i64 (e:Nat),.int .i64 (f:Nat)] V fun r w'=>r=.returned (.int .i64 (maskN (fun p=>linkB s p e f) (nS s):Nat))/\Below V.heap.size V w'):=aa (fun V hV e f he hf=>J2 s hs B e f he hf V (ScAt.kp fO (K6.out V hV).1));have V0:Hid (∀ V,KSz S w V->ii V):=aa (fun V hV=>ii.keep hT (K6.out V hV).1);have sK:=aa WI;have Kx:=aa nC;have HE4:=aa hE;have ic:nS s<=5:=hs.n.2.1;clear hY hJ nV nC WI hl fO hT hS hs hx hW aC db kF hyl lw1 lw2 lpb;have IS:Hid (aU W (.slice (some ⟨pb,po,none⟩) (l.length - 1) cl) l.dropLast):=aa (by rw[List.dropLast_eq_take];exact ni (Tf.out W sK.out) _ (by omega));have Jg:Hid (∀ V,KSz S w V->∀ i,i<l.length->aU V (.slice (some ⟨pb,po,none⟩) (i+1) cl) (l.take (i+1))):=aa (fun V hV i hi=>ni (Tf.out V hV) _ hi);have Wc:Hid (∀ V,KSz S w V->∀ k,k<l.length->aU V (.slice (some ⟨pb,po+k * 2,none⟩) (l.length - k) (cl - k)) (l.drop k)):=aa (fun V hV k hk=>by have h:=Mc (Tf.out V hV) k (by omega);rwa [if_neg (by omega)]at h)
 have Wm:Hid (∀ V,KSz S w V->∀ i,i<l.length->∃ e:Nat,(l.getD i default).x=(e:Int)/\(l.getD i default).x.toNat=e/\e<eS s/\V.cell? ⟨pb,po+i * 2,none⟩=some (.int .i64 (e:Int))):=aa (fun V hV i hi=>by
  obtain⟨a,c,e1,_,_,e2⟩:=(Tf.out V hV).at;obtain⟨b',o',e3,h1,h2⟩:=e2 i hi;injection e1 with e4 e5 e6
  rw[<-e4]at e3;injection e3 with e3
  injection e3 with e7 e8
  subst e7 e8;have h3:=Wk.out l[i] (List.getElem_mem hi);have hg:l.getD i default=l[i]:=by simp[hi]
  rw[hg];refine⟨l[i].x.toNat,by omega,rfl,h3.2,?_⟩;rw[h1.1];congr 2
  omega)
 have AI:Hid (∀ V,KSz S w V->V.cell? ⟨bw,0,none⟩=some (.slice (some ⟨pb,po,none⟩) l.length cl)/\V.cell? ⟨bx,0,none⟩=some (.pointer (some ⟨B,0,none⟩))):=aa (fun V hV=>⟨(ab (K6.out V hV).2.2.1 0).trans rfl,(ab (K6.out V hV).2.2.2 0).trans rfl⟩);have Al:Hid (∀ i,i<l.length->dL s l i=fh s l i 0++dL s l (i+1)):=aa (vO s l);have As:Hid (dL s l l.length=[]):=aa (xS s l);have TD:Hid (∀ i j,l.length<=i+2+j->fh s l i j=[]):=aa (xT s l);have HJN:Hid (∀ i j,i+2+j<l.length->byB s (l.getD i default).x.toNat (l.getD (l.length - 1 - j) default).x.toNat=false->fh s l i j=fh s l i (j+1)):=aa (fun i j h hb=>vQ s l i j h (by unfold l3;rw[hb];rfl));have Ua:Hid (∀ i j,i+2+j<l.length->byB s (l.getD i default).x.toNat (l.getD (l.length - 1 - j) default).x.toNat=true->fh s l i j=(l.take (i+1)++⟨(l.getD (l.length - 1 - j) default).x,byP s (l.getD i default).x.toNat (l.getD (l.length - 1 - j) default).x.toNat⟩ :: l.drop (l.length - 1 - j+1)) :: fh s l i (j+1)):=aa (fun i j h hb=>vP s l i j h (by unfold l3;rw[hb];rfl));have pP:Hid (1<l.length->dr s l=[l.dropLast]++(⟨(l.getD 1 default).x,-1⟩ :: l.drop 2) :: dL s l 0):=aa (fun h=>by rw[vR,if_pos h];rfl);have TY:Hid (¬ 1<l.length->dr s l=[l.dropLast]++dL s l 0):=aa (fun h=>by rw[vR,if_neg h];rfl)
 have Ws:Hid (1<l.length->bF (⟨(l.getD 1 default).x,-1⟩ :: l.drop 2)=(bF (l.drop 1)).set 1 (.int .i64 (-1))):=aa (fun h=>by
  rw[List.drop_eq_getElem_cons h,show l.getD 1 default=l[1] by simp[h]]
  rfl)
 obtain⟨n,hn⟩:∃ n,l.length=n:=⟨_,rfl⟩;have HN:=aa hn;rw[hn]at gt mD IS Jg Wc Wm AI Al As TD HJN Ua pP TY Ws lt1 lt2;clear hn;have tw:=(AI.out W sK.out).1;refine(callsIn_wide (n:=0)).1 ?_;refine callsIn_of_wp Tryz.func96 rfl trivial ?_ rfl;simp only[Tryz.ntmps96,List.size_toArray,List.length_cons,List.length_nil,Nat.reduceAdd,Nat.reduceSub,Array.replicate_succ,Array.replicate_zero,List.push_toArray,List.append_toArray,List.nil_append,List.cons_append];have jn:IntKind.i64.wrap ((n:Int) - 1)=((n - 1:Nat):Int):=by rw[IntWalk.i64_in _ (by omega)];omega
 obtain⟨fn,tmps,assign,body,n',hR⟩:=Ak.out [] _ _ W _ mC.out IS.out (fun b hb=>.inl (cU hb).symm) Kx.out;have HR:=aa hR;clear hR
 gi_wp2
 refine⟨rfl,HR.out.mono ?_⟩;rintro e W3 (⟨rfl,hZ,Cm,Ay⟩|⟨rfl,i,hi,rB⟩)
 case inr=>
  gi_wp2
  refine bodyPost_ret (results_none rfl _ _ _) rfl ?_;exact⟨⟨_,rfl⟩,_,.inr ⟨_,hi,rB⟩⟩
 clear tw HR n';have kW:=aa (KSz.trans sK.out hZ);have S0:=aa Ay;clear hZ Ay IS;have tw:=(AI.out W3 kW.out).1
 have TR:Hid (∃ d,dr s l=d++dL s l 0):=aa (by
  by_cases h:1<n
  ·exact⟨_,by rw[pP.out h,List.append_cons]⟩
  ·exact⟨_,TY.out h⟩)
 by_cases kG:1<n
 case' pos=>
  have WE:decide ((1:Int)<(n:Int))=true:=decide_eq_true (by omega);have qE:=aa (tD (.slice (some ⟨pb,po+2,none⟩) (n - 1) (cl - 1)) (l.drop 1) W3 (Wc.out W3 kW.out 1 (by omega)) (by rw[List.length_drop,HN.out];omega));rw[List.length_drop,HN.out]at qE
  have yK:Hid (∀ y∈(⟨(l.getD 1 default).x,-1⟩ :: l.drop 2:List Lk),bI y.x/\bI y.p):=aa (fun y hy=>by
   rcases List.mem_cons.1 hy with rfl|hy
   ·have h1:=MY.out (l.getD 1 default) (by rw[show l.getD 1 default=l[1]'(by rw[HN.out];omega) by simp[HN.out,kG]];exact List.getElem_mem _)
    exact⟨h1.1,⟨by dsimp only;omega,by dsimp only;omega⟩⟩
   ·exact MY.out y (List.mem_of_mem_drop hy))
  have hn10:(0:Int)<((n - 1:Nat):Int):=by omega
  gi_wp2
  refine⟨trivial,rfl,callsIn_wide.2 (qE.out.mono ?_)⟩;rintro e w4 ⟨u,rfl,hu,cg⟩;obtain⟨g,c,rfl,wN,Fx,rx,FJ⟩:=hu.some (by omega);obtain⟨⟨uo,tu⟩,fu⟩:=FJ 1 (by omega);have HO:=aa hu;have fe:=aa cg;clear qE hu cg tw FJ;have hn100:0<n - 1:=by omega
  have kT:Hid (aU (w4.setCell ⟨g,1,none⟩ (.int .i64 (-1))) (.slice (some ⟨g,0,none⟩) (n - 1) c) (⟨(l.getD 1 default).x,-1⟩ :: l.drop 2)/\Below W3.heap.size W3 (w4.setCell ⟨g,1,none⟩ (.int .i64 (-1)))):=aa (by
   have h1:=Ks HO.out 1 (.int .i64 (-1)) (by rw[eY,List.length_drop,HN.out];omega) (Ws.out kG);have e1:(⟨(l.getD 1 default).x,-1⟩ :: l.drop 2:List Lk).length=n - 1:=by rw[List.length_cons,List.length_drop,HN.out];omega
   refine⟨aD.links (base:=W3.heap.size) (by rw[e1];exact h1) yK.out (by rw[e1];omega),fe.out.setCell (p:=⟨g,1,none⟩) wN _⟩)
  obtain⟨fn2,tmps2,assign2,body2,n',hR⟩:=Ak.out [l.dropLast] _ _ (w4.setCell ⟨g,1,none⟩ (.int .i64 (-1))) _ (pP.out kG) kT.out.1 (fun b hb=>.inr (by have e:=cU hb;have h1:=kW.out.2;dsimp only at e;omega)) (WM.out _ _ _ S0.out kT.out.2);have HR:=aa hR;clear hR
  gi_wp2
  refine⟨rfl,HR.out.mono ?_⟩;rintro e W6 (⟨rfl,KZ,hz6,hj6⟩|⟨rfl,i,hi,hJx6⟩)
  case inr=>
   clear Ak
   gi_wp2
   refine bodyPost_ret (results_none rfl _ _ _) rfl ?_;exact⟨⟨_,rfl⟩,_,.inr ⟨_,hi,hJx6⟩⟩
  have Il:=aa (KSz.trans (PY.out _ _ kW.out kT.out.2) KZ);have SZ:Hid (∃ d,dr s l=d++dL s l 0/\J d.length S W6):=aa ⟨_,by rw[pP.out kG,List.append_cons],hj6⟩;clear KZ hj6 hz6 kT HR n' HO fe tu fu wN Fx rx hn100 hn10 yK WE
  gi_wp2
 case' neg=>
  have WE:decide ((1:Int)<(n:Int))=false:=decide_eq_false (by omega);obtain⟨W6,yV⟩:∃ W6,W6=W3:=⟨_,rfl⟩;rw[<-yV]at kW S0 ⊢;have Il:=aa kW.out;have SZ:Hid (∃ d,dr s l=d++dL s l 0/\J d.length S W6):=aa ⟨_,TY.out kG,S0.out⟩;clear yV tw
  gi_wp2
  clear WE
 all_goals
  clear TR kG kW S0 sK Kx mC pP TY Ws;obtain⟨W0,aW⟩:∃ W0,W0=W6:=⟨_,rfl⟩;rw[<-aW]at Il SZ ⊢;clear aW
  gi_loopw [32] (fun i wr=>∃ (i':Nat) (d:List (List Lk)),i'<=n/\i=.int .i64 i'/\dr s l=d++dL s l i'/\KSz S w wr/\J d.length S wr) (fun i _=>n - (intOf i).toNat)
  case atStart=>
   obtain⟨d,h1,h2⟩:=SZ.out;exact⟨0,d,by omega,rfl,h1,Il.out,h2⟩
  case round=>
   clear Il SZ W0;obtain⟨i,d,hi,rfl,hd,fM,yN⟩:=hrel;have jP:=aa fM;have iX:=aa yN;have HD:=aa hd;clear fM yN hd;by_cases az:i<n
   ·obtain⟨wrA,lB⟩:∃ x,x=wr:=⟨_,rfl⟩
    rw[<-lB]at jP iX ⊢;clear lB;have HDI':Hid (dr s l=d++(fh s l i 0++dL s l (i+1))):=aa (by rw[<-Al.out i az];exact HD.out)
    gi_wp2
    gi_loopw [7] (fun v wr=>∃ (j:Nat) (d:List (List Lk)),j<=n - 1/\v=.int .i64 ((n - 1 - j:Nat):Int)/\dr s l=d++(fh s l i j++dL s l (i+1))/\KSz S w wr/\J d.length S wr) (fun v _=>(intOf v).toNat)
    case atStart=>exact⟨0,d,by omega,by rw[Nat.sub_zero],HDI'.out,jP.out,iX.out⟩
    case round=>
     clear jP iX HD HDI' d;obtain⟨j,d,hj,rfl,hd,fM,yN⟩:=hrel;have jP:=aa fM;have iX:=aa yN;have HD:=aa hd;obtain⟨k,hk⟩:∃ k,n - 1 - j=k:=⟨_,rfl⟩;rw[hk];have HJE1:=aa (TD.out i j);have I7:=aa (HJN.out i j);have Ec:=aa (Ua.out i j);rw[hk]at I7 Ec;have hnk1:k+1+j<=n:=by omega
     have hnk2:n<=k+1+j:=by omega
     clear yN hd hk;have hwi:IntKind.i64.wrap ((i:Int)+2)=(i:Int)+2:=by rw[IntWalk.i64_in _ (by omega)]
     by_cases mE:i+2<=k
     ·obtain⟨e,zf,wP,he3,he4⟩:=Wm.out wr fM i az
      obtain⟨f,ez,sA,hf3,hf4⟩:=Wm.out wr fM k (by omega);rw[wP,sA]at I7 Ec;rw[ez]at Ec;have hbv:=(AI.out wr fM).1;have Am:=(AI.out wr fM).2;have yb:∀ z:ExtW wr,z.val.cell? ⟨bw,0,none⟩=_:=fun z=>ai z.ext hbv
      have yx:∀ z:ExtW wr,z.val.cell? ⟨bx,0,none⟩=_:=fun z=>ai z.ext Am
      have ye:∀ z:ExtW wr,z.val.cell? ⟨pb,po+i * 2,none⟩=_:=fun z=>ai z.ext he4
      have yf:∀ z:ExtW wr,z.val.cell? ⟨pb,po+k * 2,none⟩=_:=fun z=>ai z.ext hf4
      have bO:Hid (∀ y:ExtW wr,Calls Tryz.prog 97 #[.pointer (some ⟨B,0,none⟩),.int .i64 (e:Nat),.int .i64 (f:Nat)] y.val fun r w''=>r=.returned (.int .i64 (maskN (fun p=>linkB s p e f) (nS s):Nat))/\∃ z:ExtW wr,w''=z.val):=aa (fun y=>Calls.ext_of (gk.out y.val (PY.out _ _ jP.out y.ext) e f he3 hf3));have HZ:Hid (maskN (fun p=>linkB s p e f) (nS s)=0↔byB s e f=false):=aa (lf _ _);have HUP:Hid (maskN (fun p=>linkB s p e f) (nS s)=maskN (fun p=>decide (p<nS s)&&linkB s p e f) 8):=aa (UV (by omega) _);have AK:Hid (firstIx 8 (fun p=>decide (p<nS s)&&linkB s p e f)=byP s e f):=aa (Rb (by omega) _);have gN:i<n:=az;have lW:k<n:=by omega
      have uF:Hid ((l.getD k default).x=f):=aa ez;have aR:Hid (∀ e f':Nat,bI (byP s e f')/\bI (f:Int)):=aa (fun e f'=>⟨by have:=A8 (nS s) fun p=>linkB s p e f';unfold byP;generalize firstIx (nS s) _=z at this;exact⟨by omega,by omega⟩,by have:=HE4.out;exact⟨by omega,by omega⟩⟩);clear zf wP ez sA he4 hf4 hbv Am fM he3 hf3;obtain⟨m,hm⟩:∃ m,maskN (fun p=>linkB s p e f) (nS s)=m:=⟨_,rfl⟩;rw[hm]at bO HZ HUP;clear hm
      gi_wp2
      refine wpIn_wide.2 ?_;refine aB (by kernel_rfl) (by kernel_rfl) ?_
      repeat (go_big_quiet_step ((go_at_call 97;with_reducible exact bO.out _)))
      refine wpQuiet_nil ?_;rintro _ ⟨xq,rfl⟩;have mH:=aa (PY.out _ _ jP.out xq.ext);have M1:=aa (WM.out _ _ _ iX.out xq.ext);generalize xq.val=wr2 at mH M1 ⊢;clear yb yx ye yf bO jP iX xq wr;obtain⟨wr,kr⟩:∃ x,x=wr2:=⟨_,rfl⟩;rw[<-kr]at mH M1 ⊢;clear kr;have Sw:0<k->IntKind.i64.wrap ((k:Int) - 1)=((n - 1 - (j+1):Nat):Int):=fun _=>by rw[IntWalk.i64_in _ (by omega)];omega
      have Sw:=Sw (by omega);cases gw:byB s e f with
      | false=>
       obtain rfl:m=0:=HZ.out.2 gw;have dz:=aa (I7.out (by omega) gw);clear gw I7 Ec
       gi_wp2
       go_roundw
       case rel=>exact⟨j+1,d,by omega,rfl,by rw[<-dz.out];exact HD.out,mH.out,M1.out⟩
       case measure=>simp[intOf];omega
      | true=>
       have uW:((m:Int) == 0)=false:=beq_eq_false_iff_ne.2 (fun h=>by have:=HZ.out.1 (by omega);rw[gw]at this;cases this);have vf:=aa (Ec.out (by omega) gw);clear gw I7 Ec HZ;have I0:=aa (Jg.out wr mH.out i gN);have Sl:=aa (K6.out wr mH.out).2.2.1;have PT:=aa (Wc.out wr mH.out k lW);have sW:Hid ((l.take (i+1)).length=i+1):=aa (by rw[List.length_take,HN.out];omega);have IQ:Hid ((l.drop k).length=n - k):=aa (by rw[List.length_drop,HN.out]);have hwi1:IntKind.i64.wrap ((i:Int)+1)=((i+1:Nat):Int):=by rw[IntWalk.i64_in _ (by omega)];omega
       rw[HN.out]at Sl
       gi_wp2
       refine wpIn_wide.2 ?_;have hS:List.Nodup [57,58,59,60,61,62,63,64]:=by decide
       refine dJ 8 [57,58,59,60,61,62,63,64] [MP.eq (.slice (some ⟨pb,po,none⟩) n cl),MP.eq (.int .i64 i),MP.eq (.int .i64 ((i+1:Nat):Int)),MP.eq (.slice (some ⟨pb,po,none⟩) (i+1) cl),XM wr.heap.size (l.take (i+1)),MP.eq (.slice (some ⟨pb,po,none⟩) n cl),MP.eq (.int .i64 k),MP.eq (.slice (some ⟨pb,po+k * 2,none⟩) (n - k) (cl - k))] (by kernel_rfl) (by simp) hS rfl (by kernel_rfl) (by kernel_rfl) (by kernel_rfl) ?step ?tail
       case step=>
        intro x W i o s F hi ho hs hB aj hF;rcases (show i=0\/i=1\/i=2\/i=3\/i=4\/i=5\/i=6\/i=7 by omega) with rfl|rfl|rfl|rfl|rfl|rfl|rfl|rfl
        all_goals (obtain rfl:=cU ho.symm;obtain rfl:=cU hs.symm;clear hi ho hs)
        ·obtain⟨g1,h1⟩:=bT hF 1 (.pointer (some ⟨bw,0,none⟩)) (by decide) rfl
         have tw:=ab (af hB Sl.out) 0;simp at tw;clear hF aj
         go_wp2_with fail
         exact aQ.mk (.slice (some ⟨pb,po,none⟩) n cl) (Below.refl _ _) rfl rfl
        ·obtain⟨g6,h6⟩:=bT hF 6 (.int .i64 i) (by decide) rfl
         clear hF aj
         go_wp2_with fail
         exact aQ.mk (.int .i64 i) (Below.refl _ _) rfl rfl
        ·obtain⟨e1,f1⟩:=aJ hF 1 58 (.int .i64 i) hS rfl (by kernel_rfl) (aj ⟨1,.data⟩ (by simp) rfl)
         clear hF aj
         go_wp2_with fail
         exact aQ.mk (.int .i64 ((i+1:Nat):Int)) (Below.refl _ _) rfl rfl
        ·obtain⟨e0,f0⟩:=aJ hF 0 57 (.slice (some ⟨pb,po,none⟩) n cl) hS rfl (by kernel_rfl) (aj ⟨0,.data⟩ (by simp) rfl)
         obtain⟨e2,f2⟩:=aJ hF 2 59 (.int .i64 ((i+1:Nat):Int)) hS rfl (by kernel_rfl) (aj ⟨2,.data⟩ (by simp) rfl);clear hF aj
         go_wp2_with fail
         exact aQ.mk (.slice (some ⟨pb,po,none⟩) (i+1) cl) (Below.refl _ _) rfl rfl
        ·obtain⟨e3,f3⟩:=aJ hF 3 60 (.slice (some ⟨pb,po,none⟩) (i+1) cl) hS rfl (by kernel_rfl) (aj ⟨3,.data⟩ (by simp) rfl)
         clear hF aj
         go_wp2_with fail
         refine(tD _ _ W (I0.out.up up_link hB) (by rw[sW.out];omega)).mono ?_;rintro e w9 ⟨u9,rfl,jp,eN⟩;have mL:=aa (jp.base hB.size);clear jp
         go_wp2_with fail
         exact aQ.mk _ eN mL.out rfl
        ·obtain⟨g1,h1⟩:=bT hF 1 (.pointer (some ⟨bw,0,none⟩)) (by decide) rfl
         have tw:=ab (af hB Sl.out) 0;simp at tw;clear hF aj
         go_wp2_with fail
         exact aQ.mk (.slice (some ⟨pb,po,none⟩) n cl) (Below.refl _ _) rfl rfl
        ·obtain⟨g7,h7⟩:=bT hF 7 (.int .i64 k) (by decide) rfl
         clear hF aj
         go_wp2_with fail
         exact aQ.mk (.int .i64 k) (Below.refl _ _) rfl rfl
        ·obtain⟨e5,f5⟩:=aJ hF 5 62 (.slice (some ⟨pb,po,none⟩) n cl) hS rfl (by kernel_rfl) (aj ⟨5,.data⟩ (by simp) rfl)
         obtain⟨e6,f6⟩:=aJ hF 6 63 (.int .i64 k) hS rfl (by kernel_rfl) (aj ⟨6,.data⟩ (by simp) rfl);clear hF aj
         go_wp2_with fail
         exact aQ.mk (.slice (some ⟨pb,po+k * 2,none⟩) (n - k) (cl - k)) (Below.refl _ _) rfl rfl
       case tail=>
        clear hS;intro x W3 F hB aP hF;have d4:aD W3 wr.heap.size 75 2 (x 4) (l.take (i+1)).length (bF (l.take (i+1))):=aP 4 (by omega);have d7:x 7=.slice (some ⟨pb,po+k * 2,none⟩) (n - k) (cl - k):=aP 7 (by omega);rw[sW.out]at d4;obtain⟨a4,c4,e4⟩:=aD.slice d4;rw[e4]at d4;simp only[bd,cJ,List.setIfInBounds_toArray,List.set_cons_succ,List.set_cons_zero,Nat.reduceAdd]at hF;rw[e4,d7]at hF;generalize x 0=s0,x 1=s1,x 2=s2,x 3=s3,x 5=s5,x 6=s6 at hF;subst hF;have nJ:=aa hB;have Jc:=aa d4;have yQ:=aa (PT.out.up up_link hB)
        have bB:Hid (∀ j u,(bF (l.drop k))[j]?=some u->W3.cell? (Addr.add ⟨pb,po+k * 2,none⟩ j)=some u):=aa (fun j u hj=>by
         obtain⟨b',o',c',e1,hc⟩:=pE yQ.out j u hj;injection e1 with e1
         injection e1 with e1
         injection e1 with e1 e2
         subst e1 e2;have:(Addr.add ⟨pb,po+k * 2,none⟩ j)=⟨pb,po+k * 2+j,none⟩:=by unfold Addr.add;split<;>simp_all
         rw[this];exact hc)
        have PJ:Hid ((bF (l.drop k)).length=(n - k) * 2):=aa (by rw[eY,IQ.out]);have gO:Hid (i+1+(n - k)<=maxLen):=aa (by unfold maxLen;omega);have eo:Hid ((i+1+(n - k)) * 16<=140737488355328):=aa (by omega);clear aP d4 d7 e4 hB;simp only[List.drop_succ_cons,List.drop_zero]
        go_wp2_with (at_builtin;(refine aZ _ rfl (.tmp 61) (.tmp 64) 54 rfl wr.heap.size 75 i0 _ 2 16 Tryz.underlying54 bQ.out.1 bQ.out.2.1 bQ.out.2.2.1 bQ.out.2.2.2 rfl (by decide) _ (i+1) _ rfl Jc.out ⟨pb,po+k * 2,none⟩ (n - k) (cl - k) (bF (l.drop k)) rfl PJ.out bB.out (mX _) gO.out eo.out nJ.out.size ?_;intro v5 w5 sE yW _))
        have dO:Below wr.heap.size wr w5:=Below.grown nJ.out yW nJ.out.size (fun g hg=>(Jc.out.lt g hg).1);obtain⟨g5,c5,rfl,wN,Fx,rx,FJ⟩:=sE.some (by omega);obtain⟨⟨uo,tu⟩,fu⟩:=FJ ((i+1) * 2+1) (by omega);have hi5:i+1<i+1+(n - k):=by omega
        have TT:=aa (PY.out _ _ mH.out dO)
        have RG:Hid (Calls Tryz.prog 83 #[.int .i64 m] w5 fun r w'=>r=.returned (.int .i64 (byP s e f))/\w5=w'):=aa (by
         have h:=B' (fun p=>decide (p<nS s)&&linkB s p e f) w5 (V0.out w5 TT.out);rw[<-HUP.out,AK.out]at h
         exact h)
        have C9:Hid (aD w5 wr.heap.size 75 2 (.slice (some ⟨g5,0,none⟩) (i+1+(n - k)) c5) (i+1+(n - k)) (bF (l.take (i+1)++l.drop k))):=aa (by rw[jj];exact sE);have iy:=aa dO;clear sE yW FJ dO;have FM:Hid (bI (byP s e f)/\bI (f:Int)):=aa (aR.out e f);generalize byP s e f=bp at RG vf FM
        gi_wp2
        refine⟨trivial,rfl,callsIn_wide.2 (RG.out.mono ?_)⟩;rintro r w6 ⟨rfl,rfl⟩;have cP:bI bp/\bI (f:Int):=FM.out;obtain⟨y,hy⟩:∃ y:Lk,y=⟨f,bp⟩:=⟨_,rfl⟩
        have O6:Hid (aU (w5.setCell ⟨g5,(i+1) * 2+1,none⟩ (.int .i64 bp)) (.slice (some ⟨g5,0,none⟩) (i+1+(n - k)) c5) (l.take (i+1)++⟨f,bp⟩ :: l.drop (k+1))/\Below wr.heap.size wr (w5.setCell ⟨g5,(i+1) * 2+1,none⟩ (.int .i64 bp))):=aa (by
         have e0:(l.getD k default).x=f:=uF.out;have e1:l.drop k=l.getD k default :: l.drop (k+1):=by rw[List.drop_eq_getElem_cons (by rw[HN.out];exact lW),show l.getD k default=l[k]'(by rw[HN.out];exact lW) by simp[HN.out,lW]]
         have e2:bF (l.take (i+1)++⟨f,bp⟩ :: l.drop (k+1))=(bF (l.take (i+1)++l.drop k)).set ((i+1) * 2+1) (.int .i64 bp):=by rw[e1,<-e0,Rc,sW.out]
         have e3:(l.take (i+1)++⟨f,bp⟩ :: l.drop (k+1):List Lk).length=i+1+(n - k):=by rw[List.length_append,List.length_cons,sW.out,List.length_drop,HN.out];omega
         have h1:=Ks C9.out ((i+1) * 2+1) (.int .i64 bp) (by rw[eY,List.length_append,sW.out,IQ.out];omega) e2;refine⟨aD.links (base:=wr.heap.size) (by rw[e3];exact h1) (fun y hy=>?_) (by rw[e3];omega),iy.out.setCell (p:=⟨g5,(i+1) * 2+1,none⟩) wN _⟩;rcases List.mem_append.1 hy with hy|hy
         ·exact MY.out y (List.mem_of_mem_take hy)
         rcases List.mem_cons.1 hy with rfl|hy
         ·exact⟨cP.2,cP.1⟩
         ·exact MY.out y (List.mem_of_mem_drop hy))
        clear hy y cP RG;obtain⟨fn,tmps,assign,body,n',hR⟩:=Ak.out d _ (fh s l i (j+1)++dL s l (i+1)) (w5.setCell ⟨g5,(i+1) * 2+1,none⟩ (.int .i64 bp)) _ (by rw[HD.out,vf.out];rfl) O6.out.1 (fun b hb=>.inr (by have e:=cU hb;have h1:=mH.out.2;dsimp only at e;omega)) (WM.out _ _ _ M1.out O6.out.2);have HR:=aa hR;clear hR;have Pc:Hid (dr s l=(d++[l.take (i+1)++⟨f,bp⟩ :: l.drop (k+1)])++(fh s l i (j+1)++dL s l (i+1))):=aa (by rw[HD.out,vf.out];simp)
        gi_wp2
        refine⟨rfl,HR.out.mono ?_⟩;rintro r W9 (⟨rfl,yD,PD,PX⟩|⟨rfl,i9,Po,hJx9⟩)
        ·have pS:=aa (KSz.trans (PY.out _ _ mH.out O6.out.2) yD);have HJ9:=aa PX
         clear yD PX PD HR n'
         gi_wp2
         go_roundw
         case rel=>exact⟨j+1,_,by omega,rfl,Pc.out,pS.out,HJ9.out⟩
         case measure=>simp[intOf];omega
        ·clear Ak HR n'
         gi_wp2
         refine bodyPost_ret (results_none rfl _ _ _) rfl ?_;exact⟨⟨_,rfl⟩,_,.inr ⟨_,Po,hJx9⟩⟩
     ·have HJE2:=aa (HJE1.out (by omega))
      clear fM
      gi_wp2
      go_roundw
      case rel=>exact⟨i+1,d,by omega,by go_num,by rw[HD.out,HJE2.out];rfl,jP.out,iX.out⟩
      case measure=>simp[intOf];omega
   ·obtain rfl:i=n:=by omega
    have HCE:Hid (d.length=(dr s l).length):=aa (by rw[HD.out,As.out,List.append_nil])
    gi_wp2
    go_end0
    exact⟨⟨_,rfl⟩,_,.inl (by rw[<-HCE.out];exact iX.out)⟩
abbrev fp(k:Int) (u:Value):Array Value:=#[.int .i64 k,u,.slice none 0 0,.slice none 0 0,.slice none 0 0]
theorem wG(tmps:Array Value) (B:Nat) (W:World) (k e:Int) (u:Value) (h4:tmps[4]?.getD undef=.pointer (some ⟨B,0,none⟩)) (h5:tmps[5]?.getD undef=.int .i64 e)
  (hB:W.heap[B]?=some (.cells (fp k u) 58)):(results Tryz.f22 tmps).run Tryz.prog W=.ok (.tuple #[.agg (fp k u),.int .i64 e]) W:=by
 have t2:=ab hB;simp[results,Tryz.results22,go_sem,h4,h5,t2]
theorem A9{w:World} {pb po n c:Nat} {l:List Lk} (h:aU w (.slice (some ⟨pb,po,none⟩) n c) l) (h0:0<l.length):pb<w.heap.size:=by
 obtain⟨pl,cl,e1,_,_,el⟩:=h.at;obtain⟨b,o,e2,h1⟩:=el 0 h0;injection e1 with e1
 rw[<-e1]at e2;injection e2 with e2
 injection e2 with e2
 rw[e2];exact fj h1.1.1
theorem UW{s:Sys} {w:List Lk} {i:Nat} (hi:i<(dr s w).length) (h0:∀ j,j<i->dB s ((dr s w).getD j [])=false) (h1:dB s ((dr s w).getD i [])=true):nextW s w=some ((dr s w).getD i []):=by
 refine GW (d:=(dr s w).take i) (r:=(dr s w).drop (i+1)) ?_ (fun x hx=>?_) h1
 ·rw[ap [] hi]
  simp
 ·obtain⟨j,hj,e⟩:=List.getElem_of_mem hx
  rw[List.length_take]at hj;have h2:=h0 j (by omega);rw[ap [] (by omega)]at h2;rw[<-e,List.getElem_take];exact h2
theorem UX{s:Sys} {w:List Lk} (h0:∀ j,j<(dr s w).length->dB s ((dr s w).getD j [])=false):nextW s w=none:=by
 refine Ew rfl (fun x hx=>?_);obtain⟨j,hj,e⟩:=List.getElem_of_mem hx;have h2:=h0 j hj;rw[ap [] hj,e]at h2;exact h2
theorem UY{s:Sys} {w c:List Lk} (hw:walkE s w=0) (hc:c∈dr s w):∀ y∈c,0<=y.x/\y.x.toNat<eS s:=fun y hy=>by
 have h0:0<c.length:=List.length_pos_of_mem hy;exact DM ((xK hc h0).walk hw) y hy
def Re(vr:List Lk × Int) (r:Ending) (w':World):Prop:=∃ u,r=.returned (.tuple #[.agg (fp (if vr.2=0 then 1 else 0) u),.int .i64 vr.2])/\aU w' u vr.1
structure ShI (w w0:World) (b8 b9:Nat) (wk:List Lk) (ag:Bool) (Ds:List Nat) (V:World):Prop where
 old:Below w0.heap.size w0 V
 wk:∃ pb po cl,V.heap[b8]?=some (.cells #[.slice (some ⟨pb,po,none⟩) wk.length cl] 54)/\aU V (.slice (some ⟨pb,po,none⟩) wk.length cl) wk/\(pb≠b8/\pb≠b9)/\w0.heap.size<=pb
 ag:V.heap[b9]?=some (.cells #[.bool ag] 4)
 marks:cQ w.heap.size Ds V
theorem ShI.sta{w w0:World} {b8 b9 B:Nat} {wk:List Lk} {ag:Bool} {Ds:List Nat} (h1:w0.heap.size<=B) (h2:∀ D∈Ds,D<B) {A A':World} (c:Chg B A A') (h:ShI w w0 b8 b9 wk ag Ds A):ShI w w0 b8 b9 wk ag Ds A':=by
 obtain⟨pb,po,cl,k1,k2,k3⟩:=h.wk;exact⟨c.below h1 h.old.size h.old,⟨pb,po,cl,c.same _ _ k1 (.inr rfl),k2.ck up_link c.ck,k3⟩,c.same _ _ h.ag (.inr rfl),cI.marks h2 A A' c h.marks⟩
def XZ(s:Sys) (w w0:World) (b6 b8:Nat) (F:List Lk) (n:Nat) (act:Act) (W:World):Prop:=∃ (b9:Nat) (wk:List Lk) (ag:Bool) (Ds:List Nat) (u0 u1 u3 u7 u10 u11 u12 u13 u14 u15 u16 u17 u18 u19 u20 u21 u22 u23 u24 u25 u26 u27 u28 u29 u30 u31 u32 u33 u34 u35:Value),
 act={ tmps:=#[u0,u1,.pointer (some ⟨w.heap.size,0,none⟩),u3,.pointer (some ⟨w.heap.size+1+1,0,none⟩),.int .i64 0,.pointer (some ⟨b6,0,none⟩),u7,.pointer (some ⟨b8,0,none⟩),.pointer (some ⟨b9,0,none⟩),u10,u11,u12,u13,u14,u15,u16,u17,u18,u19,u20,u21,u22,u23,u24,u25,u26,u27,u28,u29,u30,u31,u32,u33,u34,u35],defers:=mA Ds }/\n=2 * wk.length+(if ag then 1 else 0)/\walkE s wk=0/\(if ag then fW s wk else wk)=F/\w0.heap.size<=b8/\b8<b9/\ShI w w0 b8 b9 wk ag Ds W
theorem yo(s:Sys) (hE:eS s<=256) (vc vs vt ve vw:Value) (c:Ct) (pv:Option Addr) (cv:Nat) (pl:Option Addr) (cl:Nat) (pp:Option Addr) (cp:Nat) (w:World) (hT:ii w) (hs:IsSys w s vc vs vt ve) (hN:movesN s.prob.a.states<1099511627776) (hw:aU w vw c.walk) :
  Calls Tryz.prog 22 #[.agg (bE s.prob vc vs s.n vt ve),.agg #[.int .i64 c.kind,vw,.slice pv c.nv cv,.slice pl c.nl cl,.slice pp c.np cp]] w fun r w'=>Re (shortR s c) r w'/\Below w.heap.size w w':=by
 have HS:=aa hs;have HT:=aa hT;obtain⟨⟨pc,cc,rfl⟩,⟨ps,cs,rfl⟩,⟨pt,ct,rfl⟩,⟨pe,ce,rfl⟩⟩:=bg hs;obtain⟨pw,cw,rfl,lw1,lw2,_⟩:=hw.at;have TF:=aa hw;have HV:=aa (fun W (hb:Below w.heap.size w W)=>ym s hE _ _ _ _ _ c pv cv pl cl pp cp W (HS.out.up hb) hN (TF.out.up up_link hb))
 have TE:Hid (certE s c=0->verifyE s=0/\walkE s c.walk=0):=aa (fun h=>by
  unfold certE at h;split at h
  ·rename_i h1;exact absurd h h1
  rename_i h1;refine⟨ra (by omega),?_⟩;unfold certR at h;split at h
  ·omega
  split at h
  ·omega
  split at h
  ·rename_i h4;exact absurd h h4
  ·rename_i h4;omega)
 have PI:Hid (certE s c=0->shortR s c=(fW s c.walk,0)):=aa (fun h=>by unfold shortR;rw[if_neg (by omega)]);have cX:Hid (certE s c≠0->shortR s c=([],certE s c)):=aa (fun h=>by unfold shortR;rw[if_pos h]);generalize shortR s c=vr at PI cX ⊢;obtain⟨ee,wK⟩:∃ ee,certE s c=ee:=⟨_,rfl⟩;rw[wK]at HV TE PI cX;obtain⟨kd,wk0,nv,nl,np⟩:=c;dsimp only at *;clear hs hT hw wK;refine fT Tryz.func22 rfl ?_;simp only[Tryz.ntmps22,List.size_toArray,List.length_cons,List.length_nil,Nat.reduceAdd,Nat.reduceSub,Array.replicate_succ,Array.replicate_zero,List.push_toArray,List.append_toArray,List.nil_append,List.cons_append]
 go_wp2_with fail
 refine aL (fun W=>Below w.heap.size w W/\W.heap[w.heap.size+1]?=some (.cells #[.int .i64 kd,.slice pw wk0.length cw,.slice pv nv cv,.slice pl nl cl,.slice pp np cp] 58)/\W.heap[w.heap.size+1+1]?=some (.cells (fp 0 (.slice none 0 0)) 58)) ⟨by go_grown,am _ (ba _ _ _),dH _ _ _ _⟩ (fun W0 aW=>?_);obtain⟨aC,gS,gJ⟩:=aW;refine(HV.out W0 aC).mono ?_;rintro r w1 ⟨⟨v,rfl,h2,h3⟩,aG⟩;have bC:=aa (ae aC aG);have gm:=aa (af aG gS);have PH:=aa (af aG gJ);have fP:=ar PH.out;by_cases hr:ee=0
 case neg=>
  have TO:=aa (cX.out hr);obtain rfl:=h3 hr;have Fl:(ee != 0)=true:=by simpa using hr
  have Xb:=aa hr;clear aC aG h2 h3 hr HV gS gJ TE PI cX
  go_wp2_with (refine wpList_store_row rfl 58 (.tmp 4) (.tmp 19) rfl (w.heap.size+1+1) (fp 0 (.slice none 0 0)) rfl rfl 58 _ (am _ PH.out) (by kernel_rfl) rfl (by simp[Value.oneCell']) (gD (fun W=>Below w.heap.size w W/\W.heap[w.heap.size+1+1]?=some (.cells (fp 0 (.slice none 0 0)) 58)) ⟨below_setRow (bC.out.alloc (by omega) _) (by omega) _,setRow_heap _ _ _ _ _ _ (am _ PH.out)⟩ ?_);intro W2 eF;have cD:=aa eF;clear eF)
  refine ie (wG _ (w.heap.size+1+1) _ 0 ee (.slice none 0 0) rfl rfl cD.out.2) ?_;have e1:=TO.out;have e2:=Xb.out;subst e1;exact⟨⟨.slice none 0 0,by dsimp only;rw[if_neg e2],⟨none,0,rfl,⟨by simp,by omega,fun _=>rfl⟩,by simp,fun i x hx=>by simp at hx⟩⟩,cD.out.1⟩
 obtain⟨B,rfl,fO⟩:=h2 hr;have TO:=aa (PI.out hr);have HZ:=aa (TE.out hr);have di:=aa (jh HZ.out.1);have kn:=aa fO;have cK:=(qM s wk0).1 HZ.out.2;have uT:=cK.1;have ny:=cK.2.1;subst hr;clear aC aG h2 h3 HV gS gJ TE PI cX fO cK;have to:=fun o j=>ab (am o gm.out) j
 go_wp2_with fail
 refine aL (fun W=>Below w1.heap.size w1 W/\W.heap[w1.heap.size]?=some (.cells #[.pointer (some ⟨B,0,none⟩)] 94)) ⟨by go_grown,ak _ _⟩ (fun W1 cC=>?_);have gc:=aa cC.1;have km:=aa cC.2;clear cC to;refine(tD _ wk0 W1 (TF.out.up up_link (ae bC.out gc.out)) (by omega)).mono ?_;rintro r w2 ⟨u,rfl,hu,aV⟩;obtain⟨pb,cc2,rfl,wN,Fx,rx,_⟩:=hu.some uT;have HU:=aa (aD.links hu (rc TF.out) (by omega));have cB:=aa aV;have cj:=aV.size;have bP:=gc.out.size;have dj:=ar km.out;clear hu aV;have Ik:=aa (kn.out.up gc.out);have k8:Hid (fW s wk0=vr.1/\vr.2=0):=aa (by rw[TO.out];exact⟨rfl,rfl⟩);have HRS1:=aa (af gc.out PH.out);have wm:=aa (ae bC.out gc.out);have I0:=aa (HT.out.up wm.out);clear TO kn gm PH
 go_wp2_with fail
 have su:Below w2.heap.size w2 ((w2.alloc (Obj.cells #[Value.slice (some { block:=pb,off:=0 }) wk0.length cc2] 54)).alloc (Obj.cells #[Value.bool true] 4)):=by go_grown
 have bQ:Hid (ShI w W1 w2.heap.size (w2.heap.size+1) wk0 true [] ((w2.alloc (Obj.cells #[Value.slice (some { block:=pb,off:=0 }) wk0.length cc2] 54)).alloc (Obj.cells #[Value.bool true] 4))):=aa
  ⟨ae cB.out su,⟨pb,0,cc2,am _ (ak _ _),HU.out.up up_link su,⟨by omega,by omega⟩,by omega⟩,ba _ _ _,cQ.nil _ _⟩
 clear su cB HU;refine A7 (fun n act W=>XZ s w W1 w1.heap.size w2.heap.size (fW s wk0) n act W) (2 * wk0.length+1) ?start ?round
 case start=>exact⟨w2.heap.size+1,wk0,true,[],_,_,_,_,_,_,_,_,_,_,_,_,_,_,_,_,_,_,_,_,_,_,_,_,_,_,_,_,_,_,rfl,rfl,HZ.out.2,rfl,cj,by omega,bQ.out⟩
 case round=>
  clear bQ wN Fx rx uT ny lw1 lw2;have I9:W1.heap.size<=w2.heap.size:=cj;generalize w2.heap.size=b8 at I9;rintro n act W ⟨b9,wk,ag,Ds,u0,u1,u3,u7,u10,u11,u12,u13,u14,u15,u16,u17,u18,u19,u20,u21,u22,u23,u24,u25,u26,u27,u28,u29,u30,u31,u32,u33,u34,u35,rfl,hn,Cl,hF,_,eN,hI⟩;have cK:=(qM s wk).1 Cl;have uT:=cK.1;have ny:=cK.2.1;clear cK;have lp:∀ E∈Ds,E<W.heap.size:=hI.marks.lt;obtain⟨pb,po,cl',h8,pK,⟨hp8,S'⟩,mJ⟩:=hI.wk;have t9:=ab hI.ag 0;have t8:=ab h8 0;have f9:=aE hI.ag 0;simp at t9 t8;have Is:=af hI.old HRS1.out;have HI:=aa hI;have HH8:=aa h8;have gk:=aa pK;have WV:=aa hF;have Mt:=aa Is;have HN:=aa hn;have vf:=aa (ar HRS1.out);cases ag with
  | false=>
   clear hI h8 pK hF Is hn f9
   go_wp2_with (refine wpList_store_row rfl 58 (.tmp 4) (.tmp 35) rfl (w.heap.size+1+1) (fp 1 (.slice (some ⟨pb,po,none⟩) wk.length cl')) rfl rfl 58 _ Mt.out (by kernel_rfl) rfl (by simp[Value.oneCell']) ?_)
   have hm:cQ w.heap.size Ds (W.setRow (w.heap.size+1+1) (fp 1 (.slice (some ⟨pb,po,none⟩) wk.length cl'))):=HI.out.marks.keep fun k o ho hc=>by
    rw[setRow_other _ _ _ _ (fun e=>by subst e;rw[Mt.out]at ho;cases ho;cases hc)];exact ho
   have bV:(W.setRow (w.heap.size+1+1) (fp 1 (.slice (some ⟨pb,po,none⟩) wk.length cl'))).heap[w.heap.size+1+1]?=some (.cells (fp 1 (.slice (some ⟨pb,po,none⟩) wk.length cl')) 58):=setRow_heap _ _ _ _ _ _ Mt.out;refine qR hm (wG _ (w.heap.size+1+1) _ 1 0 (.slice (some ⟨pb,po,none⟩) wk.length cl') rfl rfl (qQ hm _ _ bV rfl)) ?_;have e1:=k8.out;obtain⟨x1,x2⟩:=vr;dsimp only at e1;obtain⟨e1,rfl⟩:=e1;have e3:wk=x1:=by rw[<-e1];exact WV.out
   subst e3;refine⟨⟨_,rfl,?_⟩,l4 (fun D hD=>(hm.2 D hD).1) (Nat.le_refl _) (below_setRow (ae wm.out HI.out.old) (by omega) _)⟩;refine eM.ck up_link (qQ hm) (jZ gk.out (setRow_other _ _ _ _ ?_));have:=vf.out;omega
  | true=>
   have sR:Hid (ShI w W1 b8 b9 wk false Ds (W.setCell ⟨b9,0,none⟩ (.bool false))):=aa
    ⟨hI.old.setCell (p:=⟨b9,0,none⟩) (by dsimp only;omega) _,⟨pb,po,cl',aH h8 (by omega) _ _,jZ pK (Below.heap_setCell _ _ _ _ S'),⟨hp8,S'⟩,mJ⟩,aF hI.ag _ _,hI.marks.keep fun k o ho hc=>aH ho (fun e=>by subst e;rw[hI.ag]at ho;cases ho;cases hc) _ _⟩
   have t6':=(ab (af sR.out.old km.out) 0).trans rfl;have Xu:(W.setCell ⟨b9,0,none⟩ (.bool false)).heap[b8]?=some (.cells #[.slice (some ⟨pb,po,none⟩) wk.length cl'] 54):=aH h8 (by omega) _ _;have t8':=(ab Xu 0).trans rfl;have HLK1:Hid (aU (W.setCell ⟨b9,0,none⟩ (.bool false)) (.slice (some ⟨pb,po,none⟩) wk.length cl') wk):=aa (jZ pK (Below.heap_setCell _ _ _ _ S'));have HH8':=aa Xu;clear hI h8 pK hF Is hn Xu HI Mt HH8 gk t8
   go_wp2_with fail
   clear t6' t8';refine aL (fun V=>ShI w W1 b8 b9 wk false Ds V/\V.heap[b8]?=some (.cells #[.slice (some ⟨pb,po,none⟩) wk.length cl'] 54)/\aU V (.slice (some ⟨pb,po,none⟩) wk.length cl') wk/\V.heap.size=W.heap.size) ⟨sR.out,HH8'.out,HLK1.out,by simp⟩ (fun V hV=>?_);have HV:=aa hV.1;have HV8:=aa hV.2.1;have AL:=aa hV.2.2.1;have hVs:=hV.2.2.2;rw[<-hVs]at lp;clear hV sR HH8' HLK1 f9 t9 hVs W;refine(J3 B (.slice (some ⟨pb,po,none⟩) wk.length cl') V ⟨_,_,_,rfl⟩).mono ?_;rintro r w3 ⟨rfl,rfl⟩
   go_wp2_with fail
   have rx:Below V.heap.size V ((V.alloc (.cells #[.pointer (some ⟨B,0,none⟩)] 94)).alloc (.cells #[.slice (some ⟨pb,po,none⟩) wk.length cl'] 54)):=by go_grown
   refine bj (fun U=>Below V.heap.size V U/\U.heap[V.heap.size]?=some (.cells #[.pointer (some ⟨B,0,none⟩)] 94)/\U.heap[V.heap.size+1]?=some (.cells #[.slice (some ⟨pb,po,none⟩) wk.length cl'] 54)) ⟨rx,am _ (ak _ _),ba _ _ _⟩ (fun U hU=>?_);obtain⟨sD,oe,ss⟩:=hU;have hsU:=ar ss;have Fi:=aa (HV.out.sta (B:=V.heap.size) HV.out.old.size lp (Chg.of_below sD));have da:=Ho s di.out hE wk uT ny (DM Cl) B V.heap.size (V.heap.size+1) pb po cl' W1 I0.out Ik.out U Fi.out.old (AL.out.up up_link sD) ss oe;have hpbV:=A9 AL.out uT;have fE:=aa (fun (wk':List Lk) (ag':Bool) A A' (c:Chg U.heap.size A A') (h:ShI w W1 b8 b9 wk' ag' Ds A)=>h.sta (B:=U.heap.size) Fi.out.old.size (fun E hE=>by have:=lp E hE;omega) c);have hb8U:b8<V.heap.size:=ar HV8.out;have hb9U:b9<V.heap.size:=ar HV.out.ag;clear sD oe rx
   refine Lw (gf:=96) (lb:=#[.pointer (some ⟨V.heap.size+1,0,none⟩),.pointer (some ⟨V.heap.size,0,none⟩)]) rfl (enters_of Tryz.func96 (by kernel_rfl) rfl) da (Below.refl _ _) (fun k hk=>by have:=Fi.out.old.size;rcases hk with hk|rfl|rfl|rfl<;>omega) (fun i args _ _ h=>by obtain⟨v,h,_⟩:=h;rw[h];rfl)
    (fun i T A=>ShI w W1 b8 b9 wk false Ds A/\(∀ j,j<i->dB s ((dr s wk).getD j [])=false)/\(¬ T b8/\¬ T b9)/\(∀ k,T k->k<A.heap.size)/\U.heap.size<=A.heap.size)
    (fun c i T A=>c=.exit 2/\∃ c',nextW s wk=some c'/\ShI w W1 b8 b9 c' true Ds A)
    (fun i T T' A A' h hc hw=>⟨fE.out _ _ _ _ hc h.1,h.2.1,⟨fun hk=>by
     rcases hw.2 _ hk with h1|h1
     ·exact h.2.2.1.1 h1
     ·have:=h.2.2.2.2;omega,fun hk=>by
     rcases hw.2 _ hk with h1|h1
     ·exact h.2.2.1.2 h1
     ·have:=h.2.2.2.2;omega⟩,fun k hk=>by
     rcases hw.2 _ hk with h1|h1
     ·exact Nat.lt_of_lt_of_le (h.2.2.2.1 k h1) hc.size
     ·exact h1.2,Nat.le_trans h.2.2.2.2 hc.size⟩)
    (fun c i T T' A A' h hc hw=>by obtain⟨h1,c',h2,h3⟩:=h;exact⟨h1,c',h2,fE.out _ _ _ _ hc h3⟩)
    ⟨Fi.out,fun j hj=>by omega,⟨by omega,by omega⟩,fun k hk=>by have:=Fi.out.old.size;rcases hk with hk|rfl|rfl|rfl<;>omega,Nat.le_refl _⟩ ?rnd ?done ?stop
   case done=>
    intro D T A hD mF hK;have nQ:=UX mF.2.1;have h9:=mF.1.ag;obtain⟨pb',po',cl'',k1,k2,⟨k3,k4⟩,k5⟩:=mF.1.wk;have t9:=ab h9 0;simp at t9;have hpa:=A9 k2 uT;have h8A:=ar k1;have Cq:Below A.heap.size A (A.alloc (.cells #[.bool false] 4)):=by go_grown
    have kV:Hid (ShI w W1 b8 A.heap.size wk false (D :: Ds) (A.alloc (.cells #[.bool false] 4))):=aa
     ⟨ae mF.1.old Cq,⟨pb',po',cl'',af Cq k1,k2.up up_link Cq,⟨k3,by omega⟩,k5⟩,ak _ _,(cQ.cons mF.1.marks (by have:=wm.out.size;have:=Fi.out.old.size;omega) hK fun E hE=>by have:=lp E hE;omega).up Cq⟩
    have gU:Hid ((if false=true then fW s wk else wk)=fW s wk0):=aa (by rw[if_neg (by decide),<-BE nQ];exact WV.out);have n9:Hid (2 * wk.length+(if false=true then 1 else 0)<n):=aa (by rw[HN.out];simp);clear mF da k1 k2 k3 k4 k5 nQ
    go_wp2_with fail
    exact⟨_,n9.out,A.heap.size,wk,false,D :: Ds,_,_,_,_,_,_,_,_,_,_,_,_,_,_,_,_,_,_,_,_,_,_,_,_,_,_,_,_,_,_,rfl,rfl,Cl,gU.out,I9,by omega,kV.out⟩
   case stop=>
    rintro D c i T A hD hi ⟨rfl,c',nQ,mF⟩ hK;obtain⟨g1,g2,_,g4⟩:=mz nQ;have h9:=mF.ag;obtain⟨pb',po',cl'',k1,k2,⟨k3,k4⟩,k5⟩:=mF.wk;have t9:=ab h9 0;simp at t9;have hpa:=A9 k2 g2;have h8A:=ar k1;have Cq:Below A.heap.size A (A.alloc (.cells #[.bool true] 4)):=by go_grown
    have kV:Hid (ShI w W1 b8 A.heap.size c' true (D :: Ds) (A.alloc (.cells #[.bool true] 4))):=aa
     ⟨ae mF.old Cq,⟨pb',po',cl'',af Cq k1,k2.up up_link Cq,⟨k3,by omega⟩,k5⟩,ak _ _,(cQ.cons mF.marks (by have:=wm.out.size;have:=Fi.out.old.size;omega) hK fun E hE=>by have:=lp E hE;omega).up Cq⟩
    have gU:Hid ((if true=true then fW s c' else c')=fW s wk0):=aa (by rw[if_pos rfl,<-BF nQ];exact WV.out);have n9:Hid (2 * c'.length+(if true=true then 1 else 0)<n):=aa (by have:=g4.len;rw[HN.out];simp;omega);have hwz':=g4.walk Cl;clear mF da k1 k2 k3 k4 k5 nQ g1 g4
    go_wp2_with fail
    exact⟨_,n9.out,A.heap.size,c',true,D :: Ds,_,_,_,_,_,_,_,_,_,_,_,_,_,_,_,_,_,_,_,_,_,_,_,_,_,_,_,_,_,_,rfl,rfl,hwz',gU.out,I9,by omega,kV.out⟩
   case rnd=>
    rintro yl i T A args hi hl hlA hTl ⟨v,rfl,hv,hvb⟩ ⟨hSI,jo,⟨ht8,ht9⟩,hTA,hUA⟩;obtain⟨pv',cv',rfl,_⟩:=hv.at;have Aj:=aa hv;have yJ:=aa hSI;have HTA:=aa hTA;have HMEM:Hid ((dr s wk).getD i []∈dr s wk):=aa (by rw[ap [] hi];exact List.getElem_mem hi);have dz:=aa (fun h=>UW hi jo h);have fD:=aa (fun h:dB s ((dr s wk).getD i [])=false=>aT (p:=fun j=>dB s ((dr s wk).getD j [])=false) jo h);generalize (dr s wk).getD i []=cand at Aj HMEM dz fD hv;have uM:=aa hvb;clear hv hSI hTA jo da
    gi_wp2
    refine⟨Bod.refl _ _ _,fun X=>ShI w W1 b8 b9 wk false Ds X/\aU X (.slice pv' cand.length cv') cand/\(∀ k,T k->k<X.heap.size)/\U.heap.size<=X.heap.size,fun X X' c h=>⟨fE.out _ _ _ _ c h.1,h.2.1.ck up_link c.ck,fun k hk=>Nat.lt_of_lt_of_le (h.2.2.1 k hk) c.size,Nat.le_trans h.2.2.2 c.size⟩,⟨yJ.out,Aj.out,HTA.out,hUA⟩,fun X hX jq=>?_⟩;obtain⟨rlp,jq⟩:=jq;have Ja:=ar jq;clear jq rlp;have HX:=aa hX.1;have yK:=aa hX.2.1;have Wl:=aa hX.2.2.1;have hUX:=hX.2.2.2;have tb6:=(ab (af HX.out.old km.out) 0).trans rfl;have lq:=aa (qk s di.out B _ cand (UY Cl HMEM.out) X (Ik.out.up HX.out.old) hX.2.1);obtain⟨pbx,pox,clx,q1,q2,⟨q3,q4⟩,q5⟩:=hX.1.wk;have Q1:=aa q1;have Q9:=aa hX.1.ag;clear hX q2 q3 q4 q5 q1
    gi_wp2
    refine⟨trivial,rfl,wz (lq.out.mono ?_)⟩;rintro r W4 ⟨rfl,cg⟩;clear tb6 lq;have fe:=aa cg;have r1:=af cg Q1.out;have r9:=af cg Q9.out;have s8:=ab r1 0;have s9:=ab r9 0;have f8:=aE r1 0;have f9:=aE r9 0;simp at s8 s9;have R1:=aa r1;have R9:=aa r9;clear r1 r9 cg;cases hg:dB s cand with
    | true=>
     have sT:=aa (dz.out hg)
     have h0c:0<cand.length:=by
      unfold dB at hg;rw[Bool.and_eq_true,decide_eq_true_eq]at hg;exact hg.1
     clear hg dz fD;have hne89:¬ (b9=b8):=by omega
     have hne98:¬ (b8=b9):=by omega
     gi_wp2
     obtain⟨pl9,cl9,e9,_,_,el9⟩:=yK.out.at;obtain⟨pbv,pov,e8,_⟩:=el9 0 h0c;injection e9 with e9
     rw[<-e9]at e8;subst e8;have hvo:=uM.out pbv rfl
     have bM:pbv≠b8/\pbv≠b9/\W1.heap.size<=pbv:=by
      have:=Fi.out.old.size;rcases hvo with rfl|h
      ·exact⟨hp8,S',mJ⟩
      ·omega
     have sB:∀ (k:Nat) (o:Obj),W4.heap[k]?=some o->o.isCells=false->((W4.setCell ⟨b8,0,none⟩ (.slice (some ⟨pbv,pov,none⟩) cand.length cv')).setCell ⟨b9,0,none⟩ (.bool true)).heap[k]?=some o:=fun k o ho hc=>
      aH (aH ho (fun e=>by subst e;rw[R1.out]at ho;cases ho;cases hc) _ _) (fun e=>by subst e;rw[R9.out]at ho;cases ho;cases hc) _ _
     refine⟨⟨by simp;have:=fe.out.size;omega,fun k hk=>?_,fun k o _ ho hc=>sB k o (af fe.out ho) hc⟩,rfl,_,sT.out,?_⟩
     ·rw[Below.heap_setCell _ _ _ _ (fun e=>ht9 (by dsimp only at e;rw[<-e];exact hk)),Below.heap_setCell _ _ _ _ (fun e=>ht8 (by dsimp only at e;rw[<-e];exact hk))]
      exact fe.out.block k (Wl.out k hk)
     ·refine⟨((ae HX.out.old fe.out).setCell (p:=⟨b8,0,none⟩) I9 _).setCell (p:=⟨b9,0,none⟩) (by dsimp only;omega) _,⟨pbv,pov,cv',aH (aF R1.out _ _) hne98 _ _,jZ (jZ (yK.out.up up_link fe.out) (Below.heap_setCell _ _ _ _ bM.1)) (Below.heap_setCell _ _ _ _ bM.2.1),⟨bM.1,bM.2.1⟩,bM.2.2⟩,aF (aH R9.out hne89 _ _) _ _,(HX.out.marks.up fe.out).keep sB⟩
    | false=>
     have sT:=aa (fD.out hg);clear hg dz fD
     gi_wp2
     exact⟨Bod.of_below Wl.out fe.out,fE.out _ _ _ _ (Chg.of_below fe.out) HX.out,sT.out,⟨ht8,ht9⟩,fun k hk=>Nat.lt_of_lt_of_le (Wl.out k hk) fe.out.size,Nat.le_trans hUX fe.out.size⟩
end Go.Proofs.YtmeaoneaephjeaaGreatDoor
