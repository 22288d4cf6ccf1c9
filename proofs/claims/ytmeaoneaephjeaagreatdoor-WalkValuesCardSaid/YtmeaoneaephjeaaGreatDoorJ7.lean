/-
  A part of the proof: lemmas and contracts that the parts behind it use. Each one's conditions are its own premises.
-/
import Derived.Laws.Tables
import Derived.Laws.CopyOwn
import Derived.Test.YtmeaoneaephjeaaGreatDoorJ6
set_option maxRecDepth 100000
set_option maxHeartbeats 8000000
set_option linter.unusedVariables false
set_option linter.unusedSimpArgs false
namespace Go.Proofs.YtmeaoneaephjeaaGreatDoor
open Go.RowKit Go Go.Shelf
attribute [local go_sem] Oper.semAt_some
def Xr(base:Nat) (l:List Vw):MP:=⟨fun x W=>aG W base 190 8 x l.length (eM l),fun _ _ _ h hb=>h.up hb⟩
def Xy(base:Nat) (v:Vw):MP:=⟨fun x W=>∃ b,x=.slice (some ⟨b,0,none⟩) 1 1/\base<=b/\W.heap[b]?=some (.cells v.c 190),fun _ _ _ h hb=>by obtain⟨b,e,h1,h2⟩:=h;exact⟨b,e,h1,af hb h2⟩⟩
theorem zQ(tmps:Array Value) (B:Nat) (W:World) (n i:Int) (u:Value) (h4:tmps[4]?.getD undef=.pointer (some ⟨B,0,none⟩)) (h5:tmps[5]?.getD undef=.int .i64 i)
  (hB:W.heap[B]?=some (.cells #[.int .i64 n,u] 32)):(results Tryz.f160 tmps).run Tryz.prog W=.ok (.tuple #[.agg #[.int .i64 n,u],.int .i64 i]) W:=by
 have t2:=ab hB;simp[results,Tryz.results160,go_sem,h4,h5,t2]
structure PtR (w:World) (base b2 b4 b7:Nat) (n:Int) (ot u1:Value) (len m:Nat) (xs:List Value) (D:Nat->Bool) (x:Nat->Value) (W:World):Prop where
 old:Below w.heap.size w W
 r7:W.heap[b7]?=some (.cells #[.int .i64 n,u1] 32)
 r2:W.heap[b2]?=some (.cells #[.int .i64 n,ot] 32)
 r4:W.heap[b4]?=some (.cells (if D 4 then #[.int .i64 n,u1] else #[.int .i64 0,.slice none 0 0]) 32)
 own:aG W base 190 8 u1 m xs
 v0:D 0=true->x 0=.agg #[.int .i64 n,u1]
 v1:D 1=true->x 1=.pointer (some ⟨b2,1,none⟩)
 v2:D 2=true->x 2=ot
 v3:D 3=true->x 3=.int .i64 len
 v5:D 5=true->x 5=.int .i64 len
theorem PtR.set{w:World} {base b2 b4 b7:Nat} {n:Int} {ot u1:Value} {len m:Nat} {xs:List Value} {D:Nat->Bool} {x:Nat->Value} {W:World} (h:PtR w base b2 b4 b7 n ot u1 len m xs D x W) (i:Nat) (hi:i≠4) (v:Value)
  (hv:(i=0->v=.agg #[.int .i64 n,u1])/\(i=1->v=.pointer (some ⟨b2,1,none⟩))/\(i=2->v=ot)/\(i=3\/i=5->v=.int .i64 len)):PtR w base b2 b4 b7 n ot u1 len m xs (bA D i) (bZ x i v) W:=by
 have key:∀ j,bA D i j=true->(j=i/\bZ x i v j=v)\/(j≠i/\D j=true/\bZ x i v j=x j):=fun j hj=>by
  by_cases e:j=i
  ·subst e;exact .inl ⟨rfl,fh _ _ _⟩
  ·exact .inr ⟨e,by simpa[bA,e] using hj,fJ _ _ e⟩
 refine⟨h.old,h.r7,h.r2,by rw[show bA D i 4=D 4 by simp[bA,show ¬ (4=i) by omega]];exact h.r4,h.own,fun hd=>?_,fun hd=>?_,fun hd=>?_,fun hd=>?_,fun hd=>?_⟩
 ·rcases key 0 hd with ⟨e,h1⟩|⟨_,h1,h2⟩
  ·rw[h1];exact hv.1 e.symm
  ·rw[h2];exact h.v0 h1
 ·rcases key 1 hd with ⟨e,h1⟩|⟨_,h1,h2⟩
  ·rw[h1];exact hv.2.1 e.symm
  ·rw[h2];exact h.v1 h1
 ·rcases key 2 hd with ⟨e,h1⟩|⟨_,h1,h2⟩
  ·rw[h1];exact hv.2.2.1 e.symm
  ·rw[h2];exact h.v2 h1
 ·rcases key 3 hd with ⟨e,h1⟩|⟨_,h1,h2⟩
  ·rw[h1];exact hv.2.2.2 (.inl e.symm)
  ·rw[h2];exact h.v3 h1
 ·rcases key 5 hd with ⟨e,h1⟩|⟨_,h1,h2⟩
  ·rw[h1];exact hv.2.2.2 (.inr e.symm)
  ·rw[h2];exact h.v5 h1
theorem PtR.store{w:World} {base b2 b4 b7:Nat} {n:Int} {ot u1:Value} {len m:Nat} {xs:List Value} {D:Nat->Bool} {x:Nat->Value} {W:World} (h:PtR w base b2 b4 b7 n ot u1 len m xs D x W) (hw:w.heap.size<=b4) (h2:b2≠b4) (h7:b7≠b4) (v:Value):PtR w base b2 b4 b7 n ot u1 len m xs (bA D 4) (bZ x 4 v) (W.setRow b4 #[.int .i64 n,u1]):=by
 have k:∀ j,j≠4->bA D 4 j=D j:=fun j hj=>by simp[bA,hj]
 have l:∀ j,j≠4->bZ x 4 v j=x j:=fun j hj=>fJ _ _ hj
 refine⟨below_setRow h.old hw _,by rw[setRow_other _ _ _ _ h7];exact h.r7,by rw[setRow_other _ _ _ _ h2];exact h.r2,?_,h.own.keep fun g o hg ho=>?_,?_,?_,?_,?_,?_⟩
 ·rw[show bA D 4 4=true by simp[bA]]
  exact setRow_heap _ _ _ _ _ _ h.r4
 ·rw[setRow_other _ _ _ _ (h.own.ne h.r4 (by decide) g hg)]
  exact ho
 all_goals rw[k _ (by omega),l _ (by omega)]
 ·exact h.v0
 ·exact h.v1
 ·exact h.v2
 ·exact h.v3
 ·exact h.v5
theorem Q0(n:Int) (tab:List Vw) (vt:Value) (v:Vw) (base:Nat) (w:World) (l9:base<=w.heap.size) (ht:aG w base 190 8 vt tab.length (eM tab)) (cO:∀ u∈tab,jC u) (hl:tab.length<=1048576) :
  Calls Tryz.prog 160 #[.agg #[.int .i64 n,vt],v.v] w fun r w'=>(∃ u,r=.returned (.tuple #[.agg #[.int .i64 n,u],.int .i64 ((putV tab v).2:Nat)])/\aG w' base 190 8 u (putV tab v).1.length (eM (putV tab v).1))/\Below w.heap.size w w':=by
 obtain⟨pt,ct,rfl⟩:=ht.slice;obtain⟨i0,cU,cg,bV,cj⟩:=info_parts Tryz.infoView;have cf:=aa (And.intro cU (And.intro cg (And.intro bV cj)));have HT:=aa ht;have pO:=aa (fun W (hb:Below w.heap.size w W)=>JM n tab _ v W (xH (ht.up hb) cO (by omega)));have IW:=aa (LW tab v);generalize putV tab v=pv at IW ⊢;generalize viewIx tab v=ix at pO IW;have HMX0:Hid (0+tab.length<=maxLen):=aa (by unfold maxLen;omega);have HBY0:Hid ((0+tab.length) * 64<=140737488355328):=aa (by omega);have HMX1:Hid (tab.length+1<=maxLen):=aa (by unfold maxLen;omega);have HBY1:Hid ((tab.length+1) * 64<=140737488355328):=aa (by omega);clear ht cU cg bV cj cO
 go_enter Tryz.func160,Tryz.ntmps160
 go_wp2_with fail
 refine aN (fun W=>Below w.heap.size w W/\W.heap[w.heap.size]?=some (.cells #[.int .i64 n,.slice pt tab.length ct] 32)/\W.heap[w.heap.size+1]?=some (.cells v.c 190)/\W.heap[w.heap.size+1+1]?=some (.cells #[.int .i64 0,.slice none 0 0] 32)) ⟨by go_grown,ap _ (ap _ (am _ _)),ap _ (bd _ _ _),dW _ _ _ _⟩ (fun W0 aV=>?_);obtain⟨aH,h2,h3,h4⟩:=aV;refine(pO.out W0 aH).mono ?_;rintro r w1 ⟨rfl,aI⟩;have bF:=aa (ae aH aI);have fF:=aa (af aI h2);have jE:=aa (af aI h3);have kZ:=aa (af aI h4);have RE:=aa (HT.out.up (ae aH aI));have fP:=aB kZ.out;have t2:=ab fF.out;have t4:=ab kZ.out;have z4:=aE kZ.out;clear aH h2 h3 h4 aI pO;by_cases PP:0<=ix
 ·have HE:Hid (pv=(tab,ix.toNat)/\ix<tab.length):=aa (by rcases IW.out with h|h;omega;exact h.2)
  have hd:decide (ix ≥ 0)=true:=decide_eq_true PP;have fY:decide (0<=ix)=true:=decide_eq_true PP
  go_wp2_with fail
  have bW:((w1.setCell ⟨w.heap.size+1+1,0,none⟩ (.int .i64 n)).setCell ⟨w.heap.size+1+1,1,none⟩ (.slice pt tab.length ct)).heap[w.heap.size+1+1]?=some (.cells #[.int .i64 n,.slice pt tab.length ct] 32):=(aF (aF kZ.out _ _) _ _).trans rfl;have e1:=HE.out.1;subst e1;refine bodyPost_ret (zQ _ (w.heap.size+1+1) _ n ix _ rfl rfl bW) rfl ⟨⟨.slice pt tab.length ct,?_,?_⟩,(bF.out.setCell (by dsimp only;omega) _).setCell (by dsimp only;omega) _⟩
  ·dsimp only
   rw[Int.toNat_of_nonneg PP]
  ·have bJ:∀ g,(Value.slice pt tab.length ct).ownBlock=some g->g≠w.heap.size+1+1:=fun g hg=>by have:=(HT.out.lt g hg).2;omega
   exact(RE.out.put bJ _ _).put bJ _ _
 ·have HE:Hid (pv=(tab++[v],tab.length)):=aa (by rcases IW.out with h|h;exact h.2;omega)
  have hd:decide (ix ≥ 0)=false:=decide_eq_false PP;have fY:decide (0<=ix)=false:=decide_eq_false PP
  go_wp2_with fail
  refine bm (fun W=>Below w1.heap.size w1 W/\W.heap[w1.heap.size]?=some (.cells #[.int .i64 n,.slice none 0 0] 32)) ⟨by go_grown,am _ _⟩ (fun W1 cD=>?_);have gr:=aa cD.1;have KF:=aa cD.2;have wE:=aB cD.2;have fF:=aa (af cD.1 fF.out);have jE:=aa (af cD.1 jE.out);have kZ:=aa (af cD.1 kZ.out);have K4:=aa (RE.out.up cD.1);have hsW:=cD.1.size;have eD:=aa (ae bF.out cD.1);clear cD RE IW t2 t4 z4;obtain⟨b2,aU⟩:∃ b2,w.heap.size=b2:=⟨_,rfl⟩;obtain⟨b3,bC⟩:∃ b3,w.heap.size+1=b3:=⟨_,rfl⟩;obtain⟨b7,sY⟩:∃ b7,w1.heap.size=b7:=⟨_,rfl⟩;rw[bC]at jE;rw[aU]at fF;rw[sY]at KF ⊢;rw[aU,show b2+1=b3 by omega];have hS:List.Nodup [18,19,20,21,22,23,24]:=by decide
  refine fU 7 [18,19,20,21,22,23,24] [MP.eq (.pointer (some ⟨b7,1,none⟩)),MP.eq (.slice none 0 0),MP.eq (.pointer (some ⟨b2,1,none⟩)),MP.eq (.slice pt tab.length ct),Xr W1.heap.size tab,MP.eq (v.v),Xy W1.heap.size v] (by kernel_rfl) (by simp) hS rfl (by kernel_rfl) (by kernel_rfl) (by kernel_rfl) ?step ?tail
  case step=>
   intro xq Wq iq oq sq F hi ho hs hB aq hF;rcases (show iq=0\/iq=1\/iq=2\/iq=3\/iq=4\/iq=5\/iq=6 by omega) with rfl|rfl|rfl|rfl|rfl|rfl|rfl
   all_goals (obtain rfl:=dp ho.symm;obtain rfl:=dp hs.symm;clear hi ho hs)
   ·obtain⟨g7,h7⟩:=dC hF 7 (.pointer (some ⟨b7,0,none⟩)) (by decide) rfl
    clear hF aq
    go_wp2_with fail
    exact bD.mk (.pointer (some ⟨b7,1,none⟩)) (Below.refl _ _) rfl rfl
   ·obtain⟨e0,f0⟩:=aW hF 0 18 (.pointer (some ⟨b7,1,none⟩)) hS rfl (by kernel_rfl) (aq ⟨0,.data⟩ (by simp) rfl)
    have tb:=ab (af hB KF.out) 1;simp at tb;clear hF aq
    go_wp2_with fail
    exact bD.mk (.slice none 0 0) (Below.refl _ _) rfl rfl
   ·obtain⟨g2,h2⟩:=dC hF 2 (.pointer (some ⟨b2,0,none⟩)) (by decide) rfl
    clear hF aq
    go_wp2_with fail
    exact bD.mk (.pointer (some ⟨b2,1,none⟩)) (Below.refl _ _) rfl rfl
   ·obtain⟨e2,f2⟩:=aW hF 2 20 (.pointer (some ⟨b2,1,none⟩)) hS rfl (by kernel_rfl) (aq ⟨2,.data⟩ (by simp) rfl)
    have tb:=ab (af hB fF.out) 1;simp at tb;clear hF aq
    go_wp2_with fail
    exact bD.mk (.slice pt tab.length ct) (Below.refl _ _) rfl rfl
   ·obtain⟨e1,f1⟩:=aW hF 1 19 (.slice none 0 0) hS rfl (by kernel_rfl) (aq ⟨1,.data⟩ (by simp) rfl)
    obtain⟨e3,f3⟩:=aW hF 3 21 (.slice pt tab.length ct) hS rfl (by kernel_rfl) (aq ⟨3,.data⟩ (by simp) rfl);have HRK:=aa ((K4.out.up hB).rawK (Ec tab));have HBSz:=aa (hB.size);clear hF aq;refine kA _ rfl (.tmp 19) (.tmp 21) 30 rfl W1.heap.size 190 i0 _ 8 64 Tryz.underlying30 cf.out.1 cf.out.2.1 cf.out.2.2.1 cf.out.2.2.2 rfl (by decide) _ 0 [] (by first|exact e1|exact f1) (aG.nil _ _ _ _) _ tab.length (eM tab) (by first|exact e3|exact f3) HRK.out HMX0.out HBY0.out HBSz.out ?_;intro v9 w9 jj Ai In;have mT:=aa jj;have PX:=aa (Below.grown (Below.refl Wq.heap.size Wq) Ai (Nat.le_refl _) (fun g hg=>by cases hg));clear jj Ai In;exact bD.mk _ PX.out (by have h:=mT.out;rw[Nat.zero_add,List.nil_append]at h;exact h) rfl
   ·obtain⟨g3,h3⟩:=dC hF 3 (.pointer (some ⟨b3,0,none⟩)) (by decide) rfl
    have tb:=ab (af hB jE.out);clear hF aq
    go_wp2_with fail
    exact bD.mk (v.v) (Below.refl _ _) rfl rfl
   ·obtain⟨e5,f5⟩:=aW hF 5 23 (v.v) hS rfl (by kernel_rfl) (aq ⟨5,.data⟩ (by simp) rfl)
    clear hF aq
    go_wp2_with fail
    exact bD.mk _ (by go_grown) ⟨_,rfl,hB.size,am _ _⟩ rfl
  case tail=>
   clear hS;intro xq Wq F hB aQ hF;have d4:aG Wq W1.heap.size 190 8 (xq 4) tab.length (eM tab):=aQ 4 (by omega);obtain⟨bn,e6,hbn1,hbn2⟩:∃ b,xq 6=.slice (some ⟨b,0,none⟩) 1 1/\W1.heap.size<=b/\Wq.heap[b]?=some (.cells v.c 190):=aQ 6 (by omega);clear aQ;obtain⟨a4,c4,e4⟩:=d4.slice;rw[e4]at d4;simp only[br,cW,List.setIfInBounds_toArray,List.set_cons_succ,List.set_cons_zero,Nat.reduceAdd]at hF;rw[e4,e6]at hF;generalize xq 0=s0,xq 1=s1,xq 2=s2,xq 3=s3,xq 5=s5 at hF;subst hF;have yL:=aa d4;have HBq:=aa hB
   have bz:Hid (∀ j u,v.c.toList[j]?=some u->Wq.cell? (Addr.add ⟨bn,0,none⟩ j)=some u):=aa (fun j u hj=>by
    have:(Addr.add ⟨bn,0,none⟩ j)=⟨bn,j,none⟩:=by unfold Addr.add;split<;>simp_all
    rw[this,ab hbn2]
    simpa using hj)
   have HBSq:Hid (W1.heap.size<=Wq.heap.size):=aa hB.size;have hX7:=af hB KF.out;have RV:=aa hX7;have HX2q:=aa (af hB fF.out);have HX4q:=aa (af hB kZ.out);have hsq:=hB.size;clear d4 e4 e6 hB hbn2 hX7;simp only[List.drop_succ_cons,List.drop_zero]
   go_wp2_with (at_builtin;(refine aY _ rfl (.tmp 22) (.tmp 24) 30 rfl W1.heap.size 190 i0 _ 8 64 Tryz.underlying30 cf.out.1 cf.out.2.1 cf.out.2.2.1 cf.out.2.2.2 rfl (by decide) _ tab.length _ rfl yL.out ⟨bn,0,none⟩ 1 1 v.c.toList rfl rfl bz.out (by simp[Value.oneCell']) HMX1.out HBY1.out HBSq.out ?_;intro v9 w9 gc dT In;obtain⟨av9,cv9,rfl⟩:=gc.slice;have AC:=(dT.block b7 (aB RV.out) (fun e=>yL.out.ne RV.out (by decide) b7 e.symm rfl)).trans RV.out;have c7:=ab AC;have f7:=aE AC))
   obtain⟨W3,rj⟩:∃ W3,W3=w9.setCell ⟨b7,1,none⟩ (.slice av9 (tab.length+1) cv9):=⟨_,rfl⟩;rw[<-rj];have h37:W3.heap[b7]?=some (.cells #[.int .i64 n,.slice av9 (tab.length+1) cv9] 32):=by rw[rj];exact(aF AC _ _).trans rfl
   have hZ:∀ k,k≠b7->k<Wq.heap.size->∀ c,Wq.heap[k]?=some (.cells c 32)->W3.heap[k]?=some (.cells c 32):=fun k h1 h2 c h3=>by
    rw[rj];exact aJ ((dT.block k h2 (fun e=>yL.out.ne h3 (by decide) k e.symm rfl)).trans h3) h1 _ _
   have Fx:=hZ b2 (by omega) (aB HX2q.out) _ HX2q.out;have h34:=hZ (w.heap.size+1+1) (by omega) (aB HX4q.out) _ HX4q.out
   have h3o:aG W3 base 190 8 (.slice av9 (tab.length+1) cv9) (tab.length+1) (eM (tab++[v])):=by
    rw[rj,Eb];have h:=(gc.base (show base<=W1.heap.size by omega)).put (gc.ne AC (by decide)) 1 (.slice av9 (tab.length+1) cv9);exact h
   have Wx:Below w.heap.size w W3:=by
    rw[rj];exact(Below.grown (ae eD.out HBq.out) dT (by omega) (fun g hg=>by have:=(yL.out.lt g hg).1;omega)).setCell (p:=⟨b7,1,none⟩) (by dsimp only;omega) _
   clear rj gc dT In AC c7 f7 hZ;subst bC;subst aU;have mX:Hid (∀ x,PtR w base w.heap.size (w.heap.size+1+1) b7 n (.slice pt tab.length ct) (.slice av9 (tab.length+1) cv9) tab.length (tab.length+1) (eM (tab++[v])) (fun _=>false) x W3.drew):=aa (fun x=>⟨Wx.drew,h37,Fx,h34,h3o.keep fun g o _ ho=>ho,by simp,by simp,by simp,by simp,by simp⟩);clear h37 Fx h34 h3o Wx;have hS:List.Nodup [27,28,29,30,999,5]:=by decide
   refine oV 6 [27,28,29,30,999,5] (PtR w base w.heap.size (w.heap.size+1+1) b7 n (.slice pt tab.length ct) (.slice av9 (tab.length+1) cv9) tab.length (tab.length+1) (eM (tab++[v]))) (by kernel_rfl) rfl hS (by kernel_rfl) mX.out ?step6 ?free6 ?last6
   case free6=>
    intro x W D i o F ho h6 h8;simp at h6;omega
   case step6=>
    intro x W D i o s' F ho uW hD aq hc hF;have hi:i<6:=(List.getElem?_eq_some_iff.1 uW).1;have CC2:=ab hc.r2;have CC7:=ab hc.r7;simp only[br,cW,List.setIfInBounds_toArray,List.set_cons_succ,List.set_cons_zero,List.set_nil,Nat.reduceAdd]at hF;rcases (show i=0\/i=1\/i=2\/i=3\/i=4\/i=5 by omega) with rfl|rfl|rfl|rfl|rfl|rfl
    all_goals (obtain rfl:=dp ho.symm;obtain rfl:=dp uW.symm;clear hi ho uW)
    ·subst hF
     clear aq
     go_wp2_with fail
     exact dk.mk (.agg #[.int .i64 n,.slice av9 (tab.length+1) cv9]) (hc.set 0 (by omega) _ ⟨fun _=>rfl,by omega,by omega,by omega⟩) rfl
    ·subst hF
     clear aq
     go_wp2_with fail
     exact dk.mk (.pointer (some ⟨w.heap.size,1,none⟩)) (hc.set 1 (by omega) _ ⟨by omega,fun _=>rfl,by omega,by omega⟩) rfl
    ·have e1:=hc.v1 (aq ⟨1,.data⟩ (by simp) rfl)
     rw[e1]at hF;subst hF;clear aq
     go_wp2_with fail
     exact dk.mk (.slice pt tab.length ct) (hc.set 2 (by omega) _ ⟨by omega,by omega,fun _=>rfl,by omega⟩) rfl
    ·have e1:=hc.v2 (aq ⟨2,.data⟩ (by simp) rfl)
     rw[e1]at hF;subst hF;clear aq
     go_wp2_with fail
     exact dk.mk (.int .i64 tab.length) (hc.set 3 (by omega) _ ⟨by omega,by omega,by omega,fun _=>rfl⟩) rfl
    ·have e0:=hc.v0 (aq ⟨0,.data⟩ (by simp) rfl)
     rw[e0]at hF;subst hF;have g3:=hc.r4;rw[hD]at g3;refine wpList_store_row rfl 32 (.tmp 4) (.tmp 27) rfl (w.heap.size+1+1) #[.int .i64 n,.slice av9 (tab.length+1) cv9] rfl rfl 32 _ g3 (by kernel_rfl) rfl (by simp[Value.oneCell']) ?_;exact dk.mk undef (hc.store (by omega) (by omega) (by omega) undef) rfl
    ·have e1:=hc.v3 (aq ⟨3,.data⟩ (by simp) rfl)
     rw[e1]at hF;subst hF;clear aq
     go_wp2_with fail
     exact dk.mk (.int .i64 tab.length) (hc.set 5 (by omega) _ ⟨by omega,by omega,by omega,fun _=>rfl⟩) rfl
   case last6=>
    intro x W3' D F aQ hc hF;have e5:=hc.v5 (aQ 5 (by omega));have h4:=hc.r4;rw[aQ 4 (by omega)]at h4;have h4:W3'.heap[w.heap.size+1+1]?=some (.cells #[.int .i64 n,.slice av9 (tab.length+1) cv9] 32):=h4;simp only[br,cW,List.setIfInBounds_toArray,List.set_cons_succ,List.set_cons_zero,List.set_nil,Nat.reduceAdd]at hF;rw[e5]at hF;generalize x 0=y0,x 1=y1,x 2=y2,x 3=y3 at hF;subst hF;have HH4:=aa h4;have Tg:=aa hc.old;have ry:=aa hc.own;clear aQ hc h4 hS mX
    go_wp2_with fail
    have e1:=HE.out;subst e1;refine bodyPost_ret (zQ _ (w.heap.size+1+1) _ n tab.length _ rfl rfl HH4.out) rfl ⟨⟨_,rfl,?_⟩,Tg.out⟩;rw[show (tab++[v]).length=tab.length+1 by simp];exact ry.out
end Go.Proofs.YtmeaoneaephjeaaGreatDoor
namespace Go.Proofs.YtmeaoneaephjeaaGreatDoor
open Go.RowKit Go Go.Shelf
theorem dO{w:World} {v:Value} {l:List Int} (h:aT w v l):∃ a c,v=.slice a l.length c/\∀ i,i<l.length->∃ b o,a=some ⟨b,o,none⟩/\w.cell? ⟨b,o+i,none⟩=some (.int .i64 (l.getD i 0)):=by
 obtain⟨a,c,e,_,_,el⟩:=h.at;refine⟨a,c,e,fun i hi=>?_⟩;obtain⟨b,o,e1,c1,_⟩:=el i hi;rw[Nat.mul_one,<-az 0 hi]at c1;exact⟨b,o,e1,c1⟩
end Go.Proofs.YtmeaoneaephjeaaGreatDoor
namespace Go.Proofs.YtmeaoneaephjeaaGreatDoor
open Go.RowKit Go Go.Shelf
attribute [local go_sem] Oper.semAt_some
abbrev Ew(p:Pb) (n K:Nat) (vc vs vt ve:Value):Array Value:=#[.int .i64 n,.int .i64 p.t.ins,.int .i64 p.t.outs,vc,.int .i64 p.a.n,vs,.int .i64 K,.int .i64 n,vt,ve]
structure BtI (p:Pb) (n K:Nat) (vc vs:Value) (w w4:World) (st:List Vw × List Ex) (V:World):Prop where
 keep:KeepT [35,89] [] (w.heap.size+1+1) w4 V
 sys:∃ vt ve xs,V.heap[w.heap.size+1+1]?=some (.cells (Ew p n K vc vs vt ve) 35)/\aG V (w.heap.size+1+1) 190 8 vt st.1.length (eM st.1)/\aG V (w.heap.size+1+1) 89 3 ve st.2.length xs/\∀ k (hk:k<st.2.length),za V (w.heap.size+1+1) xs k (st.2[k])
structure BtK (p:Pb) (n K:Nat) (vc vs ve wv:Value) (w Ve:World) (ci:Nat) (st:List Vw × List (List Int)) (V:World):Prop where
 keep:KeepT [35] [] (w.heap.size+1+1) Ve V
 sys:∃ vt,V.heap[w.heap.size+1+1]?=some (.cells (Ew p n K vc vs vt ve) 35)/\aG V (w.heap.size+1+1) 190 8 vt st.1.length (eM st.1)
 ex:∃ vv,V.heap[Ve.heap.size]?=some (.cells #[.int .i64 ci,wv,vv] 89)/\cI V Ve.heap.size vv st.2
structure BtQ (p:Pb) (n K:Nat) (vc vs ve:Value) (w Vk:World) (st:List Vw × List Int) (q:Nat) (l:Value) (V:World):Prop where
 keep:KeepT [35] [] (w.heap.size+1+1) Vk V
 sys:∃ vt,V.heap[w.heap.size+1+1]?=some (.cells (Ew p n K vc vs vt ve) 35)/\aG V (w.heap.size+1+1) 190 8 vt st.1.length (eM st.1)
 row:aG V Vk.heap.size 3 1 l q (st.2.map (Value.int .i64))
structure BtP (p:Pb) (n K:Nat) (vc vs ve vt:Value) (w Vk:World) (st:List Vw × List Int) (l:Value) (q bv:Nat) (v:Vw) (V:World):Prop where
 keep:KeepT [35] [] (w.heap.size+1+1) Vk V
 sys:V.heap[w.heap.size+1+1]?=some (.cells (Ew p n K vc vs vt ve) 35)
 tab:aG V (w.heap.size+1+1) 190 8 vt st.1.length (eM st.1)
 row:aG V Vk.heap.size 3 1 l q (st.2.map (Value.int .i64))
 v:V.heap[bv]?=some (.cells v.c 190)
theorem BtQ.up{p:Pb} {n K:Nat} {vc vs ve:Value} {w Vk:World} {st:List Vw × List Int} {q:Nat} {l:Value} {V V':World} (h:BtQ p n K vc vs ve w Vk st q l V) (hb:Below V.heap.size V V') (hs:w.heap.size+1+1<=Vk.heap.size):BtQ p n K vc vs ve w Vk st q l V':=by
 obtain⟨vt,h1,h2⟩:=h.sys;exact⟨h.keep.up hb hs,⟨vt,af hb h1,h2.up hb⟩,h.row.up hb⟩
theorem FY(tmps:Array Value) (B:Nat) (W:World) (c0 c1 c2 c3 c4 c5 c6 c7 c8 c9:Value) (h2:tmps[2]?.getD undef=.pointer (some ⟨B,0,none⟩))
  (hB:W.heap[B]?=some (.cells #[c0,c1,c2,c3,c4,c5,c6,c7,c8,c9] 35)) :
  (results Tryz.f117 tmps).run Tryz.prog W=.ok (.agg #[c0,c1,c2,c3,c4,c5,c6,c7,c8,c9]) W:=by
 have t2:=ab hB;simp[results,Tryz.results117,go_sem,h2,t2]
theorem BtK.next{p:Pb} {n K q c:Nat} {vc vs ve wv lv vv v9:Value} {w Ve Vk V w9:World} {tb:List Vw} {l:List Int} {views:List (List Int)} {ys:List Value} (hK:KeepT [35] [] (w.heap.size+1+1) Ve Vk) (hQ:BtQ p n K vc vs ve w Vk (tb,l) q lv V) (hx:V.heap[Ve.heap.size]?=some (.cells #[.int .i64 c,wv,vv] 89))
  (jk:aG V Ve.heap.size 38 1 vv views.length ys) (iv:∀ i (hi:i<views.length),∃ x,ys[i]?=some x/\aG V Ve.heap.size 3 1 x views[i].length (views[i].map (Value.int .i64))) (hl:l.length=q) (eT:w.heap.size+1+1<Ve.heap.size)
  (hg:(V.alloc (.cells #[lv] 38)).grownBy w9 vv.ownBlock) (aX:aG w9 Ve.heap.size 38 1 v9 (views.length+1) (ys++[lv])):BtK p n K vc vs ve wv w Ve c (tb,views++[l]) (w9.setCell ⟨Ve.heap.size,2,none⟩ v9):=by
 have lW:Below V.heap.size V (V.alloc (.cells #[lv] 38)):=by go_grown
 have pW:=jk.up lW
 have Kv:aG (V.alloc (.cells #[lv] 38)) Ve.heap.size 3 1 lv l.length (l.map (Value.int .i64)):=by
  rw[hl];exact(hQ.row.base hK.old.size).up lW
 have jF:∀ i (hi:i<views.length),∃ x,ys[i]?=some x/\aG (V.alloc (.cells #[lv] 38)) Ve.heap.size 3 1 x views[i].length (views[i].map (Value.int .i64)):=fun i hi=>by
  obtain⟨x,q1,q2⟩:=iv i hi;exact⟨x,q1,q2.up lW⟩
 have qC:cI w9 Ve.heap.size v9 (views++[l]):=bX.snoc pW jF (by decide) Kv hg aX;have CO:=gU pW hg hx (by decide);obtain⟨vt,h1,h2⟩:=hQ.sys;have h2':=(h2.up lW).apart pW (by decide) hg;have k3:=((hK.trans hQ.keep).up lW (by omega)).grownNew (by omega) (fun g hg=>(pW.lt g hg).1) hg;have kk:=(KeepT.refl (ms:=[]) [89] Ve.heap.size w9).set (o:=2) CO (by simp) (Nat.le_refl _) v9;exact⟨k3.setNew (by omega) (Nat.le_refl _) _,⟨vt,aJ (gU pW hg h1 (by decide)) (by omega) _ _,h2'.put (h2'.ne CO (by decide)) _ _⟩,v9,(aF CO _ _).trans rfl,kk.fresh qC (by decide) (by decide)⟩
theorem BtI.next{p:Pb} {n K c:Nat} {vc vs ve wv vv vt v9:Value} {w w4 Ve V w9:World} {tb2:List Vw} {exs:List Ex} {word:List Rd} {views:List (List Int)} {xs:List Value} (hI:KeepT [35,89] [] (w.heap.size+1+1) w4 Ve) (hK:KeepT [35] [] (w.heap.size+1+1) Ve V)
  (hs:V.heap[w.heap.size+1+1]?=some (.cells (Ew p n K vc vs vt ve) 35)) (ht:aG V (w.heap.size+1+1) 190 8 vt tb2.length (eM tb2)) (he:aG Ve (w.heap.size+1+1) 89 3 ve exs.length xs) (hx:∀ k (hk:k<exs.length),za Ve (w.heap.size+1+1) xs k exs[k])
  {m:Nat} (hw:aG Ve (w.heap.size+1+1) 141 7 wv m (cP word)) (hm:word.length=m) (hv:cI V (w.heap.size+1+1) vv views) (h4:w.heap.size+1+1<w4.heap.size)
  (hg:(V.alloc (.cells #[.int .i64 c,wv,vv] 89)).grownBy w9 ve.ownBlock) (aX:aG w9 (w.heap.size+1+1) 89 3 v9 (exs.length+1) (xs++[.int .i64 c,wv,vv])):BtI p n K vc vs w w4 (tb2,exs++[⟨c,word,views⟩]) (w9.setCell ⟨w.heap.size+1+1,9,none⟩ v9):=by
 subst hm;have lW:Below V.heap.size V (V.alloc (.cells #[.int .i64 c,wv,vv] 89)):=by go_grown
 have eT:=hI.old.size;have Ic:=hK.old.size;have pW:=(hK.own he (by decide)).up lW;have rk:=gU pW hg hs (by decide);have k3:=((hI.trans (hK.mono (us:=[35,89]) (ns:=[]) (fun t h=>by simp at h ⊢;exact .inl h) (fun _ h=>h))).up lW (by omega)).grown pW (by simp) (Nat.le_refl _) (by omega) hg;have kk:KeepT [89,35] [] (w.heap.size+1+1) (V.alloc (.cells #[.int .i64 c,wv,vv] 89)) (w9.setCell ⟨w.heap.size+1+1,9,none⟩ v9):=((KeepT.refl _ _ _).grown pW (by simp) (Nat.le_refl _) (by simp;omega) hg).set rk (by simp) (by omega) _;have iu:xs.length=exs.length * 3:=he.1;refine⟨k3.set rk (by simp) (by omega) _,vt,v9,xs++[.int .i64 c,wv,vv],(aF rk _ _).trans rfl,kk.own (ht.up lW) (by decide),?_,fun i hi=>?_⟩
 ·rw[List.length_append,List.length_singleton]
  exact aX.put (aX.ne rk (by decide)) _ _
 ·rw[List.length_append,List.length_singleton]at hi
  by_cases aA:i<exs.length
  ·rw[List.getElem_append_left aA]
   obtain⟨a,d,p1,p2,p3,p4,p5⟩:=hx i aA;exact⟨a,d,by rw[List.getElem?_append_left (by omega)];exact p1,by rw[List.getElem?_append_left (by omega)];exact p2,by rw[List.getElem?_append_left (by omega)];exact p3,kk.own ((hK.own p4 (by decide)).up lW) (by decide),kk.fresh (bX.up (hK.fresh p5 (by decide) (by decide)) lW) (by decide) (by decide)⟩
  ·obtain rfl:i=exs.length:=by omega
   have e9:(exs++[(⟨c,word,views⟩:Ex)])[exs.length]'(by simp)=⟨c,word,views⟩:=by simp
   rw[e9];refine⟨wv,vv,?_,?_,?_,kk.own ((hK.own hw (by decide)).up lW) (by decide),kk.fresh (bX.up hv lW) (by decide) (by decide)⟩
   ·rw[List.getElem?_append_right (by omega),iu,Nat.sub_self];rfl
   ·rw[List.getElem?_append_right (by omega),iu,Nat.add_sub_cancel_left];rfl
   ·rw[List.getElem?_append_right (by omega),iu,Nat.add_sub_cancel_left];rfl
theorem U'{p:Pb} {vc vs vt ve:Value} {w V Wf:World} {xs:List Value} (hc:bK Wf vc p.t.cases) (hs:bh Wf vs p.a.states) (ht:aG V (w.heap.size+1+1) 190 8 vt (aM p).tab.length (eM (aM p).tab)) (he:aG V (w.heap.size+1+1) 89 3 ve (aM p).ex.length xs)
  (hx:∀ k (hk:k<(aM p).ex.length),za V (w.heap.size+1+1) xs k (aM p).ex[k]) (hW:∀ k,w.heap.size+1+1<=k->k<V.heap.size->Wf.heap[k]?=V.heap[k]?) (hg:(∀ v∈(aM p).tab,jC v)/\∀ x∈(aM p).ex,ExGood x) (h1:(aM p).tab.length<=17592186044416) (h2:(aM p).ex.length<=17592186044416):IsSys Wf (aM p) vc vs vt ve:=by
 have tr:∀ {e:TypeId} {k:Nat} {v:Value} {m:Nat} {l:List Value},aG V (w.heap.size+1+1) e k v m l->aG Wf (w.heap.size+1+1) e k v m l:=fun {e k v m l} h=>h.keep fun g o hg ho=>(hW g (h.lt g hg).1 (h.lt g hg).2).trans ho
 refine⟨hc,hs,xH (tr ht) hg.1 h1,Kf (tr he) (fun i hi=>?_) hg.2 h2⟩;obtain⟨a,d,p1,p2,p3,p4,ys,p5,p6⟩:=hx i hi;exact⟨a,d,p1,p2,p3,tr p4,ys,tr p5,fun j hj=>by obtain⟨y,r1,r2⟩:=p6 j hj;exact⟨y,r1,tr r2⟩⟩
theorem LY(p:Pb) (vc vs:Value) (w:World) (hc:bK w vc p.t.cases) (hs:bh w vs p.a.states) (hp:probE p=0) (hm:p.t.cases.length * (aK p).length<=200) :
  Calls Tryz.prog 117 #[qp p vc vs] w fun r w'=>∃ vt ve,r=.returned (.agg #[.int .i64 p.t.n,.int .i64 p.t.ins,.int .i64 p.t.outs,vc,.int .i64 p.a.n,vs,.int .i64 p.rounds,.int .i64 p.t.n,vt,ve])/\((∃ a c,vt=.slice a (aM p).tab.length c)/\∃ a c,ve=.slice a (aM p).ex.length c)/\(∀ Wf:World,(∀ k,w.heap.size<=k->k<w'.heap.size->Wf.heap[k]?=w'.heap[k]?)->bK Wf vc p.t.cases->bh Wf vs p.a.states->IsSys Wf (aM p) vc vs vt ve)/\Below w.heap.size w w':=by
 have GC:=aa hc;have GS:=aa hs;have HP:=aa hp;obtain⟨mO,Jk,yG,rL,pR⟩:=gt hp;obtain⟨⟨jP,ji⟩,_,_,⟨wh,bP⟩,gg⟩:=eY mO
 have IU:(aK p).length<=200:=by
  have h9:1 * (aK p).length<=p.t.cases.length * (aK p).length:=Nat.mul_le_mul_right _ wh;omega
 have hst0:=(gY Jk).1;obtain⟨pc,cc,rfl,lc1,lc2,ec⟩:=hc.at;obtain⟨ps,cs,rfl,_⟩:=hs.at;obtain⟨K,hK⟩:∃ K:Nat,p.rounds=K:=⟨p.rounds.toNat,by omega⟩;obtain⟨n,hn⟩:∃ n:Nat,p.t.n=n:=⟨p.t.n.toNat,by omega⟩
 have MV:Hid (∀ W,Below w.heap.size w W->Calls Tryz.prog 157 #[.agg #[.int .i64 p.a.n,.slice ps p.a.states.length cs],.int .i64 0,.int .i64 K] W fun r w'=>∃ u,r=.returned u/\um w' W.heap.size u (aK p)/\Below W.heap.size W w'):=aa fun W hb=>by
  have h:=Ev p.a (fun s hs m hm=>by have:=uz Jk s hs m hm;omega) p.rounds.toNat 0 _ W (by omega) (by omega) (by have:(bU p.a p.rounds.toNat 0)=aK p:=rfl;rw[this];omega) (GS.out.up up_moves hb);rw[show ((p.rounds.toNat:Nat):Int)=(K:Int) by omega]at h;exact h
 have zj:=aa (AS hp (fun c hc=>(vR GC.out c hc).1) (fun x hx=>vP p.a (sf GS.out) _ _ x hx) (by have:=sr hp (p.t.cases.length * (aK p).length) (Nat.le_refl _);have e:stP p (p.t.cases.length * (aK p).length)=execsS p (aK p) (fw p):=(by unfold stP;rw[List.take_of_length_le (by rw[jg];exact Nat.le_refl _)]);rw[e]at this;omega));have lU:=aa (sr hp);have HWG:Hid (∀ x∈aK p,x.length=K/\∀ r∈x,OkR n r/\oU r):=aa fun x hx=>⟨by have:=jR p.a p.rounds.toNat 0 x hx;omega,fun r hr=>⟨by have:=Oi hp x hx r hr;rwa [<-yG,hn]at this,vP p.a (sf GS.out) _ _ x hx r hr⟩⟩
 have iY:Hid (stP p (p.t.cases.length * (aK p).length)=((aM p).tab,(aM p).ex)):=aa (by unfold stP;rw[List.take_of_length_le (by rw[jg];exact Nat.le_refl _)];rfl);have dB:Hid (∀ c (hc:c<p.t.cases.length),(p.t.cases[c]).inp.length=n):=aa fun c hc=>by have:=(gg _ (List.getElem_mem hc)).inp;omega
 have HEC:=aa ec;have MK:=aa (vS p);obtain⟨nc,jO⟩:∃ nc,p.t.cases.length=nc:=⟨_,rfl⟩;obtain⟨nw,lP⟩:∃ nw,(aK p).length=nw:=⟨_,rfl⟩;have Ci:=aa jO;have Ff:=aa lP;obtain⟨ns,uS⟩:∃ ns,p.a.states.length=ns:=⟨_,rfl⟩;rw[jO]at lc1 lc2 wh bP hm iY lU zj MK ⊢;rw[lP]at hm IU iY lU zj MK;have HNS:=aa uS;rw[uS]at MV ⊢;have HN:=aa hn;have jM:=aa hK;clear hc hs hp mO Jk yG gg ec jO lP hst0 uS rL;have ji:n<=5:=by omega
 have jP:1<=n:=by omega
 have hK6:K<=6:=by omega
 show Calls Tryz.prog 117 #[.agg #[.int .i64 p.t.n,.int .i64 p.t.ins,.int .i64 p.t.outs,.slice pc nc cc,.int .i64 p.a.n,.slice ps ns cs,.int .i64 p.rounds]] w _
 rw[hn,hK];clear hn hK;obtain⟨i0,cU,cg,bV,cj⟩:=info_parts Tryz.infoInt;have cf:=aa (And.intro cU (And.intro cg (And.intro bV cj)));obtain⟨i1,oF,iR,jk,iv⟩:=info_parts Tryz.infoInts;have sH:=aa (And.intro oF (And.intro iR (And.intro jk iv)));obtain⟨i2,SN,cN,df,dM⟩:=info_parts Tryz.infoExec;have S1:=aa (And.intro SN (And.intro cN (And.intro df dM)));clear cU cg bV cj oF iR jk iv SN cN df dM
 go_enter Tryz.func117,Tryz.ntmps117
 go_wp2_with fail
 refine aN (fun W=>Below w.heap.size w W/\W.heap[w.heap.size]?=some (.cells #[.int .i64 n,.int .i64 p.t.ins,.int .i64 p.t.outs,.slice pc nc cc,.int .i64 p.a.n,.slice ps ns cs,.int .i64 K] 29)/\W.heap[w.heap.size+1]?=some (.cells zeroSys 35)/\W.heap[w.heap.size+1+1]?=some (.cells #[.int .i64 n,.int .i64 p.t.ins,.int .i64 p.t.outs,.slice pc nc cc,.int .i64 p.a.n,.slice ps ns cs,.int .i64 K,.int .i64 n,.slice none 0 0,.slice none 0 0] 35)) ⟨by go_grown,ap _ (ap _ (am _ _)),ap _ (bd _ _ _),dW _ _ _ _⟩ (fun W0 aV=>?_);obtain⟨aH,bB,gL,Wo⟩:=aV;refine(MV.out W0 aH).mono ?_;rintro r w4 ⟨u,rfl,hu,bQ⟩;have eQ:=aa (ae aH bQ);have Im:=aa (af bQ bB);have sL:=aa (af bQ gL);have KS:=aa (af bQ Wo);have Aa:=aB KS.out;have hsW0:=aB Wo;obtain⟨xs0,Fu,Pp⟩:=hu;rw[Ff.out]at Fu;obtain⟨pu,cu,rfl⟩:=Fu.slice;have Ak:=aa Fu;have E':=aa Pp;have cf:Hid (BtI p n K (.slice pc nc cc) (.slice ps ns cs) w w4 ([],[]) w4):=aa ⟨KeepT.refl _ _ _,.slice none 0 0,.slice none 0 0,[],KS.out,aG.nil _ _ _ _,aG.nil _ _ _ _,fun k hk=>by simp at hk⟩;clear aH bB gL Wo bQ MV Fu Pp
 go_wp2_with fail
 go_loopw [5] (fun i wr=>∃ c:Nat,c<=nc/\i=.int .i64 c/\BtI p n K (.slice pc nc cc) (.slice ps ns cs) w w4 (stP p (c * nw)) wr) (fun i _=>nc - (intOf i).toNat)
 case atStart=>exact⟨0,by omega,rfl,by rw[Nat.zero_mul];exact cf.out⟩
 case round=>
  clear cf;obtain⟨c,hc,rfl,hI⟩:=hrel;have HI:=aa hI;have hA:=hI.keep.keep _ _ _ _ Im.out (by decide);have eT:=hI.keep.old.size;have cQ:Below w.heap.size w wr:=eQ.out.trans (hI.keep.old.mono (by omega));have eD:=aa cQ;have tA:=ab hA;clear hI hA cQ;by_cases aA:c<nc
  ·obtain⟨bc,oc,rfl,⟨vi,ci0,uL⟩,_,_⟩:=HEC.out c (by rw[Ci.out];exact aA)
   have gM:=dB.out c (by rw[Ci.out];exact aA);have cO:=(vR GC.out _ (List.getElem_mem (l:=p.t.cases) (show c<p.t.cases.length by rw[Ci.out];exact aA))).1;obtain⟨inp,RF⟩:∃ inp,(p.t.cases[c]'(by rw[Ci.out];exact aA)).inp=inp:=⟨_,rfl⟩;have HINP:Hid ((p.t.cases.getD c default).inp=inp):=aa (by rw[az default (by rw[Ci.out];exact aA)];exact RF);rw[RF]at uL gM cO;obtain⟨pi,cpi,rfl,ei⟩:=dO uL;have HEI:=aa ei;have iS:=aa cO;have P0:=aa gM;have mX:=aa ci0;obtain⟨wrA,kG⟩:∃ x,x=wr:=⟨_,rfl⟩;subst kG;clear uL gM cO ei ci0 RF
   go_wp2_with fail
   clear tA
   go_loopw [6] (fun i wr=>∃ j:Nat,j<=nw/\i=.int .i64 j/\BtI p n K (.slice (some ⟨bc,oc,none⟩) nc cc) (.slice ps ns cs) w w4 (stP p (c * nw+j)) wr) (fun i _=>nw - (intOf i).toNat)
   case atStart=>exact⟨0,by omega,rfl,HI.out⟩
   case round=>
    clear HI eD eT;obtain⟨j,hj,rfl,hI⟩:=hrel;have eT:=hI.keep.old.size;by_cases fx:j<nw
    ·obtain⟨vt,ve,xs,fP,iI,mR,Aa⟩:=hI.sys
     have Jc:(c+1) * nw<=nc * nw:=Nat.mul_le_mul_right nw (by omega);rw[Nat.succ_mul]at Jc;have VQ:j<(aK p).length:=by rw[Ff.out];exact fx
     obtain⟨xw,Kz,pP⟩:=E'.out j VQ;obtain⟨g0,c0,e0,yF⟩:=(hI.keep.own Ak.out (by decide)).cell j xw Kz;injection e0 with e01 e02 e03
     subst e01;subst e03;clear e02;have KE:=HWG.out _ (List.getElem_mem (l:=aK p) VQ);have pW:=hI.keep.own pP (by decide);have dU:=MK.out (c * nw+j) (by omega);have hg:=(zj.out (c * nw+j) (by omega)).1;have H7:=lU.out (c * nw+j) (by omega);have Fr:(c * nw+j) / nw=c:=by rw[Nat.mul_comm,Nat.mul_add_div (by omega),Nat.div_eq_of_lt fx,Nat.add_zero]
     have fY:(c * nw+j) % nw=j:=by rw[Nat.mul_comm,Nat.mul_add_mod,Nat.mod_eq_of_lt fx]
     rw[Fr,fY]at dU;unfold jS at dU;rw[HINP.out,az [] VQ,show p.t.n.toNat=n by have:=HN.out;omega]at dU
     have Ip:(stP p (c * nw+j)).2.length<=1000:=by
      have h1:=so p (aK p) ((fw p).take (c * nw+j)) ([],[]);have h2:(stP p (c * nw+j)).2.length=0+((fw p).take (c * nw+j)).length:=h1;rw[h2,List.length_take];omega
     generalize stP p (c * nw+j)=st at iI mR Aa dU hg H7 Ip;generalize (aK p)[j]=word at pP pW KE dU
     have Sn:stP p (c * nw+j+1)=((btT n inp word st.1 (K+1)).1,st.2++[⟨c,word,(btT n inp word st.1 (K+1)).2⟩]):=by
      rw[dU];unfold gh;rw[KE.1];rfl
     obtain⟨tb,exs⟩:=st;have hexl:exs.length<=1000:=Ip;dsimp only at iI mR Aa Sn hg H7
     have hsm2:tb.length<=7000:=by
      have:(c * nw+j) * 35<=200 * 35:=Nat.mul_le_mul_right 35 (by omega);omega
     have MZ:Hid (stP p (c * nw+(j+1))=((btT n inp word tb (K+1)).1,exs++[⟨c,word,(btT n inp word tb (K+1)).2⟩])):=aa Sn;have Is:=aa (U4 n ji inp iS.out word tb hg (by omega));have sN:=aa (Ul n inp word tb);have E8:=aa (QS n inp word tb);have VJ:=aa (U5 n ji inp iS.out word);have Ao:=aa (Uk n inp word);have iz:=aa (q6 pW (fun i hi=>(KE.2 _ (List.getElem_mem hi)).2) (by omega));obtain⟨pxw,cxw,rfl,_⟩:=iz.out.at;rw[KE.1]at yF;have yg:=aa KE;have HOX:=aa pP;have hI0k:=hI.keep;obtain⟨ave,cve,rfl⟩:=mR.slice;have HI:=aa hI;have oE:=aa mR;have CV:=aa Aa;have hA:=hI.keep.keep _ _ _ _ Im.out (by decide);have HAE:=aa hA;have HBWE:=aa (eQ.out.trans (hI.keep.old.mono (by omega)));have P9:=aa fP;have P4:=aa iI;have hs3b:=aB fP;have HCW:=aa yF;have HXJ:=aa Kz;have HOWB:=aa (hI0k.own Ak.out (by decide));have HHOW:=aa pW;obtain⟨wrB,hwB⟩:∃ x,x=wr:=⟨_,rfl⟩;subst hwB;clear hI hI0k Kz fP iI mR Aa dU Sn hg pP pW KE hA Fr fY H7
     go_wp2_with fail
     have Ai:Below wrB.heap.size wrB (wrB.alloc (.cells #[.int .i64 c,.slice pxw K cxw,.slice none 0 0] 89)):=by go_grown
     refine bm (fun W=>BtK p n K (.slice (some ⟨bc,oc,none⟩) nc cc) (.slice ps ns cs) (.slice ave exs.length cve) (.slice pxw K cxw) w wrB c (btT n inp word tb 0) W) ⟨(KeepT.refl _ _ _).up Ai (by omega),⟨vt,af Ai P9.out,P4.out.up Ai⟩,.slice none 0 0,am _ _,bX.nil _ _⟩ (fun W9 hW9=>?_);have sS:=aa hW9;clear hW9 Ai
     go_loopw [8] (fun i wr=>∃ k:Nat,k<=K+1/\i=.int .i64 k/\BtK p n K (.slice (some ⟨bc,oc,none⟩) nc cc) (.slice ps ns cs) (.slice ave exs.length cve) (.slice pxw K cxw) w wrB c (btT n inp word tb k) wr) (fun i _=>K+1 - (intOf i).toNat)
     case atStart=>exact⟨0,by omega,rfl,sS.out⟩
     case round=>
      clear sS;obtain⟨k,hk,rfl,hK⟩:=hrel;have SK:=aa hK;have hszk:=hK.keep.old.size;have hA:=hK.keep.keep _ _ _ _ HAE.out (by decide);have HAK:=aa hA;have tA:=ab hA;have CL:=aa (HBWE.out.trans (hK.keep.old.mono (by omega)));obtain⟨vtk,lV,n8⟩:=hK.sys;obtain⟨vv,hZ,Pi⟩:=hK.ex;have hszx:=aB hZ;obtain⟨ys,jk,iv⟩:=Pi;obtain⟨pvv,cvv,rfl⟩:=jk.slice;have uI:=aa lV;have km:=aa n8;have Hz:=aa hZ;have rJ:=aa jk;have uX:=aa iv;clear hK hA lV n8 hZ jk iv;by_cases lX:k<=K
      ·have hd:decide ((k:Int)<=(K:Int))=true:=decide_eq_true (by omega)
       obtain⟨wrC,hwC⟩:∃ x,x=wr:=⟨_,rfl⟩;subst hwC
       go_wp2_with fail
       clear tA hd;have Cy:=sN.out k;obtain⟨Mz,Sy,M0⟩:=Cy;have h7n:n * k<=5 * 7:=Nat.mul_le_mul ji (by omega);obtain⟨MR,I8⟩:=Is.out k (by omega)
       have pg:∀ z∈(btT n inp word tb k).2.getLastD [],0<=z/\z<=(100000:Int):=fun z hz=>by
        rcases List.eq_nil_or_concat (btT n inp word tb k).2 with h|⟨l',a,h⟩
        ·rw[h]at hz;simp at hz
        ·rw[h,List.concat_eq_append,List.getLastD_concat]at hz
         exact I8 a (by rw[h];simp) z hz
       have uL:=VJ.out k (by omega) _ pg;have wR:=Ao.out k ((btT n inp word tb k).2.getLastD []);have Jg:=E8.out k;have E6:Hid (∀ q (hq:q<(btV n inp word k ((btT n inp word tb k).2.getLastD [])).length),(btV n inp word k ((btT n inp word tb k).2.getLastD []))[q]=if k=0 then dS inp q else nextV n (k - 1) (word.getD (k - 1) default) ((btT n inp word tb k).2.getLastD []) q):=aa fun q hq=>by simp[btV]
       generalize btT n inp word tb k=st at Mz Sy M0 MR I8 pg uL wR Jg km rJ uX Hz E6;generalize btV n inp word k (st.2.getLastD [])=vs at uL wR Jg E6;obtain⟨tbk,views⟩:=st;dsimp only at Mz Sy M0 MR I8 pg Jg km rJ uX Hz E6;have HQI:=aa (fun q=>U6 tbk vs uL MR (by omega) q);have SX:=aa (QT tbk vs);have uV:=aa (Un tbk vs);have rE:Hid (pM tbk vs n=addAll tbk vs):=aa (by rw[<-wR];exact Um tbk vs);have KV:Hid (BtQ p n K (.slice (some ⟨bc,oc,none⟩) nc cc) (.slice ps ns cs) (.slice ave exs.length cve) w wrC (pM tbk vs 0) 0 (.slice none 0 0) wrC):=aa ⟨KeepT.refl _ _ _,⟨vtk,uI.out,km.out⟩,aG.nil _ _ _ _⟩;have Jo:=aa wR;have HROWS:=aa M0;have MS:=aa Mz;have HTSS:=aa Jg;have HTI2:=aa I8;clear pg uL wR Jg M0 Mz MR I8 Sy h7n
       go_loopw [9,10] (fun l i wr=>∃ q:Nat,q<=n/\i=.int .i64 q/\BtQ p n K (.slice (some ⟨bc,oc,none⟩) nc cc) (.slice ps ns cs) (.slice ave exs.length cve) w wrC (pM tbk vs q) q l wr) (fun _ i _=>n - (intOf i).toNat)
       case atStart=>exact⟨0,by omega,rfl,KV.out⟩
       case round=>
        clear KV;obtain⟨q,hq,rfl,hQ⟩:=hrel;have HQ:=aa hQ;have hszq:=hQ.keep.old.size;have hA:=hQ.keep.keep _ _ _ _ HAK.out (by decide);have HAQ:=aa hA;have eC:=aa (CL.out.trans (hQ.keep.old.mono (by omega)));have tA:=ab hA;obtain⟨al,cl,rfl⟩:=hQ.row.slice;clear hQ hA;by_cases uP:q<n
        ·obtain⟨bi,oi,rfl,Jm⟩:=HEI.out q (by rw[P0.out];exact uP)
         have tc:=ak eC.out mX.out;have ti:=ak eC.out Jm;have HQLL:=uV.out q (by rw[Jo.out];omega);have gM:=P0.out;have HILQ:Hid (q<inp.length):=aa (by rw[gM];exact uP);rw[gM]at tc;have Iv:Hid (dS inp q=⟨q,0,inp.getD q 0,-1,-1,-1,-1,-1⟩):=aa rfl;generalize inp.getD q 0=xq at ti Iv;clear Jm gM;obtain⟨wrD,hwD⟩:∃ x,x=wr:=⟨_,rfl⟩;subst hwD
         go_wp2_with fail
         refine(JN q xq wrD).mono ?_;rintro r w5 ⟨rfl,dx⟩;have PG:=aa (HQ.out.up dx (by omega));have lY:=aa (ae eC.out dx);have VB:=E6.out q (by rw[Jo.out];exact uP);have dD:=SX.out q (by rw[Jo.out];exact uP);obtain⟨vq,hvqe⟩:∃ v,v=vs[q]'(by rw[Jo.out];exact uP):=⟨_,rfl⟩;rw[<-hvqe]at VB dD;have TP:=aa VB;have yO:=aa dD;obtain⟨st1,Sb⟩:∃ x,x=pM tbk vs q:=⟨_,rfl⟩;rw[<-Sb]at PG yO HQLL;have Si:=aa (HQI.out q);rw[<-Sb]at Si;have hsz5:=dx.size;clear tA tc ti dx HQ VB dD hvqe Sb;have KH:∀ o,Below w5.heap.size w5 (w5.alloc o):=fun o=>by go_grown
         obtain⟨vt5,Iy,E4⟩:=PG.out.sys;obtain⟨at5,ct5,rfl⟩:=E4.slice;have CP:=aa Iy;have KL:=aa E4;have hrw5:=PG.out.row;have Sh:=aa hrw5;clear Iy E4 hrw5;by_cases eP:k=0
         case' pos=>
          have hd:decide ((0:Int)<(k:Int))=false:=decide_eq_false (by omega);have hd':decide (0<k)=false:=decide_eq_false (by omega);have hv:=TP.out;rw[if_pos eP]at hv;clear eP;rw[Iv.out]at hv;have Ag:=aa hv;have t3:=fun o=>ab (af (KH o) CP.out)
          have tv:=ab (am w5 (.cells #[.int .i64 q,.int .i64 0,.int .i64 xq,.int .i64 (-1),.int .i64 (-1),.int .i64 (-1),.int .i64 (-1),.int .i64 (-1)] 190));clear hv TP
          go_wp2_with fail
          clear t3 tv;refine aN (fun W=>BtP p n K (.slice (some ⟨bc,oc,none⟩) nc cc) (.slice ps ns cs) (.slice ave exs.length cve) (.slice at5 st1.1.length ct5) w wrC st1 (.slice al q cl) q w5.heap.size vq W) ⟨PG.out.keep.up (KH _) (by omega),af (KH _) CP.out,KL.out.up (KH _),Sh.out.up (KH _),by rw[Ag.out];exact am _ _⟩ ?_;rw[show (Value.agg #[.int .i64 q,.int .i64 0,.int .i64 xq,.int .i64 (-1),.int .i64 (-1),.int .i64 (-1),.int .i64 (-1),.int .i64 (-1)])=vq.v by rw[Ag.out]]
         case' neg=>
          have hd:decide ((0:Int)<(k:Int))=true:=decide_eq_true (by omega);have hd':decide (0<k)=true:=decide_eq_true (by omega);obtain⟨k',sK⟩:∃ k',k=k'+1:=⟨k - 1,by omega⟩;have hv:=TP.out;rw[if_neg eP,sK,Nat.add_sub_cancel]at hv;have O6:=aa sK;have hkl2:k'<k:=by omega
          have hkl0:k'<K:=by omega
          have hkm:(k:Int) - 1=(k':Int):=by omega
          clear sK;have yI:k'<word.length:=by rw[yg.out.1];have:=O6.out;omega
          rw[az default yI]at hv;have KD:=yg.out.2 _ (List.getElem_mem yI);have Kv:k'<views.length:=by have:=MS.out;have:=O6.out;omega
          have zg:views.getLastD []=views[k']:=by
           have:views.length=k'+1:=by have:=MS.out;have:=O6.out;omega
           rw[List.getLastD_eq_getLast?,List.getLast?_eq_getElem?,this,Nat.add_sub_cancel,List.getElem?_eq_getElem Kv];rfl
          obtain⟨xv,Av,IT⟩:=uX.out k' Kv;rw[zg]at hv;have Wl:=HROWS.out _ (List.getElem_mem Kv);have Sm:=HTI2.out _ (List.getElem_mem Kv);have t3:=fun o=>ab (af (KH o) CP.out)
          go_wp2_with fail
          refine bm (fun W=>Below w5.heap.size w5 W/\W.heap[w5.heap.size]?=some (.cells #[.int .i64 q,.int .i64 0,.int .i64 xq,.int .i64 (-1),.int .i64 (-1),.int .i64 (-1),.int .i64 (-1),.int .i64 (-1)] 190)) ⟨by go_grown,am _ _⟩ (fun W5 hW5=>?_);have kC:=PG.out.keep.up hW5.1 (by omega);have kB:=SK.out.keep.trans kC;obtain⟨g9,c9,e9,tcw⟩:=(kB.own HOWB.out (by decide)).cell j _ HXJ.out;injection e9 with e91 e92 e93
          injection e91 with e91
          injection e91 with e91
          subst e91;have how5:=q6 (kB.own HHOW.out (by decide)) (fun i hi=>(yg.out.2 _ (List.getElem_mem hi)).2) (by omega);obtain⟨pw8,cw8,ew8,_,_,ew9⟩:=how5.at;injection ew8 with ew81 ew82 ew83
          obtain⟨bw,ow,ew,⟨d0,_⟩,⟨d1,_⟩,⟨d2,_⟩,⟨d3,_⟩,⟨d4,_⟩,⟨d5,_⟩,⟨d6,_⟩⟩:=ew9 k' yI;obtain⟨pxv,cxv,exv⟩:=IT.slice;have Jm:=gu (kC.own IT (by decide)) (fun z hz=>by have:=Sm z hz;exact⟨by omega,by omega⟩) (by omega);obtain⟨gv,cv1,ev1,hcv⟩:=(kC.own rJ.out (by decide)).cell k' xv Av;injection ev1 with ev11 ev12 ev13
          have tX:=ab (kC.keep _ _ _ _ Hz.out (by decide));clear how5 ew9;generalize word[k']=rd at hv d0 d1 d2 d3 d4 d5 d6 KD;generalize views[k']=row at hv Jm Wl exv Sm;rw[Wl]at exv;rw[exv]at hcv Jm;obtain⟨⟨hgn,hhe,_,_,_⟩,_⟩:=KD
          have hvs:vq=seenV n k rd.g row q:=by
           rw[hv,O6.out];simp[nextV,seenV,lG,seenH]
          have MM:=aa (fun W (hb:Below W5.heap.size W5 W)=>LX rd.g k q n hgn ji (by omega) (hhe q (by omega)) _ row (by omega) W (Jm.up up_int hb));rw[<-hvs]at MM;have HKC:=aa kC;have FH:=aa hW5.2;have PZ:=aa (af hW5.1 CP.out);have HT5:=aa (KL.out.up hW5.1);have wK:=aa (Sh.out.up hW5.1);have hsz55:=aB hW5.2;subst ew;subst ew81;subst ev11;rw[yg.out.1]at ew82;rw[yg.out.1]at tcw;have hwk:IntKind.i64.wrap (k':Int)=(k':Int):=IntWalk.i64_in _ (by omega);clear Wl hgn hv Sm Jm kC kB IT exv Av zg hvs hW5 ew82 ew83 ev12 ev13 e92 e93 TP Iv t3
          go_still_tail 17,(by kernel_rfl)
          go_wp2_with fail
          refine aN (fun W=>Below W5.heap.size W5 W) (Below.drew (Below.refl _ _)) (fun W6 yH=>?_);refine(MM.out W6 yH).mono ?_;rintro r w6 ⟨rfl,gK⟩;have pf:=ae yH gK;have WT:=aa (af pf FH.out)
          have Cm:Hid (BtP p n K (.slice (some ⟨bc,oc,none⟩) nc cc) (.slice ps ns cs) (.slice ave exs.length cve) (.slice at5 st1.1.length ct5) w wrC st1 (.slice al q cl) q w5.heap.size vq (w6.setRow w5.heap.size vq.c)):=aa (by
           have bJ:∀ k,k≠w5.heap.size->(w6.setRow w5.heap.size vq.c).heap[k]?=w6.heap[k]?:=fun k hk=>setRow_other _ _ _ _ hk
           have Lf:=HKC.out.up pf (by omega)
           refine⟨⟨below_setRow Lf.old (by omega) _,fun k c t f h1 h2=>(bJ k (by have:=aB h1;omega)).trans (Lf.keep k c t f h1 h2),fun k o h1 h2 h3=>(bJ k (by have:=aB h1;omega)).trans (Lf.oth k o h1 h2 h3)⟩,(bJ _ (by omega)).trans (af pf PZ.out),(HT5.out.up pf).keep (fun g o hg ho=>(bJ g (fun e=>by have:=(KL.out.lt g hg).2;omega)).trans ho),(wK.out.up pf).keep (fun g o hg ho=>(bJ g (fun e=>(wK.out.up pf).ne WT.out (by decide) g hg e)).trans ho),setRow_heap _ _ _ _ _ _ WT.out⟩)
          clear yH gK pf d0 d1 d2 d3 d4 d5 d6 tX tcw hcv hkm hwk MM FH PZ HT5 wK
          go_wp2_with (refine wpList_store_row rfl 190 (.tmp 11) (.tmp 89) rfl w5.heap.size vq.c rfl rfl 190 _ WT.out (by kernel_rfl) rfl (by simp[Value.oneCell']) ?_;have t3:=ab Cm.out.sys;have tv:=ab Cm.out.v)
          clear t3 tv;refine aN (fun W=>BtP p n K (.slice (some ⟨bc,oc,none⟩) nc cc) (.slice ps ns cs) (.slice ave exs.length cve) (.slice at5 st1.1.length ct5) w wrC st1 (.slice al q cl) q w5.heap.size vq W) Cm.out ?_;rw[show (Value.agg #[.int .i64 vq.p,.int .i64 vq.k,.int .i64 vq.i,.int .i64 vq.h0,.int .i64 vq.h1,.int .i64 vq.h2,.int .i64 vq.h3,.int .i64 vq.h4])=vq.v from rfl]
         all_goals
          intro W6 yH;have KK:=aa yH;clear yH;refine(Q0 n st1.1 _ vq (w.heap.size+1+1) W6 (by have:=KK.out.keep.old.size;omega) KK.out.tab Si.out.1 (by have:=Si.out.2.2;omega)).mono ?_;rintro r w7 ⟨⟨u7,rfl,SR⟩,sY⟩;obtain⟨a7,c7,rfl⟩:=SR.slice;generalize putV st1.1 vq=pv at SR yO ⊢;have WK:=KK.out.keep.up sY (by omega);have wE:=af sY KK.out.sys;have Vv:=KK.out.row.up sY;have hsz7:=WK.old.size;have hg7:∀ o,Below w7.heap.size w7 (w7.alloc o):=fun o=>by go_grown
          have h3lt:=aB wE;have t3:=fun o=>ab (af (hg7 o) wE)
          have z3:=fun o=>aE (af (hg7 o) wE)
          have t3a:=ab wE;have z3a:=aE wE;obtain⟨o7,ho7⟩:∃ o:Obj,o=.cells #[.int .i64 n,.slice a7 pv.1.length c7] 32:=⟨_,rfl⟩;obtain⟨W8,ol⟩:∃ W8,W8=((w7.setCell ⟨w.heap.size+1+1,7,none⟩ (.int .i64 n)).setCell ⟨w.heap.size+1+1,8,none⟩ (.slice a7 pv.1.length c7)).alloc o7:=⟨_,rfl⟩
          have hs8:W8.heap[w.heap.size+1+1]?=some (.cells (Ew p n K (.slice (some ⟨bc,oc,none⟩) nc cc) (.slice ps ns cs) (.slice a7 pv.1.length c7) (.slice ave exs.length cve)) 35):=by
           rw[ol];refine ap _ ?_;rw[aF (aF wE _ _) _ _];rfl
          have hk8:KeepT [35] [] (w.heap.size+1+1) wrC W8:=by
           rw[ol];have h2:=WK.set (o:=7) wE (by simp) (by omega) (.int .i64 n);have h3:=h2.set (o:=8) (aF wE _ _) (by simp) (by omega) (.slice a7 pv.1.length c7);exact h3.up (by go_grown) (by omega)
          have Sw:∀ {b:Nat} {e:TypeId} {k m:Nat} {v:Value} {l:List Value},aG w7 b e k v m l->e≠35->aG W8 b e k v m l:=fun {b e k m v l} h bJ=>by
           rw[ol];exact((h.put (h.ne wE bJ) _ _).put (h.ne wE bJ) _ _).up (by go_grown)
          have hr8:=Sw Vv (by decide);have hu8:=Sw SR (by decide);have hsz8:w7.heap.size<W8.heap.size:=by rw[ol];simp
          have P7:=aa hs8;have HK8:=aa hk8;have HU8:=aa hu8;have KZ:Below W8.heap.size W8 (W8.alloc (.cells #[.int .i64 pv.2] 3)):=by go_grown
          have MC:=aa (hr8.up KZ);have HG8:=aa KZ;have bL:=dF W8 [.int .i64 pv.2] 3;rw[show W8.heap.size=w7.heap.size+1 by rw[ol];simp]at bL;have bz:=aa bL;have jN:Hid (q+1<=maxLen):=aa (by unfold maxLen;omega);have rC:Hid ((q+1) * 8<=140737488355328):=aa (by omega);have gq:Hid (wrC.heap.size<=(W8.alloc (.cells #[.int .i64 pv.2] 3)).heap.size):=aa (by simp;omega);subst ol;subst ho7;clear SR WK wE Vv hs8 hk8 Sw hr8 hu8 KZ sY bL CP KL Sh KK
          go_wp2_with (at_builtin;go_loud (refine aY _ rfl (.tmp 99) (.tmp 101) 38 rfl wrC.heap.size 3 i0 _ 1 8 Tryz.underlying38 cf.out.1 cf.out.2.1 cf.out.2.2.1 cf.out.2.2.2 rfl (by decide) _ q _ rfl MC.out ⟨w7.heap.size+1,0,none⟩ 1 1 [.int .i64 pv.2] rfl rfl bz.out (by simp[Value.oneCell']) jN.out rC.out gq.out ?_;intro v9 w9 gc dT _))
          go_roundw
          case rel=>
           refine⟨q+1,by omega,by go_num,?_⟩;rw[yO.out];have KZ:Below _ _ (_:World):=HG8.out;refine⟨(HK8.out.up KZ (by omega)).grownNew (by omega) (fun g hg=>(MC.out.lt g hg).1) dT,⟨_,gU MC.out dT P7.out (by decide),(HU8.out.up KZ).apart MC.out (by decide) dT⟩,?_⟩;rw[List.map_append];exact gc
          case measure=>simp[intOf];omega
        ·have hqe:q=n:=by omega
         subst hqe;have hx:=HQ.out.keep.keep _ _ _ _ Hz.out (by decide);have tx:=ab hx;have lW:Below wr.heap.size wr (wr.alloc (.cells #[.slice al q cl] 38)):=by go_grown
         have yK:=aa hx;have O8:=aa lW;have ry:=aa ((HQ.out.keep.own rJ.out (by decide)).up lW);have bz:=aa (dF wr [.slice al q cl] 38);have jN:Hid (views.length+1<=maxLen):=aa (by have:=MS.out;unfold maxLen;omega);have rC:Hid ((views.length+1) * 24<=140737488355328):=aa (by have:=MS.out;omega);have gq:Hid (wrB.heap.size<=(wr.alloc (.cells #[.slice al q cl] 38)).heap.size):=aa (by simp;omega);have CS:=uV.out q (by rw[Jo.out];omega);clear hx lW
         go_wp2_with (at_builtin;(refine aY _ rfl (.tmp 104) (.tmp 106) 56 rfl wrB.heap.size 38 i1 _ 1 24 Tryz.underlying56 sH.out.1 sH.out.2.1 sH.out.2.2.1 sH.out.2.2.2 rfl (by decide) _ views.length _ rfl ry.out ⟨wr.heap.size,0,none⟩ 1 1 [.slice al q cl] rfl rfl bz.out (by simp[Value.oneCell']) jN.out rC.out gq.out ?_;intro v9 w9 gc dT _;obtain⟨av9,cv9,rfl⟩:=gc.slice;have CO:=gU ry.out dT yK.out (by decide);have c9:=ab CO;have f9:=aE CO))
         go_roundw
         case rel=>
          refine⟨k+1,by omega,by go_num,?_⟩;rw[HTSS.out];have hq9:=HQ.out;rw[rE.out]at hq9 CS;exact BtK.next SK.out.keep hq9 yK.out (HQ.out.keep.own rJ.out (by decide)) (fun i hi=>by obtain⟨x,q1,q2⟩:=uX.out i hi;exact⟨x,q1,HQ.out.keep.own q2 (by decide)⟩) CS (by omega) dT gc
         case measure=>simp[intOf];omega
      ·obtain rfl:k=K+1:=by omega
       have hd:decide (((K+1:Nat):Int)<=(K:Int))=false:=decide_eq_false (by omega);have fY:decide ((K:Int)+1<=(K:Int))=false:=decide_eq_false (by omega);have tS:=ab uI.out;have tx:=ab Hz.out;have HLV:=aa (sN.out (K+1)).1;generalize btT n inp word tb (K+1)=st at MZ km Hz rJ uX tx HLV ⊢;obtain⟨tbk,views⟩:=st;dsimp only at MZ km Hz rJ uX tx HLV;have lW:Below wr.heap.size wr (wr.alloc (.cells #[.int .i64 c,.slice pxw K cxw,.slice pvv views.length cvv] 89)):=by go_grown
       have O8:=aa lW;have ry:=aa ((SK.out.keep.own oE.out (by decide)).up lW);have bz:=aa (dF wr [.int .i64 c,.slice pxw K cxw,.slice pvv views.length cvv] 89);have jN:Hid (exs.length+1<=maxLen):=aa (by unfold maxLen;omega);have rC:Hid ((exs.length+1) * 56<=140737488355328):=aa (by omega);have gq:Hid (w.heap.size+1+1<=(wr.alloc (.cells #[.int .i64 c,.slice pxw K cxw,.slice pvv views.length cvv] 89)).heap.size):=aa (by simp;omega);clear lW
       go_wp2_with (at_builtin;(refine aY _ rfl (.tmp 110) (.tmp 112) 33 rfl (w.heap.size+1+1) 89 i2 _ 3 56 Tryz.underlying33 S1.out.1 S1.out.2.1 S1.out.2.2.1 S1.out.2.2.2 rfl (by decide) _ exs.length _ rfl ry.out ⟨wr.heap.size,0,none⟩ 1 1 [.int .i64 c,.slice pxw K cxw,.slice pvv views.length cvv] rfl rfl bz.out (by simp[Value.oneCell']) jN.out rC.out gq.out ?_;intro v9 w9 gc dT _;obtain⟨av9,cv9,rfl⟩:=gc.slice;have rk:=gU ry.out dT uI.out (by decide);have c9:=ab rk;have f9:=aE rk))
       go_roundw
       case rel=>
        refine⟨j+1,by omega,by go_num,?_⟩;rw[MZ.out];have WJ:=HHOW.out.base (show w.heap.size+1+1<=W0.heap.size by omega);rw[yg.out.1]at WJ;have qC:cI wr (w.heap.size+1+1) (.slice pvv views.length cvv) views:=BV (show cI wr wrB.heap.size (.slice pvv views.length cvv) views from⟨ys,rJ.out,uX.out⟩) (by omega);exact BtI.next HI.out.keep SK.out.keep uI.out km.out oE.out CV.out WJ yg.out.1 qC (by omega) dT gc
       case measure=>simp[intOf];omega
    ·obtain rfl:j=nw:=by omega
     have HI:=aa hI;clear hI
     go_wp2_with fail
     go_roundw
     case rel=>exact⟨c+1,by omega,by go_num,by rw[Nat.succ_mul];exact HI.out⟩
     case measure=>simp[intOf];omega
  ·have hce:c=nc:=by omega
   subst hce;have wO:=HI.out;rw[iY.out]at wO;obtain⟨vt,ve,xs,h1,h2,h3,h4⟩:=wO.sys;have hr:=(wO.keep.old.block (w.heap.size+1) (by omega)).trans sL.out;have O6:=aa wO.keep;obtain⟨avt,cvt,rfl⟩:=h2.slice;obtain⟨ave,cve,rfl⟩:=h3.slice;have H2:=aa h2;have H3:=aa h3;have H4:=aa h4;have tS:=ab h1;have Lc:=aa hr;have H7:=lU.out (c * nw) (Nat.le_refl _);have kX:=zj.out (c * nw) (Nat.le_refl _);rw[iY.out]at H7 kX;dsimp only at H7 kX;have HSMM:=aa (show (aM p).tab.length<=17592186044416 by omega);have S2:=aa kX
   have Co:Hid ((aM p).ex.length<=17592186044416):=aa (by
    have h1:=so p (aK p) (fw p) ([],[]);have h2:(aM p).ex.length=0+(fw p).length:=h1;rw[h2,jg,Ci.out,Ff.out]
    omega)
   clear wO h1 h2 h3 h4 hr H7 kX
   go_wp2_with (refine wpList_store_row rfl 35 (.tmp 2) (.tmp 115) rfl (w.heap.size+1) (Ew p n K (.slice pc c cc) (.slice ps ns cs) (.slice avt (aM p).tab.length cvt) (.slice ave (aM p).ex.length cve)) rfl rfl 35 _ Lc.out (by kernel_rfl) rfl (by simp[Value.oneCell']) ?_)
   refine bodyPost_ret (FY _ (w.heap.size+1) _ _ _ _ _ _ _ _ _ _ _ rfl (setRow_heap _ _ _ _ _ _ Lc.out)) rfl ⟨.slice avt (aM p).tab.length cvt,.slice ave (aM p).ex.length cve,?_,⟨⟨_,_,rfl⟩,_,_,rfl⟩,?_,below_setRow eD.out (by omega) _⟩
   ·rw[<-jM.out,<-HN.out]
   ·intro Wf Iz h1 h2
    exact U' h1 h2 H2.out H3.out H4.out (fun k hk n8=>(Iz k (by omega) (Nat.lt_of_lt_of_le n8 (below_setRow (Below.refl (w.heap.size+1) wr) (Nat.le_refl _) (Ew p n K (.slice pc c cc) (.slice ps ns cs) (.slice avt (aM p).tab.length cvt) (.slice ave (aM p).ex.length cve))).size)).trans (setRow_other _ _ _ _ (by omega))) S2.out HSMM.out Co.out
structure BEnd (p:Pb) (w wd:World) (uc us vt ve:Value) (xs:List Value) (st:List Vw × List Ex) (D:Nat) (X:World):Prop where
 old:Below wd.heap.size wd X
 r2:X.heap[w.heap.size+1]?=some (.cells zeroSys 35)
 r3:X.heap[w.heap.size+1+1]?=some (.cells #[.int .i64 0] 39)
 s:X.heap[wd.heap.size]?=some (.cells (bT p uc us p.t.n vt ve) 35)
 tab:aG X wd.heap.size 190 8 vt st.1.length (eM st.1)
 ex:aG X wd.heap.size 89 3 ve st.2.length xs
 els:∀ i (hi:i<st.2.length),za X wd.heap.size xs i st.2[i]
 d:X.heap[D]?=some (.deferred (some []))
theorem Ow{w X:World} {D:Nat} {T:Array Value} {R:Ending->World->Prop} (hb:Below w.heap.size w X) (hR:X.heap[w.heap.size+1]?=some (.cells zeroSys 35)) (hE:X.heap[w.heap.size+1+1]?=some (.cells #[.int .i64 0] 39)) (hd:X.heap[D]?=some (.deferred (some []))) (hD:w.heap.size+1+1<D)
  (c0 c1 c2 c3 c4 c5 c6 c7 c8 c9:Value) (h2:T[2]?.getD undef=.pointer (some ⟨w.heap.size+1,0,none⟩)) (h3:T[3]?.getD undef=.pointer (some ⟨w.heap.size+1+1,0,none⟩))
  (hK:∀ Wf:World,Below w.heap.size w Wf->(∀ k,k≠w.heap.size+1->k≠w.heap.size+1+1->k≠D->Wf.heap[k]?=X.heap[k]?)->R (.returned (.tuple #[.agg #[c0,c1,c2,c3,c4,c5,c6,c7,c8,c9],.int .i64 0])) Wf) :
  bodyPostM Fence.wide 0 Tryz.prog Tryz.f120 R .ret { tmps:=T,defers:=[gX D] } (((((((((((X.setCell ⟨w.heap.size+1,0,none⟩ c0).setCell ⟨w.heap.size+1,1,none⟩ c1).setCell ⟨w.heap.size+1,2,none⟩ c2).setCell ⟨w.heap.size+1,3,none⟩ c3).setCell ⟨w.heap.size+1,4,none⟩ c4).setCell ⟨w.heap.size+1,5,none⟩ c5).setCell ⟨w.heap.size+1,6,none⟩ c6).setCell ⟨w.heap.size+1,7,none⟩ c7).setCell ⟨w.heap.size+1,8,none⟩ c8).setCell ⟨w.heap.size+1,9,none⟩ c9).setCell ⟨w.heap.size+1+1,0,none⟩ (.int .i64 0)).drew:=by
 obtain⟨q1,q2,q3,q4⟩:=sp (B:=w.heap.size+1) hb (by omega) hR rfl hE c0 c1 c2 c3 c4 c5 c6 c7 c8 c9 0
 revert q1 q2 q3 q4
 generalize (((((((((((X.setCell ⟨w.heap.size+1,0,none⟩ c0).setCell ⟨w.heap.size+1,1,none⟩ c1).setCell ⟨w.heap.size+1,2,none⟩ c2).setCell ⟨w.heap.size+1,3,none⟩ c3).setCell ⟨w.heap.size+1,4,none⟩ c4).setCell ⟨w.heap.size+1,5,none⟩ c5).setCell ⟨w.heap.size+1,6,none⟩ c6).setCell ⟨w.heap.size+1,7,none⟩ c7).setCell ⟨w.heap.size+1,8,none⟩ c8).setCell ⟨w.heap.size+1,9,none⟩ c9).setCell ⟨w.heap.size+1+1,0,none⟩ (.int .i64 0))=Y;intro q1 q2 q3 q4;have q1':Y.drew.heap[w.heap.size+1]?=_:=q1;have q2':Y.drew.heap[w.heap.size+1+1]?=_:=q2;have q4':∀ k,k≠w.heap.size+1->k≠w.heap.size+1+1->Y.drew.heap[k]?=X.heap[k]?:=q4;have q3':=q3.drew;generalize Y.drew=Z at q1' q2' q3' q4' ⊢;refine ip ((q4' D (by omega) (by omega)).trans hd) (pz T (w.heap.size+1) _ c0 c1 c2 c3 c4 c5 c6 c7 c8 c9 0 h2 h3 ((World.putObj_heap_other (by omega)).trans q1') ((World.putObj_heap_other (by omega)).trans q2')) ?_;exact hK _ (eH (by omega) q3') (fun k a b c=>(World.putObj_heap_other c).trans (q4' k a b))
theorem Ur{p:Pb} {w w2 wd X Wf:World} {D:Nat} {uc us vt ve:Value} {xs:List Value} {st:List Vw × List Ex} (h:BEnd p w wd uc us vt ve xs st D X)
  (CW:∀ W':World,(∀ k o,w2.heap.size<=k->wd.heap[k]?=some o->W'.heap[k]?=some o)->bK W' uc p.t.cases/\bh W' us p.a.states) (yJ:w.heap.size+1+1<w2.heap.size) (hDd:wd.heap.size<=D)
  (hg:(∀ v∈st.1,jC v)/\∀ x∈st.2,ExGood x) (ie:st.1.length<=8192) (mP:st.2.length<=4096) (hf:∀ k,k≠w.heap.size+1->k≠w.heap.size+1+1->k≠D->Wf.heap[k]?=X.heap[k]?):IsSys Wf ⟨p,p.t.n,st.1,st.2⟩ uc us vt ve:=by
 have tr:∀ {b:Nat} {e:TypeId} {k:Nat} {v:Value} {n:Nat} {ys:List Value},aG X b e k v n ys->e≠35->e≠39->aG Wf b e k v n ys:=fun {b e k v n ys} ho h1 h2=>ho.keepT fun g o e1 e2=>
  (hf g (fun e'=>ho.ne h.r2 h1 g e1 e') (fun e'=>ho.ne h.r3 h2 g e1 e') (fun e'=>ho.isCells h.d rfl (by rw[e1,e']))).trans e2
 obtain⟨k1,k2⟩:=CW Wf (fun k o hk ho=>by
  have aA:=aB ho;rw[hf k (by omega) (by omega) (by omega)]
  exact(h.old.block k aA).trans ho)
 refine⟨k1,k2,xH (tr h.tab (by decide) (by decide)) hg.1 (show st.1.length<=17592186044416 by omega),Kf (tr h.ex (by decide) (by decide)) (fun i hi=>?_) hg.2 (show st.2.length<=17592186044416 by omega)⟩;obtain⟨a,d,p1,p2,p3,p4,ys,p5,p6⟩:=h.els i hi;exact⟨a,d,p1,p2,p3,tr p4 (by decide) (by decide),ys,tr p5 (by decide) (by decide),fun j hj=>by obtain⟨y,r1,r2⟩:=p6 j hj;exact⟨y,r1,tr r2 (by decide) (by decide)⟩⟩
theorem Ox(p:Pb) (vc vs:Value) (w:World) (hc:bK w vc p.t.cases) (hs:bh w vs p.a.states) (hN:movesN p.a.states<1099511627776) :
  Calls Tryz.prog 120 #[qp p vc vs] w fun e w'=>∃ c,e=.returned (.tuple #[.agg c,.int .i64 (buildE p)])/\(buildE p=0->∃ uc us vt ve,c=bT p uc us p.t.n vt ve/\IsSys w' (aM p) uc us vt ve)/\(buildE p≠0->c=zeroSys)/\Below w.heap.size w w':=by
 have GC:=aa hc;have GS:=aa hs;obtain⟨pc,cc,rfl,lc1,lc2,ec⟩:=hc.at;obtain⟨ps,cs,rfl,_⟩:=hs.at;have EC:=aa ec;clear hc hs ec;refine fQ Tryz.func120 rfl ?_;simp only[Tryz.ntmps120,List.size_toArray,List.length_cons,List.length_nil,Nat.reduceAdd,Nat.reduceSub,Array.replicate_succ,Array.replicate_zero,List.push_toArray,List.append_toArray,List.nil_append,List.cons_append]
 go_wp2_with fail
 refine aN (fun W=>Below w.heap.size w W/\W.heap[w.heap.size]?=some (.cells #[.int .i64 p.t.n,.int .i64 p.t.ins,.int .i64 p.t.outs,.slice pc p.t.cases.length cc,.int .i64 p.a.n,.slice ps p.a.states.length cs,.int .i64 p.rounds] 29)/\W.heap[w.heap.size+1]?=some (.cells zeroSys 35)/\W.heap[w.heap.size+1+1]?=some (.cells #[.int .i64 0] 39)) ⟨by go_grown,ap _ (ap _ (am _ _)),ap _ (bd _ _ _),dW _ _ _ _⟩ (fun W0 aV=>?_);obtain⟨aH,bB,gL,hE0⟩:=aV;refine(FU p _ _ W0 (GC.out.up up_case aH) (GS.out.up up_moves aH) hN (fun h=>by have:=(eY (gt h).1).2.2.2.1;omega)).mono ?_;rintro e w1 ⟨rfl,aI⟩;have iX:=ae aH aI;have du:=aa (af aI bB);have cZ:=aa (af aI gL);have qH:=aa (af aI hE0);have bV:=aI.size;have hzE:=aB qH.out;clear bB gL hE0
 have fE:((dK p).2=buildE p/\buildE p≠0)\/((dK p).2=0/\probE p=0/\(dK p).1=((p.t.cases.length * (aK p).length:Nat):Int)):=by
  by_cases hp:probE p=0
  ·obtain⟨h1,h2⟩:=JI hp
   by_cases h3:(dK p).2=0
   ·exact .inr ⟨h3,hp,h2 h3⟩
   ·obtain⟨h4,h5⟩:=h1 h3
    have:buildE p=17:=by unfold buildE;rw[if_neg (by simpa using hp),if_pos h5]
    exact .inl ⟨by rw[h4,this],by rw[this];decide⟩
  ·have:buildE p=probE p:=by unfold buildE;rw[if_pos hp]
   exact .inl ⟨by rw[this];unfold dK;rw[if_pos hp],by rw[this];exact hp⟩
 rcases fE with ⟨he,bJ⟩|⟨he,hp,ld⟩
 ·obtain⟨eb,mS⟩:∃ x,x=buildE p:=⟨_,rfl⟩
  rw[he];rw[<-mS]at bJ ⊢;have gJ:=aa bJ;have PM:=aa mS;clear mS;have S9:(eb != 0)=true:=by simpa using bJ
  have cR:=ab cZ.out;have zR:=fun o=>aE cZ.out o
  have cE:=ab qH.out 0;have zE:=aE qH.out 0;simp at cE;clear he bJ
  go_wp2_with fail
  obtain⟨q1,q2,q3,_⟩:=sp iX (by omega) cZ.out rfl qH.out (.int .i64 0) (.int .i64 0) (.int .i64 0) (.slice none 0 0) (.int .i64 0) (.slice none 0 0) (.int .i64 0) (.int .i64 0) (.slice none 0 0) (.slice none 0 0) eb;refine ig (pz _ (w.heap.size+1) _ _ _ _ _ _ _ _ _ _ _ eb rfl rfl q1 q2) ?_;rw[<-PM.out];exact⟨_,rfl,fun e=>absurd e gJ.out,fun _=>rfl,q3⟩
 rw[he,ld];obtain⟨ht,ha,fg,rL,pR⟩:=gt hp;obtain⟨⟨htn1,htn5⟩,_,_,⟨wh,bP⟩,gg⟩:=eY ht;have mV:=aa fg;have dB:=aa gg;clear fg gg;by_cases Cv:4096<p.t.cases.length * (aK p).length
 ·have PM:Hid (buildE p=17):=aa (by unfold buildE;rw[if_neg (by simpa using hp),if_pos Cv])
  have Xb:(4096:Int)<((p.t.cases.length * (aK p).length:Nat):Int):=by omega
  have cR:=ab cZ.out;have zR:=fun o=>aE cZ.out o
  have cE:=ab qH.out 0;have zE:=aE qH.out 0;simp at cE;generalize ((p.t.cases.length * (aK p).length:Nat):Int)=nI at Xb;clear he ld Cv hp ht ha rL pR
  go_wp2_with fail
  obtain⟨q1,q2,q3,_⟩:=sp iX (by omega) cZ.out rfl qH.out (.int .i64 0) (.int .i64 0) (.int .i64 0) (.slice none 0 0) (.int .i64 0) (.slice none 0 0) (.int .i64 0) (.int .i64 0) (.slice none 0 0) (.slice none 0 0) 17;refine ig (pz _ (w.heap.size+1) _ _ _ _ _ _ _ _ _ _ _ 17 rfl rfl q1 q2) ?_;rw[PM.out];exact⟨_,rfl,fun e=>absurd e (by decide),fun _=>rfl,q3⟩
 have CC:=aa (JJ hp Cv);have Xb:¬ (4096:Int)<((p.t.cases.length * (aK p).length:Nat):Int):=by omega
 generalize hnI:((p.t.cases.length * (aK p).length:Nat):Int)=nI at Xb;have tA:=ab du.out;have HP:=aa hp;clear he ld
 go_wp2_with fail
 refine(N2 p.a _ p.rounds w1 (GS.out.up up_moves iX) hN).mono ?_;rintro e w2 ⟨u,rfl,hu,hulo,aU⟩;rw[CC.out]at hu ⊢;dsimp only at hu ⊢;have rt:=ae iX aU;have qE:=aa hu;have HULO:=aa hulo;clear hulo;obtain⟨pw,cw,rfl,lw1,lw2,_⟩:=hu.at;clear hu tA;have tA:=ab (af aU du.out)
 go_wp2_with fail
 refine(Du p _ _ w2 (GC.out.up up_case rt) (GS.out.up up_moves rt) ht ha (U3 HP.out)).mono ?_;rintro e wd ⟨uc,us,rfl,CW,bC⟩;have HCP:=aa CW;obtain⟨WY,V9⟩:=CW wd (fun _ _ _ h=>h);clear CW;have cj:=rt.size;have CE:=bC.size;have VE:=aB du.out;have RZ:=ae rt bC;have hzb2:=aU.size;have hltd:w.heap.size<wd.heap.size:=by omega
 have HUC:=aa WY;have HUS:=aa V9;obtain⟨pu,cu,rfl,_⟩:=WY.at;obtain⟨pv,cv,rfl,_⟩:=V9.at;have VZ:=aa (af (ae aU bC) du.out);have HRd:=aa (af (ae aU bC) cZ.out);have HEd:=aa (af (ae aU bC) qH.out);have HUd:=aa (qE.out.up up_words bC);have HCd:=aa (GC.out.up up_case RZ);have C7:=fun w=>F7 Tryz.prog 232 w
 clear WY V9 tA;have tA:=ab VZ.out;have tA4:∀ o1 o2 o3 o4 o,((((wd.alloc o1).alloc o2).alloc o3).alloc o4).cell? ⟨w.heap.size,o,none⟩=_:=fun o1 o2 o3 o4=>ab (ap _ (ap _ (ap _ (ap _ VZ.out))))
 go_wp2_with fail
 refine aN (fun W=>BInv p (.slice pu p.t.cases.length cu) (.slice pv p.a.states.length cv) wd wd.heap.size (wd.heap.size+1+1+1) (wd.heap.size+1+1) (wd.heap.size+1) [] [] W) ?_ (fun W4 hI4=>?_)
 ·refine⟨by go_grown,Nat.le_refl _,LQ _ _ _ _ _,⟨_,[],ap _ (ap _ (ap _ (am _ _))),aG.nil _ _ _ _,fun i hi=>by simp at hi⟩,⟨by omega,_,?_,by omega,aG.nil _ _ _ _,#[],0,ap _ (ap _ (bd _ _ _)),rfl⟩⟩
  rw[Int.toNat_of_nonneg (by omega)];exact ap _ (dW _ _ _ _)
 refine(Dv p _ _ _ _ _ _ _ _ _ W4).mono ?_;rintro e w5 ⟨rfl,rfl⟩;have HI4:=aa hI4;have Pm:=hI4.old.size;have hzb:=aB hI4.bx;clear hI4 tA tA4 C7
 go_wp2_with fail
 refine bm (fun W=>BInv p (.slice pu p.t.cases.length cu) (.slice pv p.a.states.length cv) wd wd.heap.size (wd.heap.size+1+1+1) (wd.heap.size+1+1) (wd.heap.size+1) [] [] W/\W.heap[W4.heap.size]?=some (.cells #[.int .i64 p.t.n,.int .i64 p.t.ins,.int .i64 p.t.outs,.slice pc p.t.cases.length cc,.int .i64 p.a.n,.slice ps p.a.states.length cs,.int .i64 p.rounds] 29)/\W.heap[W4.heap.size+1]?=some (.cells #[.slice pw (aK p).length cw] 221)/\W4.heap.size+1<W.heap.size) ⟨HI4.out.up (by go_grown),ap _ (am _ _),bd _ _ _,by simp⟩ (fun W5 hW5=>?_);obtain⟨Tj,Jf,Po,hz5⟩:=hW5;obtain⟨ws,hwsl,aw,capw,ew,eB⟩:=Ui HUd.out;cases ew
 have cY:=BN wd p.t.cases.length (aK p).length pw cw ws (by have:=Nat.mul_le_mul_right (aK p).length wh;omega) (by omega) (fun j hj=>by
  obtain⟨b,o,h1,h2,h3⟩:=eB j hj;obtain⟨a',c',e',_⟩:=h3.at
  exact⟨b,o,h1,eX h2,h2,a',_,c',e'⟩) ⟨lw1,by obtain⟨a9,c9,e9,⟨_,h9,_⟩,_⟩:=HUd.out;cases e9;exact h9⟩ W5 Tj.old W4.heap.size (W4.heap.size+1) _ _ _ _ _ _ _ _ Jf Po
 have F9:=aa eB;have Gb:=aa Cv
 have VU:Hid (∀ ad,pw=some ad->w1.heap.size<=ad.block/\ad.block<wd.heap.size):=aa (fun ad e=>by
  subst e;refine⟨HULO.out ad _ _ rfl,?_⟩
  have hWl:0<(aK p).length:=by
   have h9:=Es (gY ha).2.1 (by have:=(gY ha).1;omega) p.rounds.toNat 0 (by have:=(gY ha).1;omega);exact h9
  obtain⟨b,o,h1,h2,_⟩:=eB 0 hWl;cases h1
  exact eX h2)
 have hzI:=Tj.old.size;clear eB Cv
 refine mj (gf:=199) (lb:=#[.pointer (some ⟨W4.heap.size,0,none⟩),.pointer (some ⟨W4.heap.size+1,0,none⟩)]) rfl (enters_of Tryz.func199 (by kernel_rfl) rfl) cY (Below.refl _ _) (fun k hk=>by
   rcases hk with hk|⟨ad,e1,rfl⟩
   ·omega
   ·have:=VU.out ad e1;omega) (fun i=>rfl)
  (fun i W=>BInv p (.slice pu p.t.cases.length cu) (.slice pv p.a.states.length cv) wd wd.heap.size (wd.heap.size+1+1+1) (wd.heap.size+1+1) (wd.heap.size+1) (stP p i).1 (stP p i).2 W/\W.heap[W4.heap.size+1]?=some (.cells #[.slice pw (aK p).length cw] 221)/\(stP p i).1.length<=8192)
  (fun c _ W=>c=.ret/\buildE p=17/\Below w.heap.size w W/\W.heap[w.heap.size+1]?=some (.cells zeroSys 35)/\W.heap[w.heap.size+1+1]?=some (.cells #[.int .i64 17] 39))
  (fun i=>(BInv.sta (by omega) (by omega)).and (cB.cells.and cB.pure)) (fun c i=>cB.pure.and (cB.pure.and ((cB.below (by omega)).and (cB.cells.and cB.cells)))) ⟨Tj,Po,by simp[stP,execsS]⟩ ?round ?done ?stop
 case stop=>
  rintro D c i W hD hi ⟨rfl,lR,hb,q1,q2⟩ hK;have h1:(W.putObj D (.deferred none)).heap[w.heap.size+1]?=_:=(World.putObj_heap_other (by omega)).trans q1;have h2:(W.putObj D (.deferred none)).heap[w.heap.size+1+1]?=_:=(World.putObj_heap_other (by omega)).trans q2
  go_wp2_with fail
  refine ip hK (pz _ (w.heap.size+1) _ _ _ _ _ _ _ _ _ _ _ 17 (by rfl) (by rfl) h1 h2) ?_;rw[lR];exact⟨_,rfl,fun e=>absurd e (by decide),fun _=>rfl,eH (by omega) hb⟩
 case done=>
  intro D W hD hI hK;obtain⟨aR,SQ,yo⟩:=hI
  have aQ:stP p (p.t.cases.length * (aK p).length)=execsS p (aK p) (fw p):=by
   unfold stP;rw[List.take_of_length_le (by rw[jg];exact Nat.le_refl _)]
  have Gc:=AS HP.out (fun c hc=>(vR GC.out c hc).1) (fun x hx=>vP p.a (sf GS.out) _ _ x hx) (by rw[<-aQ];exact yo) _ (Nat.le_refl _);have Ge:=so p (aK p) (fw p) ([],[]);have Fh:=jg p
  have PM:Hid (buildE p=0):=aa (by
   unfold buildE;have h3:(aM p).tab=(execsS p (aK p) (fw p)).1:=rfl
   rw[if_neg (by simpa using HP.out),if_neg Gb.out,if_neg (by rw[h3,<-aQ];omega)])
  have gq:Hid (aM p=⟨p,p.t.n,(execsS p (aK p) (fw p)).1,(execsS p (aK p) (fw p)).2⟩):=aa rfl;change (execsS p (aK p) (fw p)).2.length=_ at Ge;rw[aQ]at Gc aR yo;generalize execsS p (aK p) (fw p)=st at Gc aR yo gq Ge;have zj:=aa Gc;have hlx:st.2.length<=4096:=by have:=Gb.out;simp at Ge;omega
  clear aQ Gc Ge Fh;obtain⟨ve,xs,fP,iI,mR⟩:=aR.s;obtain⟨vs9,b1',b2',b3',b4'⟩:=aR.bld.ex;obtain⟨av,cve,rfl⟩:=iI.slice;obtain⟨a7,c7,rfl⟩:=b3'.slice;have qi:=aa aR;have vj:=aa fP;have pU:=aa iI;have Af:=aa mR;have rz:=aa b3';rw[Int.toNat_of_nonneg (by omega)]at b1';have tb:=ab b1';have tx:=ab aR.bx 0;have ts7:=ab (show W.drew.heap[wd.heap.size]?=_ from fP) 7;have ts8:=ab (show W.drew.heap[wd.heap.size]?=_ from fP) 8;have zs7:=aE (show W.drew.heap[wd.heap.size]?=_ from fP) 7;have zs8:=aE (show W.drew.heap[wd.heap.size]?=_ from fP) 8;simp at tx ts7 ts8;have VE:=aR.old.size;clear aR fP iI mR b1' b2' b3' b4' cY Tj SQ Jf Po
  go_wp2_with fail
  go_still_tail 9,(by kernel_rfl)
  change wpList _ _ _ _ _ W.drew;clear tb tx;have hQ:=aF (aF (show W.drew.heap[wd.heap.size]?=_ from vj.out) 7 (.int .i64 p.t.n)) 8 (.slice a7 st.1.length c7)
  have hI:BEnd p w wd (.slice pu p.t.cases.length cu) (.slice pv p.a.states.length cv) (.slice a7 st.1.length c7) (.slice av st.2.length cve) xs st D ((W.drew.setCell ⟨wd.heap.size,7,none⟩ (.int .i64 p.t.n)).setCell ⟨wd.heap.size,8,none⟩ (.slice a7 st.1.length c7)):=by
   have hwd1:(W.drew.setCell ⟨wd.heap.size,7,none⟩ (.int .i64 p.t.n)).heap[wd.heap.size]?=_:=aF (show W.drew.heap[wd.heap.size]?=_ from vj.out) 7 (.int .i64 p.t.n);have kt:KeepT [35] [] wd.heap.size W ((W.drew.setCell ⟨wd.heap.size,7,none⟩ (.int .i64 p.t.n)).setCell ⟨wd.heap.size,8,none⟩ (.slice a7 st.1.length c7)):=((KeepT.refl _ _ _).drew.set (show W.drew.heap[wd.heap.size]?=_ from vj.out) (by simp) (Nat.le_refl _) _).set hwd1 (by simp) (Nat.le_refl _) _;have dm:=KeepT.below9 qi.out.old (KeepT.refl (ms:=[]) [] _ W) kt;refine⟨dm,af dm HRd.out,af dm HEd.out,hQ,kt.own rz.out (by decide),kt.own pU.out (by decide),fun i hi=>?_,kt.oth _ _ hK rfl (by simp)⟩;obtain⟨a,d,p1,p2,p3,p4,p5⟩:=Af.out i hi;exact⟨a,d,p1,p2,p3,kt.own p4 (by decide),kt.fresh p5 (by decide) (by decide)⟩
  have lz:BEnd p w wd (.slice pu p.t.cases.length cu) (.slice pv p.a.states.length cv) (.slice a7 st.1.length c7) (.slice av st.2.length cve) xs st D (((W.setCell ⟨wd.heap.size,7,none⟩ (.int .i64 p.t.n)).setCell ⟨wd.heap.size,8,none⟩ (.slice a7 st.1.length c7))).drew:=hI;have iY:=aa lz;have fP:(((W.setCell ⟨wd.heap.size,7,none⟩ (.int .i64 p.t.n)).setCell ⟨wd.heap.size,8,none⟩ (.slice a7 st.1.length c7))).heap[wd.heap.size]?=_:=lz.s;have iI:(((W.setCell ⟨wd.heap.size,7,none⟩ (.int .i64 p.t.n)).setCell ⟨wd.heap.size,8,none⟩ (.slice a7 st.1.length c7))).heap[w.heap.size+1]?=_:=lz.r2;have mR:(((W.setCell ⟨wd.heap.size,7,none⟩ (.int .i64 p.t.n)).setCell ⟨wd.heap.size,8,none⟩ (.slice a7 st.1.length c7))).heap[w.heap.size+1+1]?=_:=lz.r3;have tQ:=ab fP;have cR:=ab iI;have zR:=fun o=>aE iI o
  have cE:=ab mR;have zE:=fun o=>aE mR o
  have tQd:=ab lz.s;have cRd:=ab lz.r2;have zRd:=fun o=>aE lz.r2 o
  have cEd:=ab lz.r3;have zEd:=fun o=>aE lz.r3 o
  have We:(W.setCell ⟨wd.heap.size,7,none⟩ (.int .i64 p.t.n)).heap[wd.heap.size]?=_:=aF vj.out 7 _;have zs8a:=aE We 8;have zs8b:=aE (show (W.setCell ⟨wd.heap.size,7,none⟩ (.int .i64 p.t.n)).drew.heap[wd.heap.size]?=_ from We) 8;have Le:BEnd p w wd (.slice pu p.t.cases.length cu) (.slice pv p.a.states.length cv) (.slice a7 st.1.length c7) (.slice av st.2.length cve) xs st D ((W.setCell ⟨wd.heap.size,7,none⟩ (.int .i64 p.t.n)).setCell ⟨wd.heap.size,8,none⟩ (.slice a7 st.1.length c7)):=⟨⟨lz.old.os,lz.old.tape,lz.old.output,lz.old.size,lz.old.block⟩,lz.r2,lz.r3,lz.s,lz.tab,lz.ex,lz.els,lz.d⟩;have jE:=aa (And.intro (ae RZ Le.old) (And.intro Le.r2 (And.intro Le.r3 (And.intro Le.d Le))));clear hQ hI lz Le fP iI mR We
  go_wp2_with fail
  refine Ow (X:=((W.setCell ⟨wd.heap.size,7,none⟩ (.int .i64 p.t.n)).setCell ⟨wd.heap.size,8,none⟩ (.slice a7 st.1.length c7))) jE.out.1 jE.out.2.1 jE.out.2.2.1 jE.out.2.2.2.1 (by omega) _ _ _ _ _ _ _ _ _ _ rfl rfl (fun Wf CI hff=>?_);rw[PM.out,gq.out];exact⟨_,rfl,fun _=>⟨_,_,_,_,rfl,Ur jE.out.2.2.2.2 HCP.out (by omega) (by omega) zj.out yo hlx hff⟩,fun e=>absurd rfl e,CI⟩
 case round=>
  intro yl i W hi hl hI;obtain⟨aR,SQ,yo⟩:=hI;have dU:=vS p i hi;have HOVER:=aa (LP HP.out Gb.out (i+1))
  have oA:0<(aK p).length:=by
   rcases Nat.eq_zero_or_pos (aK p).length with h|h
   ·rw[h]at hi;simp at hi
   ·exact h
  have hc:i / (aK p).length<p.t.cases.length:=by rw[Nat.div_lt_iff_lt_mul oA];exact hi
  have hj:i % (aK p).length<(aK p).length:=Nat.mod_lt _ oA;obtain⟨_,_,hpw,_,Ce⟩:=F9.out _ hj;clear hpw;unfold QL
  have hwl6:((aK p)[i % (aK p).length]).length<=6:=by
   have:=jR p.a p.rounds.toNat 0 _ (List.getElem_mem (l:=aK p) hj);omega
  obtain⟨pc',cc',ec',_,_,ecc⟩:=HCd.out.at;cases ec';obtain⟨b1,o1,ec1,⟨vi,dvi,uL⟩,_,_⟩:=ecc _ hc
  have gM:p.t.n.toNat<=(p.t.cases[i / (aK p).length]).inp.length:=by
   have:=(dB.out _ (List.getElem_mem hc)).inp;omega
  unfold jS at dU;dsimp only at dU;rw[az default hc,az [] hj]at dU;generalize p.t.cases[i / (aK p).length]=cs0 at uL gM dU;generalize (aK p)[i % (aK p).length]=word at Ce hwl6 dU;generalize ws.getD (i % (aK p).length) undef=wv at Ce ⊢;generalize i / (aK p).length=ci at hc dvi dU ⊢
  have Ip:(stP p i).2.length<=4096:=by
   have h9:=so p (aK p) ((fw p).take i) ([],[]);have h8:=jg p;have h7:=Gb.out;change (stP p i).2.length=_ at h9;simp at h9;omega
  generalize stP p i=st at aR yo dU Ip;have eV:=aa dU;have iz:=aa Ce;have VJ:=aa uL;obtain⟨pwv,cwv,rfl,_⟩:=Ce.at;obtain⟨pvi,cvi,rfl,_⟩:=uL.at;subst ec1;clear dU Ce uL ecc;dsimp only
  gi_wp2
  refine⟨Bod.refl _ _ _,(fun X=>BInv p (.slice pu p.t.cases.length cu) (.slice pv p.a.states.length cv) wd wd.heap.size (wd.heap.size+1+1+1) (wd.heap.size+1+1) (wd.heap.size+1) st.1 st.2 X/\X.heap[W4.heap.size+1]?=some (.cells #[.slice pw (aK p).length cw] 221)),(BInv.sta (by omega) (by omega)).and cB.cells,⟨aR,SQ⟩,fun V hV _=>?_⟩;obtain⟨pD,yJ⟩:=hV;clear aR SQ;obtain⟨ve,xs,fP,iI,mR⟩:=pD.s;obtain⟨av,cve,rfl⟩:=iI.slice;have qi:=aa pD;have vj:=aa fP;have pU:=aa iI;have Af:=aa mR;have cH:=aa yJ;have hzV:=pD.old.size;clear pD fP iI mR yJ;obtain⟨i0,cU,iR,jk,iv⟩:=info_parts Tryz.infoExec
  gi_wp2
  refine wW 17 [49,50,51,52,53,54,55,56,57,58,59,60,61,62,63,64,65] [some (.pointer (some ⟨wd.heap.size,9,none⟩)),
   some (.slice av st.2.length cve),
   some (.int .i64 (ci:Int)),
   some (.slice pwv word.length cwv),
   none,
   some (.pointer (some ⟨wd.heap.size+1+1,0,none⟩)),
   some (.pointer (some ⟨w.heap.size,0,none⟩)),
   some (.pointer (some ⟨w.heap.size,3,none⟩)),
   some (.slice (some ⟨b1,o1,none⟩) p.t.cases.length cc),
   some (.int .i64 (ci:Int)),
   some (.pointer (some ⟨b1,o1+ci * 3,none⟩)),
   some (.pointer (some ⟨b1,o1+ci * 3,none⟩)),
   some (.slice pvi cs0.inp.length cvi),
   some (.slice pwv word.length cwv),
   none,
   none,
   none] (BCore wd.heap.size (wd.heap.size+1+1) (wd.heap.size+1) p.t.n.toNat st.1 (gh p.t.n.toNat cs0.inp word st.1).1 ci word (gh p.t.n.toNat cs0.inp word st.1).2 V) (by kernel_rfl) rfl (by decide) rfl (by kernel_rfl) (by kernel_rfl) (by kernel_rfl) (fun ⟨_,_,h⟩=>h) (by kernel_rfl) (fun _=>⟨hzV,(KeepT.refl _ _ _).drew,qi.out.bld.up (Below.refl _ _).drew,nofun,nofun,nofun,nofun⟩) ?step ?tail
  case step=>
   intro x W D i o s F hi ho hs hD cF bP aq hv aL hF;have fE:i=0\/i=1\/i=2\/i=3\/i=4\/i=5\/i=6\/i=7\/i=8\/i=9\/i=10\/i=11\/i=12\/i=13\/i=14\/i=15\/i=16:=by omega
   rcases fE with rfl|rfl|rfl|rfl|rfl|rfl|rfl|rfl|rfl|rfl|rfl|rfl|rfl|rfl|rfl|rfl|rfl
   all_goals (have dA:=cF _ _ hs hD;obtain rfl:=dp ho.symm;obtain rfl:=dp hs.symm)
   ·clear aq hi hv
    have e7:F.getD 7 undef=.pointer (some ⟨wd.heap.size,0,none⟩):=ls hF (by decide) rfl;clear cF bP;clear hF dA;have e7':=dr e7;have HD:=aa hD;have bg:=aa aL;clear hD aL
    go_wp2_with fail
    refine bS.mk _ fH ?_ rfl;exact bg.out.other _ (by decide) (by decide) (by decide) (by decide)
   ·have g0:=aq ⟨0,.data⟩ (by simp) rfl
    have d0:=hv 0 _ (by omega) g0 rfl;clear aq hi hv;have e49:=fi hF 0 49 (by decide) rfl (by kernel_rfl) d0;clear cF bP;clear hF dA d0;have t1:=ab (aL.keep.keep _ _ _ _ vj.out (by decide)) 9;simp at t1;have e49':=dr e49;have HD:=aa hD;have bg:=aa aL;clear hD aL;clear g0
    go_wp2_with fail
    refine bS.mk _ fH ?_ rfl;exact bg.out.other _ (by decide) (by decide) (by decide) (by decide)
   ·clear aq hi hv
    have e9:F.getD 9 undef=.int .i64 (ci:Int):=ls hF (by decide) rfl;clear cF bP;clear hF dA;have e9':=dr e9;have HD:=aa hD;have bg:=aa aL;clear hD aL
    go_wp2_with fail
    refine bS.mk _ fH ?_ rfl;exact bg.out.other _ (by decide) (by decide) (by decide) (by decide)
   ·clear aq hi hv
    have e10:F.getD 10 undef=.slice pwv word.length cwv:=ls hF (by decide) rfl;clear cF bP;clear hF dA;have e10':=dr e10;have HD:=aa hD;have bg:=aa aL;clear hD aL
    go_wp2_with fail
    refine bS.mk _ fH ?_ rfl;exact bg.out.other _ (by decide) (by decide) (by decide) (by decide)
   ·have g3:=aq ⟨3,.data⟩ (by simp) rfl
    have d3:=hv 3 _ (by omega) g3 rfl;clear aq hi hv;have e52:=fi hF 3 52 (by decide) rfl (by kernel_rfl) d3;clear cF bP;clear hF dA d3;have dm:=KeepT.below9 qi.out.old (KeepT.refl (ms:=[]) [] _ V) aL.keep;have eD:=aa dm;clear dm;have e52':=dr e52;have HD:=aa hD;have bg:=aa aL;clear hD aL;clear g3
    go_wp2_with fail
    refine(uy _ word W (iz.out.up up_round eD.out) (by omega)).mono ?_;rintro e w9 ⟨u9,rfl,jj,fk⟩;have mT:=aa (jj.base (base':=wd.heap.size) eD.out.size);have fM:=aa fk;clear jj fk
    go_wp2_with fail
    refine bS.mk _ (fun c hc=>by cases hc) ?_ rfl;exact bg.out.clone HD.out fM.out mT.out
   ·clear aq hi hv
    have e8:F.getD 8 undef=.pointer (some ⟨wd.heap.size+1+1+1,0,none⟩):=ls hF (by decide) rfl;clear cF bP;clear hF dA;have t1:=ab (aL.keep.keep _ _ _ _ qi.out.bx (by decide)) 0;simp at t1;have e8':=dr e8;have HD:=aa hD;have bg:=aa aL;clear hD aL
    go_wp2_with fail
    refine bS.mk _ fH ?_ rfl;exact bg.out.other _ (by decide) (by decide) (by decide) (by decide)
   ·clear aq hi hv
    have e1:F.getD 1 undef=.pointer (some ⟨w.heap.size,0,none⟩):=ls hF (by decide) rfl;clear cF bP;clear hF dA;have e1':=dr e1;have HD:=aa hD;have bg:=aa aL;clear hD aL
    go_wp2_with fail
    refine bS.mk _ fH ?_ rfl;exact bg.out.other _ (by decide) (by decide) (by decide) (by decide)
   ·have g6:=aq ⟨6,.data⟩ (by simp) rfl
    have d6:=hv 6 _ (by omega) g6 rfl;clear aq hi hv;have e55:=fi hF 6 55 (by decide) rfl (by kernel_rfl) d6;clear cF bP;clear hF dA d6;have e55':=dr e55;have HD:=aa hD;have bg:=aa aL;clear hD aL;clear g6
    go_wp2_with fail
    refine bS.mk _ fH ?_ rfl;exact bg.out.other _ (by decide) (by decide) (by decide) (by decide)
   ·have g7:=aq ⟨7,.data⟩ (by simp) rfl
    have d7:=hv 7 _ (by omega) g7 rfl;clear aq hi hv;have e56:=fi hF 7 56 (by decide) rfl (by kernel_rfl) d7;clear cF bP;clear hF dA d7;have dm:=KeepT.below9 qi.out.old (KeepT.refl (ms:=[]) [] _ V) aL.keep;have t1:=ab (af dm VZ.out) 3;simp at t1;clear dm;have e56':=dr e56;have HD:=aa hD;have bg:=aa aL;clear hD aL;clear g7
    go_wp2_with fail
    refine bS.mk _ fH ?_ rfl;exact bg.out.other _ (by decide) (by decide) (by decide) (by decide)
   ·clear aq hi hv
    have e9:F.getD 9 undef=.int .i64 (ci:Int):=ls hF (by decide) rfl;clear cF bP;clear hF dA;have e9':=dr e9;have HD:=aa hD;have bg:=aa aL;clear hD aL
    go_wp2_with fail
    refine bS.mk _ fH ?_ rfl;exact bg.out.other _ (by decide) (by decide) (by decide) (by decide)
   ·have g8:=aq ⟨8,.data⟩ (by simp) rfl
    have d8:=hv 8 _ (by omega) g8 rfl;have g9:=aq ⟨9,.data⟩ (by simp) rfl;have d9:=hv 9 _ (by omega) g9 rfl;clear aq hi hv;have e57:=fi hF 8 57 (by decide) rfl (by kernel_rfl) d8;have e58:=fi hF 9 58 (by decide) rfl (by kernel_rfl) d9;clear cF bP;clear hF dA d8 d9;have e57':=dr e57;have e58':=dr e58;have HD:=aa hD;have bg:=aa aL;clear hD aL;clear g8;clear g9
    go_wp2_with fail
    refine bS.mk _ fH ?_ rfl;exact bg.out.other _ (by decide) (by decide) (by decide) (by decide)
   ·have g10:=aq ⟨10,.data⟩ (by simp) rfl
    have d10:=hv 10 _ (by omega) g10 rfl;clear aq hi hv;have e59:=fi hF 10 59 (by decide) rfl (by kernel_rfl) d10;clear cF bP;clear hF dA d10;have e59':=dr e59;have HD:=aa hD;have bg:=aa aL;clear hD aL;clear g10
    go_wp2_with fail
    refine bS.mk _ fH ?_ rfl;exact bg.out.other _ (by decide) (by decide) (by decide) (by decide)
   ·have g11:=aq ⟨11,.data⟩ (by simp) rfl
    have d11:=hv 11 _ (by omega) g11 rfl;clear aq hi hv;have e60:=fi hF 11 60 (by decide) rfl (by kernel_rfl) d11;clear cF bP;clear hF dA d11;have dm:=KeepT.below9 qi.out.old (KeepT.refl (ms:=[]) [] _ V) aL.keep;have t1:=ak dm dvi;clear dm;have e60':=dr e60;have HD:=aa hD;have bg:=aa aL;clear hD aL;clear g11
    go_wp2_with fail
    refine bS.mk _ fH ?_ rfl;exact bg.out.other _ (by decide) (by decide) (by decide) (by decide)
   ·clear aq hi hv
    have e10:F.getD 10 undef=.slice pwv word.length cwv:=ls hF (by decide) rfl;clear cF bP;clear hF dA;have e10':=dr e10;have HD:=aa hD;have bg:=aa aL;clear hD aL
    go_wp2_with fail
    refine bS.mk _ fH ?_ rfl;exact bg.out.other _ (by decide) (by decide) (by decide) (by decide)
   ·have g5:=aq ⟨5,.data⟩ (by simp) rfl
    have d5:=hv 5 _ (by omega) g5 rfl;have g12:=aq ⟨12,.data⟩ (by simp) rfl;have d12:=hv 12 _ (by omega) g12 rfl;have g13:=aq ⟨13,.data⟩ (by simp) rfl;have d13:=hv 13 _ (by omega) g13 rfl;clear aq hi hv;have e54:=fi hF 5 54 (by decide) rfl (by kernel_rfl) d5;have e61:=fi hF 12 61 (by decide) rfl (by kernel_rfl) d12;have e62:=fi hF 13 62 (by decide) rfl (by kernel_rfl) d13;clear cF bP;clear hF dA d5 d12 d13;have dm:=KeepT.below9 qi.out.old (KeepT.refl (ms:=[]) [] _ V) aL.keep;have eD:=aa dm;clear dm;have n':=aL.bld;rw[hD]at n';have CD:=aa (show BldIs wd.heap.size (wd.heap.size+1+1) (wd.heap.size+1) p.t.n.toNat st.1 W from n');clear n';have e54':=dr e54;have e61':=dr e61;have e62':=dr e62;have HD:=aa hD;have bg:=aa aL;clear hD aL;clear g5;clear g12;clear g13
    go_wp2_with fail
    refine(N3 wd (wd.heap.size+1+1) (wd.heap.size+1) p.t.n.toNat (by omega) st.1 _ _ cs0.inp word W eD.out VJ.out iz.out gM hwl6 (by omega) CD.out).mono ?_;rintro e w9 ⟨u9,rfl,hf9,fk,yy⟩;have HF9:=aa (bX.lower9 hf9 eD.out.size);have fM:=aa fk;have pT:=aa yy;clear hf9 fk yy
    go_wp2_with fail
    refine bS.mk _ (fun c hc=>by cases hc) ?_ rfl;exact bg.out.play HD.out pT.out fM.out HF9.out
   ·have g2:=aq ⟨2,.data⟩ (by simp) rfl
    have d2:=hv 2 _ (by omega) g2 rfl;have g4:=aq ⟨4,.data⟩ (by simp) rfl;have g14:=aq ⟨14,.data⟩ (by simp) rfl;clear aq hi hv;have e51:=fi hF 2 51 (by decide) rfl (by kernel_rfl) d2;have e53:=fi hF 4 53 (by decide) rfl (by kernel_rfl) rfl;have e63:=fi hF 14 63 (by decide) rfl (by kernel_rfl) rfl;clear cF bP;clear hF dA d2;obtain⟨a4,c4,q4⟩:=(aL.x4 g4).slice;obtain⟨a14,c14,q14⟩:=(aL.x14 g14).slice;rw[q4]at e53;rw[q14]at e63;have HG:=aa (And.intro g4 (And.intro g14 (And.intro q4 q14)));clear q4 q14;have e51':=dr e51;have e53':=dr e53;have e63':=dr e63;have HD:=aa hD;have bg:=aa aL;clear hD aL;clear g2;clear g4;clear g14
    go_wp2_with fail
    refine bS.mk _ (fun c hc=>by cases hc) ?_ rfl;exact bg.out.made HG.out.1 HG.out.2.1 (by rw[HG.out.2.2.1,HG.out.2.2.2])
   ·have g15:=aq ⟨15,.data⟩ (by simp) rfl
    clear aq hi hv;have e64:=fi hF 15 64 (by decide) rfl (by kernel_rfl) rfl;clear cF bP;clear hF dA;obtain⟨g4,g14,q15⟩:=aL.x15 g15;obtain⟨a4,c4,q4⟩:=(aL.x4 g4).slice;obtain⟨a14,c14,q14⟩:=(aL.x14 g14).slice;rw[q15,q4,q14]at e64;have HG:=aa (And.intro g4 (And.intro g14 (And.intro q4 q14)));clear q4 q14 q15 g4 g14;have e64':=dr e64;have HD:=aa hD;have bg:=aa aL;clear hD aL;clear g15
    go_wp2_with fail
    refine bS.mk _ (fun c hc=>by cases hc) ?_ rfl;exact bg.out.row HG.out.1 HG.out.2.1 HG.out.2.2.1 HG.out.2.2.2
  case tail=>
   intro x W' D F aQ hv aL hF;have x0:=hv 0 _ (by omega) rfl;have x1:=hv 1 _ (by omega) rfl;have x2:=hv 2 _ (by omega) rfl;have x3:=hv 3 _ (by omega) rfl;have x5:=hv 5 _ (by omega) rfl;have x6:=hv 6 _ (by omega) rfl;have x7:=hv 7 _ (by omega) rfl;have x8:=hv 8 _ (by omega) rfl;have x9:=hv 9 _ (by omega) rfl;have x10:=hv 10 _ (by omega) rfl;have x11:=hv 11 _ (by omega) rfl;have x12:=hv 12 _ (by omega) rfl;have x13:=hv 13 _ (by omega) rfl;obtain⟨g4,g14,gb,q16,mS⟩:=aL.x16 (aQ 16 (by omega));have xV:=aL.x4 g4;have M':=aL.x14 g14;have n':=aL.bld;rw[g14]at n';obtain⟨a4,c4,q4⟩:=xV.slice;obtain⟨a14,c14,q14⟩:=M'.slice;rw[q4]at xV;rw[q14]at M';rw[q4,q14]at mS;simp only[br,cW,List.setIfInBounds_toArray,List.set_cons_succ,List.set_cons_zero,Nat.reduceAdd,x0,x1,x2,x3,x5,x6,x7,x8,x9,x10,x11,x12,x13,q4,q14,q16]at hF;generalize x 15=y15 at hF;subst hF;have pT:=aa aL.keep;have CD:=aa (show BldIs wd.heap.size (wd.heap.size+1+1) (wd.heap.size+1) p.t.n.toNat (gh p.t.n.toNat cs0.inp word st.1).1 W' from n');have Ps:=aa xV;have HF14:=aa M';have HGB:=aa mS;have HS9:=aa (pT.out.keep _ _ _ _ vj.out (by decide));have yK:=aa (pT.out.own pU.out (by decide));clear hv aQ aL xV M' n' mS g4 g14 q4 q14 q16 x0 x1 x2 x3 x5 x6 x7 x8 x9 x10 x11 x12 x13;simp only[List.drop_succ_cons,List.drop_zero];have hzW':=pT.out.old.size
   have bL:∀ j u',[Value.int .i64 (ci:Int),Value.slice a4 word.length c4,Value.slice a14 (gh p.t.n.toNat cs0.inp word st.1).2.length c14][j]?=some u'->W'.cell? (Addr.add ⟨gb,0,none⟩ j)=some u':=fun j u' hj=>by
    have e1:(Addr.add ⟨gb,0,none⟩ j)=⟨gb,j,none⟩:=by unfold Addr.add;split<;>simp_all
    rw[e1,ab HGB.out];simpa using hj
   have bz:=aa bL;clear bL;refine aY W' rfl (.tmp 50) (.tmp 65) 33 rfl wd.heap.size 89 i0 _ 3 56 Tryz.underlying33 cU iR jk iv rfl (by decide) _ st.2.length xs rfl yK.out ⟨gb,0,none⟩ 1 1 [Value.int .i64 (ci:Int),Value.slice a4 word.length c4,Value.slice a14 (gh p.t.n.toNat cs0.inp word st.1).2.length c14] rfl rfl bz.out (by simp[Value.oneCell']) (by unfold maxLen;omega) (by omega) (by omega) ?_;intro v9 w9 gc dT _;have rk:=fV dT HS9.out (fun e=>yK.out.ne HS9.out (by decide) _ e rfl);have t9:=ab rk 9;have z9:=aE rk 9;simp at t9;obtain⟨a9,c9,rfl⟩:=gc.slice;have HOWN9:=aa gc;have It:=aa dT;have M1:=aa rk;clear gc dT rk
   go_wp2_with fail
   refine QN (fun X=>BInv p (.slice pu p.t.cases.length cu) (.slice pv p.a.states.length cv) wd wd.heap.size (wd.heap.size+1+1+1) (wd.heap.size+1+1) (wd.heap.size+1) (gh p.t.n.toNat cs0.inp word st.1).1 (st.2++[⟨ci,word,(gh p.t.n.toNat cs0.inp word st.1).2⟩]) X/\KeepT (bldT++[89,35]) [wd.heap.size+1] wd.heap.size V X) ?_ (fun X hX=>?_)
   ·have kk:KeepT [89,35] [] wd.heap.size W' (w9.setCell ⟨wd.heap.size,9,none⟩ (.slice a9 (st.2.length+1) c9)):=((KeepT.refl _ _ _).grown yK.out (by simp) (Nat.le_refl _) (by omega) It.out).set M1.out (by simp) (Nat.le_refl _) _
    have kt:KeepT (bldT++[89,35]) [wd.heap.size+1] wd.heap.size V (w9.setCell ⟨wd.heap.size,9,none⟩ (.slice a9 (st.2.length+1) c9)):=(pT.out.mono (fun t h=>List.mem_append_left _ h) (fun _ h=>h)).trans (kk.mono (fun t h=>List.mem_append_right _ h) (by simp));have iu:xs.length=st.2.length * 3:=yK.out.1;refine⟨⟨KeepT.below9 qi.out.old (KeepT.refl (ms:=[]) [] _ V) kt,Nat.le_refl _,kt.keep _ _ _ _ qi.out.bx (by decide),⟨.slice a9 (st.2.length+1) c9,xs++[Value.int .i64 (ci:Int),Value.slice a4 word.length c4,Value.slice a14 (gh p.t.n.toNat cs0.inp word st.1).2.length c14],by rw[aF M1.out];rfl,by rw[List.length_append,List.length_singleton];exact HOWN9.out.put (fun g e=>HOWN9.out.ne M1.out (by decide) g e) _ _,fun i SN=>?_⟩,(CD.out.grown yK.out (by decide) It.out).set M1.out (by decide) _⟩,kt⟩;rw[List.length_append,List.length_singleton]at SN;by_cases aA:i<st.2.length
    ·rw[List.getElem_append_left aA]
     obtain⟨a,d,p1,p2,p3,p4,p5⟩:=Af.out i aA;exact⟨a,d,by rw[List.getElem?_append_left (by omega)];exact p1,by rw[List.getElem?_append_left (by omega)];exact p2,by rw[List.getElem?_append_left (by omega)];exact p3,kk.own (pT.out.own p4 (by decide)) (by decide),kk.fresh (pT.out.fresh p5 (by decide) (by decide)) (by decide) (by decide)⟩
    ·obtain rfl:i=st.2.length:=by omega
     have e9:(st.2++[(⟨ci,word,(gh p.t.n.toNat cs0.inp word st.1).2⟩:Ex)])[st.2.length]'(by simp)=⟨ci,word,(gh p.t.n.toNat cs0.inp word st.1).2⟩:=by simp
     rw[e9];refine⟨.slice a4 word.length c4,.slice a14 (gh p.t.n.toNat cs0.inp word st.1).2.length c14,?_,?_,?_,kk.own Ps.out (by decide),kk.fresh HF14.out (by decide) (by decide)⟩
     ·rw[List.getElem?_append_right (by omega),iu,Nat.sub_self];rfl
     ·rw[List.getElem?_append_right (by omega),iu,Nat.add_sub_cancel_left];rfl
     ·rw[List.getElem?_append_right (by omega),iu,Nat.add_sub_cancel_left];rfl
   obtain⟨Gd,hkX⟩:=hX;have pO:=aa Gd;have mM:=aa hkX;obtain⟨vs9,b1',b2',b3',b4'⟩:=Gd.bld.ex;obtain⟨a7,c7,rfl⟩:=b3'.slice;have tb:=ab b1' 1;have tx:=ab Gd.bx 0;simp at tb tx;clear Gd hkX b1' b2' b3' b4' t9 z9;have FD:=pO.out.old;have Pn:=af FD HRd.out;have PN:=af FD HEd.out;by_cases IT:8192<(gh p.t.n.toNat cs0.inp word st.1).1.length
   ·have hovI:(8192:Int)<((gh p.t.n.toNat cs0.inp word st.1).1.length:Int):=by omega
    have cR:=ab Pn;have zR:=fun o=>aE Pn o
    have cE:=ab PN 0;have zE:=aE PN 0;simp at cE;have Pf:Hid (buildE p=17):=aa (HOVER.out (by rw[eV.out];exact IT));have HRX:=aa Pn;have E0:=aa PN;have bR:=aa FD;clear Pn PN FD IT
    gi_wp2
    obtain⟨q1,q2,q3,q4⟩:=sp (ae RZ bR.out) (by omega) HRX.out rfl E0.out (.int .i64 0) (.int .i64 0) (.int .i64 0) (.slice none 0 0) (.int .i64 0) (.slice none 0 0) (.int .i64 0) (.int .i64 0) (.slice none 0 0) (.slice none 0 0) 17;refine⟨⟨?_,fun k hk=>?_,fun k o hB ho hc=>?_⟩,rfl,Pf.out,q3,q1,q2⟩
    ·have:=mM.out.old.size
     simpa using this
    ·rcases hk with rfl|⟨ad,e1,rfl⟩
     ·exact(q4 _ (by omega) (by omega)).trans ((mM.out.keep _ _ _ _ cH.out (by decide)).trans cH.out.symm)
     ·have h9:=VU.out ad e1
      exact(q4 _ (by omega) (by omega)).trans (mM.out.old.block _ h9.2)
    ·exact(q4 _ (by omega) (by omega)).trans (mM.out.oth k o ho hc (by simp;omega))
   ·have hovI:¬ (8192:Int)<((gh p.t.n.toNat cs0.inp word st.1).1.length:Int):=by omega
    clear Pn PN FD
    gi_wp2
    refine⟨⟨mM.out.old.size,fun k hk=>?_,fun k o hB ho hc=>mM.out.oth k o ho hc (by simp;omega)⟩,?_⟩
    ·rcases hk with rfl|⟨ad,e1,rfl⟩
     ·exact(mM.out.keep _ _ _ _ cH.out (by decide)).trans cH.out.symm
     ·exact mM.out.old.block _ (VU.out ad e1).2
    ·show BInv p (.slice pu p.t.cases.length cu) (.slice pv p.a.states.length cv) wd wd.heap.size (wd.heap.size+1+1+1) (wd.heap.size+1+1) (wd.heap.size+1) (stP p (i+1)).1 (stP p (i+1)).2 X/\X.heap[W4.heap.size+1]?=some (.cells #[.slice pw (aK p).length cw] 221)/\(stP p (i+1)).1.length<=8192
     rw[eV.out];exact⟨pO.out,mM.out.keep _ _ _ _ cH.out (by decide),Nat.le_of_not_lt IT⟩
theorem qU{k:IntKind} {a b:Int} (h:a=b):Value.int k a=Value.int k b:=by rw[h]
theorem Hc{k:Nat} (hk:k<=30):wrap64 ((2:Int) ^ k)=((2 ^ k:Nat):Int):=by
 have h1:(2:Int) ^ k=((2 ^ k:Nat):Int):=by simp
 have h2:(2:Nat) ^ k<=2 ^ 30:=Nat.pow_le_pow_right (by omega) hk;rw[h1];generalize (2:Nat) ^ k=x at h2;unfold wrap64;omega
theorem JP{q:Nat->Bool} {k:Nat} (hk:k<=30) (h:q k=true):bits .or .i64 ((maskN q k:Nat):Int) (wrap64 ((2:Int) ^ k))=(maskN q (k+1):Nat):=by
 have h2:(2:Nat) ^ k<=2 ^ 30:=Nat.pow_le_pow_right (by omega) hk;have h3:=gS q k;rw[Hc hk,vu _ _ (by omega) (by omega),xh h]
theorem AU(s:Sys):(rc s).length=eS s:=by simp[rc]
theorem lp(s:Sys) (e:Nat):(fe s e).length=nS s:=by simp[fe]
theorem Us(s:Sys) (e:Nat) (h:e<(rc s).length):(rc s)[e]=fe s e:=by simp[rc]
theorem Oy(s:Sys) (e p:Nat) (h:p<(fe s e).length):(fe s e)[p]=if hasB (fltS s e) p then -1 else finS s e p:=by simp[fe]
theorem lq{s:Sys} (h:SysOk s) {e p:Nat} (he:e<eS s) (hp:p<nS s):0<=finS s e p/\finS s e p<s.tab.length:=by
 obtain⟨h1,h2⟩:=h.views e he;have hr:s.prob.rounds.toNat<(cA s e).views.length:=by omega
 have h3:=h2 ((cA s e).views[s.prob.rounds.toNat]) (List.getElem_mem hr);have e1:(cA s e).views.getD s.prob.rounds.toNat []=(cA s e).views[s.prob.rounds.toNat]:=by simp[hr]
 have PV:p<((cA s e).views[s.prob.rounds.toNat]).length:=by omega
 unfold finS;rw[e1,show ((cA s e).views[s.prob.rounds.toNat]).getD p 0=((cA s e).views[s.prob.rounds.toNat])[p] by simp[PV]];exact h3.2 _ (List.getElem_mem PV)
theorem AV{s:Sys} (h:SysOk s) {e f p:Nat} (he:e<eS s) (hf:f<eS s) (hp:p<nS s) (x y:Int) (hx:x=if hasB (fltS s e) p then -1 else finS s e p) (hy:y=if hasB (fltS s f) p then -1 else finS s f p):linkB s p e f=(decide (0<=x)&&decide (x=y)):=by
 have h1:=(lq h he hp).1;have h2:=(lq h hf hp).1;unfold linkB;subst hx hy;cases hasB (fltS s e) p<;>cases hasB (fltS s f) p<;>simp<;>omega
theorem FinAt.open{w:World} {B:Nat} {s:Sys} (h:FinAt w B s):∃ pl cl,w.heap[B]?=some (.cells #[.int .i64 (nS s),.slice pl (eS s) cl] 201)/\∀ e,e<eS s->∃ b o,pl=some ⟨b,o,none⟩/\∃ pr cr,w.cell? ⟨b,o+e,none⟩=some (.slice pr (nS s) cr)/\aT w (.slice pr (nS s) cr) (fe s e):=by
 obtain⟨vl,h1,h2⟩:=h.ex;obtain⟨pl,cl,rfl,_,_,ep⟩:=h2.at;rw[AU]at h1;refine⟨pl,cl,h1,fun e he=>?_⟩;obtain⟨b,o,e1,v,hc,hv⟩:=ep e (by rw[AU];exact he);rw[Nat.mul_one]at hc;rw[Us]at hv;obtain⟨pr,cr,rfl,_⟩:=hv.at;rw[lp]at hc hv;exact⟨b,o,e1,pr,cr,hc,hv⟩
theorem Va{w:World} {s:Sys} {e p:Nat} {pr:Option Addr} {cr:Nat} (h:aT w (.slice pr (nS s) cr) (fe s e)) (hp:p<nS s):∃ b o,pr=some ⟨b,o,none⟩/\w.cell? ⟨b,o+p,none⟩=some (.int .i64 (if hasB (fltS s e) p then -1 else finS s e p)):=by
 obtain⟨a,c,e1,_,_,ep⟩:=h.at;obtain⟨b,o,e2,h1⟩:=ep p (by rw[lp];exact hp);injection e1 with e3
 rw[Nat.mul_one,Oy]at h1;exact⟨b,o,e3.trans e2,h1.1⟩
theorem DB{w:World} {s:Sys} {n e p:Nat} {pr:Option Addr} {cr:Nat} (h:aT w (.slice pr n cr) (fe s e)) (hp:p<n):∃ b o,pr=some ⟨b,o,none⟩/\w.cell? ⟨b,o+p,none⟩=some (.int .i64 (if hasB (fltS s e) p then -1 else finS s e p)):=by
 obtain⟨a,c,e1,_⟩:=h.at;injection e1 with _ e4 _
 rw[lp]at e4;subst e4;exact Va h hp
theorem BW(s:Sys) (B:Nat) (e:Int) (w:World) (h:FinAt w B s) :
  Calls Tryz.prog 145 #[.pointer (some ⟨B,0,none⟩),.int .i64 e] w fun r w'=>r=.returned (.bool (decide (0<=e)&&decide (e<(eS s:Int))))/\Below w.heap.size w w':=by
 obtain⟨pl,cl,h1,_⟩:=h.open;have t1:=ab h1;clear h1 h;by_cases he:0<=e
 ·have hd:decide ((0:Int)<=e)=true:=by simpa using he
  go_enter Tryz.func145,Tryz.ntmps145
  go_wp2_with fail
  go_ret
  exact⟨aO (by simp[he]),Below.refl _ _⟩
 ·have hd:decide ((0:Int)<=e)=false:=by simpa using he
  go_enter Tryz.func145,Tryz.ntmps145
  go_wp2_with fail
  go_ret
  exact⟨aO (by first|rfl|simp[he]),Below.refl _ _⟩
theorem zS(s:Sys) (hs:SysOk s) (B:Nat) (e f:Nat) (he:e<eS s) (hf:f<eS s) (w:World) (h:FinAt w B s) :
  Calls Tryz.prog 146 #[.pointer (some ⟨B,0,none⟩),.int .i64 e,.int .i64 f] w fun r w'=>r=.returned (.int .i64 (maskN (fun p=>linkB s p e f) (nS s):Nat))/\w=w':=by
 obtain⟨pl,cl,h1,bW⟩:=h.open;have ji:=hs.n.2.1;obtain⟨b,o,rfl,pr,cr,c1,r1⟩:=bW e he;obtain⟨b',o',e2,ps,cs,c2,r2⟩:=bW f hf;cases e2;have R1:=aa r1;have R2:=aa r2;have HL:Hid (∀ p,p<nS s->linkB s p e f=(decide (0<=if hasB (fltS s e) p then -1 else finS s e p)&&decide ((if hasB (fltS s e) p then -1 else finS s e p)=if hasB (fltS s f) p then -1 else finS s f p))):=aa fun p hp=>AV hs he hf hp _ _ rfl rfl
 have t1:=ab h1;clear h1 h bW r1 r2;obtain⟨q,hq⟩:∃ q:Nat->Bool,q=fun p=>linkB s p e f:=⟨_,rfl⟩
 have HQ:Hid (∀ p,linkB s p e f=q p):=aa fun p=>by rw[hq]
 rw[<-hq];clear hq;generalize nS s=n at *;generalize eS s=m at *
 go_enter Tryz.func146,Tryz.ntmps146
 go_wp2_with fail
 go_loop [7,14] (fun x i=>∃ k:Nat,k<=n/\i=.int .i64 k/\x=.int .i64 (maskN q k:Nat)) (fun _ i=>n - (intOf i).toNat)
 case atStart=>exact⟨0,by omega,rfl,rfl⟩
 case round=>
  obtain⟨k,hk,rfl,rfl⟩:=hrel;by_cases aA:k<n
  ·obtain⟨b1,o1,rfl,d1⟩:=DB R1.out aA
   obtain⟨b2,o2,rfl,d2⟩:=DB R2.out aA;have hl:=HL.out k aA;rw[HQ.out]at hl;generalize (if hasB (fltS s e) k then -1 else finS s e k)=x at d1 hl;generalize (if hasB (fltS s f) k then -1 else finS s f k)=y at d2 hl;have HM:=aa (gS q k);by_cases hx:0<=x
   ·have TL:decide ((0:Int)<=x)=true:=decide_eq_true hx
    by_cases bY:x=y
    ·subst bY
     have HB:Hid (q k=true):=aa (by rw[hl];simp[hx]);clear hl
     go_wp2_with fail
     go_round
     case rel=>exact⟨k+1,by omega,by go_num,qU (JP (by omega) HB.out)⟩
     case measure=>simp[intOf];omega
    ·have hxy':decide (x=y)=false:=decide_eq_false bY
     have HB:Hid (q k=false):=aa (by rw[hl,hxy'];simp);clear hl
     go_wp2_with fail
     go_round
     case rel=>exact⟨k+1,by omega,by go_num,by rw[<-vA HB.out]⟩
     case measure=>simp[intOf];omega
   ·have TL:decide ((0:Int)<=x)=false:=decide_eq_false hx
    have HB:Hid (q k=false):=aa (by rw[hl,TL];simp);clear hl
    go_wp2_with fail
    go_round
    case rel=>exact⟨k+1,by omega,by go_num,by rw[<-vA HB.out]⟩
    case measure=>simp[intOf];omega
  ·obtain rfl:k=n:=by omega
   go_wp2_with fail
   go_ret
   exact⟨rfl,rfl⟩
theorem Oz(a b:Vw) (w:World):(binOp .neq 190 a.v b.v).run Tryz.prog w=.ok (.bool (!decide (a=b))) w:=by
 rw[run_neq_struct,Dq 9997];rfl
theorem DC(va vb:Value) (a b:List Vw) (w:World) (ha:mD w va a) (hb:mD w vb b) :
  Calls Tryz.prog 121 #[va,vb] w fun e w'=>e=.returned (.bool (decide (a=b)))/\Below w.heap.size w w':=by
 obtain⟨pa,ca,rfl,la1,la2,ea⟩:=ha.at;obtain⟨pb,cb,rfl,lb1,lb2,eb⟩:=hb.at;clear ha hb;have EA:=aa ea;clear ea;have EB:=aa eb;clear eb;generalize nB:decide (a=b)=res;have jr:=aa nB;clear nB;by_cases hl:a.length=b.length
 case neg=>
  have ie:((a.length:Int) != (b.length:Int))=true:=by simp;omega
  have HR:Hid (res=false):=aa (by rw[<-jr.out];simp;intro h;exact hl (by rw[h]));clear hl
  go_enter Tryz.func121,Tryz.ntmps121
  go_wp2
  go_ret
  exact⟨aO HR.out.symm,Below.refl _ _⟩
 have ie:((a.length:Int) != (b.length:Int))=false:=by simp[hl]
 have HL:=aa hl;clear hl
 go_enter Tryz.func121,Tryz.ntmps121
 go_wp2
 clear ie
 go_loopw [13] (fun i wr=>Below w.heap.size w wr/\∃ k:Nat,k<=a.length/\i=.int .i64 k/\∀ j,j<k->a.getD j default=b.getD j default) (fun i _=>a.length - (intOf i).toNat)
 case atStart=>exact⟨Below.refl _ _,0,by omega,rfl,by simp⟩
 case round=>
  obtain⟨ar,k,hk,rfl,aR⟩:=hrel;have H:=aa aR;clear aR;by_cases aA:k<a.length
  ·have iL:k<b.length:=by have:=HL.out;omega
   obtain⟨b1,o1,rfl,⟨⟨c0,_⟩,⟨c1,_⟩,⟨c2,_⟩,⟨c3,_⟩,⟨c4,_⟩,⟨c5,_⟩,⟨c6,_⟩,⟨c7,_⟩⟩⟩:=EA.out k aA;obtain⟨b2,o2,rfl,⟨⟨e0,_⟩,⟨e1,_⟩,⟨e2,_⟩,⟨e3,_⟩,⟨e4,_⟩,⟨e5,_⟩,⟨e6,_⟩,⟨e7,_⟩⟩⟩:=EB.out k iL;have c0':∀ y:ExtW wr,y.val.cell? ⟨b1,o1+k * 8,none⟩=_:=fun y=>y.cell (ak ar c0)
   have c1':∀ y:ExtW wr,y.val.cell? ⟨b1,o1+k * 8+1,none⟩=_:=fun y=>y.cell (ak ar c1)
   have c2':∀ y:ExtW wr,y.val.cell? ⟨b1,o1+k * 8+2,none⟩=_:=fun y=>y.cell (ak ar c2)
   have c3':∀ y:ExtW wr,y.val.cell? ⟨b1,o1+k * 8+3,none⟩=_:=fun y=>y.cell (ak ar c3)
   have c4':∀ y:ExtW wr,y.val.cell? ⟨b1,o1+k * 8+4,none⟩=_:=fun y=>y.cell (ak ar c4)
   have c5':∀ y:ExtW wr,y.val.cell? ⟨b1,o1+k * 8+5,none⟩=_:=fun y=>y.cell (ak ar c5)
   have c6':∀ y:ExtW wr,y.val.cell? ⟨b1,o1+k * 8+6,none⟩=_:=fun y=>y.cell (ak ar c6)
   have c7':∀ y:ExtW wr,y.val.cell? ⟨b1,o1+k * 8+7,none⟩=_:=fun y=>y.cell (ak ar c7)
   have e0':∀ y:ExtW wr,y.val.cell? ⟨b2,o2+k * 8,none⟩=_:=fun y=>y.cell (ak ar e0)
   have e1':∀ y:ExtW wr,y.val.cell? ⟨b2,o2+k * 8+1,none⟩=_:=fun y=>y.cell (ak ar e1)
   have e2':∀ y:ExtW wr,y.val.cell? ⟨b2,o2+k * 8+2,none⟩=_:=fun y=>y.cell (ak ar e2)
   have e3':∀ y:ExtW wr,y.val.cell? ⟨b2,o2+k * 8+3,none⟩=_:=fun y=>y.cell (ak ar e3)
   have e4':∀ y:ExtW wr,y.val.cell? ⟨b2,o2+k * 8+4,none⟩=_:=fun y=>y.cell (ak ar e4)
   have e5':∀ y:ExtW wr,y.val.cell? ⟨b2,o2+k * 8+5,none⟩=_:=fun y=>y.cell (ak ar e5)
   have e6':∀ y:ExtW wr,y.val.cell? ⟨b2,o2+k * 8+6,none⟩=_:=fun y=>y.cell (ak ar e6)
   have e7':∀ y:ExtW wr,y.val.cell? ⟨b2,o2+k * 8+7,none⟩=_:=fun y=>y.cell (ak ar e7)
   have HX:=aa (az default aA);have HY:=aa (az default iL);clear c0 c1 c2 c3 c4 c5 c6 c7 e0 e1 e2 e3 e4 e5 e6 e7;generalize a[k]=x at c0' c1' c2' c3' c4' c5' c6' c7' HX;generalize b[k]=y at e0' e1' e2' e3' e4' e5' e6' e7' HY;have bJ:=fun w=>Oz x y w
   go_wp2
   by_cases bY:x=y
   ·have hd:decide (x=y)=true:=by simpa using bY
    have nT:Hid (a.getD k default=b.getD k default):=aa (by rw[HX.out,HY.out,bY]);rw[hd]at bJ;clear bY hd;refine aC (by kernel_rfl) (by kernel_rfl) ?_
    repeat (go_big_quiet_step (fail))
    refine wpQuiet_nil ?_;rintro _ ⟨xq,rfl⟩;clear c0' c1' c2' c3' c4' c5' c6' c7' e0' e1' e2' e3' e4' e5' e6' e7' bJ
    go_wp2
    go_roundw
    case rel=>exact⟨ae ar xq.ext,k+1,by omega,by go_num,aS H.out nT.out⟩
    case measure=>simp[intOf];omega
   ·have hd:decide (x=y)=false:=by simpa using bY
    have HR:Hid (res=false):=aa (by rw[<-jr.out];simp;intro h;subst h;rw[HX.out]at HY;exact bY HY.out);rw[hd]at bJ;clear bY hd;refine aC (by kernel_rfl) (by kernel_rfl) ?_
    repeat (go_big_quiet_step (fail))
    refine wpQuiet_nil ?_;rintro _ ⟨xq,rfl⟩;clear c0' c1' c2' c3' c4' c5' c6' c7' e0' e1' e2' e3' e4' e5' e6' e7' bJ
    go_wp2
    go_ret
    exact⟨aO HR.out.symm,ae ar xq.ext⟩
  ·have HR:Hid (res=true):=aa (by rw[<-jr.out];simp;exact eW default HL.out fun j hj=>H.out j (by omega))
   go_wp2
   go_ret
   exact⟨aO HR.out.symm,ar⟩
theorem DD(va vb:Value) (a b:List (List Int)) (w:World) (ha:dR w va a) (hb:dR w vb b) :
  Calls Tryz.prog 168 #[va,vb,.func (.func 15) #[] #[]] w fun e w'=>e=.returned (.bool (decide (a=b)))/\Below w.heap.size w w':=by
 obtain⟨pa,ca,rfl,la1,la2,ea⟩:=ha.at;obtain⟨pb,cb,rfl,lb1,lb2,eb⟩:=hb.at;clear ha hb;have EA:=aa ea;clear ea;have EB:=aa eb;clear eb;generalize nB:decide (a=b)=res;have jr:=aa nB;clear nB;have g1:=enters_of Tryz.func15 (P:=Tryz.prog) (by kernel_rfl) rfl;by_cases hl:a.length=b.length
 case neg=>
  have ie:((a.length:Int) != (b.length:Int))=true:=by simp;omega
  have HR:Hid (res=false):=aa (by rw[<-jr.out];simp;intro h;exact hl (by rw[h]));clear hl
  go_enter Tryz.func168,Tryz.ntmps168
  go_wp2
  go_ret
  exact⟨aO HR.out.symm,Below.refl _ _⟩
 have ie:((a.length:Int) != (b.length:Int))=false:=by simp[hl]
 have HL:=aa hl;clear hl
 go_enter Tryz.func168,Tryz.ntmps168
 go_wp2
 clear ie
 go_loopw [17] (fun i wr=>Below w.heap.size w wr/\∃ k:Nat,k<=a.length/\i=.int .i64 k/\∀ j,j<k->a.getD j []=b.getD j []) (fun i _=>a.length - (intOf i).toNat)
 case atStart=>exact⟨Below.refl _ _,0,by omega,rfl,by simp⟩
 case round=>
  obtain⟨ar,k,hk,rfl,aR⟩:=hrel;have H:=aa aR;clear aR;by_cases aA:k<a.length
  ·have iL:k<b.length:=by have:=HL.out;omega
   obtain⟨b1,o1,rfl,x,c1,hx⟩:=EA.out k aA;obtain⟨b2,o2,rfl,y,c2,hy⟩:=EB.out k iL;rw[Nat.mul_one]at c1 c2;have d1:=ak ar c1;have d2:=ak ar c2;have HC:=aa (fS x y a[k] b[k] wr (hx.up up_int ar) (hy.up up_int ar));have HX:=aa (az [] aA);have HY:=aa (az [] iL);obtain⟨px,qx,rfl,_⟩:=hx.at;obtain⟨py,qy,rfl,_⟩:=hy.at;clear hx hy c1 c2;have HE:Hid (eqV a[k] b[k]=decide (a[k]=b[k])):=aa rfl;generalize eqV a[k] b[k]=eb at HC HE
   go_wp2_with fail
   refine HC.out.mono ?_;rintro e w1 ⟨rfl,aI⟩;clear d1 d2;cases eb with
   | true=>
    have nT:Hid (a.getD k []=b.getD k []):=aa (by have h:=HE.out;simp at h;rw[HX.out,HY.out,h])
    go_wp2_with fail
    go_roundw
    case rel=>exact⟨ae ar aI,k+1,by omega,by go_num,aS H.out nT.out⟩
    case measure=>simp[intOf];omega
   | false=>
    have HR:Hid (res=false):=aa (by rw[<-jr.out];simp;intro h;subst h;have h:=HE.out;simp at h)
    go_wp2_with fail
    go_ret
    exact⟨aO HR.out.symm,ae ar aI⟩
  ·have HR:Hid (res=true):=aa (by rw[<-jr.out];simp;exact eW [] HL.out fun j hj=>H.out j (by omega))
   go_wp2
   go_ret
   exact⟨aO HR.out.symm,ar⟩
abbrev Hd(c:Int) (u v:Value):Array Value:=#[.int .i64 c,u,v]
theorem Xs(a b:Ex):decide (a=b)=(decide (a.c=b.c)&&decide (a.word=b.word)&&decide (a.views=b.views)):=by
 obtain⟨c,u,v⟩:=a;obtain⟨d,x,y⟩:=b;simp only[Ex.mk.injEq];by_cases h1:c=d<;>by_cases h2:u=x<;>by_cases h3:v=y<;>simp[h1,h2,h3]
theorem He(a b:Ex) (ua va ub vb:Value) (w:World) (h1:j8 w ua a.word) (h2:dR w va a.views) (h3:j8 w ub b.word) (h4:dR w vb b.views) :
  Calls Tryz.prog 123 #[.agg (Hd a.c ua va),.agg (Hd b.c ub vb)] w fun e w'=>e=.returned (.bool (decide (a=b)))/\Below w.heap.size w w':=by
 have H1:=aa h1;have H2:=aa h2;have H3:=aa h3;have H4:=aa h4;obtain⟨_,_,rfl,_⟩:=h1.at;obtain⟨_,_,rfl,_⟩:=h2.at;obtain⟨_,_,rfl,_⟩:=h3.at;obtain⟨_,_,rfl,_⟩:=h4.at;clear h1 h2 h3 h4;have HV:=aa (Xs a b);generalize decide (a=b)=res at HV;generalize a.c=x1 at *;generalize b.c=x2 at *
 go_enter Tryz.func123,Tryz.ntmps123
 by_cases hc:x1=x2
 ·subst hc
  go_wp2_with fail
  refine aN (fun W=>Below w.heap.size w W/\(∃ c,W.heap[w.heap.size]?=some (.cells c 89)/\c=Hd x1 _ _)/\∃ c,W.heap[w.heap.size+1]?=some (.cells c 89)/\c=Hd x1 _ _) ⟨by go_grown,⟨_,ap _ (am _ _),rfl⟩,_,bd _ _ _,rfl⟩ (fun W0 aV=>?_);obtain⟨aH,⟨_,hA,rfl⟩,⟨_,hB,rfl⟩⟩:=aV;refine(BQ _ _ a.word b.word W0 (H1.out.up up_round aH) (H3.out.up up_round aH)).mono ?_;rintro e w1 ⟨rfl,aI⟩;have cQ:=ae aH aI;have tA:=ab (af aI hA);have tB:=ab (af aI hB);clear hA hB;cases hw:decide (a.word=b.word) with
  | false=>
   have HR:Hid (res=false):=aa (by rw[HV.out,hw];simp);clear hw
   go_wp2_with fail
   go_ret
   exact⟨aO HR.out.symm,cQ⟩
  | true=>
   have HR:Hid (res=decide (a.views=b.views)):=aa (by rw[HV.out,hw];simp);clear hw
   go_wp2_with fail
   refine(DD _ _ a.views b.views w1 (H2.out.up up_ints cQ) (H4.out.up up_ints cQ)).mono ?_;rintro e w2 ⟨rfl,aU⟩;clear tA tB
   go_wp2_with fail
   go_ret
   exact⟨aO HR.out.symm,ae cQ aU⟩
 ·have hd:decide (x1=x2)=false:=decide_eq_false hc
  have HR:Hid (res=false):=aa (by rw[HV.out,hd];simp)
  go_wp2_with fail
  go_ret
  exact⟨aO HR.out.symm,by go_grown⟩
theorem DE(va vb:Value) (a b:List Ex) (w:World) (ha:y8 w va a) (hb:y8 w vb b) :
  Calls Tryz.prog 122 #[va,vb,.func (.func 123) #[] #[]] w fun e w'=>e=.returned (.bool (decide (a=b)))/\Below w.heap.size w w':=by
 obtain⟨pa,ca,rfl,la1,la2,ea⟩:=ha.at;obtain⟨pb,cb,rfl,lb1,lb2,eb⟩:=hb.at;clear ha hb;have EA:=aa ea;clear ea;have EB:=aa eb;clear eb;generalize nB:decide (a=b)=res;have jr:=aa nB;clear nB;have g1:=enters_of Tryz.func123 (P:=Tryz.prog) (by kernel_rfl) rfl;by_cases hl:a.length=b.length
 case neg=>
  have ie:((a.length:Int) != (b.length:Int))=true:=by simp;omega
  have HR:Hid (res=false):=aa (by rw[<-jr.out];simp;intro h;exact hl (by rw[h]));clear hl
  go_enter Tryz.func122,Tryz.ntmps122
  go_wp2
  go_ret
  exact⟨aO HR.out.symm,Below.refl _ _⟩
 have ie:((a.length:Int) != (b.length:Int))=false:=by simp[hl]
 have HL:=aa hl;clear hl
 go_enter Tryz.func122,Tryz.ntmps122
 go_wp2
 clear ie
 go_loopw [17] (fun i wr=>Below w.heap.size w wr/\∃ k:Nat,k<=a.length/\i=.int .i64 k/\∀ j,j<k->a.getD j default=b.getD j default) (fun i _=>a.length - (intOf i).toNat)
 case atStart=>exact⟨Below.refl _ _,0,by omega,rfl,by simp⟩
 case round=>
  obtain⟨ar,k,hk,rfl,aR⟩:=hrel;have H:=aa aR;clear aR;by_cases aA:k<a.length
  ·have iL:k<b.length:=by have:=HL.out;omega
   obtain⟨b1,o1,rfl,⟨c1,_⟩,⟨u1,c2,h2⟩,⟨v1,c3,h3⟩⟩:=EA.out k aA;obtain⟨b2,o2,rfl,⟨d1,_⟩,⟨u2,d2,k2⟩,⟨v2,d3,k3⟩⟩:=EB.out k iL;have c1':=ak ar c1;have c2':=ak ar c2;have c3':=ak ar c3;have hA:Below wr.heap.size wr (wr.alloc (.cells (Hd a[k].c u1 v1) 89)):=by go_grown
   have d1':=ak hA (ak ar d1);have d2':=ak hA (ak ar d2);have d3':=ak hA (ak ar d3);have H2:=aa (h2.up up_round ar);have H3:=aa (h3.up up_ints ar);have K2:=aa (k2.up up_round ar);have K3:=aa (k3.up up_ints ar);obtain⟨_,_,rfl,_⟩:=h2.at;obtain⟨_,_,rfl,_⟩:=h3.at;obtain⟨_,_,rfl,_⟩:=k2.at;obtain⟨_,_,rfl,_⟩:=k3.at;have HX:=aa (az default aA);have HY:=aa (az default iL);clear h2 h3 k2 k3 c1 c2 c3 d1 d2 d3 hA;generalize a[k]=x at *;generalize b[k]=y at *
   go_wp2_with fail
   refine aN (fun W=>Below wr.heap.size wr W) (by go_grown) (fun W0 aV=>?_);refine(He x y _ _ _ _ W0 (H2.out.up up_round aV) (H3.out.up up_ints aV) (K2.out.up up_round aV) (K3.out.up up_ints aV)).mono ?_;rintro e w1 ⟨rfl,aI⟩;have cQ:=ae ar (ae aV aI);clear c1' c2' c3' d1' d2' d3';cases bY:decide (x=y) with
   | true=>
    have nT:Hid (a.getD k default=b.getD k default):=aa (by rw[HX.out,HY.out,of_decide_eq_true bY]);clear bY
    go_wp2_with fail
    go_roundw
    case rel=>exact⟨cQ,k+1,by omega,by go_num,aS H.out nT.out⟩
    case measure=>simp[intOf];omega
   | false=>
    have HR:Hid (res=false):=aa (by rw[<-jr.out];simp;intro h;subst h;rw[HX.out]at HY;exact of_decide_eq_false bY HY.out);clear bY
    go_wp2_with fail
    go_ret
    exact⟨aO HR.out.symm,cQ⟩
  ·have HR:Hid (res=true):=aa (by rw[<-jr.out];simp;exact eW default HL.out fun j hj=>H.out j (by omega))
   go_wp2
   go_ret
   exact⟨aO HR.out.symm,ar⟩
theorem gD{P:Program} {ops:Array Oper} {Q:Exit->Act->World->Prop} {l:List Oper} {a:Act} {W:World} (I:World->Prop) (h:I W) (k:∀ W0,I W0->wpList P ops Q l a W0):wpList P ops Q l a W:=k W h
theorem bE{w:World} {s:Sys} {vc vs vt ve:Value} (h:IsSys w s vc vs vt ve):(∃ a c,vc=.slice a s.prob.t.cases.length c)/\(∃ a c,vs=.slice a s.prob.a.states.length c)/\(∃ a c,vt=.slice a s.tab.length c)/\∃ a c,ve=.slice a s.ex.length c:=by
 obtain⟨a1,c1,e1,_⟩:=h.cases.at;obtain⟨a2,c2,e2,_⟩:=h.states.at;obtain⟨a3,c3,e3,_⟩:=h.tab.at;obtain⟨a4,c4,e4,_⟩:=h.ex.at;exact⟨⟨a1,c1,e1⟩,⟨a2,c2,e2⟩,⟨a3,c3,e3⟩,a4,c4,e4⟩
theorem oW(s:Sys) (vc vs vt ve:Value) (w:World) (hs:IsSys w s vc vs vt ve) (hN:movesN s.prob.a.states<1099511627776) :
  Calls Tryz.prog 75 #[.agg (bT s.prob vc vs s.n vt ve)] w fun e w'=>e=.returned (.int .i64 (verifyE s))/\Below w.heap.size w w':=by
 have HS:=aa hs;obtain⟨⟨pc,cc,rfl⟩,⟨ps,cs,rfl⟩,⟨pt,ct,rfl⟩,⟨pe,ce,rfl⟩⟩:=bE hs;clear hs;have HV:Hid (verifyE s=if buildE s.prob≠0 then buildE s.prob else if s.n=(aM s.prob).n/\s.tab=(aM s.prob).tab/\s.ex=(aM s.prob).ex then 0 else 3):=aa rfl;have HT:=aa HS.out.tab;have HE:=aa HS.out.ex;have HC:=aa (fun W (hb:Below w.heap.size w W)=>Ox s.prob (.slice pc s.prob.t.cases.length cc) (.slice ps s.prob.a.states.length cs) W (HS.out.cases.up up_case hb) (HS.out.states.up up_moves hb) hN);clear HS
 go_enter Tryz.func75,Tryz.ntmps75
 go_wp2_with fail
 refine aN (fun W=>Below w.heap.size w W/\∃ c,W.heap[w.heap.size]?=some (.cells c 35)/\c=bT s.prob _ _ s.n _ _) ⟨by go_grown,_,am _ _,rfl⟩ (fun W0 aV=>?_);obtain⟨aH,_,hA,rfl⟩:=aV;refine(HC.out W0 aH).mono ?_;rintro e w1 ⟨c,rfl,h0,h1,aI⟩;have cQ:=ae aH aI;have dZ:=af aI hA;have du:=aa dZ;have eD:=aa cQ;have fP:=cQ.size;have iI:=aB dZ;clear hA dZ aH aI HC;by_cases lR:buildE s.prob=0
 case neg=>
  obtain rfl:=h1 lR;clear h0 h1;have HR:Hid (verifyE s=buildE s.prob):=aa (by rw[HV.out,if_pos lR]);generalize buildE s.prob=be at lR HR;have hbe':(be != 0)=true:=by simpa using lR
  clear HV lR
  go_wp2_with ((refine wpList_store_row rfl 35 (.tmp 3) (.tmp 9) rfl w1.heap.size zeroSys rfl rfl 35 _ (am w1 (.cells zeroSys 35)) (by kernel_rfl) rfl (by simp[Value.oneCell']) (gD (fun W=>Below w.heap.size w W) (below_setRow (eD.out.alloc fP _) fP _) ?_);intro W2 eK;have cH:=aa eK;clear eK))
  go_ret
  exact⟨aD HR.out.symm,cH.out⟩
 obtain⟨uc,us,vt,ve,rfl,RR⟩:=h0 lR;have HR:Hid (verifyE s=if s.n=s.prob.t.n/\s.tab=(aM s.prob).tab/\s.ex=(aM s.prob).ex then 0 else 3):=aa (by rw[HV.out,if_neg (by omega)];rfl);have yD:=aa RR;obtain⟨⟨qc,dc,e1⟩,⟨qs,ds,e2⟩,⟨qt,dt,e3⟩,⟨qe,de,e4⟩⟩:=bE RR;clear h1 RR HV;rw[lR];clear lR;generalize tj:(aM s.prob).tab=bt at *;generalize kE:(aM s.prob).ex=bx at *;have CF:Hid (mD w1 vt bt):=aa (by rw[<-tj];exact yD.out.tab);have mK:Hid (y8 w1 ve bx):=aa (by rw[<-kE];exact yD.out.ex);clear tj kE yD;subst e1 e2 e3 e4;have hone:(bT s.prob (.slice qc (aM s.prob).prob.t.cases.length dc) (.slice qs (aM s.prob).prob.a.states.length ds) s.prob.t.n (.slice qt bt.length dt) (.slice qe bx.length de)).all (·.oneCell')=true:=by simp[Value.oneCell']
 by_cases hn:s.n=s.prob.t.n
 case neg=>
  have xW:(s.n != s.prob.t.n)=true:=by simpa using hn
  have dN:Hid (verifyE s=3):=aa (by rw[HR.out,if_neg (fun h=>hn h.1)]);clear hn HR
  go_wp2_with ((refine wpList_store_row rfl 35 (.tmp 3) (.tmp 9) rfl w1.heap.size (bT s.prob (.slice qc (aM s.prob).prob.t.cases.length dc) (.slice qs (aM s.prob).prob.a.states.length ds) s.prob.t.n (.slice qt bt.length dt) (.slice qe bx.length de)) rfl rfl 35 _ (am w1 (.cells zeroSys 35)) (by kernel_rfl) rfl hone (gD (fun W=>Below w.heap.size w W/\Below w1.heap.size w1 W/\∃ c,W.heap[w1.heap.size]?=some (.cells c 35)/\c=bT s.prob _ _ s.prob.t.n _ _) ⟨below_setRow (eD.out.alloc fP _) fP _,below_setRow ((Below.refl _ w1).alloc (Nat.le_refl _) _) (Nat.le_refl _) _,_,setRow_heap _ _ _ _ _ _ (am w1 _),rfl⟩ ?_);intro W2 eK;obtain⟨g1,g2,c2,g3,iP⟩:=eK;subst iP;have tS:=ab (af g2 du.out);have tT:=ab g3;have G1:=aa g1;have G2:=aa g2;have G3:=aa g3;clear g1 g2 g3))
  go_ret
  exact⟨aD dN.out.symm,G1.out⟩
 have xW:(s.n != s.prob.t.n)=false:=by simpa using hn
 have rl:=aa hn;clear hn
 go_wp2_with ((refine wpList_store_row rfl 35 (.tmp 3) (.tmp 9) rfl w1.heap.size (bT s.prob (.slice qc (aM s.prob).prob.t.cases.length dc) (.slice qs (aM s.prob).prob.a.states.length ds) s.prob.t.n (.slice qt bt.length dt) (.slice qe bx.length de)) rfl rfl 35 _ (am w1 (.cells zeroSys 35)) (by kernel_rfl) rfl hone (gD (fun W=>Below w.heap.size w W/\Below w1.heap.size w1 W/\∃ c,W.heap[w1.heap.size]?=some (.cells c 35)/\c=bT s.prob _ _ s.prob.t.n _ _) ⟨below_setRow (eD.out.alloc fP _) fP _,below_setRow ((Below.refl _ w1).alloc (Nat.le_refl _) _) (Nat.le_refl _) _,_,setRow_heap _ _ _ _ _ _ (am w1 _),rfl⟩ ?_);intro W2 eK;obtain⟨g1,g2,c2,g3,iP⟩:=eK;subst iP;have tS:=ab (af g2 du.out);have tT:=ab g3;have G1:=aa g1;have G2:=aa g2;have G3:=aa g3;clear g1 g2 g3))
 refine(DC _ _ s.tab bt W2 (HT.out.up up_view G1.out) (CF.out.up up_view G2.out)).mono ?_;rintro e w3 ⟨rfl,bC⟩;clear tS tT;have tS:=ab (af bC (af G2.out du.out));have tT:=ab (af bC G3.out);have ud:=ae G1.out bC;have hbw4:=ae G2.out bC;cases ht:decide (s.tab=bt) with
 | false=>
  have dN:Hid (verifyE s=3):=aa (by rw[HR.out,if_neg (fun h=>of_decide_eq_false ht h.2.1)]);clear ht HR
  go_wp2_with fail
  go_ret
  exact⟨aD dN.out.symm,ud⟩
 | true=>
  have dN:Hid (verifyE s=if s.ex=bx then 0 else 3):=aa (by
   rw[HR.out];by_cases h:s.ex=bx
   ·rw[if_pos ⟨rl.out,of_decide_eq_true ht,h⟩,if_pos h]
   ·rw[if_neg (fun h'=>h h'.2.2),if_neg h])
  clear ht HR
  go_wp2_with fail
  refine(DE _ _ s.ex bx w3 (HE.out.up up_ex ud) (mK.out.up up_ex hbw4)).mono ?_;rintro e w4 ⟨rfl,bQ⟩;clear tS tT;cases ht:decide (s.ex=bx) with
  | false=>
   have fm:Hid (verifyE s=3):=aa (by rw[dN.out,if_neg (of_decide_eq_false ht)]);clear ht dN
   go_wp2_with fail
   go_ret
   exact⟨aD fm.out.symm,ae ud bQ⟩
  | true=>
   have fm:Hid (verifyE s=0):=aa (by rw[dN.out,if_pos (of_decide_eq_true ht)]);clear ht dN
   go_wp2_with fail
   go_ret
   exact⟨aD fm.out.symm,ae ud bQ⟩
end Go.Proofs.YtmeaoneaephjeaaGreatDoor
