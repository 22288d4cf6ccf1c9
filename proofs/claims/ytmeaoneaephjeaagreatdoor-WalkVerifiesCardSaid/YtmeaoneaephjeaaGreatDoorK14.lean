/-
  A part of the proof: lemmas and contracts that the parts behind it use. Each one's conditions are its own premises.
-/
import Derived.Test.YtmeaoneaephjeaaGreatDoorK12
import Derived.Test.YtmeaoneaephjeaaGreatDoorK13
set_option maxRecDepth 100000
set_option maxHeartbeats 8000000
set_option linter.unusedVariables false
set_option linter.unusedSimpArgs false
namespace Go.Proofs.YtmeaoneaephjeaaGreatDoor
open Go.RowKit Go Go.Shelf
attribute [local go_sem] Oper.semAt_some
theorem Kv(a:Adv):∀ k,ed a k=dQ 4096 a k
 | 0=>rfl
 | k+1=>by
  show li a (ed a k)=zj 4096 a (dQ 4096 a k)
  rw[Kv a k];rfl
theorem wH{p:Pb} (h:probE p=0):numberP p=p.t.cases.length * min ((aI p).length:Int) 4097:=by
 obtain⟨ht,ha,_,ro,pL⟩:=go h;have hn:=qF (L:=4096) (by omega) p.a (fun s hs m hm=>(ur ha s hs m hm).2) (by have:=(hH ha).1;omega) p.rounds.toNat;unfold numberP numberS;rw[Kv]
 show _ * numberL 4096 p.a p.rounds.toNat=_
 rw[hn];rfl
def tE(p:Pb):Prop:=probE p=0->p.t.cases.length * (aI p).length<=60\/4096<p.t.cases.length * (aI p).length
theorem Ch{p:Pb} (h:probE p=0):(4096:Int)<numberP p↔4096<p.t.cases.length * (aI p).length:=by
 have hc:=(eX (go h).1).2.2.2.1;rw[wH h];generalize p.t.cases.length=a at hc ⊢;generalize (aI p).length=b;by_cases hb:b<=4097
 ·rw[Int.min_eq_left (by omega),<-Int.natCast_mul]
  omega
 ·have h1:1 * b<=a * b:=Nat.mul_le_mul_right b hc.1
  have h2:1 * 4097<=a * 4097:=Nat.mul_le_mul_right 4097 hc.1;rw[Int.min_eq_right (by omega)];have h3:((a * 4097:Nat):Int)=(a:Int) * 4097:=by rw[Int.natCast_mul];rfl
  omega
theorem Kw{p:Pb} (h:fewPB p=true):tE p:=fun h0=>by
 unfold fewPB at h;split at h
 ·cases h
 split at h
 ·cases h
 split at h
 ·cases h
 rw[if_neg (by simpa using h0)]at h;simp only[Bool.or_eq_true,decide_eq_true_eq]at h;rcases h with h|h
 ·by_cases hb:4096<p.t.cases.length * (aI p).length
  ·exact .inr hb
  ·left
   have hc:=(eX (go h0).1).2.2.2.1;rw[wH h0]at h;generalize p.t.cases.length=a at hc h hb ⊢;generalize (aI p).length=b at h hb ⊢;have h1:1 * b<=a * b:=Nat.mul_le_mul_right b hc.1;rw[Int.min_eq_left (by omega),<-Int.natCast_mul]at h;omega
 ·exact .inr ((Ch h0).1 h)
theorem oM(tmps:Array Value) (B:Nat) (W:World) (c0 c1 c2 c3 c4 c5 c6 c7 c8 c9:Value) (e:Int) (h2:tmps[2]?.getD undef=.pointer (some ⟨B,0,none⟩)) (h3:tmps[3]?.getD undef=.int .i64 e)
  (hB:W.heap[B]?=some (.cells #[c0,c1,c2,c3,c4,c5,c6,c7,c8,c9] 35)) :
  (results Tryz.f73 tmps).run Tryz.prog W=.ok (.tuple #[.agg #[c0,c1,c2,c3,c4,c5,c6,c7,c8,c9],.int .i64 e]) W:=by
 have t2:=ab hB;simp[results,Tryz.results73,go_sem,h2,h3,t2]
def Ga(p:Pb) (vc vs vt ve:Value) (base:Nat) (w':World):Prop:=((∃ a c,vt=.slice a (aM p).tab.length c)/\∃ a c,ve=.slice a (aM p).ex.length c)/\∀ Wf:World,(∀ k,base<=k->k<w'.heap.size->Wf.heap[k]?=w'.heap[k]?)->bK Wf vc p.t.cases->bk Wf vs p.a.states->IsSys Wf (aM p) vc vs vt ve
def Ht(p:Pb) (vc vs:Value) (base:Nat) (r:Ending) (w':World):Prop:=∃ c,r=.returned (.tuple #[.agg c,.int .i64 (buildE p)])/\(buildE p=0->∃ vt ve,c=bE p vc vs p.t.n vt ve/\Ga p vc vs vt ve base w')/\(buildE p≠0->c=zeroSys)
theorem U7{p:Pb} {vc vs:Value} {base:Nat} {w':World} {e:Int} (h:buildE p=e) (h0:e≠0):Ht p vc vs base (.returned (.tuple #[.agg zeroSys,.int .i64 e])) w':=⟨zeroSys,by rw[h],fun h1=>absurd (h.symm.trans h1) h0,fun _=>rfl⟩
theorem Ci(p:Pb) (vc vs:Value) (w:World) (hc:bK w vc p.t.cases) (hs:bk w vs p.a.states) (hN:movesN p.a.states<2305843009213693952) (hf:tE p) :
  Calls Tryz.prog 73 #[qi p vc vs] w fun r w'=>Ht p vc vs w.heap.size r w'/\Below w.heap.size w w':=by
 have GC:=aa hc;have GS:=aa hs;obtain⟨pc,cc,rfl,_⟩:=hc.at;obtain⟨ps,cs,rfl,_⟩:=hs.at;have wJ:=aa (fun W (hb:Below w.heap.size w W)=>ux p _ _ W (GC.out.up up_case hb) (GS.out.up up_moves hb) hN);have Ph:=aa (fun (h:probE p=0) W (hb:Below w.heap.size w W)=>sa p _ _ W (GC.out.up up_case hb) (GS.out.up up_moves hb) h);have Ih:=aa (fun (h:probE p=0) (h2:¬ 4096<p.t.cases.length * (aI p).length) W (hb:Below w.heap.size w W)=>Mj p _ _ W (GC.out.up up_case hb) (GS.out.up up_moves hb) h (by rcases hf h with h|h<;>omega));have lQ:Hid (probE p≠0->buildE p=probE p):=aa fun h=>by unfold buildE;rw[if_pos h]
 have kx:Hid (probE p=0->4096<p.t.cases.length * (aI p).length->buildE p=17):=aa fun h h2=>by unfold buildE;rw[if_neg (by omega),if_pos h2]
 have uZ:Hid (probE p=0->¬ 4096<p.t.cases.length * (aI p).length->buildE p=0/\(aM p).tab.length<=8192):=aa fun h h2=>by
  have h3:=sg h (p.t.cases.length * (aI p).length) (Nat.le_refl _);have e:stP p (p.t.cases.length * (aI p).length)=((aM p).tab,(aM p).ex):=by unfold stP;rw[List.take_of_length_le (by rw[jl];exact Nat.le_refl _)];rfl
  rw[e]at h3;dsimp only at h3;have h4:(aM p).tab.length<=8192:=by rcases hf h with h|h<;>omega
  exact⟨by unfold buildE;rw[if_neg (by omega),if_neg h2,if_neg (by omega)],h4⟩
 have FL:=aa (fun h=>@Ch p h);have DU:=aa (fun e (W:World) h h0=>@U7 p (.slice pc p.t.cases.length cc) (.slice ps p.a.states.length cs) w.heap.size W e h h0);have Ir:Hid (∀ vt ve W,buildE p=0->Ga p (.slice pc p.t.cases.length cc) (.slice ps p.a.states.length cs) vt ve w.heap.size W->Ht p (.slice pc p.t.cases.length cc) (.slice ps p.a.states.length cs) w.heap.size (.returned (.tuple #[.agg (bE p (.slice pc p.t.cases.length cc) (.slice ps p.a.states.length cs) p.t.n vt ve),.int .i64 0])) W):=aa fun vt ve W h0 h=>⟨_,by rw[h0],fun _=>⟨vt,ve,rfl,h⟩,fun h1=>absurd h0 h1⟩
 clear hc hs hf;have HSZ:=aa hN;clear hN;obtain⟨pe,hpe⟩:∃ pe,probE p=pe:=⟨_,rfl⟩;rw[hpe]at wJ Ph Ih lQ kx uZ FL;obtain⟨nx,nQ⟩:∃ nx,p.t.cases.length * (aI p).length=nx:=⟨_,rfl⟩;rw[nQ]at Ih kx uZ FL;clear hpe nQ;have IK:Hid ((∀ W,Below w.heap.size w W->bK W (.slice pc p.t.cases.length cc) p.t.cases)/\∀ W,Below w.heap.size w W->bk W (.slice ps p.a.states.length cs) p.a.states):=aa ⟨fun W hb=>GC.out.up up_case hb,fun W hb=>GS.out.up up_moves hb⟩;clear GC GS;generalize p.t.cases.length=nc,p.a.states.length=ns at wJ Ph Ih DU Ir IK ⊢
 go_enter Tryz.func73,Tryz.ntmps73
 go_wp2_with fail
 refine aL (fun W=>Below w.heap.size w W/\W.heap[w.heap.size]?=some (.cells #[.int .i64 p.t.n,.int .i64 p.t.ins,.int .i64 p.t.outs,.slice pc nc cc,.int .i64 p.a.n,.slice ps ns cs,.int .i64 p.rounds] 29)/\W.heap[w.heap.size+1]?=some (.cells zeroSys 35)) ⟨by go_grown,am _ (ak _ _),ba _ _ _⟩ (fun W0 aW=>?_);obtain⟨aC,br,gJ⟩:=aW;refine(wJ.out W0 aC).mono ?_;rintro r w1 ⟨rfl,aG⟩;have bC:=aa (ae aC aG);have dy:=aa (af aG br);have cX:=aa (af aG gJ);have fP:=ar cX.out;have tA:=ab dy.out;clear aC br gJ aG wJ;by_cases hz:pe=0
 case neg=>
  have HV:=aa (DU.out pe (w1.setRow (w.heap.size+1) zeroSys) (lQ.out hz) hz);have Fr:(pe != 0)=true:=by simpa using hz
  clear hz lQ kx uZ Ph Ih FL Ir DU
  go_wp2_with (refine wpList_store_row rfl 35 (.tmp 2) (.tmp 10) rfl (w.heap.size+1) zeroSys rfl rfl 35 _ cX.out (by kernel_rfl) rfl (by simp[Value.oneCell']) ?_)
  exact bodyPost_ret (oM _ (w.heap.size+1) _ _ _ _ _ _ _ _ _ _ _ pe rfl rfl (setRow_heap _ _ _ _ _ _ cX.out)) rfl ⟨HV.out,below_setRow bC.out (by omega) _⟩
 have n9:=aa (Ph.out hz);have Pi:=aa (FL.out hz);generalize numberP p=nn at n9 Pi;clear Ph FL lQ
 go_wp2_with fail
 refine(n9.out w1 bC.out).mono ?_;rintro r w2 ⟨rfl,aV⟩;have cB:=aa (ae bC.out aV);have mK:=aa (af aV dy.out);have dE:=aa (af aV cX.out);have iL:=ar dE.out;clear aV tA dy cX;by_cases wg:4096<nx
 ·have hd:decide ((4096:Int)<nn)=true:=decide_eq_true (Pi.out.2 wg)
  have HV:=aa (DU.out 17 (w2.setRow (w.heap.size+1) zeroSys) (kx.out hz wg) (by omega));clear hz wg kx uZ Ih Ir DU Pi
  go_wp2_with (refine wpList_store_row rfl 35 (.tmp 2) (.tmp 15) rfl (w.heap.size+1) zeroSys rfl rfl 35 _ dE.out (by kernel_rfl) rfl (by simp[Value.oneCell']) ?_)
  exact bodyPost_ret (oM _ (w.heap.size+1) _ _ _ _ _ _ _ _ _ _ _ 17 rfl rfl (setRow_heap _ _ _ _ _ _ dE.out)) rfl ⟨HV.out,below_setRow cB.out (by omega) _⟩
 have hd:decide ((4096:Int)<nn)=false:=decide_eq_false (fun h=>wg (Pi.out.1 h));have nJ:=aa (Ih.out hz wg);obtain⟨h0,K7⟩:=uZ.out hz wg;have HZ:=aa h0;have tA:=ab mK.out;clear hz wg kx uZ Ih DU Pi h0
 go_wp2_with fail
 refine(nJ.out w2 cB.out).mono ?_;rintro r w3 ⟨vt,ve,rfl,⟨⟨at3,ct3,rfl⟩,ave,cve,rfl⟩,bX,bA⟩;have yL:=aa bX;have dP:=aa (ae cB.out bA);have D9:=aa bA;have fZ:=aa (af bA dE.out);have IR:=aa (fun W=>Ir.out (.slice at3 (aM p).tab.length ct3) (.slice ave (aM p).ex.length cve) W HZ.out);have Ps:Hid (∀ Wf:World,_):=yL;obtain⟨nt,Jm⟩:∃ nt,(aM p).tab.length=nt:=⟨_,rfl⟩;obtain⟨ne,bM⟩:∃ ne,(aM p).ex.length=ne:=⟨_,rfl⟩;have Iw:=aa Jm;have gK:=aa bM;rw[Jm]at K7 yL IR Ps ⊢;rw[bM]at yL IR Ps ⊢;have hd8:decide ((8192:Int)<(nt:Int))=false:=decide_eq_false (by omega);have mM:=ar fZ.out;have Jq:=bA.size;clear bX bA tA Jm bM Ir hd Ps;have te:=ab (ak w3 (.cells #[.int .i64 p.t.n,.int .i64 p.t.ins,.int .i64 p.t.outs,.slice pc nc cc,.int .i64 p.a.n,.slice ps ns cs,.int .i64 p.rounds,.int .i64 p.t.n,.slice at3 nt ct3,.slice ave ne cve] 35));have rx:Below w3.heap.size w3 (w3.alloc (.cells #[.int .i64 p.t.n,.int .i64 p.t.ins,.int .i64 p.t.outs,.slice pc nc cc,.int .i64 p.a.n,.slice ps ns cs,.int .i64 p.rounds,.int .i64 p.t.n,.slice at3 nt ct3,.slice ave ne cve] 35)):=by go_grown
 have Cv:=aa rx;have so:=aa (af rx fZ.out);clear rx
 go_wp2_with (refine wpList_store_row rfl 35 (.tmp 2) (.tmp 24) rfl (w.heap.size+1) #[.int .i64 p.t.n,.int .i64 p.t.ins,.int .i64 p.t.outs,.slice pc nc cc,.int .i64 p.a.n,.slice ps ns cs,.int .i64 p.rounds,.int .i64 p.t.n,.slice at3 nt ct3,.slice ave ne cve] rfl rfl 35 _ so.out (by kernel_rfl) rfl (by simp[Value.oneCell']) ?_)
 refine bodyPost_ret (oM _ (w.heap.size+1) _ _ _ _ _ _ _ _ _ _ _ 0 rfl rfl (setRow_heap _ _ _ _ _ _ so.out)) rfl ⟨IR.out _ ⟨⟨⟨at3,ct3,by rw[Iw.out]⟩,ave,cve,by rw[gK.out]⟩,fun Wf Iv h1 h2=>yL.out Wf (fun k hk ku=>?_) h1 h2⟩,below_setRow (ae dP.out Cv.out) (by omega) _⟩;refine(Iv k (by omega) ?_).trans ?_
 ·exact Nat.lt_of_lt_of_le ku (Nat.le_trans Cv.out.size (below_setRow (Below.refl (w.heap.size+1) _) (Nat.le_refl _) _).size)
 ·rw[setRow_other _ _ _ _ (by omega)]
  exact Cv.out.block k ku
theorem Hu(s:Sys) (h:buildE s.prob=0):verifyE s=if decide ((s.n=(aM s.prob).n/\s.tab=(aM s.prob).tab)/\s.ex=(aM s.prob).ex) then 0 else 3:=by
 unfold verifyE;rw[if_neg (by omega)];simp only[and_assoc,decide_eq_true_eq]
theorem DP(s:Sys) (vc vs vt ve:Value) (w:World) (bX:IsSys w s vc vs vt ve) (hN:movesN s.prob.a.states<2305843009213693952) (hf:tE s.prob) :
  Calls Tryz.prog 63 #[.agg (bE s.prob vc vs s.n vt ve)] w fun r w'=>r=.returned (.int .i64 (verifyE s))/\Below w.heap.size w w':=by
 have HS:=aa bX;obtain⟨⟨qc,kc,rfl⟩,⟨qs,ks,rfl⟩,⟨qt,kt,rfl⟩,⟨qe,ke,rfl⟩⟩:=bg bX;have xi:=aa (fun W (hb:Below w.heap.size w W)=>Ci s.prob _ _ W (HS.out.cases.up up_case hb) (HS.out.states.up up_moves hb) hN hf);have wX:=aa (fun W (hb:Below w.heap.size w W) uc us ut ue (hz:IsSys W (aM s.prob) uc us ut ue)=>Ma s (aM s.prob) rfl _ _ _ _ uc us ut ue W (HS.out.up hb) hz);have nK:Hid (buildE s.prob≠0->verifyE s=buildE s.prob):=aa fun h=>by unfold verifyE;rw[if_pos h]
 have cT:=aa (Hu s);generalize verifyE s=vr at nK cT ⊢;generalize decide ((s.n=(aM s.prob).n/\s.tab=(aM s.prob).tab)/\s.ex=(aM s.prob).ex)=sb at wX cT;have Fw:(aM s.prob).n=s.prob.t.n:=rfl;unfold Ht at xi;rw[Fw]at wX;have pR:Hid (∀ W uc us ut ue,IsSys W (aM s.prob) uc us ut ue->(∃ a c,uc=.slice a s.prob.t.cases.length c)/\(∃ a c,us=.slice a s.prob.a.states.length c)/\(∃ a c,ut=.slice a (aM s.prob).tab.length c)/\∃ a c,ue=.slice a (aM s.prob).ex.length c):=aa fun W uc us ut ue h=>bg h
 clear bX hN hf Fw;obtain⟨be,lP⟩:∃ be,buildE s.prob=be:=⟨_,rfl⟩;rw[lP]at xi nK cT;clear lP;obtain⟨nc,jO⟩:∃ nc,s.prob.t.cases.length=nc:=⟨_,rfl⟩;obtain⟨ns,uL⟩:∃ ns,s.prob.a.states.length=ns:=⟨_,rfl⟩;have IK:Hid ((∀ W,Below w.heap.size w W->bK W (.slice qc s.prob.t.cases.length kc) s.prob.t.cases)/\∀ W,Below w.heap.size w W->bk W (.slice qs s.prob.a.states.length ks) s.prob.a.states):=aa ⟨fun W hb=>HS.out.cases.up up_case hb,fun W hb=>HS.out.states.up up_moves hb⟩;rw[jO,uL]at xi wX pR IK ⊢;clear jO uL;generalize s.tab.length=nt,s.ex.length=ne at wX ⊢
 go_enter Tryz.func63,Tryz.ntmps63
 go_wp2_with fail
 refine aL (fun W=>Below w.heap.size w W/\∃ c,W.heap[w.heap.size]?=some (.cells c 35)/\c=bE s.prob (.slice qc nc kc) (.slice qs ns ks) s.n (.slice qt nt kt) (.slice qe ne ke)) ⟨by go_grown,_,ak _ _,rfl⟩ (fun W0 aW=>?_);obtain⟨aC,_,br,rfl⟩:=aW;refine(xi.out W0 aC).mono ?_;rintro r w1 ⟨⟨c,rfl,h1,h2⟩,aG⟩;have bC:=aa (ae aC aG);have dy:=aa (af aG br);clear aC br aG xi;by_cases hz:be=0
 case neg=>
  have HV:=aa (nK.out hz);obtain rfl:=h2 hz;have Fr:(be != 0)=true:=by simpa using hz
  have hg:Below w.heap.size w (w1.alloc (.cells zeroSys 35)):=bC.out.alloc bC.out.size _;have HG:=aa hg;clear hz h1 h2 cT wX hg
  go_wp2_with fail
  go_ret
  exact⟨aA HV.out.symm,HG.out⟩
 obtain⟨ut,ue,rfl,⟨⟨a3,c3,rfl⟩,a4,c4,rfl⟩,mn⟩:=h1 hz;have eK:=mn w1 (fun _ _ _=>rfl) (IK.out.1 w1 bC.out) (IK.out.2 w1 bC.out);have HZ:=aa eK;have Aj:=aa (cT.out hz);subst hz;obtain⟨mt,hmt⟩:∃ mt,(aM s.prob).tab.length=mt:=⟨_,rfl⟩;obtain⟨me,Pp⟩:∃ me,(aM s.prob).ex.length=me:=⟨_,rfl⟩;rw[hmt,Pp]at HZ ⊢;clear h1 h2 eK mn nK cT pR hmt Pp;have hg:Below w1.heap.size w1 (w1.alloc (.cells #[.int .i64 s.prob.t.n,.int .i64 s.prob.t.ins,.int .i64 s.prob.t.outs,.slice qc nc kc,.int .i64 s.prob.a.n,.slice qs ns ks,.int .i64 s.prob.rounds,.int .i64 s.prob.t.n,.slice a3 mt c3,.slice a4 me c4] 35)):=by go_grown
 have HG:=aa hg;have tA:=ab (af hg dy.out);have tB:=ab (ak w1 (.cells #[.int .i64 s.prob.t.n,.int .i64 s.prob.t.ins,.int .i64 s.prob.t.outs,.slice qc nc kc,.int .i64 s.prob.a.n,.slice qs ns ks,.int .i64 s.prob.rounds,.int .i64 s.prob.t.n,.slice a3 mt c3,.slice a4 me c4] 35));clear hg
 go_wp2_with fail
 refine(wX.out _ (ae bC.out HG.out) _ _ _ _ (HZ.out.up HG.out)).mono ?_;rintro r w2 ⟨rfl,aV⟩;have cB:=aa (ae (ae bC.out HG.out) aV);clear aV tA tB wX;cases sb with
 | true=>
  go_wp2_with fail
  go_ret
  exact⟨aA (by rw[Aj.out];rfl),cB.out⟩
 | false=>
  go_wp2_with fail
  go_ret
  exact⟨aA (by rw[Aj.out];rfl),cB.out⟩
theorem DQ(tmps:Array Value) (B:Nat) (W:World) (c0 c1 c2 c3 c4 c5 c6 c7 c8 c9:Value) (h2:tmps[2]?.getD undef=.pointer (some ⟨B,0,none⟩))
  (hB:W.heap[B]?=some (.cells #[c0,c1,c2,c3,c4,c5,c6,c7,c8,c9] 35)) :
  (results Tryz.f35 tmps).run Tryz.prog W=.ok (.agg #[c0,c1,c2,c3,c4,c5,c6,c7,c8,c9]) W:=by
 have t2:=ab hB;simp[results,Tryz.results35,go_sem,h2,t2]
theorem Mk(p:Pb) (vc vs:Value) (w:World) (hc:bK w vc p.t.cases) (hs:bk w vs p.a.states) (hN:movesN p.a.states<2305843009213693952) (hf:tE p) (h0:buildE p=0) :
  Calls Tryz.prog 35 #[qi p vc vs] w fun r w'=>∃ vt ve,r=.returned (.agg (bE p vc vs p.t.n vt ve))/\Ga p vc vs vt ve w.heap.size w'/\Below w.heap.size w w':=by
 have GC:=aa hc;have GS:=aa hs;obtain⟨pc,cc,rfl,_⟩:=hc.at;obtain⟨ps,cs,rfl,_⟩:=hs.at;have xi:=aa (fun W (hb:Below w.heap.size w W)=>Ci p _ _ W (GC.out.up up_case hb) (GS.out.up up_moves hb) hN hf);have IK:Hid ((∀ W,Below w.heap.size w W->bK W (.slice pc p.t.cases.length cc) p.t.cases)/\∀ W,Below w.heap.size w W->bk W (.slice ps p.a.states.length cs) p.a.states):=aa ⟨fun W hb=>GC.out.up up_case hb,fun W hb=>GS.out.up up_moves hb⟩;unfold Ht at xi;rw[h0]at xi;clear hc hs hN hf h0 GC GS;unfold Ga at xi ⊢;obtain⟨nc,jO⟩:∃ nc,p.t.cases.length=nc:=⟨_,rfl⟩;obtain⟨ns,uL⟩:∃ ns,p.a.states.length=ns:=⟨_,rfl⟩;rw[jO,uL]at xi IK ⊢;clear jO uL
 go_enter Tryz.func35,Tryz.ntmps35
 go_wp2_with fail
 refine aL (fun W=>Below w.heap.size w W/\W.heap[w.heap.size+1]?=some (.cells zeroSys 35)) ⟨by go_grown,ba _ _ _⟩ (fun W0 aW=>?_);obtain⟨aC,gJ⟩:=aW;refine(xi.out W0 aC).mono ?_;rintro r w1 ⟨⟨c,rfl,h1,_⟩,aG⟩;obtain⟨vt,ve,rfl,⟨⟨at3,ct3,rfl⟩,ave,cve,rfl⟩,bX⟩:=h1 (by first|rfl|trivial);have yL:=aa bX;have bC:=aa (ae aC aG);have cX:=aa (af aG gJ);have eK:=ar gJ;obtain⟨nt,Jm⟩:∃ nt,(aM p).tab.length=nt:=⟨_,rfl⟩;obtain⟨ne,bM⟩:∃ ne,(aM p).ex.length=ne:=⟨_,rfl⟩;have Iw:=aa Jm;have gK:=aa bM;rw[Jm,bM]at yL ⊢;have fP:=ar cX.out;clear bX h1 aC aG gJ Jm bM xi;have te:=ab (ak w1 (.cells #[.int .i64 p.t.n,.int .i64 p.t.ins,.int .i64 p.t.outs,.slice pc nc cc,.int .i64 p.a.n,.slice ps ns cs,.int .i64 p.rounds,.int .i64 p.t.n,.slice at3 nt ct3,.slice ave ne cve] 35));have rx:Below w1.heap.size w1 (w1.alloc (.cells #[.int .i64 p.t.n,.int .i64 p.t.ins,.int .i64 p.t.outs,.slice pc nc cc,.int .i64 p.a.n,.slice ps ns cs,.int .i64 p.rounds,.int .i64 p.t.n,.slice at3 nt ct3,.slice ave ne cve] 35)):=by go_grown
 have Cv:=aa rx;have so:=aa (af rx cX.out);clear rx
 go_wp2_with (refine wpList_store_row rfl 35 (.tmp 2) (.tmp 10) rfl (w.heap.size+1) #[.int .i64 p.t.n,.int .i64 p.t.ins,.int .i64 p.t.outs,.slice pc nc cc,.int .i64 p.a.n,.slice ps ns cs,.int .i64 p.rounds,.int .i64 p.t.n,.slice at3 nt ct3,.slice ave ne cve] rfl rfl 35 _ so.out (by kernel_rfl) rfl (by simp[Value.oneCell']) ?_)
 refine bodyPost_ret (DQ _ (w.heap.size+1) _ _ _ _ _ _ _ _ _ _ _ rfl (setRow_heap _ _ _ _ _ _ so.out)) rfl ⟨.slice at3 nt ct3,.slice ave ne cve,rfl,⟨⟨⟨at3,ct3,by rw[Iw.out]⟩,ave,cve,by rw[gK.out]⟩,fun Wf Iv h1 h2=>yL.out Wf (fun k hk ku=>?_) h1 h2⟩,below_setRow (ae bC.out Cv.out) (by omega) _⟩;refine(Iv k (by omega) (Nat.lt_of_lt_of_le ku (Nat.le_trans Cv.out.size (below_setRow (Below.refl (w.heap.size+1) _) (Nat.le_refl _) _).size))).trans ?_;rw[setRow_other _ _ _ _ (by omega)];exact Cv.out.block k ku
abbrev Hv(p:Pb) (vc vs vt ve:Value):Value:=.agg #[.int .i64 p.t.n,.int .i64 p.t.ins,.int .i64 p.t.outs,vc,.int .i64 p.a.n,vs,.int .i64 p.rounds,.int .i64 p.t.n,vt,ve]
section
variable {p : Pb} {vc vs vt ve : Value} {w : World}
theorem OZ(b:CkB p) (hs:IsSys w (aM p) vc vs vt ve) {x:Int} {l:List Int} (h:valuesR (aM p) x=(l,0)) :
  Calls Tryz.prog 11 #[Hv p vc vs vt ve,.int .i64 x] w fun r w'=>∃ u,r=.returned (.tuple #[u,.int .i64 0])/\aY w' u l/\Below w.heap.size w w':=by
 have h1:=LY (aM p) x b.size vc vs vt ve w hs b.moves;rw[h]at h1;exact h1
theorem E0(b:CkB p) (hT:ii w) (hs:IsSys w (aM p) vc vs vt ve) {l:List Int} (h:choiceR (aM p)=(l,0)) :
  Calls Tryz.prog 13 #[Hv p vc vs vt ve] w fun r w'=>∃ u,r=.returned (.tuple #[u,.int .i64 0])/\aY w' u l/\Below w.heap.size w w':=by
 have h1:=LZ (aM p) b.size vc vs vt ve w hT hs b.moves;rw[h]at h1;exact h1
theorem U8(b:CkB p) (hT:ii w) (hs:IsSys w (aM p) vc vs vt ve) (h:(ruleR (aM p)).2=(true,0)) :
  Calls Tryz.prog 16 #[Hv p vc vs vt ve] w fun r w'=>∃ a n c,r=.returned (.tuple #[.agg #[.slice a n c],.bool true,.int .i64 0])/\Below w.heap.size w w':=by
 have h1:=OL (aM p) b.size vc vs vt ve w hT hs b.moves;rw[h]at h1;refine h1.mono ?_;rintro r w' ⟨u,rfl,hu,hb⟩;obtain⟨a,c,rfl,_⟩:=hu.at;exact⟨_,_,_,rfl,hb⟩
theorem U9(b:CkB p) (hT:ii w) (hs:IsSys w (aM p) vc vs vt ve) {l:List Lk} (h:findW (aM p)=(l,true,0)) :
  Calls Tryz.prog 18 #[Hv p vc vs vt ve] w fun r w'=>∃ u,r=.returned (.tuple #[.agg (fp 1 u),.bool true,.int .i64 0])/\aU w' u l/\Below w.heap.size w w':=by
 have h1:=OP (aM p) b.size vc vs vt ve w hT hs b.moves;rw[h]at h1;refine h1.mono ?_;rintro r w' ⟨⟨u,rfl,hu⟩,hb⟩;exact⟨u,rfl,hu,hb⟩
theorem E3(b:CkB p) (hs:IsSys w (aM p) vc vs vt ve) {l:List Lk} {vw:Value} {e:Int} (hw:aU w vw l) (h:certE (aM p) ⟨1,l,0,0,0⟩=e) :
  Calls Tryz.prog 24 #[Hv p vc vs vt ve,.agg (fp 1 vw)] w fun r w'=>r=.returned (.int .i64 e)/\Below w.heap.size w w':=by
 have h1:=Af (aM p) b.size vc vs vt ve vw ⟨1,l,0,0,0⟩ none 0 none 0 none 0 w hs b.moves hw;rw[h]at h1;exact h1
theorem Ml(b:CkB p) (hT:ii w) (hs:IsSys w (aM p) vc vs vt ve) {l m:List Lk} {vw:Value} (hw:aU w vw l) (h:shortR (aM p) ⟨1,l,0,0,0⟩=(m,0)) :
  Calls Tryz.prog 22 #[Hv p vc vs vt ve,.agg (fp 1 vw)] w fun r w'=>∃ u,r=.returned (.tuple #[.agg (fp 1 u),.int .i64 0])/\aU w' u m/\Below w.heap.size w w':=by
 have h1:=yo (aM p) b.size vc vs vt ve vw ⟨1,l,0,0,0⟩ none 0 none 0 none 0 w hT hs b.moves hw;rw[h]at h1;refine h1.mono ?_;rintro r w' ⟨⟨u,rfl,hu⟩,hb⟩;exact⟨u,rfl,hu,hb⟩
end
theorem O0{w:World} {b:Nat} {gs:List (Int × Int)} {l:List Value} (h:w.heap[b]?=some (.cells l.toArray 92)) (hl:l=gs.flatMap fun h=>[.int .i64 h.1,.int .i64 h.2]):∀ i (hi:i<gs.length),w.cell? ⟨b,i * 2,none⟩=some (.int .i64 gs[i].1)/\w.cell? ⟨b,i * 2+1,none⟩=some (.int .i64 gs[i].2):=by
 intro i hi;rw[ab h,ab h,hl]
 have key:∀ (gs:List (Int × Int)) (i:Nat) (hi:i<gs.length),(gs.flatMap fun h=>[Value.int .i64 h.1,.int .i64 h.2])[i * 2]?=some (.int .i64 gs[i].1)/\(gs.flatMap fun h=>[Value.int .i64 h.1,.int .i64 h.2])[i * 2+1]?=some (.int .i64 gs[i].2):=by
  intro gs;induction gs with
  | nil=>intro i hi;simp at hi
  | cons a r ih=>
   intro i hi;cases i with
   | zero=>simp
   | succ i=>
    have h2:=ih i (by simpa using hi);simp only[List.flatMap_cons,List.getElem_cons_succ];rw[show (i+1) * 2=i * 2+1+1 by omega];simpa using h2
 have:=key gs i hi;simpa using this
theorem ck_few1:tE (qj 1 [(1,3),(3,3)]):=fun _=>.inl (by decide +kernel)
theorem ck_few2:tE (qj 0 [(3,3)]):=fun _=>.inl (by decide +kernel)
theorem ck_few3:tE (qj 1 [(1,3),(3,2),(3,3)]):=fun _=>.inl (by decide +kernel)
def O1(p:Pb) (pc ps:Option Addr) (nc cc ns cs:Nat) (w:World):Prop:=Calls Tryz.prog 35 #[qi p (.slice pc nc cc) (.slice ps ns cs)] w fun r w'=>∃ pt pe:Option Addr,∃ ct ce nt ne:Nat,r=.returned (Hv p (.slice pc nc cc) (.slice ps ns cs) (.slice pt nt ct) (.slice pe ne ce))/\(∀ Wf:World,(∀ k,w.heap.size<=k->k<w'.heap.size->Wf.heap[k]?=w'.heap[k]?)->bK Wf (.slice pc nc cc) p.t.cases->bk Wf (.slice ps ns cs) p.a.states->IsSys Wf (aM p) (.slice pc nc cc) (.slice ps ns cs) (.slice pt nt ct) (.slice pe ne ce))/\Below w.heap.size w w'
theorem Bc{p:Pb} (b:CkB p) (hf:tE p) (pc ps:Option Addr) (nc cc ns cs:Nat) (w:World) (hc:bK w (.slice pc nc cc) p.t.cases) (hs:bk w (.slice ps ns cs) p.a.states):O1 p pc ps nc cc ns cs w:=by
 have hm:=b.moves;refine(Mk p _ _ w hc hs (by omega) hf b.few).mono ?_;rintro r w' ⟨vt,ve,rfl,⟨⟨⟨pt,ct,rfl⟩,pe,ce,rfl⟩,bX⟩,hb⟩;exact⟨_,_,_,_,_,_,rfl,bX,hb⟩
def O2(p:Pb) (rounds:Int) (n b:Nat) (w:World):Prop:=Calls Tryz.prog 36 #[.int .i64 rounds,.slice (some ⟨b,0,none⟩) n n] w fun r w'=>∃ pc ps:Option Addr,∃ cc cs nc ns:Nat,r=.returned (qi p (.slice pc nc cc) (.slice ps ns cs))/\(∀ Wf:World,(∀ k,w.heap.size<=k->k<w'.heap.size->Wf.heap[k]?=w'.heap[k]?)->bK Wf (.slice pc nc cc) p.t.cases/\bk Wf (.slice ps ns cs) p.a.states)/\Below w.heap.size w w'
theorem DR(rounds:Int) (gs:List (Int × Int)) (n:Nat) (hl:gs.length=n) (hn:n<=100) (cP:∀ h∈gs,bI h.1/\bI h.2) (b:Nat) (w:World) (l:List Value) (h:w.heap[b]?=some (.cells l.toArray 92)) (he:l=gs.flatMap fun h=>[.int .i64 h.1,.int .i64 h.2]):O2 (qj rounds gs) rounds n b w:=by
 refine(N2 rounds gs n hl hn cP b w (O0 h he)).mono ?_;rintro r w' ⟨vc,vs,rfl,jv,hb⟩;obtain⟨hc,hs⟩:=jv w' (fun _ _ _=>rfl);obtain⟨pc,cc,rfl,_⟩:=hc.at;obtain⟨ps,cs,rfl,_⟩:=hs.at;exact⟨_,_,_,_,_,_,rfl,jv,hb⟩
theorem Mm(gs:List (Int × Int)) (h:gs.all (fun x=>decide (0<=x.1/\x.1<100/\0<=x.2/\x.2<100))=true):∀ h∈gs,bI h.1/\bI h.2:=fun x hx=>by
 have:=of_decide_eq_true (List.all_eq_true.1 h x hx);exact⟨⟨by omega,by omega⟩,by omega,by omega⟩
def XO(n:Nat) (l:List Int):MP:=⟨fun x W=>∃ i,x=.slice (some ⟨i,0,none⟩) n n/\W.heap[i]?=some (.cells (bJ l) 3),fun _ _ _ h hb=>by obtain⟨i,e,h⟩:=h;exact⟨i,e,af hb h⟩⟩
theorem xC_nine:xC 9 (-1) 9=bJ (List.replicate 9 (-1)):=by unfold xC;rw[q7];simp[List.map_const']
theorem Hw{W:World} {b:Nat} (h:W.heap[b]?=some (.cells #[.int .i64 0,.int .i64 (-1),.int .i64 1,.int .i64 0,.int .i64 2,.int .i64 1] 75)):aU W (.slice (some ⟨b,0,none⟩) 3 3) ckW:=by
 have t:=ab h;refine⟨some ⟨b,0,none⟩,3,rfl,⟨by simp[ckW],by omega,fun e=>by cases e⟩,by simp[ckW],fun i x hx=>⟨b,0,rfl,?_⟩⟩;obtain⟨hi,rfl⟩:=List.getElem?_eq_some_iff.1 hx;have z:∀ x:Int,-2<x->x<100->bI x:=fun x h1 h2=>⟨by omega,by omega⟩
 rcases (show i=0\/i=1\/i=2 by simp[ckW]at hi;omega) with rfl|rfl|rfl
 ·exact⟨⟨t 0,z _ (by simp[ckW]) (by simp[ckW])⟩,t 1,z _ (by simp[ckW]) (by simp[ckW])⟩
 ·exact⟨⟨t 2,z _ (by simp[ckW]) (by simp[ckW])⟩,t 3,z _ (by simp[ckW]) (by simp[ckW])⟩
 ·exact⟨⟨t 4,z _ (by simp[ckW]) (by simp[ckW])⟩,t 5,z _ (by simp[ckW]) (by simp[ckW])⟩
theorem Hx(w:World) (hT:ii w):Calls Tryz.prog 10 #[] w fun r w'=>r=.returned (.bool true)/\Below w.heap.size w w':=by
 have HT:=aa hT;have si:=aa ck1_b;have lA:=aa ck2_b;have yy:=aa ck3_b;clear hT;obtain⟨p1,sM⟩:∃ p,p=qj 1 [(1,3),(3,3)]:=⟨_,rfl⟩;rw[<-sM]at si;have RW:Hid (∀ pc ps nc cc ns cs w,bK w (.slice pc nc cc) p1.t.cases->bk w (.slice ps ns cs) p1.a.states->O1 p1 pc ps nc cc ns cs w):=aa (Bc si.out (by rw[sM];exact ck_few1));have SC:Hid (∀ (W:World) b,W.heap[b]?=some (.cells #[.int .i64 1,.int .i64 3,.int .i64 3,.int .i64 3] 92)->O2 p1 1 2 b W):=aa (by rw[sM];exact fun W b h=>DR 1 [(1,3),(3,3)] 2 rfl (by omega) (Mm _ (by decide)) b W [.int .i64 1,.int .i64 3,.int .i64 3,.int .i64 3] h rfl);have nK:Hid (valuesR (aM p1) 3=([0,1],0)):=aa (by rw[sM];exact ck1_vals);have Wz:Hid (choiceR (aM p1)=([0,0,0,0,1,1],0)):=aa (by rw[sM];exact ck1_choice);have cX:Hid ((ruleR (aM p1)).2=(true,0)):=aa (by rw[sM];exact ck1_rule);obtain⟨p2,yU⟩:∃ p,p=qj 0 [(3,3)]:=⟨_,rfl⟩;rw[<-yU]at lA;have RH:Hid (∀ pc ps nc cc ns cs w,bK w (.slice pc nc cc) p2.t.cases->bk w (.slice ps ns cs) p2.a.states->O1 p2 pc ps nc cc ns cs w):=aa (Bc lA.out (by rw[yU];exact ck_few2));have RN:Hid (∀ (W:World) b,W.heap[b]?=some (.cells #[.int .i64 3,.int .i64 3] 92)->O2 p2 0 1 b W):=aa (by rw[yU];exact fun W b h=>DR 0 [(3,3)] 1 rfl (by omega) (Mm _ (by decide)) b W [.int .i64 3,.int .i64 3] h rfl);have wI:Hid (findW (aM p2)=(ckW,true,0)):=aa (by rw[yU];exact ck2_find);have kx:Hid (certE (aM p2) ⟨1,ckW,0,0,0⟩=0):=aa (by rw[yU];exact ck2_cert);have eU:Hid (shortR (aM p2) ⟨1,ckW,0,0,0⟩=(ckW,0)):=aa (by rw[yU];exact ck2_short);have rf:Hid (certE (aM p2) ⟨1,ckW.take 2,0,0,0⟩=18):=aa (by rw[yU];exact ck2_not);obtain⟨p3,Fj⟩:∃ p,p=qj 1 [(1,3),(3,2),(3,3)]:=⟨_,rfl⟩;rw[<-Fj]at yy;have R0:Hid (∀ pc ps nc cc ns cs w,bK w (.slice pc nc cc) p3.t.cases->bk w (.slice ps ns cs) p3.a.states->O1 p3 pc ps nc cc ns cs w):=aa (Bc yy.out (by rw[Fj];exact ck_few3))
 have RI:Hid (∀ (W:World) b,W.heap[b]?=some (.cells #[.int .i64 1,.int .i64 3,.int .i64 3,.int .i64 2,.int .i64 3,.int .i64 3] 92)->O2 p3 1 3 b W):=aa (by rw[Fj];exact fun W b h=>DR 1 [(1,3),(3,2),(3,3)] 3 rfl (by omega) (Mm _ (by decide)) b W [.int .i64 1,.int .i64 3,.int .i64 3,.int .i64 2,.int .i64 3,.int .i64 3] h rfl);have HH3:Hid (choiceR (aM p3)=(List.replicate 9 (-1),0)):=aa (by rw[Fj];exact ck3_choice);clear sM yU Fj;unfold O1 at RW RH R0;unfold O2 at SC RN RI
 go_enter Tryz.func10,Tryz.ntmps10
 go_wp2_with fail
 refine aL (fun W=>Below w.heap.size w W/\W.heap[w.heap.size]?=some (.cells #[.int .i64 1,.int .i64 3,.int .i64 3,.int .i64 3] 92)) ⟨by go_grown,ak _ _⟩ (fun W0 aW=>?_);refine(SC.out W0 _ aW.2).mono ?_;rintro r w1 ⟨pc,ps,cc,cs,nc,ns,rfl,jv,aG⟩;have wm:=aa (ae aW.1 aG);have nq:=aa (jv w1 (fun _ _ _=>rfl));have HK:=aa (RW.out _ _ _ _ _ _ w1 nq.out.1 nq.out.2);clear aG aW jv RW SC
 go_wp2_with fail
 refine HK.out.mono ?_;rintro r w2 ⟨pt,pe,ct,ce,nt,ne,rfl,bX,aV⟩;have pJ:=aa (bX w2 (fun _ _ _=>rfl) (nq.out.1.up up_case aV) (nq.out.2.up up_moves aV));have MH:=aa (ae wm.out aV);clear bX aV HK nq;have tb:=ab (ak w2 (.cells #[.int .i64 p1.t.n,.int .i64 p1.t.ins,.int .i64 p1.t.outs,.slice pc nc cc,.int .i64 p1.a.n,.slice ps ns cs,.int .i64 p1.rounds,.int .i64 p1.t.n,.slice pt nt ct,.slice pe ne ce] 35))
 go_wp2_with fail
 clear tb;refine aL (fun W=>Below w2.heap.size w2 W/\W.heap[w2.heap.size]?=some (.cells #[.int .i64 p1.t.n,.int .i64 p1.t.ins,.int .i64 p1.t.outs,.slice pc nc cc,.int .i64 p1.a.n,.slice ps ns cs,.int .i64 p1.rounds,.int .i64 p1.t.n,.slice pt nt ct,.slice pe ne ce] 35)) ⟨by go_grown,ak _ _⟩ (fun W3 ru=>?_);have dP:=aa (ae MH.out ru.1);have iW:=aa ru.2;have Az:=aa (pJ.out.up ru.1);have iL:=MH.out.size;clear ru pJ;refine(OZ si.out Az.out nK.out).mono ?_;rintro r w4 ⟨u4,rfl,pO,cg⟩;obtain⟨a4,n4,c4,rfl⟩:∃ a n c,u4=.slice a n c:=by obtain⟨a,c,e,_⟩:=pO.at;exact⟨_,_,_,e⟩
 have uG:=aa pO;have fe:=aa (ae dP.out cg);have la:=aa (af cg iW.out);have K0:=aa (Az.out.up cg);have tb:=ab la.out;clear pO cg iW Az
 go_wp2_with fail
 clear tb;refine(E0 si.out (HT.out.up fe.out) K0.out Wz.out).mono ?_;rintro r w5 ⟨u5,rfl,kY,dO⟩;obtain⟨a5,n5,c5,rfl⟩:∃ a n c,u5=.slice a n c:=by obtain⟨a,c,e,_⟩:=kY.at;exact⟨_,_,_,e⟩
 have KS:=aa kY;have uG:=aa (uG.out.up up_int dO);have iy:=aa (ae fe.out dO);have H7:=aa (af dO la.out);have Pd:=aa (K0.out.up dO);have tb:=ab H7.out;clear kY dO la K0
 go_wp2_with fail
 clear tb;refine(U8 si.out (HT.out.up iy.out) Pd.out cX.out).mono ?_;rintro r w6 ⟨a6,n6,c6,rfl,gx⟩;have KS:=aa (KS.out.up up_int gx);have uG:=aa (uG.out.up up_int gx);have lO:=aa (ae iy.out gx);have WU:=aa (af gx H7.out);have Tu:=ar WU.out;clear gx H7 Pd
 go_wp2_with fail
 refine aL (fun W=>Below w6.heap.size w6 W/\W.heap[w6.heap.size+1]?=some (.cells (bJ [0,1]) 3)) ⟨by go_grown,ba _ _ _⟩ (fun W7 sL=>?_);refine(je _ _ [0,1] [0,1] W7 (uG.out.up up_int sL.1) (ib [0,1] sL.2 (by decide) (by decide))).mono ?_;rintro r w7 ⟨rfl,CM⟩;rw[show eqV [0,1] [0,1]=true by decide];have MW:=ae sL.1 CM;have KS:=aa (KS.out.up up_int MW);have HB7:=aa (ae lO.out MW);have KQ:=aa (af MW WU.out);clear CM MW sL WU uG
 go_wp2_with fail
 refine aL (fun W=>Below w7.heap.size w7 W/\W.heap[w7.heap.size]?=some (.cells (bJ [0,0,0,0,1,1]) 3)) ⟨by go_grown,ak _ _⟩ (fun W8 nW=>?_);refine(je _ _ [0,0,0,0,1,1] [0,0,0,0,1,1] W8 (KS.out.up up_int nW.1) (ib [0,0,0,0,1,1] nW.2 (by decide) (by decide))).mono ?_;rintro r w8 ⟨rfl,I9⟩;rw[show eqV [0,0,0,0,1,1] [0,0,0,0,1,1]=true by decide];have RP:=ae nW.1 I9;have HB8:=aa (ae HB7.out RP);have Xc:=aa (af RP KQ.out);clear I9 RP nW KQ KS
 go_wp2_with fail
 refine aL (fun W=>Below w8.heap.size w8 W/\W.heap[w8.heap.size]?=some (.cells #[.int .i64 3,.int .i64 3] 92)) ⟨by go_grown,ak _ _⟩ (fun W9 hW9=>?_);refine(RN.out W9 _ hW9.2).mono ?_;rintro r w9 ⟨pc2,ps2,cc2,cs2,nc2,ns2,rfl,jv,eN⟩;have C':=af (ae hW9.1 eN) Xc.out;have hsz9:=hW9.1.size;have h28:=ar Xc.out;have yG:=aa C';have eO:=aa (ae HB8.out (ae hW9.1 eN));have Sd:=jv w9 (fun _ _ _=>rfl);have HK:=aa (RH.out _ _ _ _ _ _ w9 Sd.1 Sd.2);have nq:=aa jv;have hsz99:=eN.size;clear eN hW9 jv Sd RH RN C' Xc
 go_wp2_with fail
 refine HK.out.mono ?_;rintro r w10 ⟨pt2,pe2,ct2,ce2,nt2,ne2,rfl,bX,rD⟩;have Bl:=aa (af rD yG.out);have Si:=aa (ae eO.out rD)
 have HF10:Hid (Below w.heap.size w (w10.setRow w2.heap.size #[.int .i64 p2.t.n,.int .i64 p2.t.ins,.int .i64 p2.t.outs,.slice pc2 nc2 cc2,.int .i64 p2.a.n,.slice ps2 ns2 cs2,.int .i64 p2.rounds,.int .i64 p2.t.n,.slice pt2 nt2 ct2,.slice pe2 ne2 ce2])/\(w10.setRow w2.heap.size #[.int .i64 p2.t.n,.int .i64 p2.t.ins,.int .i64 p2.t.outs,.slice pc2 nc2 cc2,.int .i64 p2.a.n,.slice ps2 ns2 cs2,.int .i64 p2.rounds,.int .i64 p2.t.n,.slice pt2 nt2 ct2,.slice pe2 ne2 ce2]).heap[w2.heap.size]?=some (.cells #[.int .i64 p2.t.n,.int .i64 p2.t.ins,.int .i64 p2.t.outs,.slice pc2 nc2 cc2,.int .i64 p2.a.n,.slice ps2 ns2 cs2,.int .i64 p2.rounds,.int .i64 p2.t.n,.slice pt2 nt2 ct2,.slice pe2 ne2 ce2] 35)/\IsSys (w10.setRow w2.heap.size #[.int .i64 p2.t.n,.int .i64 p2.t.ins,.int .i64 p2.t.outs,.slice pc2 nc2 cc2,.int .i64 p2.a.n,.slice ps2 ns2 cs2,.int .i64 p2.rounds,.int .i64 p2.t.n,.slice pt2 nt2 ct2,.slice pe2 ne2 ce2]) (aM p2) (.slice pc2 nc2 cc2) (.slice ps2 ns2 cs2) (.slice pt2 nt2 ct2) (.slice pe2 ne2 ce2)):=aa (by
  have bM:∀ k,k≠w2.heap.size->(w10.setRow w2.heap.size #[.int .i64 p2.t.n,.int .i64 p2.t.ins,.int .i64 p2.t.outs,.slice pc2 nc2 cc2,.int .i64 p2.a.n,.slice ps2 ns2 cs2,.int .i64 p2.rounds,.int .i64 p2.t.n,.slice pt2 nt2 ct2,.slice pe2 ne2 ce2]).heap[k]?=w10.heap[k]?:=fun k hk=>setRow_other _ _ _ _ hk
  have Na:=nq.out (w10.setRow w2.heap.size #[.int .i64 p2.t.n,.int .i64 p2.t.ins,.int .i64 p2.t.outs,.slice pc2 nc2 cc2,.int .i64 p2.a.n,.slice ps2 ns2 cs2,.int .i64 p2.rounds,.int .i64 p2.t.n,.slice pt2 nt2 ct2,.slice pe2 ne2 ce2]) (fun k h1 h2=>(bM k (by omega)).trans (rD.block k h2))
  exact⟨below_setRow Si.out (by omega) _,setRow_heap _ _ _ _ _ _ Bl.out,bX _ (fun k h1 h2=>bM k (by omega)) Na.1 Na.2⟩)
 clear bX rD HK nq yG
 go_wp2_with (refine wpList_store_row rfl 35 (.tmp 1) (.tmp 60) rfl w2.heap.size #[.int .i64 p2.t.n,.int .i64 p2.t.ins,.int .i64 p2.t.outs,.slice pc2 nc2 cc2,.int .i64 p2.a.n,.slice ps2 ns2 cs2,.int .i64 p2.rounds,.int .i64 p2.t.n,.slice pt2 nt2 ct2,.slice pe2 ne2 ce2] rfl rfl 35 _ Bl.out (by kernel_rfl) rfl (by simp[Value.oneCell']) (gD (fun W=>Below w.heap.size w W/\W.heap[w2.heap.size]?=some (.cells #[.int .i64 p2.t.n,.int .i64 p2.t.ins,.int .i64 p2.t.outs,.slice pc2 nc2 cc2,.int .i64 p2.a.n,.slice ps2 ns2 cs2,.int .i64 p2.rounds,.int .i64 p2.t.n,.slice pt2 nt2 ct2,.slice pe2 ne2 ce2] 35)/\IsSys W (aM p2) (.slice pc2 nc2 cc2) (.slice ps2 ns2 cs2) (.slice pt2 nt2 ct2) (.slice pe2 ne2 ce2)) HF10.out ?_);intro W11 MO;have HB11:=aa MO.1;have Sh:=aa MO.2.1;have Sk:=aa MO.2.2;clear MO HF10;have tb:=ab Sh.out)
 clear tb;refine(U9 lA.out (HT.out.up HB11.out) Sk.out wI.out).mono ?_;rintro r w12 ⟨u12,rfl,RT,My⟩;obtain⟨a12,n12,c12,rfl⟩:∃ a n c,u12=.slice a n c:=by obtain⟨a,c,e,_⟩:=RT.at;exact⟨_,_,_,e⟩
 have HU12:=aa RT;have HB12:=aa (ae HB11.out My);have R6:=aa (af My Sh.out);have HS12:=aa (Sk.out.up My);have hs12:=ar R6.out;clear RT My Sh Sk;have tb1:=fun o1 o2=>ab (am o2 (am o1 (ak w12 (.cells #[.int .i64 1,.slice a12 n12 c12,.slice none 0 0,.slice none 0 0,.slice none 0 0] 58))))
 have tb2:=fun o1 o2=>ab (ba (w12.alloc o1) o2 (.cells #[.int .i64 1,.slice (some ⟨w12.heap.size+1,0,none⟩) 3 3,.slice none 0 0,.slice none 0 0,.slice none 0 0] 58))
 simp only[World.size_alloc]at tb2
 go_wp2_with fail
 clear tb1 tb2;refine aL (fun W=>Below w12.heap.size w12 W/\W.heap[w12.heap.size]?=some (.cells #[.int .i64 1,.slice a12 n12 c12,.slice none 0 0,.slice none 0 0,.slice none 0 0] 58)/\W.heap[w12.heap.size+1]?=some (.cells #[.int .i64 0,.int .i64 (-1),.int .i64 1,.int .i64 0,.int .i64 2,.int .i64 1] 75)/\W.heap[w12.heap.size+1+1]?=some (.cells #[.int .i64 1,.slice (some ⟨w12.heap.size+1,0,none⟩) 3 3,.slice none 0 0,.slice none 0 0,.slice none 0 0] 58)) ⟨by go_grown,am _ (am _ (ak _ _)),am _ (ba _ _ _),dH _ _ _ _⟩ (fun W13 hW13=>?_);refine(v7 1 ckW _ _ none none none none none none 0 0 0 0 0 0 W13 (HU12.out.up up_link hW13.1) (Hw hW13.2.2.1)).mono ?_;rintro r w13 ⟨rfl,MM⟩;have Ge:=ae hW13.1 MM;have HB13:=aa (ae HB12.out Ge);have DT:=aa (af Ge R6.out);have Ry:=aa (HS12.out.up Ge);have SE:=aa (Hw (af MM hW13.2.2.1));have R5:=aa (af MM hW13.2.2.2);have tb:=ab DT.out;have tc:=ab R5.out;clear hW13 MM Ge R6 HS12 HU12
 go_wp2_with fail
 clear tb tc;refine(E3 lA.out Ry.out SE.out kx.out).mono ?_;rintro r w14 ⟨rfl,DZ⟩;have HB14:=aa (ae HB13.out DZ);have Eb:=aa (af DZ DT.out);have Sc:=aa (Ry.out.up DZ);have Sv:=aa (SE.out.up up_link DZ);have R4:=aa (af DZ R5.out);have tb:=ab Eb.out;have tc:=ab R4.out;clear DZ DT Ry SE R5
 go_wp2_with fail
 clear tb tc;refine(Ml lA.out (HT.out.up HB14.out) Sc.out Sv.out eU.out).mono ?_;rintro r w15 ⟨u15,rfl,Sa,D6⟩;obtain⟨a15,n15,c15,rfl⟩:∃ a n c,u15=.slice a n c:=by obtain⟨a,c,e,_⟩:=Sa.at;exact⟨_,_,_,e⟩
 have HU15:=aa Sa;have HB15:=aa (ae HB14.out D6);have HX15:=aa (af D6 Eb.out);have HS15:=aa (Sc.out.up D6);have HL15:=aa (Sv.out.up up_link D6);have HT15:=aa (af D6 R4.out);clear D6 Sa Eb Sc Sv R4
 go_wp2_with fail
 refine aL (fun W=>Below w15.heap.size w15 W/\W.heap[w15.heap.size]?=some (.cells #[.int .i64 1,.slice a15 n15 c15,.slice none 0 0,.slice none 0 0,.slice none 0 0] 58)/\W.heap[w15.heap.size+1]?=some (.cells #[.int .i64 1,.int .i64 3,.int .i64 3,.int .i64 2,.int .i64 3,.int .i64 3] 92)) ⟨by go_grown,am _ (ak _ _),ba _ _ _⟩ (fun W16 hW16=>?_);refine(RI.out W16 _ hW16.2.2).mono ?_;rintro r w16 ⟨pc3,ps3,cc3,cs3,nc3,ns3,rfl,jv,R8⟩;have wl:=ae hW16.1 R8;have nq:=aa (jv w16 (fun _ _ _=>rfl));have HK:=aa (R0.out _ _ _ _ _ _ w16 nq.out.1 nq.out.2);have HB16:=aa (ae HB15.out wl);have HX16:=aa (af wl HX15.out);have HS16:=aa (HS15.out.up wl);have HL16:=aa (HL15.out.up up_link wl);have HT16:=aa (af wl HT15.out);have HU16:=aa (HU15.out.up up_link wl);have HD16:=aa (af R8 hW16.2.1);clear hW16 R8 wl jv R0 RI HX15 HS15 HL15 HT15 HU15
 go_wp2_with fail
 refine HK.out.mono ?_;rintro r w17 ⟨pt3,pe3,ct3,ce3,nt3,ne3,rfl,bX,tJ⟩;have Az:=aa (bX w17 (fun _ _ _=>rfl) (nq.out.1.up up_case tJ) (nq.out.2.up up_moves tJ));have HB17:=aa (ae HB16.out tJ);have HX17:=aa (af tJ HX16.out);have HS17:=aa (HS16.out.up tJ);have HL17:=aa (HL16.out.up up_link tJ);have HT17:=aa (af tJ HT16.out);have HU17:=aa (HU16.out.up up_link tJ);have HD17:=aa (af tJ HD16.out);clear bX tJ HK nq HX16 HS16 HL16 HT16 HU16 HD16;have tb:=ab (ak w17 (.cells #[.int .i64 p3.t.n,.int .i64 p3.t.ins,.int .i64 p3.t.outs,.slice pc3 nc3 cc3,.int .i64 p3.a.n,.slice ps3 ns3 cs3,.int .i64 p3.rounds,.int .i64 p3.t.n,.slice pt3 nt3 ct3,.slice pe3 ne3 ce3] 35))
 go_wp2_with fail
 clear tb;refine aL (fun W=>Below w17.heap.size w17 W) (by go_grown) (fun W18 hW18=>?_);refine(E0 yy.out (HT.out.up (ae HB17.out hW18)) (Az.out.up hW18) HH3.out).mono ?_;rintro r w18 ⟨u18,rfl,SD,hb18⟩;obtain⟨a18,n18,c18,rfl⟩:∃ a n c,u18=.slice a n c:=by obtain⟨a,c,e,_⟩:=SD.at;exact⟨_,_,_,e⟩
 have sF:=ae hW18 hb18;have HV18:=aa SD;have HB18:=aa (ae HB17.out sF);have HX18:=aa (af sF HX17.out);have HS18:=aa (HS17.out.up sF);have HL18:=aa (HL17.out.up up_link sF);have HT18:=aa (af sF HT17.out);have HU18:=aa (HU17.out.up up_link sF);have HD18:=aa (af sF HD17.out);clear hW18 hb18 sF SD HX17 HS17 HL17 HT17 HU17 HD17 Az
 go_wp2_with fail
 have hS:List.Nodup [107,108,109,110,111,112,113,114,115,116,117,118,119,120,121,122,123,124,125,126,127,128,129,130,0]:=by decide
 refine wC 25 [107,108,109,110,111,112,113,114,115,116,117,118,119,120,121,122,123,124,125,126,127,128,129,130,0] [MP.eq (.int .i64 0),MP.eq (.int .i64 0),MP.eq (.int .i64 0),MP.eq (.bool true),MP.eq (.bool true),MP.eq (.agg #[.int .i64 1,.slice a15 n15 c15,.slice none 0 0,.slice none 0 0,.slice none 0 0]),MP.eq (.agg #[.int .i64 1,.slice (some ⟨w12.heap.size+1,0,none⟩) 3 3,.slice none 0 0,.slice none 0 0,.slice none 0 0]),MP.eq (.bool true),MP.eq (.bool true),MP.eq (.bool true),MP.eq (.slice a18 n18 c18),XO 1 [-1],XO 9 (List.replicate 9 (-1)),MP.eq (.bool true),MP.eq (.bool true),MP.eq (.bool true),MP.eq (.agg #[.int .i64 p2.t.n,.int .i64 p2.t.ins,.int .i64 p2.t.outs,.slice pc2 nc2 cc2,.int .i64 p2.a.n,.slice ps2 ns2 cs2,.int .i64 p2.rounds,.int .i64 p2.t.n,.slice pt2 nt2 ct2,.slice pe2 ne2 ce2]),MP.eq (.pointer (some ⟨w12.heap.size+1+1,1,none⟩)),MP.eq (.slice (some ⟨w12.heap.size+1,0,none⟩) 3 3),MP.eq (.slice (some ⟨w12.heap.size+1,0,none⟩) 2 3),MP.eq (.agg #[.int .i64 1,.slice (some ⟨w12.heap.size+1,0,none⟩) 2 3,.slice none 0 0,.slice none 0 0,.slice none 0 0]),MP.eq (.int .i64 18),MP.eq (.bool true),MP.eq (.bool true),MP.eq (.bool true)] (by kernel_rfl) rfl hS rfl (by kernel_rfl) ?step ?tail
 case step=>
  intro x W i o s F hi ho hs hB aj hF;rcases (show i=0\/i=1\/i=2\/i=3\/i=4\/i=5\/i=6\/i=7\/i=8\/i=9\/i=10\/i=11\/i=12\/i=13\/i=14\/i=15\/i=16\/i=17\/i=18\/i=19\/i=20\/i=21\/i=22\/i=23\/i=24 by omega) with rfl|rfl|rfl|rfl|rfl|rfl|rfl|rfl|rfl|rfl|rfl|rfl|rfl|rfl|rfl|rfl|rfl|rfl|rfl|rfl|rfl|rfl|rfl|rfl|rfl
  all_goals (obtain rfl:=cU ho.symm;obtain rfl:=cU hs.symm;clear hi ho hs)
  ·obtain⟨g3,h3⟩:=bT hF 3 (.int .i64 0) (by decide) rfl
   clear hF aj
   go_wp2_with fail
   exact aQ.mk (.int .i64 0) (Below.refl _ _) rfl rfl
  ·obtain⟨g5,h5⟩:=bT hF 5 (.int .i64 0) (by decide) rfl
   clear hF aj
   go_wp2_with fail
   exact aQ.mk (.int .i64 0) (Below.refl _ _) rfl rfl
  ·obtain⟨e0,f0⟩:=aJ hF 0 107 (.int .i64 0) hS rfl (by kernel_rfl) (aj ⟨0,.data⟩ (by simp) rfl)
   obtain⟨e1,f1⟩:=aJ hF 1 108 (.int .i64 0) hS rfl (by kernel_rfl) (aj ⟨1,.data⟩ (by simp) rfl);clear hF aj
   go_wp2_with fail
   exact aQ.mk (.int .i64 0) (Below.refl _ _) rfl rfl
  ·obtain⟨e2,f2⟩:=aJ hF 2 109 (.int .i64 0) hS rfl (by kernel_rfl) (aj ⟨2,.data⟩ (by simp) rfl)
   clear hF aj
   go_wp2_with fail
   exact aQ.mk (.bool true) (Below.refl _ _) rfl rfl
  ·obtain⟨e3,f3⟩:=aJ hF 3 110 (.bool true) hS rfl (by kernel_rfl) (aj ⟨3,.data⟩ (by simp) rfl)
   clear hF aj
   go_wp2_with fail
   exact aQ.mk (.bool true) (Below.refl _ _) rfl rfl
  ·obtain⟨g11,Ta⟩:=bT hF 11 (.pointer (some ⟨w15.heap.size,0,none⟩)) (by decide) rfl
   have m4:=cY hF 4 111 (.bool true) hS rfl (by kernel_rfl) (aj ⟨4,.guard⟩ (by simp) rfl);have tb:=ab (af hB HD18.out);clear hF aj
   go_wp2_with fail
   exact aQ.mk (.agg #[.int .i64 1,.slice a15 n15 c15,.slice none 0 0,.slice none 0 0,.slice none 0 0]) (Below.refl _ _) rfl rfl
  ·obtain⟨g10,CQ⟩:=bT hF 10 (.pointer (some ⟨w12.heap.size+1+1,0,none⟩)) (by decide) rfl
   have m4:=cY hF 4 111 (.bool true) hS rfl (by kernel_rfl) (aj ⟨4,.guard⟩ (by simp) rfl);have tb:=ab (af hB HT18.out);clear hF aj
   go_wp2_with fail
   exact aQ.mk (.agg #[.int .i64 1,.slice (some ⟨w12.heap.size+1,0,none⟩) 3 3,.slice none 0 0,.slice none 0 0,.slice none 0 0]) (Below.refl _ _) rfl rfl
  ·obtain⟨e5,f5⟩:=aJ hF 5 112 (.agg #[.int .i64 1,.slice a15 n15 c15,.slice none 0 0,.slice none 0 0,.slice none 0 0]) hS rfl (by kernel_rfl) (aj ⟨5,.data⟩ (by simp) rfl)
   obtain⟨e6,f6⟩:=aJ hF 6 113 (.agg #[.int .i64 1,.slice (some ⟨w12.heap.size+1,0,none⟩) 3 3,.slice none 0 0,.slice none 0 0,.slice none 0 0]) hS rfl (by kernel_rfl) (aj ⟨6,.data⟩ (by simp) rfl);have m4:=cY hF 4 111 (.bool true) hS rfl (by kernel_rfl) (aj ⟨4,.guard⟩ (by simp) rfl);clear hF aj
   go_wp2_with fail
   refine(v7 1 ckW _ _ none none none none none none 0 0 0 0 0 0 W (HU18.out.up up_link hB) (HL18.out.up up_link hB)).mono ?_;rintro r W' ⟨rfl,fd⟩
   go_wp2_with fail
   exact aQ.mk (.bool true) fd rfl rfl
  ·obtain⟨e4,f4⟩:=aJ hF 4 111 (.bool true) hS rfl (by kernel_rfl) (aj ⟨4,.data⟩ (by simp) rfl)
   obtain⟨e7,f7⟩:=aJ hF 7 114 (.bool true) hS rfl (by kernel_rfl) (aj ⟨7,.data⟩ (by simp) rfl);clear hF aj
   go_wp2_with fail
   exact aQ.mk (.bool true) (Below.refl _ _) rfl rfl
  ·obtain⟨e8,f8⟩:=aJ hF 8 115 (.bool true) hS rfl (by kernel_rfl) (aj ⟨8,.data⟩ (by simp) rfl)
   clear hF aj
   go_wp2_with fail
   exact aQ.mk (.bool true) (Below.refl _ _) rfl rfl
  ·obtain⟨g13,h13⟩:=bT hF 13 (.slice a18 n18 c18) (by decide) rfl
   have m9:=cY hF 9 116 (.bool true) hS rfl (by kernel_rfl) (aj ⟨9,.guard⟩ (by simp) rfl);clear hF aj
   go_wp2_with fail
   exact aQ.mk (.slice a18 n18 c18) (Below.refl _ _) rfl rfl
  ·have m9:=cY hF 9 116 (.bool true) hS rfl (by kernel_rfl) (aj ⟨9,.guard⟩ (by simp) rfl)
   clear hF aj
   go_wp2_with fail
   exact aQ.mk (.slice (some ⟨W.heap.size,0,none⟩) 1 1) (by go_grown) ⟨_,rfl,ak _ _⟩ rfl
  ·have d11:=aj ⟨11,.data⟩ (by simp) rfl
   have m9:=cY hF 9 116 (.bool true) hS rfl (by kernel_rfl) (aj ⟨9,.guard⟩ (by simp) rfl);obtain⟨i1,q11,Ta⟩:=d11;obtain⟨e11,f11⟩:=aJ hF 11 118 _ hS rfl (by kernel_rfl) q11;clear hF aj
   go_wp2_with fail
   refine(vL (-1) 9 (by omega) (by omega) i1 W Ta).mono ?_;rintro r W' ⟨rfl,h9,fd⟩;rw[xC_nine]at h9;have H9:=aa h9;clear h9
   go_wp2_with fail
   exact aQ.mk (.slice (some ⟨W.heap.size,0,none⟩) 9 9) fd ⟨_,rfl,H9.out⟩ rfl
  ·obtain⟨e10,f10⟩:=aJ hF 10 117 (.slice a18 n18 c18) hS rfl (by kernel_rfl) (aj ⟨10,.data⟩ (by simp) rfl)
   have d12:=aj ⟨12,.data⟩ (by simp) rfl;have m9:=cY hF 9 116 (.bool true) hS rfl (by kernel_rfl) (aj ⟨9,.guard⟩ (by simp) rfl);obtain⟨i2,q12,Te⟩:=d12;obtain⟨e12,f12⟩:=aJ hF 12 119 _ hS rfl (by kernel_rfl) q12;clear hF aj
   go_wp2_with fail
   refine(je _ _ (List.replicate 9 (-1)) (List.replicate 9 (-1)) W (HV18.out.up up_int hB) (ib (List.replicate 9 (-1)) Te (by decide) (by decide))).mono ?_;rintro r W' ⟨rfl,fd⟩;rw[show eqV (List.replicate 9 (-1)) (List.replicate 9 (-1))=true by decide]
   go_wp2_with fail
   exact aQ.mk (.bool true) fd rfl rfl
  ·obtain⟨e9,f9⟩:=aJ hF 9 116 (.bool true) hS rfl (by kernel_rfl) (aj ⟨9,.data⟩ (by simp) rfl)
   obtain⟨e13,f13⟩:=aJ hF 13 120 (.bool true) hS rfl (by kernel_rfl) (aj ⟨13,.data⟩ (by simp) rfl);clear hF aj
   go_wp2_with fail
   exact aQ.mk (.bool true) (Below.refl _ _) rfl rfl
  ·obtain⟨e14,f14⟩:=aJ hF 14 121 (.bool true) hS rfl (by kernel_rfl) (aj ⟨14,.data⟩ (by simp) rfl)
   clear hF aj
   go_wp2_with fail
   exact aQ.mk (.bool true) (Below.refl _ _) rfl rfl
  ·obtain⟨g1,h1⟩:=bT hF 1 (.pointer (some ⟨w2.heap.size,0,none⟩)) (by decide) rfl
   have m15:=cY hF 15 122 (.bool true) hS rfl (by kernel_rfl) (aj ⟨15,.guard⟩ (by simp) rfl);have tb:=ab (af hB HX18.out);clear hF aj
   go_wp2_with fail
   exact aQ.mk (.agg #[.int .i64 p2.t.n,.int .i64 p2.t.ins,.int .i64 p2.t.outs,.slice pc2 nc2 cc2,.int .i64 p2.a.n,.slice ps2 ns2 cs2,.int .i64 p2.rounds,.int .i64 p2.t.n,.slice pt2 nt2 ct2,.slice pe2 ne2 ce2]) (Below.refl _ _) rfl rfl
  ·obtain⟨g10,CQ⟩:=bT hF 10 (.pointer (some ⟨w12.heap.size+1+1,0,none⟩)) (by decide) rfl
   have m15:=cY hF 15 122 (.bool true) hS rfl (by kernel_rfl) (aj ⟨15,.guard⟩ (by simp) rfl);clear hF aj
   go_wp2_with fail
   exact aQ.mk (.pointer (some ⟨w12.heap.size+1+1,1,none⟩)) (Below.refl _ _) rfl rfl
  ·obtain⟨e17,f17⟩:=aJ hF 17 124 (.pointer (some ⟨w12.heap.size+1+1,1,none⟩)) hS rfl (by kernel_rfl) (aj ⟨17,.data⟩ (by simp) rfl)
   have m15:=cY hF 15 122 (.bool true) hS rfl (by kernel_rfl) (aj ⟨15,.guard⟩ (by simp) rfl);have tb:=ab (af hB HT18.out) 1;simp at tb;clear hF aj
   go_wp2_with fail
   exact aQ.mk (.slice (some ⟨w12.heap.size+1,0,none⟩) 3 3) (Below.refl _ _) rfl rfl
  ·obtain⟨e18,f18⟩:=aJ hF 18 125 (.slice (some ⟨w12.heap.size+1,0,none⟩) 3 3) hS rfl (by kernel_rfl) (aj ⟨18,.data⟩ (by simp) rfl)
   have m15:=cY hF 15 122 (.bool true) hS rfl (by kernel_rfl) (aj ⟨15,.guard⟩ (by simp) rfl);clear hF aj
   go_wp2_with fail
   exact aQ.mk (.slice (some ⟨w12.heap.size+1,0,none⟩) 2 3) (Below.refl _ _) rfl rfl
  ·obtain⟨e19,f19⟩:=aJ hF 19 126 (.slice (some ⟨w12.heap.size+1,0,none⟩) 2 3) hS rfl (by kernel_rfl) (aj ⟨19,.data⟩ (by simp) rfl)
   have m15:=cY hF 15 122 (.bool true) hS rfl (by kernel_rfl) (aj ⟨15,.guard⟩ (by simp) rfl);clear hF aj
   go_wp2_with fail
   exact aQ.mk (.agg #[.int .i64 1,.slice (some ⟨w12.heap.size+1,0,none⟩) 2 3,.slice none 0 0,.slice none 0 0,.slice none 0 0]) (Below.refl _ _) rfl rfl
  ·obtain⟨e16,f16⟩:=aJ hF 16 123 (.agg #[.int .i64 p2.t.n,.int .i64 p2.t.ins,.int .i64 p2.t.outs,.slice pc2 nc2 cc2,.int .i64 p2.a.n,.slice ps2 ns2 cs2,.int .i64 p2.rounds,.int .i64 p2.t.n,.slice pt2 nt2 ct2,.slice pe2 ne2 ce2]) hS rfl (by kernel_rfl) (aj ⟨16,.data⟩ (by simp) rfl)
   obtain⟨e20,f20⟩:=aJ hF 20 127 (.agg #[.int .i64 1,.slice (some ⟨w12.heap.size+1,0,none⟩) 2 3,.slice none 0 0,.slice none 0 0,.slice none 0 0]) hS rfl (by kernel_rfl) (aj ⟨20,.data⟩ (by simp) rfl);have m15:=cY hF 15 122 (.bool true) hS rfl (by kernel_rfl) (aj ⟨15,.guard⟩ (by simp) rfl);clear hF aj
   go_wp2_with fail
   refine(E3 lA.out (HS18.out.up hB) (ni (HL18.out.up up_link hB) 2 (by decide)) rf.out).mono ?_;rintro r W' ⟨rfl,fd⟩
   go_wp2_with fail
   exact aQ.mk (.int .i64 18) fd rfl rfl
  ·obtain⟨e21,f21⟩:=aJ hF 21 128 (.int .i64 18) hS rfl (by kernel_rfl) (aj ⟨21,.data⟩ (by simp) rfl)
   have m15:=cY hF 15 122 (.bool true) hS rfl (by kernel_rfl) (aj ⟨15,.guard⟩ (by simp) rfl);clear hF aj
   go_wp2_with fail
   exact aQ.mk (.bool true) (Below.refl _ _) rfl rfl
  ·obtain⟨e15,f15⟩:=aJ hF 15 122 (.bool true) hS rfl (by kernel_rfl) (aj ⟨15,.data⟩ (by simp) rfl)
   obtain⟨e22,f22⟩:=aJ hF 22 129 (.bool true) hS rfl (by kernel_rfl) (aj ⟨22,.data⟩ (by simp) rfl);clear hF aj
   go_wp2_with fail
   exact aQ.mk (.bool true) (Below.refl _ _) rfl rfl
  ·obtain⟨e23,f23⟩:=aJ hF 23 130 (.bool true) hS rfl (by kernel_rfl) (aj ⟨23,.data⟩ (by simp) rfl)
   clear hF aj
   go_wp2_with fail
   exact aQ.mk (.bool true) (Below.refl _ _) rfl rfl
 case tail=>
  clear hS;intro x w19 F hB aP hF;have e24:=aP 24 (by omega);change x 24=_ at e24;clear aP;simp only[bd,cJ,List.setIfInBounds_toArray,List.set_cons_succ,List.set_cons_zero,Nat.reduceAdd]at hF;rw[e24]at hF;generalize x 0=r0,x 1=r1,x 2=r2,x 3=r3,x 4=r4,x 5=r5,x 6=r6,x 7=r7,x 8=r8,x 9=r9,x 10=r10,x 11=r11,x 12=r12,x 13=r13,x 14=r14,x 15=r15,x 16=r16,x 17=r17,x 18=r18,x 19=r19,x 20=r20,x 21=r21,x 22=r22,x 23=r23 at hF;subst hF;have HB19:=aa (ae HB18.out hB);clear hB e24
  go_wp2_with fail
  go_ret
  exact⟨rfl,HB19.out⟩
theorem Mn(s:Sys) (vc vs vt ve:Value) (w:World) (bX:IsSys w s vc vs vt ve) (hN:movesN s.prob.a.states<2305843009213693952) (hf:tE s.prob) :
  Calls Tryz.prog 39 #[.agg (bE s.prob vc vs s.n vt ve)] w fun r w'=>r=.returned (.int .i64 (readyE s))/\Below w.heap.size w w':=by
 have HS:=aa bX;obtain⟨⟨qc,kc,rfl⟩,⟨qs,ks,rfl⟩,⟨qt,kt,rfl⟩,⟨qe,ke,rfl⟩⟩:=bg bX;have y':=aa (fun W (hb:Below w.heap.size w W)=>DP s _ _ _ _ W (HS.out.up hb) hN hf);have Fv:=aa (fun W (hb:Below w.heap.size w W)=>Mh s.prob.t _ W (HS.out.cases.up up_case hb));have cX:Hid (readyE s=if verifyE s≠0 then verifyE s else if agreeB s.prob.t then 0 else 11):=aa rfl;generalize readyE s=re at cX ⊢;generalize verifyE s=vr at y' cX;generalize agreeB s.prob.t=ag at Fv cX;clear bX hN hf;generalize s.prob.t.cases.length=nc,s.prob.a.states.length=ns,s.tab.length=nt,s.ex.length=ne at y' Fv ⊢
 go_enter Tryz.func39,Tryz.ntmps39
 go_wp2_with fail
 refine aL (fun W=>Below w.heap.size w W/\∃ c,W.heap[w.heap.size]?=some (.cells c 35)/\c=bE s.prob (.slice qc nc kc) (.slice qs ns ks) s.n (.slice qt nt kt) (.slice qe ne ke)) ⟨by go_grown,_,ak _ _,rfl⟩ (fun W0 aW=>?_);obtain⟨aC,_,br,rfl⟩:=aW;refine(y'.out W0 aC).mono ?_;rintro r w1 ⟨rfl,aG⟩;have bC:=aa (ae aC aG);have tA:=ab (af aG br);clear aC br aG y';by_cases hz:vr=0
 case neg=>
  have Fr:(vr != 0)=true:=by simpa using hz
  have HV:Hid (re=vr):=aa (by rw[cX.out,if_pos hz]);clear hz Fv
  go_wp2_with fail
  go_ret
  exact⟨aA HV.out.symm,bC.out⟩
 have HV:Hid (re=if ag then 0 else 11):=aa (by rw[cX.out,if_neg (by omega)]);subst hz;clear cX
 go_wp2_with fail
 refine(Fv.out w1 bC.out).mono ?_;rintro r w2 ⟨rfl,aV⟩;have cB:=aa (ae bC.out aV);clear tA aV Fv;cases ag with
 | true=>
  go_wp2_with fail
  go_ret
  exact⟨aA (by rw[HV.out];rfl),cB.out⟩
 | false=>
  go_wp2_with fail
  go_ret
  exact⟨aA (by rw[HV.out];rfl),cB.out⟩
theorem E4{s:Sys} {vc vs vt ve:Value} {w:World} (bX:IsSys w s vc vs vt ve) (hN:movesN s.prob.a.states<2305843009213693952) (hf:tE s.prob):Cg s vc vs vt ve w:=fun W hb=>Mn s vc vs vt ve W (bX.up hb) hN hf
theorem Mo(kd:Int) (pw pv pl pp:Option Addr) (nk cw nv cv nl cl np cp:Nat) (w:World) :
  Calls Tryz.prog 21 #[.agg #[.int .i64 kd,.slice pw nk cw,.slice pv nv cv,.slice pl nl cl,.slice pp np cp]] w fun r w'=>(∃ b,r=.returned (.bool b))/\Below w.heap.size w w':=by
 have tb:=ab (ak w (.cells #[.int .i64 kd,.slice pw nk cw,.slice pv nv cv,.slice pl nl cl,.slice pp np cp] 58));have cM:Hid (Below w.heap.size w (w.alloc (.cells #[.int .i64 kd,.slice pw nk cw,.slice pv nv cv,.slice pl nl cl,.slice pp np cp] 58))):=aa (by go_grown)
 go_enter Tryz.func21,Tryz.ntmps21
 by_cases KG:nk<=40
 case neg=>
  have hd:decide ((nk:Int)<=40)=false:=decide_eq_false (by omega);have KV:decide (nk<=40)=false:=decide_eq_false KG
  go_wp2_with fail
  go_ret
  exact⟨⟨_,rfl⟩,cM.out⟩
 have hdnk:decide ((nk:Int)<=40)=true:=decide_eq_true (by omega);have hdnk':decide (nk<=40)=true:=decide_eq_true KG;by_cases Ao:nv<=10
 case neg=>
  have hd:decide ((nv:Int)<=10)=false:=decide_eq_false (by omega);have KV:decide (nv<=10)=false:=decide_eq_false Ao
  go_wp2_with fail
  go_ret
  exact⟨⟨_,rfl⟩,cM.out⟩
 have hdnv:decide ((nv:Int)<=10)=true:=decide_eq_true (by omega);have hdnv':decide (nv<=10)=true:=decide_eq_true Ao;by_cases wW:nl<=10
 case neg=>
  have hd:decide ((nl:Int)<=10)=false:=decide_eq_false (by omega);have KV:decide (nl<=10)=false:=decide_eq_false wW
  go_wp2_with fail
  go_ret
  exact⟨⟨_,rfl⟩,cM.out⟩
 have hdnl:decide ((nl:Int)<=10)=true:=decide_eq_true (by omega);have hdnl':decide (nl<=10)=true:=decide_eq_true wW;by_cases hnp:np<=10
 case neg=>
  have hd:decide ((np:Int)<=10)=false:=decide_eq_false (by omega);have KV:decide (np<=10)=false:=decide_eq_false hnp
  go_wp2_with fail
  go_ret
  exact⟨⟨_,rfl⟩,cM.out⟩
 have hdnp:decide ((np:Int)<=10)=true:=decide_eq_true (by omega);have hdnp':decide (np<=10)=true:=decide_eq_true hnp
 go_wp2_with fail
 go_ret
 exact⟨⟨_,rfl⟩,cM.out⟩
theorem zK(s:Sys) (c:Ct) (pv:Option Addr) (cv:Nat) (pl:Option Addr) (cl:Nat) (pp:Option Addr) (cp:Nat) (vc vs vt ve vw:Value) (w:World) (hT:ii w) (bX:IsSys w s vc vs vt ve) (hw:aU w vw c.walk) :
  Calls Tryz.prog 5 #[.agg (bE s.prob vc vs s.n vt ve),.agg #[.int .i64 c.kind,vw,.slice pv c.nv cv,.slice pl c.nl cl,.slice pp c.np cp]] w fun r w'=>r=.returned (.bool true)/\Below w.heap.size w w':=by
 have HS:=aa bX;have HT:=aa hT;have VZ:=aa (fun W (hb:Below w.heap.size w W)=>Hx W (HT.out.up hb));have WP:=aa (fun W (hb:Below w.heap.size w W)=>J6 s vc vs vt ve W (HS.out.up hb));have IB:=aa (fun (h1:fewPB s.prob=true) (h2:eS s<=70) W (hb:Below w.heap.size w W)=>Af s (by omega) vc vs vt ve vw c pv cv pl cl pp cp W (HS.out.up hb) (by have:=oX h1;omega) (hw.up up_link hb));have uM:=aa (fun (h1:fewPB s.prob=true) (h2:eS s<=70) W (hb:Below w.heap.size w W)=>yr s vc vs vt ve vw c pv cv pl cl pp cp W (HS.out.up hb) (hw.up up_link hb) (E4 (HS.out.up hb) (by have:=oX h1;omega) (Kw h1)));have kV:=aa (fun (h1:fewPB s.prob=true) (h2:eS s<=70) W (hb:Below w.heap.size w W)=>yo s (by omega) vc vs vt ve vw c pv cv pl cl pp cp W (HT.out.up hb) (HS.out.up hb) (by have:=oX h1;omega) (hw.up up_link hb));have mO:=aa (fun (h1:fewPB s.prob=true) (h2:eS s<=70) W (hb:Below w.heap.size w W)=>Hs s vc vs vt ve vw c pv cv pl cl pp cp W (HS.out.up hb) (hw.up up_link hb) (E4 (HS.out.up hb) (by have:=oX h1;omega) (Kw h1)));obtain⟨⟨qc,kc,rfl⟩,⟨qs,ks,rfl⟩,⟨qt,kt,rfl⟩,⟨qe,ke,rfl⟩⟩:=bg bX;obtain⟨pw,cw,rfl,_,_,_⟩:=hw.at;unfold Re at kV mO;obtain⟨sr,wU⟩:∃ sr,shortR s c=sr:=⟨_,rfl⟩;rw[wU]at kV mO;obtain⟨ls,e2⟩:=sr;dsimp only at kV mO;generalize certE s c=ce at IB uM;obtain⟨kd,wk,nv,nl,np⟩:=c;dsimp only at IB uM kV mO ⊢;obtain⟨ck,xd⟩:∃ ck:Int,(if e2=0 then(1:Int) else 0)=ck:=⟨_,rfl⟩;rw[xd]at kV mO;clear bX hT hw wU xd;generalize wk.length=nk at IB uM kV mO ⊢;generalize s.prob.t.cases.length=nc,s.prob.a.states.length=ns,s.tab.length=nt,s.ex.length=ne at WP IB uM kV mO ⊢
 go_enter Tryz.func5,Tryz.ntmps5
 go_wp2_with fail
 refine aL (fun W=>Below w.heap.size w W/\(∃ c,W.heap[w.heap.size]?=some (.cells c 35)/\c=bE s.prob (.slice qc nc kc) (.slice qs ns ks) s.n (.slice qt nt kt) (.slice qe ne ke))/\W.heap[w.heap.size+1]?=some (.cells #[.int .i64 kd,.slice pw nk cw,.slice pv nv cv,.slice pl nl cl,.slice pp np cp] 58)) ⟨by go_grown,⟨_,am _ (ak _ _),rfl⟩,by have h:=ak (w.alloc (.cells (bE s.prob (.slice qc nc kc) (.slice qs ns ks) s.n (.slice qt nt kt) (.slice qe ne ke)) 35)) (.cells #[.int .i64 kd,.slice pw nk cw,.slice pv nv cv,.slice pl nl cl,.slice pp np cp] 58);simpa using h⟩ (fun W0 aW=>?_);obtain⟨aC,⟨_,br,rfl⟩,iB⟩:=aW;refine(WP.out W0 aC).mono ?_;rintro r w1 ⟨⟨b,rfl,Su⟩,aG⟩;have bC:=aa (ae aC aG);have dy:=aa (af aG br);have Fh:=aa (af aG iB);clear aC br iB aG WP;cases b with
 | false=>
  clear Su
  go_wp2_with fail
  refine(VZ.out w1 bC.out).mono ?_;rintro r w2 ⟨rfl,aV⟩;have cB:=aa (ae bC.out aV);clear aV
  go_wp2_with fail
  go_ret
  exact⟨rfl,cB.out⟩
 | true=>
 obtain⟨ez,sA,_⟩:=Su rfl;have IB:=aa (IB.out ez sA);have uM:=aa (uM.out ez sA);have kV:=aa (kV.out ez sA);have mO:=aa (mO.out ez sA);have tc:=ab Fh.out;clear Su ez sA
 go_wp2_with fail
 clear tc;refine(Mo kd pw pv pl pp nk cw nv cv nl cl np cp w1).mono ?_;rintro r w2 ⟨⟨b,rfl⟩,aV⟩;have cB:=aa (ae bC.out aV);have mK:=aa (af aV dy.out);have uH:=aa (af aV Fh.out);clear aV dy Fh;cases b with
 | false=>
  go_wp2_with fail
  refine(VZ.out w2 cB.out).mono ?_;rintro r w3 ⟨rfl,bA⟩;have dP:=aa (ae cB.out bA);clear bA
  go_wp2_with fail
  go_ret
  exact⟨rfl,dP.out⟩
 | true=>
 have ta:=ab mK.out;have tc:=ab uH.out
 go_wp2_with fail
 clear ta tc;refine(kV.out w2 cB.out).mono ?_;rintro r w3 ⟨⟨u3,rfl,ss⟩,bA⟩;obtain⟨a3,n3,c3,rfl⟩:∃ a n c,u3=.slice a n c:=by obtain⟨a,c,e,_⟩:=ss.at;exact⟨_,_,_,e⟩
 have KX:=aa ss;have dP:=aa (ae cB.out bA);have wR:=aa (af bA mK.out);have kW:=aa (af bA uH.out);clear bA ss mK uH;have ta:=fun o=>ab (am o wR.out)
 have tc:=fun o=>ab (am o kW.out)
 go_wp2_with fail
 clear ta tc;refine aL (fun W=>Below w3.heap.size w3 W/\W.heap[w3.heap.size]?=some (.cells #[.int .i64 ck,.slice a3 n3 c3,.slice none 0 0,.slice none 0 0,.slice none 0 0] 58)) ⟨by go_grown,ak _ _⟩ (fun W4 hW4=>?_);refine(mO.out W4 (ae dP.out hW4.1)).mono ?_;rintro r w4 ⟨⟨u4,rfl,pO⟩,cg⟩;obtain⟨a4,n4,c4,rfl⟩:∃ a n c,u4=.slice a n c:=by obtain⟨a,c,e,_⟩:=pO.at;exact⟨_,_,_,e⟩
 have yH:=ae hW4.1 cg;have iW:=aa (af cg hW4.2);have fe:=aa (ae dP.out yH);have IJ:=aa (af yH wR.out);have HK4:=aa (af yH kW.out);have KX:=aa (KX.out.up up_link yH);have uG:=aa pO;clear yH cg hW4 pO wR kW kV mO
 go_wp2_with fail
 refine bj (fun W=>Below w4.heap.size w4 W/\W.heap[w4.heap.size]?=some (.cells #[.int .i64 ck,.slice a4 n4 c4,.slice none 0 0,.slice none 0 0,.slice none 0 0] 58)) ⟨by go_grown,ak _ _⟩ (fun w5 hW5=>?_);have iy:=aa (ae fe.out hW5.1);have KK:=aa (af hW5.1 IJ.out);have TT:=aa (af hW5.1 HK4.out);have HY5:=aa (af hW5.1 iW.out);have H7:=aa hW5.2;have KX:=aa (KX.out.up up_link hW5.1);have uG:=aa (uG.out.up up_link hW5.1);clear hW5 IJ HK4 iW;have hS:List.Nodup [30,31,32,33,34,35,36,37,38,39,40,41,42,43,44,45,46,47,48,49,4]:=by decide
 refine wC 21 [30,31,32,33,34,35,36,37,38,39,40,41,42,43,44,45,46,47,48,49,4] [MP.eq (.bool true),MP.eq (.bool true),MP.eq (.agg #[.int .i64 s.prob.t.n,.int .i64 s.prob.t.ins,.int .i64 s.prob.t.outs,.slice qc nc kc,.int .i64 s.prob.a.n,.slice qs ns ks,.int .i64 s.prob.rounds,.int .i64 s.n,.slice qt nt kt,.slice qe ne ke]),MP.eq (.agg #[.int .i64 kd,.slice pw nk cw,.slice pv nv cv,.slice pl nl cl,.slice pp np cp]),MP.eq (.int .i64 ce),MP.eq (.agg #[.int .i64 s.prob.t.n,.int .i64 s.prob.t.ins,.int .i64 s.prob.t.outs,.slice qc nc kc,.int .i64 s.prob.a.n,.slice qs ns ks,.int .i64 s.prob.rounds,.int .i64 s.n,.slice qt nt kt,.slice qe ne ke]),MP.eq (.agg #[.int .i64 kd,.slice pw nk cw,.slice pv nv cv,.slice pl nl cl,.slice pp np cp]),MP.eq (.int .i64 ce),MP.eq (.bool true),MP.eq (.bool true),MP.eq (.bool true),MP.eq (.agg #[.int .i64 ck,.slice a3 n3 c3,.slice none 0 0,.slice none 0 0,.slice none 0 0]),MP.eq (.agg #[.int .i64 ck,.slice a4 n4 c4,.slice none 0 0,.slice none 0 0,.slice none 0 0]),MP.eq (.bool true),MP.eq (.bool true),MP.eq (.bool true),MP.eq (.int .i64 e2),MP.eq (.int .i64 e2),MP.eq (.bool true),MP.eq (.bool true),MP.eq (.bool true)] (by kernel_rfl) rfl hS rfl (by kernel_rfl) ?step ?tail
 case step=>
  intro x W i o s F hi ho hs hB aj hF;rcases (show i=0\/i=1\/i=2\/i=3\/i=4\/i=5\/i=6\/i=7\/i=8\/i=9\/i=10\/i=11\/i=12\/i=13\/i=14\/i=15\/i=16\/i=17\/i=18\/i=19\/i=20 by omega) with rfl|rfl|rfl|rfl|rfl|rfl|rfl|rfl|rfl|rfl|rfl|rfl|rfl|rfl|rfl|rfl|rfl|rfl|rfl|rfl|rfl
  all_goals (obtain rfl:=cU ho.symm;obtain rfl:=cU hs.symm;clear hi ho hs)
  ·clear hF aj
   go_wp2_with fail
   refine(VZ.out W (ae iy.out hB)).mono ?_;rintro r W' ⟨rfl,fd⟩
   go_wp2_with fail
   exact aQ.mk (.bool true) fd rfl rfl
  ·obtain⟨e0,f0⟩:=aJ hF 0 30 (.bool true) hS rfl (by kernel_rfl) (aj ⟨0,.data⟩ (by simp) rfl)
   clear hF aj
   go_wp2_with fail
   exact aQ.mk (.bool true) (Below.refl _ _) rfl rfl
  ·obtain⟨g2,h2⟩:=bT hF 2 (.pointer (some ⟨w.heap.size,0,none⟩)) (by decide) rfl
   have m1:=cY hF 1 31 (.bool true) hS rfl (by kernel_rfl) (aj ⟨1,.guard⟩ (by simp) rfl);have tb:=ab (af hB KK.out);clear hF aj
   go_wp2_with fail
   exact aQ.mk (.agg #[.int .i64 s.prob.t.n,.int .i64 s.prob.t.ins,.int .i64 s.prob.t.outs,.slice qc nc kc,.int .i64 s.prob.a.n,.slice qs ns ks,.int .i64 s.prob.rounds,.int .i64 s.n,.slice qt nt kt,.slice qe ne ke]) (Below.refl _ _) rfl rfl
  ·obtain⟨g3,h3⟩:=bT hF 3 (.pointer (some ⟨w.heap.size+1,0,none⟩)) (by decide) rfl
   have m1:=cY hF 1 31 (.bool true) hS rfl (by kernel_rfl) (aj ⟨1,.guard⟩ (by simp) rfl);have tb:=ab (af hB TT.out);clear hF aj
   go_wp2_with fail
   exact aQ.mk (.agg #[.int .i64 kd,.slice pw nk cw,.slice pv nv cv,.slice pl nl cl,.slice pp np cp]) (Below.refl _ _) rfl rfl
  ·obtain⟨e2,f2⟩:=aJ hF 2 32 (.agg #[.int .i64 s.prob.t.n,.int .i64 s.prob.t.ins,.int .i64 s.prob.t.outs,.slice qc nc kc,.int .i64 s.prob.a.n,.slice qs ns ks,.int .i64 s.prob.rounds,.int .i64 s.n,.slice qt nt kt,.slice qe ne ke]) hS rfl (by kernel_rfl) (aj ⟨2,.data⟩ (by simp) rfl)
   obtain⟨e3,f3⟩:=aJ hF 3 33 (.agg #[.int .i64 kd,.slice pw nk cw,.slice pv nv cv,.slice pl nl cl,.slice pp np cp]) hS rfl (by kernel_rfl) (aj ⟨3,.data⟩ (by simp) rfl);have m1:=cY hF 1 31 (.bool true) hS rfl (by kernel_rfl) (aj ⟨1,.guard⟩ (by simp) rfl);clear hF aj
   go_wp2_with fail
   refine(IB.out W (ae iy.out hB)).mono ?_;rintro r W' ⟨rfl,fd⟩
   go_wp2_with fail
   exact aQ.mk (.int .i64 ce) fd rfl rfl
  ·obtain⟨g2,h2⟩:=bT hF 2 (.pointer (some ⟨w.heap.size,0,none⟩)) (by decide) rfl
   have m1:=cY hF 1 31 (.bool true) hS rfl (by kernel_rfl) (aj ⟨1,.guard⟩ (by simp) rfl);have tb:=ab (af hB KK.out);clear hF aj
   go_wp2_with fail
   exact aQ.mk (.agg #[.int .i64 s.prob.t.n,.int .i64 s.prob.t.ins,.int .i64 s.prob.t.outs,.slice qc nc kc,.int .i64 s.prob.a.n,.slice qs ns ks,.int .i64 s.prob.rounds,.int .i64 s.n,.slice qt nt kt,.slice qe ne ke]) (Below.refl _ _) rfl rfl
  ·obtain⟨g3,h3⟩:=bT hF 3 (.pointer (some ⟨w.heap.size+1,0,none⟩)) (by decide) rfl
   have m1:=cY hF 1 31 (.bool true) hS rfl (by kernel_rfl) (aj ⟨1,.guard⟩ (by simp) rfl);have tb:=ab (af hB TT.out);clear hF aj
   go_wp2_with fail
   exact aQ.mk (.agg #[.int .i64 kd,.slice pw nk cw,.slice pv nv cv,.slice pl nl cl,.slice pp np cp]) (Below.refl _ _) rfl rfl
  ·obtain⟨e5,f5⟩:=aJ hF 5 35 (.agg #[.int .i64 s.prob.t.n,.int .i64 s.prob.t.ins,.int .i64 s.prob.t.outs,.slice qc nc kc,.int .i64 s.prob.a.n,.slice qs ns ks,.int .i64 s.prob.rounds,.int .i64 s.n,.slice qt nt kt,.slice qe ne ke]) hS rfl (by kernel_rfl) (aj ⟨5,.data⟩ (by simp) rfl)
   obtain⟨e6,f6⟩:=aJ hF 6 36 (.agg #[.int .i64 kd,.slice pw nk cw,.slice pv nv cv,.slice pl nl cl,.slice pp np cp]) hS rfl (by kernel_rfl) (aj ⟨6,.data⟩ (by simp) rfl);have m1:=cY hF 1 31 (.bool true) hS rfl (by kernel_rfl) (aj ⟨1,.guard⟩ (by simp) rfl);clear hF aj
   go_wp2_with fail
   refine(uM.out W (ae iy.out hB)).mono ?_;rintro r W' ⟨rfl,fd⟩
   go_wp2_with fail
   exact aQ.mk (.int .i64 ce) fd rfl rfl
  ·obtain⟨e4,f4⟩:=aJ hF 4 34 (.int .i64 ce) hS rfl (by kernel_rfl) (aj ⟨4,.data⟩ (by simp) rfl)
   obtain⟨e7,f7⟩:=aJ hF 7 37 (.int .i64 ce) hS rfl (by kernel_rfl) (aj ⟨7,.data⟩ (by simp) rfl);have m1:=cY hF 1 31 (.bool true) hS rfl (by kernel_rfl) (aj ⟨1,.guard⟩ (by simp) rfl);clear hF aj
   go_wp2_with fail
   exact aQ.mk (.bool true) (Below.refl _ _) rfl rfl
  ·obtain⟨e1,f1⟩:=aJ hF 1 31 (.bool true) hS rfl (by kernel_rfl) (aj ⟨1,.data⟩ (by simp) rfl)
   obtain⟨e8,f8⟩:=aJ hF 8 38 (.bool true) hS rfl (by kernel_rfl) (aj ⟨8,.data⟩ (by simp) rfl);clear hF aj
   go_wp2_with fail
   exact aQ.mk (.bool true) (Below.refl _ _) rfl rfl
  ·obtain⟨e9,f9⟩:=aJ hF 9 39 (.bool true) hS rfl (by kernel_rfl) (aj ⟨9,.data⟩ (by simp) rfl)
   clear hF aj
   go_wp2_with fail
   exact aQ.mk (.bool true) (Below.refl _ _) rfl rfl
  ·obtain⟨g5,h5⟩:=bT hF 5 (.pointer (some ⟨w3.heap.size,0,none⟩)) (by decide) rfl
   have m10:=cY hF 10 40 (.bool true) hS rfl (by kernel_rfl) (aj ⟨10,.guard⟩ (by simp) rfl);have tb:=ab (af hB HY5.out);clear hF aj
   go_wp2_with fail
   exact aQ.mk (.agg #[.int .i64 ck,.slice a3 n3 c3,.slice none 0 0,.slice none 0 0,.slice none 0 0]) (Below.refl _ _) rfl rfl
  ·obtain⟨g7,h7⟩:=bT hF 7 (.pointer (some ⟨w4.heap.size,0,none⟩)) (by decide) rfl
   have m10:=cY hF 10 40 (.bool true) hS rfl (by kernel_rfl) (aj ⟨10,.guard⟩ (by simp) rfl);have tb:=ab (af hB H7.out);clear hF aj
   go_wp2_with fail
   exact aQ.mk (.agg #[.int .i64 ck,.slice a4 n4 c4,.slice none 0 0,.slice none 0 0,.slice none 0 0]) (Below.refl _ _) rfl rfl
  ·obtain⟨e11,f11⟩:=aJ hF 11 41 (.agg #[.int .i64 ck,.slice a3 n3 c3,.slice none 0 0,.slice none 0 0,.slice none 0 0]) hS rfl (by kernel_rfl) (aj ⟨11,.data⟩ (by simp) rfl)
   obtain⟨e12,f12⟩:=aJ hF 12 42 (.agg #[.int .i64 ck,.slice a4 n4 c4,.slice none 0 0,.slice none 0 0,.slice none 0 0]) hS rfl (by kernel_rfl) (aj ⟨12,.data⟩ (by simp) rfl);have m10:=cY hF 10 40 (.bool true) hS rfl (by kernel_rfl) (aj ⟨10,.guard⟩ (by simp) rfl);clear hF aj
   go_wp2_with fail
   refine(v7 ck ls _ _ none none none none none none 0 0 0 0 0 0 W (KX.out.up up_link hB) (uG.out.up up_link hB)).mono ?_;rintro r W' ⟨rfl,fd⟩
   go_wp2_with fail
   exact aQ.mk (.bool true) fd rfl rfl
  ·obtain⟨e10,f10⟩:=aJ hF 10 40 (.bool true) hS rfl (by kernel_rfl) (aj ⟨10,.data⟩ (by simp) rfl)
   obtain⟨e13,f13⟩:=aJ hF 13 43 (.bool true) hS rfl (by kernel_rfl) (aj ⟨13,.data⟩ (by simp) rfl);clear hF aj
   go_wp2_with fail
   exact aQ.mk (.bool true) (Below.refl _ _) rfl rfl
  ·obtain⟨e14,f14⟩:=aJ hF 14 44 (.bool true) hS rfl (by kernel_rfl) (aj ⟨14,.data⟩ (by simp) rfl)
   clear hF aj
   go_wp2_with fail
   exact aQ.mk (.bool true) (Below.refl _ _) rfl rfl
  ·obtain⟨g6,h6⟩:=bT hF 6 (.int .i64 e2) (by decide) rfl
   have m15:=cY hF 15 45 (.bool true) hS rfl (by kernel_rfl) (aj ⟨15,.guard⟩ (by simp) rfl);clear hF aj
   go_wp2_with fail
   exact aQ.mk (.int .i64 e2) (Below.refl _ _) rfl rfl
  ·obtain⟨g8,h8⟩:=bT hF 8 (.int .i64 e2) (by decide) rfl
   have m15:=cY hF 15 45 (.bool true) hS rfl (by kernel_rfl) (aj ⟨15,.guard⟩ (by simp) rfl);clear hF aj
   go_wp2_with fail
   exact aQ.mk (.int .i64 e2) (Below.refl _ _) rfl rfl
  ·obtain⟨e16,f16⟩:=aJ hF 16 46 (.int .i64 e2) hS rfl (by kernel_rfl) (aj ⟨16,.data⟩ (by simp) rfl)
   obtain⟨e17,f17⟩:=aJ hF 17 47 (.int .i64 e2) hS rfl (by kernel_rfl) (aj ⟨17,.data⟩ (by simp) rfl);have m15:=cY hF 15 45 (.bool true) hS rfl (by kernel_rfl) (aj ⟨15,.guard⟩ (by simp) rfl);clear hF aj
   go_wp2_with fail
   exact aQ.mk (.bool true) (Below.refl _ _) rfl rfl
  ·obtain⟨e15,f15⟩:=aJ hF 15 45 (.bool true) hS rfl (by kernel_rfl) (aj ⟨15,.data⟩ (by simp) rfl)
   obtain⟨e18,f18⟩:=aJ hF 18 48 (.bool true) hS rfl (by kernel_rfl) (aj ⟨18,.data⟩ (by simp) rfl);clear hF aj
   go_wp2_with fail
   exact aQ.mk (.bool true) (Below.refl _ _) rfl rfl
  ·obtain⟨e19,f19⟩:=aJ hF 19 49 (.bool true) hS rfl (by kernel_rfl) (aj ⟨19,.data⟩ (by simp) rfl)
   clear hF aj
   go_wp2_with fail
   exact aQ.mk (.bool true) (Below.refl _ _) rfl rfl
 case tail=>
  clear hS;intro x w6 F hB aP hF;have e20:=aP 20 (by omega);change x 20=_ at e20;clear aP;simp only[bd,cJ,List.setIfInBounds_toArray,List.set_cons_succ,List.set_cons_zero,Nat.reduceAdd]at hF;rw[e20]at hF;generalize x 0=r0,x 1=r1,x 2=r2,x 3=r3,x 4=r4,x 5=r5,x 6=r6,x 7=r7,x 8=r8,x 9=r9,x 10=r10,x 11=r11,x 12=r12,x 13=r13,x 14=r14,x 15=r15,x 16=r16,x 17=r17,x 18=r18,x 19=r19 at hF;subst hF;have lO:=aa (ae iy.out hB);clear hB e20
  go_wp2_with fail
  go_ret
  exact⟨rfl,lO.out⟩
end Go.Proofs.YtmeaoneaephjeaaGreatDoor
