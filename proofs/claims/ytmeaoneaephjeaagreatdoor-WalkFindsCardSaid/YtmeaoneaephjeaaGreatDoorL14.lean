/-
  A part of the proof: lemmas and contracts that the parts behind it use. Each one's conditions are its own premises.
-/
import Derived.Test.YtmeaoneaephjeaaGreatDoorL12
import Derived.Test.YtmeaoneaephjeaaGreatDoorL13
set_option maxRecDepth 100000
set_option maxHeartbeats 8000000
set_option linter.unusedVariables false
set_option linter.unusedSimpArgs false
namespace Go.Proofs.YtmeaoneaephjeaaGreatDoor
open Go.RowKit Go Go.Shelf
attribute [local go_sem] Oper.semAt_some
theorem L8(a:Adv):∀ k,eM a k=eB 4096 a k
 | 0=>rfl
 | k+1=>by
  show l8 a (eM a k)=AO 4096 a (eB 4096 a k)
  rw[L8 a k];rfl
theorem yD{p:Pb} (h:probE p=0):numberP p=p.t.cases.length * min ((aL p).length:Int) 4097:=by
 obtain⟨ht,ha,_,sS,rl⟩:=gO h;have hn:=rW (L:=4096) (by omega) p.a (fun s hs m hm=>(wn ha s hs m hm).2) (by have:=(ir ha).1;omega) p.rounds.toNat;unfold numberP numberS;rw[L8]
 show _ * numberL 4096 p.a p.rounds.toNat=_
 rw[hn];rfl
def vQ(p:Pb):Prop:=probE p=0->p.t.cases.length * (aL p).length<=60\/4096<p.t.cases.length * (aL p).length
theorem DS{p:Pb} (h:probE p=0):(4096:Int)<numberP p↔4096<p.t.cases.length * (aL p).length:=by
 have hc:=(fB (gO h).1).2.2.2.1;rw[yD h];generalize p.t.cases.length=a at hc ⊢;generalize (aL p).length=b;by_cases hb:b<=4097
 ·rw[Int.min_eq_left (by omega),<-Int.natCast_mul];omega
 ·have h1:1 * b<=a * b:=Nat.mul_le_mul_right b hc.1;have h2:1 * 4097<=a * 4097:=Nat.mul_le_mul_right 4097 hc.1;rw[Int.min_eq_right (by omega)];have h3:((a * 4097:Nat):Int)=(a:Int) * 4097:=by rw[Int.natCast_mul];rfl
  omega
theorem L9{p:Pb} (h:fewPB p=true):vQ p:=fun h0=>by
 unfold fewPB at h;split at h
 ·cases h
 split at h
 ·cases h
 split at h
 ·cases h
 rw[if_neg (by simpa using h0)]at h;simp only[Bool.or_eq_true,decide_eq_true_eq]at h;rcases h with h|h
 ·by_cases hb:4096<p.t.cases.length * (aL p).length
  ·exact .inr hb
  ·left;have hc:=(fB (gO h0).1).2.2.2.1;rw[yD h0]at h;generalize p.t.cases.length=a at hc h hb ⊢;generalize (aL p).length=b at h hb ⊢;have h1:1 * b<=a * b:=Nat.mul_le_mul_right b hc.1;rw[Int.min_eq_left (by omega),<-Int.natCast_mul]at h;omega
 ·exact .inr ((DS h0).1 h)
theorem qC(tmps:Array Value) (B:Nat) (W:World) (c0 c1 c2 c3 c4 c5 c6 c7 c8 c9:Value) (e:Int) (h2:tmps[2]?.getD undef=.pointer (some ⟨B,0,none⟩)) (h3:tmps[3]?.getD undef=.int .i64 e)
  (hB:W.heap[B]?=some (.cells #[c0,c1,c2,c3,c4,c5,c6,c7,c8,c9] 35)) :
  (results Tryz.f73 tmps).run Tryz.prog W=.ok (.tuple #[.agg #[c0,c1,c2,c3,c4,c5,c6,c7,c8,c9],.int .i64 e]) W:=by
 have t2:=ab hB;simp[results,Tryz.results73,go_sem,h2,h3,t2]
def Im(p:Pb) (vc vs vt ve:Value) (base:Nat) (w':World):Prop:=((∃ a c,vt=.slice a (aO p).tab.length c)/\∃ a c,ve=.slice a (aO p).ex.length c)/\∀ Wf:World,(∀ k,base<=k->k<w'.heap.size->Wf.heap[k]?=w'.heap[k]?)->bS Wf vc p.t.cases->bF Wf vs p.a.states->IsSys Wf (aO p) vc vs vt ve
def JG(p:Pb) (vc vs:Value) (base:Nat) (r:Ending) (w':World):Prop:=∃ c,r=.returned (.tuple #[.agg c,.int .i64 (buildE p)])/\(buildE p=0->∃ vt ve,c=bL p vc vs p.t.n vt ve/\Im p vc vs vt ve base w')/\(buildE p≠0->c=zeroSys)
theorem Xr{p:Pb} {vc vs:Value} {base:Nat} {w':World} {e:Int} (h:buildE p=e) (h0:e≠0):JG p vc vs base (.returned (.tuple #[.agg zeroSys,.int .i64 e])) w':=⟨zeroSys,by rw[h],fun h1=>absurd (h.symm.trans h1) h0,fun _=>rfl⟩
theorem DT(p:Pb) (vc vs:Value) (w:World) (hc:bS w vc p.t.cases) (hs:bF w vs p.a.states) (hN:movesN p.a.states<2305843009213693952) (hf:vQ p) :
  Calls Tryz.prog 73 #[rE p vc vs] w fun r w'=>JG p vc vs w.heap.size r w'/\Below w.heap.size w w':=by
 have GC:=aa hc;have GS:=aa hs;obtain⟨pc,cc,rfl,_⟩:=hc.at;obtain⟨ps,cs,rfl,_⟩:=hs.at;have jE:=aa (fun W (hb:Below w.heap.size w W)=>wu p _ _ W (GC.o.up up_case hb) (GS.o.up up_moves hb) hN);have R0:=aa (fun (h:probE p=0) W (hb:Below w.heap.size w W)=>uy p _ _ W (GC.o.up up_case hb) (GS.o.up up_moves hb) h);have Km:=aa (fun (h:probE p=0) (h2:¬ 4096<p.t.cases.length * (aL p).length) W (hb:Below w.heap.size w W)=>N6 p _ _ W (GC.o.up up_case hb) (GS.o.up up_moves hb) h (by rcases hf h with h|h<;>omega));have rH:am (probE p≠0->buildE p=probE p):=aa fun h=>by unfold buildE;rw[if_pos h]
 have nU:am (probE p=0->4096<p.t.cases.length * (aL p).length->buildE p=17):=aa fun h h2=>by unfold buildE;rw[if_neg (by omega),if_pos h2]
 have Et:am (probE p=0->¬ 4096<p.t.cases.length * (aL p).length->buildE p=0/\(aO p).tab.length<=8192):=aa fun h h2=>by
  have h3:=uH h (p.t.cases.length * (aL p).length) (Nat.le_refl _);have e:stP p (p.t.cases.length * (aL p).length)=((aO p).tab,(aO p).ex):=by unfold stP;rw[List.take_of_length_le (by rw[jC];exact Nat.le_refl _)];rfl
  rw[e]at h3;dsimp only at h3;have h4:(aO p).tab.length<=8192:=by rcases hf h with h|h<;>omega
  exact⟨by unfold buildE;rw[if_neg (by omega),if_neg h2,if_neg (by omega)],h4⟩
 have Hp:=aa (fun h=>@DS p h);have FJ:=aa (fun e (W:World) h h0=>@Xr p (.slice pc p.t.cases.length cc) (.slice ps p.a.states.length cs) w.heap.size W e h h0);have KE:am (∀ vt ve W,buildE p=0->Im p (.slice pc p.t.cases.length cc) (.slice ps p.a.states.length cs) vt ve w.heap.size W->JG p (.slice pc p.t.cases.length cc) (.slice ps p.a.states.length cs) w.heap.size (.returned (.tuple #[.agg (bL p (.slice pc p.t.cases.length cc) (.slice ps p.a.states.length cs) p.t.n vt ve),.int .i64 0])) W):=aa fun vt ve W h0 h=>⟨_,by rw[h0],fun _=>⟨vt,ve,rfl,h⟩,fun h1=>absurd h0 h1⟩
 clear hc hs hf;have HSZ:=aa hN;clear hN;obtain⟨pe,hpe⟩:∃ pe,probE p=pe:=⟨_,rfl⟩;rw[hpe]at jE R0 Km rH nU Et Hp;obtain⟨nx,mO⟩:∃ nx,p.t.cases.length * (aL p).length=nx:=⟨_,rfl⟩;rw[mO]at Km nU Et Hp;clear hpe mO;have Kr:am ((∀ W,Below w.heap.size w W->bS W (.slice pc p.t.cases.length cc) p.t.cases)/\∀ W,Below w.heap.size w W->bF W (.slice ps p.a.states.length cs) p.a.states):=aa ⟨fun W hb=>GC.o.up up_case hb,fun W hb=>GS.o.up up_moves hb⟩;clear GC GS;generalize p.t.cases.length=nc,p.a.states.length=ns at jE R0 Km FJ KE Kr ⊢
 go_enter Tryz.func73,Tryz.ntmps73
 go_wp2_with fail
 refine aN (fun W=>Below w.heap.size w W/\W.heap[w.heap.size]?=some (.cells #[.int .i64 p.t.n,.int .i64 p.t.ins,.int .i64 p.t.outs,.slice pc nc cc,.int .i64 p.a.n,.slice ps ns cs,.int .i64 p.rounds] 29)/\W.heap[w.heap.size+1]?=some (.cells zeroSys 35)) ⟨by go_grown,ar _ (aq _ _),bd _ _ _⟩ (fun W0 aZ=>?_);obtain⟨aI,bI,ic⟩:=aZ;refine(jE.o W0 aI).mono ?_;rintro r w1 ⟨rfl,aJ⟩;have bK:=aa (ae aI aJ);have db:=aa (af aJ bI);have dg:=aa (af aJ ic);have gc:=aC dg.o;have tA:=ab db.o;clear aI bI ic aJ jE;by_cases hz:pe=0
 case neg=>
  have HV:=aa (FJ.o pe (w1.setRow (w.heap.size+1) zeroSys) (rH.o hz) hz);have Mr:(pe != 0)=true:=by simpa using hz
  clear hz rH nU Et R0 Km Hp KE FJ
  go_wp2_with (refine wpList_store_row rfl 35 (.tmp 2) (.tmp 10) rfl (w.heap.size+1) zeroSys rfl rfl 35 _ dg.o (by kernel_rfl) rfl (by simp[Value.oneCell']) ?_)
  exact bodyPost_ret (qC _ (w.heap.size+1) _ _ _ _ _ _ _ _ _ _ _ pe rfl rfl (setRow_heap _ _ _ _ _ _ dg.o)) rfl ⟨HV.o,below_setRow bK.o (by omega) _⟩
 have ou:=aa (R0.o hz);have Rt:=aa (Hp.o hz);generalize numberP p=nn at ou Rt;clear R0 Hp rH
 go_wp2_with fail
 refine(ou.o w1 bK.o).mono ?_;rintro r w2 ⟨rfl,a8⟩;have cQ:=aa (ae bK.o a8);have mo:=aa (af a8 db.o);have dU:=aa (af a8 dg.o);have iS:=aC dU.o;clear a8 tA db dg;by_cases x':4096<nx
 ·have hd:decide ((4096:Int)<nn)=true:=decide_eq_true (Rt.o.2 x');have HV:=aa (FJ.o 17 (w2.setRow (w.heap.size+1) zeroSys) (nU.o hz x') (by omega));clear hz x' nU Et Km KE FJ Rt
  go_wp2_with (refine wpList_store_row rfl 35 (.tmp 2) (.tmp 15) rfl (w.heap.size+1) zeroSys rfl rfl 35 _ dU.o (by kernel_rfl) rfl (by simp[Value.oneCell']) ?_)
  exact bodyPost_ret (qC _ (w.heap.size+1) _ _ _ _ _ _ _ _ _ _ _ 17 rfl rfl (setRow_heap _ _ _ _ _ _ dU.o)) rfl ⟨HV.o,below_setRow cQ.o (by omega) _⟩
 have hd:decide ((4096:Int)<nn)=false:=decide_eq_false (fun h=>x' (Rt.o.1 h));have oN:=aa (Km.o hz x');obtain⟨h0,Eh⟩:=Et.o hz x';have HZ:=aa h0;have tA:=ab mo.o;clear hz x' nU Et Km FJ Rt h0
 go_wp2_with fail
 refine(oN.o w2 cQ.o).mono ?_;rintro r w3 ⟨vt,ve,rfl,⟨⟨at3,ct3,rfl⟩,ave,cve,rfl⟩,cH,bH⟩;have Aj:=aa cH;have ef:=aa (ae cQ.o bH);have HB23:=aa bH;have eT:=aa (af bH dU.o);have JX:=aa (fun W=>KE.o (.slice at3 (aO p).tab.length ct3) (.slice ave (aO p).ex.length cve) W HZ.o);have RZ:am (∀ Wf:World,_):=Aj;obtain⟨nt,sM⟩:∃ nt,(aO p).tab.length=nt:=⟨_,rfl⟩;obtain⟨ne,bM⟩:∃ ne,(aO p).ex.length=ne:=⟨_,rfl⟩;have wN:=aa sM;have hH:=aa bM;rw[sM]at Eh Aj JX RZ ⊢;rw[bM]at Aj JX RZ ⊢;have hd8:decide ((8192:Int)<(nt:Int))=false:=decide_eq_false (by omega);have n':=aC eT.o;have KH:=bH.size;clear cH bH tA sM bM KE hd RZ;have te:=ab (aq w3 (.cells #[.int .i64 p.t.n,.int .i64 p.t.ins,.int .i64 p.t.outs,.slice pc nc cc,.int .i64 p.a.n,.slice ps ns cs,.int .i64 p.rounds,.int .i64 p.t.n,.slice at3 nt ct3,.slice ave ne cve] 35));have rJ:Below w3.heap.size w3 (w3.alloc (.cells #[.int .i64 p.t.n,.int .i64 p.t.ins,.int .i64 p.t.outs,.slice pc nc cc,.int .i64 p.a.n,.slice ps ns cs,.int .i64 p.rounds,.int .i64 p.t.n,.slice at3 nt ct3,.slice ave ne cve] 35)):=by go_grown
 have Ek:=aa rJ;have nT:=aa (af rJ eT.o);clear rJ
 go_wp2_with (refine wpList_store_row rfl 35 (.tmp 2) (.tmp 24) rfl (w.heap.size+1) #[.int .i64 p.t.n,.int .i64 p.t.ins,.int .i64 p.t.outs,.slice pc nc cc,.int .i64 p.a.n,.slice ps ns cs,.int .i64 p.rounds,.int .i64 p.t.n,.slice at3 nt ct3,.slice ave ne cve] rfl rfl 35 _ nT.o (by kernel_rfl) rfl (by simp[Value.oneCell']) ?_)
 refine bodyPost_ret (qC _ (w.heap.size+1) _ _ _ _ _ _ _ _ _ _ _ 0 rfl rfl (setRow_heap _ _ _ _ _ _ nT.o)) rfl ⟨JX.o _ ⟨⟨⟨at3,ct3,by rw[wN.o]⟩,ave,cve,by rw[hH.o]⟩,fun Wf Kf h1 h2=>Aj.o Wf (fun k hk og=>?_) h1 h2⟩,below_setRow (ae ef.o Ek.o) (by omega) _⟩;refine(Kf k (by omega) ?_).trans ?_
 ·exact Nat.lt_of_lt_of_le og (Nat.le_trans Ek.o.size (below_setRow (Below.refl (w.heap.size+1) _) (Nat.le_refl _) _).size)
 ·rw[setRow_other _ _ _ _ (by omega)];exact Ek.o.block k og
theorem JH(s:Sys) (h:buildE s.prob=0):verifyE s=if decide ((s.n=(aO s.prob).n/\s.tab=(aO s.prob).tab)/\s.ex=(aO s.prob).ex) then 0 else 3:=by
 unfold verifyE;rw[if_neg (by omega)];simp only[and_assoc,decide_eq_true_eq]
theorem FD(s:Sys) (vc vs vt ve:Value) (w:World) (cH:IsSys w s vc vs vt ve) (hN:movesN s.prob.a.states<2305843009213693952) (hf:vQ s.prob) :
  Calls Tryz.prog 63 #[.agg (bL s.prob vc vs s.n vt ve)] w fun r w'=>r=.returned (.int .i64 (verifyE s))/\Below w.heap.size w w':=by
 have HS:=aa cH;obtain⟨⟨qc,kc,rfl⟩,⟨qs,ks,rfl⟩,⟨qt,kt,rfl⟩,⟨qe,ke,rfl⟩⟩:=bB cH;have yH:=aa (fun W (hb:Below w.heap.size w W)=>DT s.prob _ _ W (HS.o.cases.up up_case hb) (HS.o.states.up up_moves hb) hN hf);have mK:=aa (fun W (hb:Below w.heap.size w W) uc us ut ue (hz:IsSys W (aO s.prob) uc us ut ue)=>NV s (aO s.prob) rfl _ _ _ _ uc us ut ue W (HS.o.up hb) hz);have pG:am (buildE s.prob≠0->verifyE s=buildE s.prob):=aa fun h=>by unfold verifyE;rw[if_pos h]
 have da:=aa (JH s);generalize verifyE s=vr at pG da ⊢;generalize decide ((s.n=(aO s.prob).n/\s.tab=(aO s.prob).tab)/\s.ex=(aO s.prob).ex)=sb at mK da;have Hn:(aO s.prob).n=s.prob.t.n:=rfl;unfold JG at yH;rw[Hn]at mK;have rm:am (∀ W uc us ut ue,IsSys W (aO s.prob) uc us ut ue->(∃ a c,uc=.slice a s.prob.t.cases.length c)/\(∃ a c,us=.slice a s.prob.a.states.length c)/\(∃ a c,ut=.slice a (aO s.prob).tab.length c)/\∃ a c,ue=.slice a (aO s.prob).ex.length c):=aa fun W uc us ut ue h=>bB h
 clear cH hN hf Hn;obtain⟨be,lz⟩:∃ be,buildE s.prob=be:=⟨_,rfl⟩;rw[lz]at yH pG da;clear lz;obtain⟨nc,jH⟩:∃ nc,s.prob.t.cases.length=nc:=⟨_,rfl⟩;obtain⟨ns,rN⟩:∃ ns,s.prob.a.states.length=ns:=⟨_,rfl⟩;have Kr:am ((∀ W,Below w.heap.size w W->bS W (.slice qc s.prob.t.cases.length kc) s.prob.t.cases)/\∀ W,Below w.heap.size w W->bF W (.slice qs s.prob.a.states.length ks) s.prob.a.states):=aa ⟨fun W hb=>HS.o.cases.up up_case hb,fun W hb=>HS.o.states.up up_moves hb⟩;rw[jH,rN]at yH mK rm Kr ⊢;clear jH rN;generalize s.tab.length=nt,s.ex.length=ne at mK ⊢
 go_enter Tryz.func63,Tryz.ntmps63
 go_wp2_with fail
 refine aN (fun W=>Below w.heap.size w W/\∃ c,W.heap[w.heap.size]?=some (.cells c 35)/\c=bL s.prob (.slice qc nc kc) (.slice qs ns ks) s.n (.slice qt nt kt) (.slice qe ne ke)) ⟨by go_grown,_,aq _ _,rfl⟩ (fun W0 aZ=>?_);obtain⟨aI,_,bI,rfl⟩:=aZ;refine(yH.o W0 aI).mono ?_;rintro r w1 ⟨⟨c,rfl,h1,h2⟩,aJ⟩;have bK:=aa (ae aI aJ);have db:=aa (af aJ bI);clear aI bI aJ yH;by_cases hz:be=0
 case neg=>
  have HV:=aa (pG.o hz);obtain rfl:=h2 hz;have Mr:(be != 0)=true:=by simpa using hz
  have hg:Below w.heap.size w (w1.alloc (.cells zeroSys 35)):=bK.o.alloc bK.o.size _;have HG:=aa hg;clear hz h1 h2 da mK hg
  go_wp2_with fail
  go_ret
  exact⟨aG HV.o.symm,HG.o⟩
 obtain⟨ut,ue,rfl,⟨⟨a3,c3,rfl⟩,a4,c4,rfl⟩,nA⟩:=h1 hz;have fk:=nA w1 (fun _ _ _=>rfl) (Kr.o.1 w1 bK.o) (Kr.o.2 w1 bK.o);have HZ:=aa fk;have BL:=aa (da.o hz);subst hz;obtain⟨mt,hmt⟩:∃ mt,(aO s.prob).tab.length=mt:=⟨_,rfl⟩;obtain⟨me,RK⟩:∃ me,(aO s.prob).ex.length=me:=⟨_,rfl⟩;rw[hmt,RK]at HZ ⊢;clear h1 h2 fk nA pG da rm hmt RK;have hg:Below w1.heap.size w1 (w1.alloc (.cells #[.int .i64 s.prob.t.n,.int .i64 s.prob.t.ins,.int .i64 s.prob.t.outs,.slice qc nc kc,.int .i64 s.prob.a.n,.slice qs ns ks,.int .i64 s.prob.rounds,.int .i64 s.prob.t.n,.slice a3 mt c3,.slice a4 me c4] 35)):=by go_grown
 have HG:=aa hg;have tA:=ab (af hg db.o);have tB:=ab (aq w1 (.cells #[.int .i64 s.prob.t.n,.int .i64 s.prob.t.ins,.int .i64 s.prob.t.outs,.slice qc nc kc,.int .i64 s.prob.a.n,.slice qs ns ks,.int .i64 s.prob.rounds,.int .i64 s.prob.t.n,.slice a3 mt c3,.slice a4 me c4] 35));clear hg
 go_wp2_with fail
 refine(mK.o _ (ae bK.o HG.o) _ _ _ _ (HZ.o.up HG.o)).mono ?_;rintro r w2 ⟨rfl,a8⟩;have cQ:=aa (ae (ae bK.o HG.o) a8);clear a8 tA tB mK;cases sb with
 | true=>
  go_wp2_with fail
  go_ret
  exact⟨aG (by rw[BL.o];rfl),cQ.o⟩
 | false=>
  go_wp2_with fail
  go_ret
  exact⟨aG (by rw[BL.o];rfl),cQ.o⟩
theorem FE(tmps:Array Value) (B:Nat) (W:World) (c0 c1 c2 c3 c4 c5 c6 c7 c8 c9:Value) (h2:tmps[2]?.getD undef=.pointer (some ⟨B,0,none⟩))
  (hB:W.heap[B]?=some (.cells #[c0,c1,c2,c3,c4,c5,c6,c7,c8,c9] 35)) :
  (results Tryz.f35 tmps).run Tryz.prog W=.ok (.agg #[c0,c1,c2,c3,c4,c5,c6,c7,c8,c9]) W:=by
 have t2:=ab hB;simp[results,Tryz.results35,go_sem,h2,t2]
theorem N7(p:Pb) (vc vs:Value) (w:World) (hc:bS w vc p.t.cases) (hs:bF w vs p.a.states) (hN:movesN p.a.states<2305843009213693952) (hf:vQ p) (h0:buildE p=0) :
  Calls Tryz.prog 35 #[rE p vc vs] w fun r w'=>∃ vt ve,r=.returned (.agg (bL p vc vs p.t.n vt ve))/\Im p vc vs vt ve w.heap.size w'/\Below w.heap.size w w':=by
 have GC:=aa hc;have GS:=aa hs;obtain⟨pc,cc,rfl,_⟩:=hc.at;obtain⟨ps,cs,rfl,_⟩:=hs.at;have yH:=aa (fun W (hb:Below w.heap.size w W)=>DT p _ _ W (GC.o.up up_case hb) (GS.o.up up_moves hb) hN hf);have Kr:am ((∀ W,Below w.heap.size w W->bS W (.slice pc p.t.cases.length cc) p.t.cases)/\∀ W,Below w.heap.size w W->bF W (.slice ps p.a.states.length cs) p.a.states):=aa ⟨fun W hb=>GC.o.up up_case hb,fun W hb=>GS.o.up up_moves hb⟩;unfold JG at yH;rw[h0]at yH;clear hc hs hN hf h0 GC GS;unfold Im at yH ⊢;obtain⟨nc,jH⟩:∃ nc,p.t.cases.length=nc:=⟨_,rfl⟩;obtain⟨ns,rN⟩:∃ ns,p.a.states.length=ns:=⟨_,rfl⟩;rw[jH,rN]at yH Kr ⊢;clear jH rN
 go_enter Tryz.func35,Tryz.ntmps35
 go_wp2_with fail
 refine aN (fun W=>Below w.heap.size w W/\W.heap[w.heap.size+1]?=some (.cells zeroSys 35)) ⟨by go_grown,bd _ _ _⟩ (fun W0 aZ=>?_);obtain⟨aI,ic⟩:=aZ;refine(yH.o W0 aI).mono ?_;rintro r w1 ⟨⟨c,rfl,h1,_⟩,aJ⟩;obtain⟨vt,ve,rfl,⟨⟨at3,ct3,rfl⟩,ave,cve,rfl⟩,cH⟩:=h1 (by first|rfl|trivial);have Aj:=aa cH;have bK:=aa (ae aI aJ);have dg:=aa (af aJ ic);have fk:=aC ic;obtain⟨nt,sM⟩:∃ nt,(aO p).tab.length=nt:=⟨_,rfl⟩;obtain⟨ne,bM⟩:∃ ne,(aO p).ex.length=ne:=⟨_,rfl⟩;have wN:=aa sM;have hH:=aa bM;rw[sM,bM]at Aj ⊢;have gc:=aC dg.o;clear cH h1 aI aJ ic sM bM yH;have te:=ab (aq w1 (.cells #[.int .i64 p.t.n,.int .i64 p.t.ins,.int .i64 p.t.outs,.slice pc nc cc,.int .i64 p.a.n,.slice ps ns cs,.int .i64 p.rounds,.int .i64 p.t.n,.slice at3 nt ct3,.slice ave ne cve] 35));have rJ:Below w1.heap.size w1 (w1.alloc (.cells #[.int .i64 p.t.n,.int .i64 p.t.ins,.int .i64 p.t.outs,.slice pc nc cc,.int .i64 p.a.n,.slice ps ns cs,.int .i64 p.rounds,.int .i64 p.t.n,.slice at3 nt ct3,.slice ave ne cve] 35)):=by go_grown
 have Ek:=aa rJ;have nT:=aa (af rJ dg.o);clear rJ
 go_wp2_with (refine wpList_store_row rfl 35 (.tmp 2) (.tmp 10) rfl (w.heap.size+1) #[.int .i64 p.t.n,.int .i64 p.t.ins,.int .i64 p.t.outs,.slice pc nc cc,.int .i64 p.a.n,.slice ps ns cs,.int .i64 p.rounds,.int .i64 p.t.n,.slice at3 nt ct3,.slice ave ne cve] rfl rfl 35 _ nT.o (by kernel_rfl) rfl (by simp[Value.oneCell']) ?_)
 refine bodyPost_ret (FE _ (w.heap.size+1) _ _ _ _ _ _ _ _ _ _ _ rfl (setRow_heap _ _ _ _ _ _ nT.o)) rfl ⟨.slice at3 nt ct3,.slice ave ne cve,rfl,⟨⟨⟨at3,ct3,by rw[wN.o]⟩,ave,cve,by rw[hH.o]⟩,fun Wf Kf h1 h2=>Aj.o Wf (fun k hk og=>?_) h1 h2⟩,below_setRow (ae bK.o Ek.o) (by omega) _⟩;refine(Kf k (by omega) (Nat.lt_of_lt_of_le og (Nat.le_trans Ek.o.size (below_setRow (Below.refl (w.heap.size+1) _) (Nat.le_refl _) _).size))).trans ?_;rw[setRow_other _ _ _ _ (by omega)];exact Ek.o.block k og
abbrev JI(p:Pb) (vc vs vt ve:Value):Value:=.agg #[.int .i64 p.t.n,.int .i64 p.t.ins,.int .i64 p.t.outs,vc,.int .i64 p.a.n,vs,.int .i64 p.rounds,.int .i64 p.t.n,vt,ve]
section
variable {p : Pb} {vc vs vt ve : Value} {w : World}
theorem QY(b:CkB p) (hs:IsSys w (aO p) vc vs vt ve) {x:Int} {l:List Int} (h:valuesR (aO p) x=(l,0)) :
  Calls Tryz.prog 11 #[JI p vc vs vt ve,.int .i64 x] w fun r w'=>∃ u,r=.returned (.tuple #[u,.int .i64 0])/\aT w' u l/\Below w.heap.size w w':=by
 have h1:=NF (aO p) x b.size vc vs vt ve w hs b.moves;rw[h]at h1;exact h1
theorem GE(b:CkB p) (hT:iH w) (hs:IsSys w (aO p) vc vs vt ve) {l:List Int} (h:choiceR (aO p)=(l,0)) :
  Calls Tryz.prog 13 #[JI p vc vs vt ve] w fun r w'=>∃ u,r=.returned (.tuple #[u,.int .i64 0])/\aT w' u l/\Below w.heap.size w w':=by
 have h1:=NG (aO p) b.size vc vs vt ve w hT hs b.moves;rw[h]at h1;exact h1
theorem Xs(b:CkB p) (hT:iH w) (hs:IsSys w (aO p) vc vs vt ve) (h:(ruleR (aO p)).2=(true,0)) :
  Calls Tryz.prog 16 #[JI p vc vs vt ve] w fun r w'=>∃ a n c,r=.returned (.tuple #[.agg #[.slice a n c],.bool true,.int .i64 0])/\Below w.heap.size w w':=by
 have h1:=Gy (aO p) b.size vc vs vt ve w hT hs b.moves;rw[h]at h1;refine h1.mono ?_;rintro r w' ⟨u,rfl,hu,hb⟩;obtain⟨a,c,rfl,_⟩:=hu.at;exact⟨_,_,_,rfl,hb⟩
theorem Xt(b:CkB p) (hT:iH w) (hs:IsSys w (aO p) vc vs vt ve) {l:List Lk} (h:findW (aO p)=(l,true,0)) :
  Calls Tryz.prog 18 #[JI p vc vs vt ve] w fun r w'=>∃ u,r=.returned (.tuple #[.agg (fw 1 u),.bool true,.int .i64 0])/\bh w' u l/\Below w.heap.size w w':=by
 have h1:=GB (aO p) b.size vc vs vt ve w hT hs b.moves;rw[h]at h1;refine h1.mono ?_;rintro r w' ⟨⟨u,rfl,hu⟩,hb⟩;exact⟨u,rfl,hu,hb⟩
theorem GF(b:CkB p) (hs:IsSys w (aO p) vc vs vt ve) {l:List Lk} {vw:Value} {e:Int} (hw:bh w vw l) (h:certE (aO p) ⟨1,l,0,0,0⟩=e) :
  Calls Tryz.prog 24 #[JI p vc vs vt ve,.agg (fw 1 vw)] w fun r w'=>r=.returned (.int .i64 e)/\Below w.heap.size w w':=by
 have h1:=Lz (aO p) b.size vc vs vt ve vw ⟨1,l,0,0,0⟩ none 0 none 0 none 0 w hs b.moves hw;rw[h]at h1;exact h1
theorem N8(b:CkB p) (hT:iH w) (hs:IsSys w (aO p) vc vs vt ve) {l m:List Lk} {vw:Value} (hw:bh w vw l) (h:shortR (aO p) ⟨1,l,0,0,0⟩=(m,0)) :
  Calls Tryz.prog 22 #[JI p vc vs vt ve,.agg (fw 1 vw)] w fun r w'=>∃ u,r=.returned (.tuple #[.agg (fw 1 u),.int .i64 0])/\bh w' u m/\Below w.heap.size w w':=by
 have h1:=JB (aO p) b.size vc vs vt ve vw ⟨1,l,0,0,0⟩ none 0 none 0 none 0 w hT hs b.moves hw;rw[h]at h1;refine h1.mono ?_;rintro r w' ⟨⟨u,rfl,hu⟩,hb⟩;exact⟨u,rfl,hu,hb⟩
end
theorem QZ{w:World} {b:Nat} {gs:List (Int × Int)} {l:List Value} (h:w.heap[b]?=some (.cells l.toArray 92)) (hl:l=gs.flatMap fun h=>[.int .i64 h.1,.int .i64 h.2]):∀ i (hi:i<gs.length),w.cell? ⟨b,i * 2,none⟩=some (.int .i64 gs[i].1)/\w.cell? ⟨b,i * 2+1,none⟩=some (.int .i64 gs[i].2):=by
 intro i hi;rw[ab h,ab h,hl]
 have key:∀ (gs:List (Int × Int)) (i:Nat) (hi:i<gs.length),(gs.flatMap fun h=>[Value.int .i64 h.1,.int .i64 h.2])[i * 2]?=some (.int .i64 gs[i].1)/\(gs.flatMap fun h=>[Value.int .i64 h.1,.int .i64 h.2])[i * 2+1]?=some (.int .i64 gs[i].2):=by
  intro gs;induction gs with
  | nil=>intro i hi;simp at hi
  | cons a r ih=>
   intro i hi;cases i with
   | zero=>simp
   | succ i=>
    have h2:=ih i (by simpa using hi);simp only[List.flatMap_cons,List.getElem_cons_succ];rw[show (i+1) * 2=i * 2+1+1 by omega];simpa using h2
 have:=key gs i hi;simpa using this
theorem ck_few1:vQ (rB 1 [(1,3),(3,3)]):=fun _=>.inl (by decide +kernel)
theorem ck_few2:vQ (rB 0 [(3,3)]):=fun _=>.inl (by decide +kernel)
theorem ck_few3:vQ (rB 1 [(1,3),(3,2),(3,3)]):=fun _=>.inl (by decide +kernel)
def Q0(p:Pb) (pc ps:Option Addr) (nc cc ns cs:Nat) (w:World):Prop:=Calls Tryz.prog 35 #[rE p (.slice pc nc cc) (.slice ps ns cs)] w fun r w'=>∃ pt pe:Option Addr,∃ ct ce nt ne:Nat,r=.returned (JI p (.slice pc nc cc) (.slice ps ns cs) (.slice pt nt ct) (.slice pe ne ce))/\(∀ Wf:World,(∀ k,w.heap.size<=k->k<w'.heap.size->Wf.heap[k]?=w'.heap[k]?)->bS Wf (.slice pc nc cc) p.t.cases->bF Wf (.slice ps ns cs) p.a.states->IsSys Wf (aO p) (.slice pc nc cc) (.slice ps ns cs) (.slice pt nt ct) (.slice pe ne ce))/\Below w.heap.size w w'
theorem CM{p:Pb} (b:CkB p) (hf:vQ p) (pc ps:Option Addr) (nc cc ns cs:Nat) (w:World) (hc:bS w (.slice pc nc cc) p.t.cases) (hs:bF w (.slice ps ns cs) p.a.states):Q0 p pc ps nc cc ns cs w:=by
 have hm:=b.moves;refine(N7 p _ _ w hc hs (by omega) hf b.few).mono ?_;rintro r w' ⟨vt,ve,rfl,⟨⟨⟨pt,ct,rfl⟩,pe,ce,rfl⟩,cH⟩,hb⟩;exact⟨_,_,_,_,_,_,rfl,cH,hb⟩
def Q4(p:Pb) (rounds:Int) (n b:Nat) (w:World):Prop:=Calls Tryz.prog 36 #[.int .i64 rounds,.slice (some ⟨b,0,none⟩) n n] w fun r w'=>∃ pc ps:Option Addr,∃ cc cs nc ns:Nat,r=.returned (rE p (.slice pc nc cc) (.slice ps ns cs))/\(∀ Wf:World,(∀ k,w.heap.size<=k->k<w'.heap.size->Wf.heap[k]?=w'.heap[k]?)->bS Wf (.slice pc nc cc) p.t.cases/\bF Wf (.slice ps ns cs) p.a.states)/\Below w.heap.size w w'
theorem FG(rounds:Int) (gs:List (Int × Int)) (n:Nat) (hl:gs.length=n) (hn:n<=100) (cW:∀ h∈gs,bN h.1/\bN h.2) (b:Nat) (w:World) (l:List Value) (h:w.heap[b]?=some (.cells l.toArray 92)) (he:l=gs.flatMap fun h=>[.int .i64 h.1,.int .i64 h.2]):Q4 (rB rounds gs) rounds n b w:=by
 refine(Qh rounds gs n hl hn cW b w (QZ h he)).mono ?_;rintro r w' ⟨vc,vs,rfl,jU,hb⟩;obtain⟨hc,hs⟩:=jU w' (fun _ _ _=>rfl);obtain⟨pc,cc,rfl,_⟩:=hc.at;obtain⟨ps,cs,rfl,_⟩:=hs.at;exact⟨_,_,_,_,_,_,rfl,jU,hb⟩
theorem N9(gs:List (Int × Int)) (h:gs.all (fun x=>decide (0<=x.1/\x.1<100/\0<=x.2/\x.2<100))=true):∀ h∈gs,bN h.1/\bN h.2:=fun x hx=>by
 have:=of_decide_eq_true (List.all_eq_true.1 h x hx);exact⟨⟨by omega,by omega⟩,by omega,by omega⟩
def ZR(n:Nat) (l:List Int):MP:=⟨fun x W=>∃ i,x=.slice (some ⟨i,0,none⟩) n n/\W.heap[i]?=some (.cells (bC l) 3),fun _ _ _ h hb=>by obtain⟨i,e,h⟩:=h;exact⟨i,e,af hb h⟩⟩
theorem xC_nine:xC 9 (-1) 9=bC (List.replicate 9 (-1)):=by unfold xC;rw[oE];simp[List.map_const']
theorem JJ{W:World} {b:Nat} (h:W.heap[b]?=some (.cells #[.int .i64 0,.int .i64 (-1),.int .i64 1,.int .i64 0,.int .i64 2,.int .i64 1] 75)):bh W (.slice (some ⟨b,0,none⟩) 3 3) ckW:=by
 have t:=ab h;refine⟨some ⟨b,0,none⟩,3,rfl,⟨by simp[ckW],by omega,fun e=>by cases e⟩,by simp[ckW],fun i x hx=>⟨b,0,rfl,?_⟩⟩;obtain⟨hi,rfl⟩:=List.getElem?_eq_some_iff.1 hx;have z:∀ x:Int,-2<x->x<100->bN x:=fun x h1 h2=>⟨by omega,by omega⟩
 rcases (show i=0\/i=1\/i=2 by simp[ckW]at hi;omega) with rfl|rfl|rfl
 ·exact⟨⟨t 0,z _ (by simp[ckW]) (by simp[ckW])⟩,t 1,z _ (by simp[ckW]) (by simp[ckW])⟩
 ·exact⟨⟨t 2,z _ (by simp[ckW]) (by simp[ckW])⟩,t 3,z _ (by simp[ckW]) (by simp[ckW])⟩
 ·exact⟨⟨t 4,z _ (by simp[ckW]) (by simp[ckW])⟩,t 5,z _ (by simp[ckW]) (by simp[ckW])⟩
theorem JK(w:World) (hT:iH w):Calls Tryz.prog 10 #[] w fun r w'=>r=.returned (.bool true)/\Below w.heap.size w w':=by
 have HT:=aa hT;have BP:=aa ck1_b;have mi:=aa ck2_b;have As:=aa ck3_b;clear hT;obtain⟨p1,uV⟩:∃ p,p=rB 1 [(1,3),(3,3)]:=⟨_,rfl⟩;rw[<-uV]at BP;have TM:am (∀ pc ps nc cc ns cs w,bS w (.slice pc nc cc) p1.t.cases->bF w (.slice ps ns cs) p1.a.states->Q0 p1 pc ps nc cc ns cs w):=aa (CM BP.o (by rw[uV];exact ck_few1));have Ub:am (∀ (W:World) b,W.heap[b]?=some (.cells #[.int .i64 1,.int .i64 3,.int .i64 3,.int .i64 3] 92)->Q4 p1 1 2 b W):=aa (by rw[uV];exact fun W b h=>FG 1 [(1,3),(3,3)] 2 rfl (by omega) (N9 _ (by decide)) b W [.int .i64 1,.int .i64 3,.int .i64 3,.int .i64 3] h rfl);have pG:am (valuesR (aO p1) 3=([0,1],0)):=aa (by rw[uV];exact ck1_vals);have Yp:am (choiceR (aO p1)=([0,0,0,0,1,1],0)):=aa (by rw[uV];exact ck1_choice);have dg:am ((ruleR (aO p1)).2=(true,0)):=aa (by rw[uV];exact ck1_rule);obtain⟨p2,Ab⟩:∃ p,p=rB 0 [(3,3)]:=⟨_,rfl⟩;rw[<-Ab]at mi;have TJ:am (∀ pc ps nc cc ns cs w,bS w (.slice pc nc cc) p2.t.cases->bF w (.slice ps ns cs) p2.a.states->Q0 p2 pc ps nc cc ns cs w):=aa (CM mi.o (by rw[Ab];exact ck_few2));have Uo:am (∀ (W:World) b,W.heap[b]?=some (.cells #[.int .i64 3,.int .i64 3] 92)->Q4 p2 0 1 b W):=aa (by rw[Ab];exact fun W b h=>FG 0 [(3,3)] 1 rfl (by omega) (N9 _ (by decide)) b W [.int .i64 3,.int .i64 3] h rfl);have yO:am (findW (aO p2)=(ckW,true,0)):=aa (by rw[Ab];exact ck2_find);have nU:am (certE (aO p2) ⟨1,ckW,0,0,0⟩=0):=aa (by rw[Ab];exact ck2_cert);have dR:am (shortR (aO p2) ⟨1,ckW,0,0,0⟩=(ckW,0)):=aa (by rw[Ab];exact ck2_short);have tp:am (certE (aO p2) ⟨1,ckW.take 2,0,0,0⟩=18):=aa (by rw[Ab];exact ck2_not);obtain⟨p3,GP⟩:∃ p,p=rB 1 [(1,3),(3,2),(3,3)]:=⟨_,rfl⟩;rw[<-GP]at As;have Uz:am (∀ pc ps nc cc ns cs w,bS w (.slice pc nc cc) p3.t.cases->bF w (.slice ps ns cs) p3.a.states->Q0 p3 pc ps nc cc ns cs w):=aa (CM As.o (by rw[GP];exact ck_few3))
 have Uv:am (∀ (W:World) b,W.heap[b]?=some (.cells #[.int .i64 1,.int .i64 3,.int .i64 3,.int .i64 2,.int .i64 3,.int .i64 3] 92)->Q4 p3 1 3 b W):=aa (by rw[GP];exact fun W b h=>FG 1 [(1,3),(3,2),(3,3)] 3 rfl (by omega) (N9 _ (by decide)) b W [.int .i64 1,.int .i64 3,.int .i64 3,.int .i64 2,.int .i64 3,.int .i64 3] h rfl);have HH3:am (choiceR (aO p3)=(List.replicate 9 (-1),0)):=aa (by rw[GP];exact ck3_choice);clear uV Ab GP;unfold Q0 at TM TJ Uz;unfold Q4 at Ub Uo Uv
 go_enter Tryz.func10,Tryz.ntmps10
 go_wp2_with fail
 refine aN (fun W=>Below w.heap.size w W/\W.heap[w.heap.size]?=some (.cells #[.int .i64 1,.int .i64 3,.int .i64 3,.int .i64 3] 92)) ⟨by go_grown,aq _ _⟩ (fun W0 aZ=>?_);refine(Ub.o W0 _ aZ.2).mono ?_;rintro r w1 ⟨pc,ps,cc,cs,nc,ns,rfl,jU,aJ⟩;have xW:=aa (ae aZ.1 aJ);have pA:=aa (jU w1 (fun _ _ _=>rfl));have HK:=aa (TM.o _ _ _ _ _ _ w1 pA.o.1 pA.o.2);clear aJ aZ jU TM Ub
 go_wp2_with fail
 refine HK.o.mono ?_;rintro r w2 ⟨pt,pe,ct,ce,nt,ne,rfl,cH,a8⟩;have ra:=aa (cH w2 (fun _ _ _=>rfl) (pA.o.1.up up_case a8) (pA.o.2.up up_moves a8));have Ob:=aa (ae xW.o a8);clear cH a8 HK pA;have tb:=ab (aq w2 (.cells #[.int .i64 p1.t.n,.int .i64 p1.t.ins,.int .i64 p1.t.outs,.slice pc nc cc,.int .i64 p1.a.n,.slice ps ns cs,.int .i64 p1.rounds,.int .i64 p1.t.n,.slice pt nt ct,.slice pe ne ce] 35))
 go_wp2_with fail
 clear tb;refine aN (fun W=>Below w2.heap.size w2 W/\W.heap[w2.heap.size]?=some (.cells #[.int .i64 p1.t.n,.int .i64 p1.t.ins,.int .i64 p1.t.outs,.slice pc nc cc,.int .i64 p1.a.n,.slice ps ns cs,.int .i64 p1.rounds,.int .i64 p1.t.n,.slice pt nt ct,.slice pe ne ce] 35)) ⟨by go_grown,aq _ _⟩ (fun W3 nY=>?_);have ef:=aa (ae Ob.o nY.1);have gN:=aa nY.2;have Ci:=aa (ra.o.up nY.1);have iS:=Ob.o.size;clear nY ra;refine(QY BP.o Ci.o pG.o).mono ?_;rintro r w4 ⟨u4,rfl,mr,cj⟩;obtain⟨a4,n4,c4,rfl⟩:∃ a n c,u4=.slice a n c:=by obtain⟨a,c,e,_⟩:=mr.at;exact⟨_,_,_,e⟩
 have lU:=aa mr;have eG:=aa (ae ef.o cj);have jJ:=aa (af cj gN.o);have Mz:=aa (Ci.o.up cj);have tb:=ab jJ.o;clear mr cj gN Ci
 go_wp2_with fail
 clear tb;refine(GE BP.o (HT.o.up eG.o) Mz.o Yp.o).mono ?_;rintro r w5 ⟨u5,rfl,sL,dE⟩;obtain⟨a5,n5,c5,rfl⟩:∃ a n c,u5=.slice a n c:=by obtain⟨a,c,e,_⟩:=sL.at;exact⟨_,_,_,e⟩
 have uP:=aa sL;have lU:=aa (lU.o.up up_int dE);have lf:=aa (ae eG.o dE);have zX:=aa (af dE jJ.o);have Rr:=aa (Mz.o.up dE);have tb:=ab zX.o;clear sL dE jJ Mz
 go_wp2_with fail
 clear tb;refine(Xs BP.o (HT.o.up lf.o) Rr.o dg.o).mono ?_;rintro r w6 ⟨a6,n6,c6,rfl,gi⟩;have uP:=aa (uP.o.up up_int gi);have lU:=aa (lU.o.up up_int gi);have lu:=aa (ae lf.o gi);have JR:=aa (af gi zX.o);have VQ:=aC JR.o;clear gi zX Rr
 go_wp2_with fail
 refine aN (fun W=>Below w6.heap.size w6 W/\W.heap[w6.heap.size+1]?=some (.cells (bC [0,1]) 3)) ⟨by go_grown,bd _ _ _⟩ (fun W7 uL=>?_);refine(ij _ _ [0,1] [0,1] W7 (lU.o.up up_int uL.1) (ib [0,1] uL.2 (by decide) (by decide))).mono ?_;rintro r w7 ⟨rfl,lA⟩;rw[show eqV [0,1] [0,1]=true by decide];have OP:=ae uL.1 lA;have uP:=aa (uP.o.up up_int OP);have MC:=aa (ae lu.o OP);have MM:=aa (af OP JR.o);clear lA OP uL JR lU
 go_wp2_with fail
 refine aN (fun W=>Below w7.heap.size w7 W/\W.heap[w7.heap.size]?=some (.cells (bC [0,0,0,0,1,1]) 3)) ⟨by go_grown,aq _ _⟩ (fun W8 pV=>?_);refine(ij _ _ [0,0,0,0,1,1] [0,0,0,0,1,1] W8 (uP.o.up up_int pV.1) (ib [0,0,0,0,1,1] pV.2 (by decide) (by decide))).mono ?_;rintro r w8 ⟨rfl,uT⟩;rw[show eqV [0,0,0,0,1,1] [0,0,0,0,1,1]=true by decide];have TT:=ae pV.1 uT;have Zc:=aa (ae MC.o TT);have YR:=aa (af TT MM.o);clear uT TT pV MM uP
 go_wp2_with fail
 refine aN (fun W=>Below w8.heap.size w8 W/\W.heap[w8.heap.size]?=some (.cells #[.int .i64 3,.int .i64 3] 92)) ⟨by go_grown,aq _ _⟩ (fun W9 hW9=>?_);refine(Uo.o W9 _ hW9.2).mono ?_;rintro r w9 ⟨pc2,ps2,cc2,cs2,nc2,ns2,rfl,jU,dS⟩;have En:=af (ae hW9.1 dS) YR.o;have hsz9:=hW9.1.size;have h28:=aC YR.o;have Al:=aa En;have fy:=aa (ae Zc.o (ae hW9.1 dS));have Uf:=jU w9 (fun _ _ _=>rfl);have HK:=aa (TJ.o _ _ _ _ _ _ w9 Uf.1 Uf.2);have pA:=aa jU;have hsz99:=dS.size;clear dS hW9 jU Uf TJ Uo En YR
 go_wp2_with fail
 refine HK.o.mono ?_;rintro r w10 ⟨pt2,pe2,ct2,ce2,nt2,ne2,rfl,cH,pf⟩;have CU:=aa (af pf Al.o);have FQ:=aa (ae fy.o pf)
 have HF10:am (Below w.heap.size w (w10.setRow w2.heap.size #[.int .i64 p2.t.n,.int .i64 p2.t.ins,.int .i64 p2.t.outs,.slice pc2 nc2 cc2,.int .i64 p2.a.n,.slice ps2 ns2 cs2,.int .i64 p2.rounds,.int .i64 p2.t.n,.slice pt2 nt2 ct2,.slice pe2 ne2 ce2])/\(w10.setRow w2.heap.size #[.int .i64 p2.t.n,.int .i64 p2.t.ins,.int .i64 p2.t.outs,.slice pc2 nc2 cc2,.int .i64 p2.a.n,.slice ps2 ns2 cs2,.int .i64 p2.rounds,.int .i64 p2.t.n,.slice pt2 nt2 ct2,.slice pe2 ne2 ce2]).heap[w2.heap.size]?=some (.cells #[.int .i64 p2.t.n,.int .i64 p2.t.ins,.int .i64 p2.t.outs,.slice pc2 nc2 cc2,.int .i64 p2.a.n,.slice ps2 ns2 cs2,.int .i64 p2.rounds,.int .i64 p2.t.n,.slice pt2 nt2 ct2,.slice pe2 ne2 ce2] 35)/\IsSys (w10.setRow w2.heap.size #[.int .i64 p2.t.n,.int .i64 p2.t.ins,.int .i64 p2.t.outs,.slice pc2 nc2 cc2,.int .i64 p2.a.n,.slice ps2 ns2 cs2,.int .i64 p2.rounds,.int .i64 p2.t.n,.slice pt2 nt2 ct2,.slice pe2 ne2 ce2]) (aO p2) (.slice pc2 nc2 cc2) (.slice ps2 ns2 cs2) (.slice pt2 nt2 ct2) (.slice pe2 ne2 ce2)):=aa (by
  have bM:∀ k,k≠w2.heap.size->(w10.setRow w2.heap.size #[.int .i64 p2.t.n,.int .i64 p2.t.ins,.int .i64 p2.t.outs,.slice pc2 nc2 cc2,.int .i64 p2.a.n,.slice ps2 ns2 cs2,.int .i64 p2.rounds,.int .i64 p2.t.n,.slice pt2 nt2 ct2,.slice pe2 ne2 ce2]).heap[k]?=w10.heap[k]?:=fun k hk=>setRow_other _ _ _ _ hk
  have OK:=pA.o (w10.setRow w2.heap.size #[.int .i64 p2.t.n,.int .i64 p2.t.ins,.int .i64 p2.t.outs,.slice pc2 nc2 cc2,.int .i64 p2.a.n,.slice ps2 ns2 cs2,.int .i64 p2.rounds,.int .i64 p2.t.n,.slice pt2 nt2 ct2,.slice pe2 ne2 ce2]) (fun k h1 h2=>(bM k (by omega)).trans (pf.block k h2))
  exact⟨below_setRow FQ.o (by omega) _,setRow_heap _ _ _ _ _ _ CU.o,cH _ (fun k h1 h2=>bM k (by omega)) OK.1 OK.2⟩)
 clear cH pf HK pA Al
 go_wp2_with (refine wpList_store_row rfl 35 (.tmp 1) (.tmp 60) rfl w2.heap.size #[.int .i64 p2.t.n,.int .i64 p2.t.ins,.int .i64 p2.t.outs,.slice pc2 nc2 cc2,.int .i64 p2.a.n,.slice ps2 ns2 cs2,.int .i64 p2.rounds,.int .i64 p2.t.n,.slice pt2 nt2 ct2,.slice pe2 ne2 ce2] rfl rfl 35 _ CU.o (by kernel_rfl) rfl (by simp[Value.oneCell']) (gT (fun W=>Below w.heap.size w W/\W.heap[w2.heap.size]?=some (.cells #[.int .i64 p2.t.n,.int .i64 p2.t.ins,.int .i64 p2.t.outs,.slice pc2 nc2 cc2,.int .i64 p2.a.n,.slice ps2 ns2 cs2,.int .i64 p2.rounds,.int .i64 p2.t.n,.slice pt2 nt2 ct2,.slice pe2 ne2 ce2] 35)/\IsSys W (aO p2) (.slice pc2 nc2 cc2) (.slice ps2 ns2 cs2) (.slice pt2 nt2 ct2) (.slice pe2 ne2 ce2)) HF10.o ?_);intro W11 OU;have HB11:=aa OU.1;have T4:=aa OU.2.1;have Un:=aa OU.2.2;clear OU HF10;have tb:=ab T4.o)
 clear tb;refine(Xt mi.o (HT.o.up HB11.o) Un.o yO.o).mono ?_;rintro r w12 ⟨u12,rfl,T0,OJ⟩;obtain⟨a12,n12,c12,rfl⟩:∃ a n c,u12=.slice a n c:=by obtain⟨a,c,e,_⟩:=T0.at;exact⟨_,_,_,e⟩
 have HU12:=aa T0;have HB12:=aa (ae HB11.o OJ);have Uc:=aa (af OJ T4.o);have HS12:=aa (Un.o.up OJ);have hs12:=aC Uc.o;clear T0 OJ T4 Un;have tb1:=fun o1 o2=>ab (ar o2 (ar o1 (aq w12 (.cells #[.int .i64 1,.slice a12 n12 c12,.slice none 0 0,.slice none 0 0,.slice none 0 0] 58))))
 have tb2:=fun o1 o2=>ab (bd (w12.alloc o1) o2 (.cells #[.int .i64 1,.slice (some ⟨w12.heap.size+1,0,none⟩) 3 3,.slice none 0 0,.slice none 0 0,.slice none 0 0] 58))
 simp only[World.size_alloc]at tb2
 go_wp2_with fail
 clear tb1 tb2;refine aN (fun W=>Below w12.heap.size w12 W/\W.heap[w12.heap.size]?=some (.cells #[.int .i64 1,.slice a12 n12 c12,.slice none 0 0,.slice none 0 0,.slice none 0 0] 58)/\W.heap[w12.heap.size+1]?=some (.cells #[.int .i64 0,.int .i64 (-1),.int .i64 1,.int .i64 0,.int .i64 2,.int .i64 1] 75)/\W.heap[w12.heap.size+1+1]?=some (.cells #[.int .i64 1,.slice (some ⟨w12.heap.size+1,0,none⟩) 3 3,.slice none 0 0,.slice none 0 0,.slice none 0 0] 58)) ⟨by go_grown,ar _ (ar _ (aq _ _)),ar _ (bd _ _ _),eI _ _ _ _⟩ (fun W13 hW13=>?_);refine(xS 1 ckW _ _ none none none none none none 0 0 0 0 0 0 W13 (HU12.o.up up_link hW13.1) (JJ hW13.2.2.1)).mono ?_;rintro r w13 ⟨rfl,Om⟩;have Ip:=ae hW13.1 Om;have HB13:=aa (ae HB12.o Ip);have FT:=aa (af Ip Uc.o);have TH:=aa (HS12.o.up Ip);have Ue:=aa (JJ (af Om hW13.2.2.1));have Tw:=aa (af Om hW13.2.2.2);have tb:=ab FT.o;have tc:=ab Tw.o;clear hW13 Om Ip Uc HS12 HU12
 go_wp2_with fail
 clear tb tc;refine(GF mi.o TH.o Ue.o nU.o).mono ?_;rintro r w14 ⟨rfl,FN⟩;have HB14:=aa (ae HB13.o FN);have FW:=aa (af FN FT.o);have TY:=aa (TH.o.up FN);have Uu:=aa (Ue.o.up up_link FN);have Ty:=aa (af FN Tw.o);have tb:=ab FW.o;have tc:=ab Ty.o;clear FN FT TH Ue Tw
 go_wp2_with fail
 clear tb tc;refine(N8 mi.o (HT.o.up HB14.o) TY.o Uu.o dR.o).mono ?_;rintro r w15 ⟨u15,rfl,UE,FP⟩;obtain⟨a15,n15,c15,rfl⟩:∃ a n c,u15=.slice a n c:=by obtain⟨a,c,e,_⟩:=UE.at;exact⟨_,_,_,e⟩
 have HU15:=aa UE;have HB15:=aa (ae HB14.o FP);have HX15:=aa (af FP FW.o);have HS15:=aa (TY.o.up FP);have HL15:=aa (Uu.o.up up_link FP);have HT15:=aa (af FP Ty.o);clear FP UE FW TY Uu Ty
 go_wp2_with fail
 refine aN (fun W=>Below w15.heap.size w15 W/\W.heap[w15.heap.size]?=some (.cells #[.int .i64 1,.slice a15 n15 c15,.slice none 0 0,.slice none 0 0,.slice none 0 0] 58)/\W.heap[w15.heap.size+1]?=some (.cells #[.int .i64 1,.int .i64 3,.int .i64 3,.int .i64 2,.int .i64 3,.int .i64 3] 92)) ⟨by go_grown,ar _ (aq _ _),bd _ _ _⟩ (fun W16 hW16=>?_);refine(Uv.o W16 _ hW16.2.2).mono ?_;rintro r w16 ⟨pc3,ps3,cc3,cs3,nc3,ns3,rfl,jU,UB⟩;have xX:=ae hW16.1 UB;have pA:=aa (jU w16 (fun _ _ _=>rfl));have HK:=aa (Uz.o _ _ _ _ _ _ w16 pA.o.1 pA.o.2);have HB16:=aa (ae HB15.o xX);have HX16:=aa (af xX HX15.o);have HS16:=aa (HS15.o.up xX);have HL16:=aa (HL15.o.up up_link xX);have HT16:=aa (af xX HT15.o);have HU16:=aa (HU15.o.up up_link xX);have HD16:=aa (af UB hW16.2.1);clear hW16 UB xX jU Uz Uv HX15 HS15 HL15 HT15 HU15
 go_wp2_with fail
 refine HK.o.mono ?_;rintro r w17 ⟨pt3,pe3,ct3,ce3,nt3,ne3,rfl,cH,vS⟩;have Ci:=aa (cH w17 (fun _ _ _=>rfl) (pA.o.1.up up_case vS) (pA.o.2.up up_moves vS));have HB17:=aa (ae HB16.o vS);have HX17:=aa (af vS HX16.o);have HS17:=aa (HS16.o.up vS);have HL17:=aa (HL16.o.up up_link vS);have HT17:=aa (af vS HT16.o);have HU17:=aa (HU16.o.up up_link vS);have HD17:=aa (af vS HD16.o);clear cH vS HK pA HX16 HS16 HL16 HT16 HU16 HD16;have tb:=ab (aq w17 (.cells #[.int .i64 p3.t.n,.int .i64 p3.t.ins,.int .i64 p3.t.outs,.slice pc3 nc3 cc3,.int .i64 p3.a.n,.slice ps3 ns3 cs3,.int .i64 p3.rounds,.int .i64 p3.t.n,.slice pt3 nt3 ct3,.slice pe3 ne3 ce3] 35))
 go_wp2_with fail
 clear tb;refine aN (fun W=>Below w17.heap.size w17 W) (by go_grown) (fun W18 hW18=>?_);refine(GE As.o (HT.o.up (ae HB17.o hW18)) (Ci.o.up hW18) HH3.o).mono ?_;rintro r w18 ⟨u18,rfl,TA,hb18⟩;obtain⟨a18,n18,c18,rfl⟩:∃ a n c,u18=.slice a n c:=by obtain⟨a,c,e,_⟩:=TA.at;exact⟨_,_,_,e⟩
 have uW:=ae hW18 hb18;have HV18:=aa TA;have HB18:=aa (ae HB17.o uW);have HX18:=aa (af uW HX17.o);have HS18:=aa (HS17.o.up uW);have HL18:=aa (HL17.o.up up_link uW);have HT18:=aa (af uW HT17.o);have HU18:=aa (HU17.o.up up_link uW);have HD18:=aa (af uW HD17.o);clear hW18 hb18 uW TA HX17 HS17 HL17 HT17 HU17 HD17 Ci
 go_wp2_with fail
 have hS:List.Nodup [107,108,109,110,111,112,113,114,115,116,117,118,119,120,121,122,123,124,125,126,127,128,129,130,0]:=by decide
 refine Ht 25 [107,108,109,110,111,112,113,114,115,116,117,118,119,120,121,122,123,124,125,126,127,128,129,130,0] [MP.eq (.int .i64 0),MP.eq (.int .i64 0),MP.eq (.int .i64 0),MP.eq (.bool true),MP.eq (.bool true),MP.eq (.agg #[.int .i64 1,.slice a15 n15 c15,.slice none 0 0,.slice none 0 0,.slice none 0 0]),MP.eq (.agg #[.int .i64 1,.slice (some ⟨w12.heap.size+1,0,none⟩) 3 3,.slice none 0 0,.slice none 0 0,.slice none 0 0]),MP.eq (.bool true),MP.eq (.bool true),MP.eq (.bool true),MP.eq (.slice a18 n18 c18),ZR 1 [-1],ZR 9 (List.replicate 9 (-1)),MP.eq (.bool true),MP.eq (.bool true),MP.eq (.bool true),MP.eq (.agg #[.int .i64 p2.t.n,.int .i64 p2.t.ins,.int .i64 p2.t.outs,.slice pc2 nc2 cc2,.int .i64 p2.a.n,.slice ps2 ns2 cs2,.int .i64 p2.rounds,.int .i64 p2.t.n,.slice pt2 nt2 ct2,.slice pe2 ne2 ce2]),MP.eq (.pointer (some ⟨w12.heap.size+1+1,1,none⟩)),MP.eq (.slice (some ⟨w12.heap.size+1,0,none⟩) 3 3),MP.eq (.slice (some ⟨w12.heap.size+1,0,none⟩) 2 3),MP.eq (.agg #[.int .i64 1,.slice (some ⟨w12.heap.size+1,0,none⟩) 2 3,.slice none 0 0,.slice none 0 0,.slice none 0 0]),MP.eq (.int .i64 18),MP.eq (.bool true),MP.eq (.bool true),MP.eq (.bool true)] (by kernel_rfl) rfl hS rfl (by kernel_rfl) ?step ?tail
 case step=>
  intro x W i o s F hi ho hs hB ap hF;rcases (show i=0\/i=1\/i=2\/i=3\/i=4\/i=5\/i=6\/i=7\/i=8\/i=9\/i=10\/i=11\/i=12\/i=13\/i=14\/i=15\/i=16\/i=17\/i=18\/i=19\/i=20\/i=21\/i=22\/i=23\/i=24 by omega) with rfl|rfl|rfl|rfl|rfl|rfl|rfl|rfl|rfl|rfl|rfl|rfl|rfl|rfl|rfl|rfl|rfl|rfl|rfl|rfl|rfl|rfl|rfl|rfl|rfl
  all_goals (obtain rfl:=dp ho.symm;obtain rfl:=dp hs.symm;clear hi ho hs)
  ·obtain⟨g3,h3⟩:=cK hF 3 (.int .i64 0) (by decide) rfl;clear hF ap
   go_wp2_with fail
   exact aY.mk _ (Below.refl _ _) rfl rfl
  ·obtain⟨g5,h5⟩:=cK hF 5 (.int .i64 0) (by decide) rfl;clear hF ap
   go_wp2_with fail
   exact aY.mk _ (Below.refl _ _) rfl rfl
  ·obtain⟨e0,f0⟩:=aQ hF 0 107 _ hS rfl (by kernel_rfl) (ap ⟨0,.data⟩ (by simp) rfl);obtain⟨e1,f1⟩:=aQ hF 1 108 _ hS rfl (by kernel_rfl) (ap ⟨1,.data⟩ (by simp) rfl);clear hF ap
   go_wp2_with fail
   exact aY.mk _ (Below.refl _ _) rfl rfl
  ·obtain⟨e2,f2⟩:=aQ hF 2 109 _ hS rfl (by kernel_rfl) (ap ⟨2,.data⟩ (by simp) rfl);clear hF ap
   go_wp2_with fail
   exact aY.mk _ (Below.refl _ _) rfl rfl
  ·obtain⟨e3,f3⟩:=aQ hF 3 110 _ hS rfl (by kernel_rfl) (ap ⟨3,.data⟩ (by simp) rfl);clear hF ap
   go_wp2_with fail
   exact aY.mk _ (Below.refl _ _) rfl rfl
  ·obtain⟨g11,VH⟩:=cK hF 11 (.pointer (some ⟨w15.heap.size,0,none⟩)) (by decide) rfl;have m4:=fE hF 4 111 (.bool true) hS rfl (by kernel_rfl) (ap ⟨4,.guard⟩ (by simp) rfl);have tb:=ab (af hB HD18.o);clear hF ap
   go_wp2_with fail
   exact aY.mk _ (Below.refl _ _) rfl rfl
  ·obtain⟨g10,B1⟩:=cK hF 10 (.pointer (some ⟨w12.heap.size+1+1,0,none⟩)) (by decide) rfl;have m4:=fE hF 4 111 (.bool true) hS rfl (by kernel_rfl) (ap ⟨4,.guard⟩ (by simp) rfl);have tb:=ab (af hB HT18.o);clear hF ap
   go_wp2_with fail
   exact aY.mk _ (Below.refl _ _) rfl rfl
  ·obtain⟨e5,f5⟩:=aQ hF 5 112 _ hS rfl (by kernel_rfl) (ap ⟨5,.data⟩ (by simp) rfl);obtain⟨e6,f6⟩:=aQ hF 6 113 _ hS rfl (by kernel_rfl) (ap ⟨6,.data⟩ (by simp) rfl);have m4:=fE hF 4 111 (.bool true) hS rfl (by kernel_rfl) (ap ⟨4,.guard⟩ (by simp) rfl);clear hF ap
   go_wp2_with fail
   refine(xS 1 ckW _ _ none none none none none none 0 0 0 0 0 0 W (HU18.o.up up_link hB) (HL18.o.up up_link hB)).mono ?_;rintro r W' ⟨rfl,gp⟩
   go_wp2_with fail
   exact aY.mk _ gp rfl rfl
  ·obtain⟨e4,f4⟩:=aQ hF 4 111 _ hS rfl (by kernel_rfl) (ap ⟨4,.data⟩ (by simp) rfl);obtain⟨e7,f7⟩:=aQ hF 7 114 _ hS rfl (by kernel_rfl) (ap ⟨7,.data⟩ (by simp) rfl);clear hF ap
   go_wp2_with fail
   exact aY.mk _ (Below.refl _ _) rfl rfl
  ·obtain⟨e8,f8⟩:=aQ hF 8 115 _ hS rfl (by kernel_rfl) (ap ⟨8,.data⟩ (by simp) rfl);clear hF ap
   go_wp2_with fail
   exact aY.mk _ (Below.refl _ _) rfl rfl
  ·obtain⟨g13,US⟩:=cK hF 13 (.slice a18 n18 c18) (by decide) rfl;have m9:=fE hF 9 116 (.bool true) hS rfl (by kernel_rfl) (ap ⟨9,.guard⟩ (by simp) rfl);clear hF ap
   go_wp2_with fail
   exact aY.mk _ (Below.refl _ _) rfl rfl
  ·have m9:=fE hF 9 116 (.bool true) hS rfl (by kernel_rfl) (ap ⟨9,.guard⟩ (by simp) rfl);clear hF ap
   go_wp2_with fail
   exact aY.mk (.slice (some ⟨W.heap.size,0,none⟩) 1 1) (by go_grown) ⟨_,rfl,aq _ _⟩ rfl
  ·have d11:=ap ⟨11,.data⟩ (by simp) rfl;have m9:=fE hF 9 116 (.bool true) hS rfl (by kernel_rfl) (ap ⟨9,.guard⟩ (by simp) rfl);obtain⟨i1,q11,VH⟩:=d11;obtain⟨e11,f11⟩:=aQ hF 11 118 _ hS rfl (by kernel_rfl) q11;clear hF ap
   go_wp2_with fail
   refine(xF (-1) 9 (by omega) (by omega) i1 W VH).mono ?_;rintro r W' ⟨rfl,h9,gp⟩;rw[xC_nine]at h9;have H9:=aa h9;clear h9
   go_wp2_with fail
   exact aY.mk (.slice (some ⟨W.heap.size,0,none⟩) 9 9) gp ⟨_,rfl,H9.o⟩ rfl
  ·obtain⟨e10,f10⟩:=aQ hF 10 117 _ hS rfl (by kernel_rfl) (ap ⟨10,.data⟩ (by simp) rfl);have d12:=ap ⟨12,.data⟩ (by simp) rfl;have m9:=fE hF 9 116 (.bool true) hS rfl (by kernel_rfl) (ap ⟨9,.guard⟩ (by simp) rfl);obtain⟨i2,q12,MQ⟩:=d12;obtain⟨e12,f12⟩:=aQ hF 12 119 _ hS rfl (by kernel_rfl) q12;clear hF ap
   go_wp2_with fail
   refine(ij _ _ (List.replicate 9 (-1)) (List.replicate 9 (-1)) W (HV18.o.up up_int hB) (ib (List.replicate 9 (-1)) MQ (by decide) (by decide))).mono ?_;rintro r W' ⟨rfl,gp⟩;rw[show eqV (List.replicate 9 (-1)) (List.replicate 9 (-1))=true by decide]
   go_wp2_with fail
   exact aY.mk _ gp rfl rfl
  ·obtain⟨e9,f9⟩:=aQ hF 9 116 _ hS rfl (by kernel_rfl) (ap ⟨9,.data⟩ (by simp) rfl);obtain⟨e13,f13⟩:=aQ hF 13 120 _ hS rfl (by kernel_rfl) (ap ⟨13,.data⟩ (by simp) rfl);clear hF ap
   go_wp2_with fail
   exact aY.mk _ (Below.refl _ _) rfl rfl
  ·obtain⟨e14,f14⟩:=aQ hF 14 121 _ hS rfl (by kernel_rfl) (ap ⟨14,.data⟩ (by simp) rfl);clear hF ap
   go_wp2_with fail
   exact aY.mk _ (Below.refl _ _) rfl rfl
  ·obtain⟨g1,h1⟩:=cK hF 1 (.pointer (some ⟨w2.heap.size,0,none⟩)) (by decide) rfl;have m15:=fE hF 15 122 (.bool true) hS rfl (by kernel_rfl) (ap ⟨15,.guard⟩ (by simp) rfl);have tb:=ab (af hB HX18.o);clear hF ap
   go_wp2_with fail
   exact aY.mk _ (Below.refl _ _) rfl rfl
  ·obtain⟨g10,B1⟩:=cK hF 10 (.pointer (some ⟨w12.heap.size+1+1,0,none⟩)) (by decide) rfl;have m15:=fE hF 15 122 (.bool true) hS rfl (by kernel_rfl) (ap ⟨15,.guard⟩ (by simp) rfl);clear hF ap
   go_wp2_with fail
   exact aY.mk _ (Below.refl _ _) rfl rfl
  ·obtain⟨e17,f17⟩:=aQ hF 17 124 _ hS rfl (by kernel_rfl) (ap ⟨17,.data⟩ (by simp) rfl);have m15:=fE hF 15 122 (.bool true) hS rfl (by kernel_rfl) (ap ⟨15,.guard⟩ (by simp) rfl);have tb:=ab (af hB HT18.o) 1;simp at tb;clear hF ap
   go_wp2_with fail
   exact aY.mk _ (Below.refl _ _) rfl rfl
  ·obtain⟨e18,f18⟩:=aQ hF 18 125 _ hS rfl (by kernel_rfl) (ap ⟨18,.data⟩ (by simp) rfl);have m15:=fE hF 15 122 (.bool true) hS rfl (by kernel_rfl) (ap ⟨15,.guard⟩ (by simp) rfl);clear hF ap
   go_wp2_with fail
   exact aY.mk _ (Below.refl _ _) rfl rfl
  ·obtain⟨e19,f19⟩:=aQ hF 19 126 _ hS rfl (by kernel_rfl) (ap ⟨19,.data⟩ (by simp) rfl);have m15:=fE hF 15 122 (.bool true) hS rfl (by kernel_rfl) (ap ⟨15,.guard⟩ (by simp) rfl);clear hF ap
   go_wp2_with fail
   exact aY.mk _ (Below.refl _ _) rfl rfl
  ·obtain⟨e16,f16⟩:=aQ hF 16 123 _ hS rfl (by kernel_rfl) (ap ⟨16,.data⟩ (by simp) rfl);obtain⟨e20,f20⟩:=aQ hF 20 127 _ hS rfl (by kernel_rfl) (ap ⟨20,.data⟩ (by simp) rfl);have m15:=fE hF 15 122 (.bool true) hS rfl (by kernel_rfl) (ap ⟨15,.guard⟩ (by simp) rfl);clear hF ap
   go_wp2_with fail
   refine(GF mi.o (HS18.o.up hB) (xR (HL18.o.up up_link hB) 2 (by decide)) tp.o).mono ?_;rintro r W' ⟨rfl,gp⟩
   go_wp2_with fail
   exact aY.mk _ gp rfl rfl
  ·obtain⟨e21,f21⟩:=aQ hF 21 128 _ hS rfl (by kernel_rfl) (ap ⟨21,.data⟩ (by simp) rfl);have m15:=fE hF 15 122 (.bool true) hS rfl (by kernel_rfl) (ap ⟨15,.guard⟩ (by simp) rfl);clear hF ap
   go_wp2_with fail
   exact aY.mk _ (Below.refl _ _) rfl rfl
  ·obtain⟨e15,f15⟩:=aQ hF 15 122 _ hS rfl (by kernel_rfl) (ap ⟨15,.data⟩ (by simp) rfl);obtain⟨e22,f22⟩:=aQ hF 22 129 _ hS rfl (by kernel_rfl) (ap ⟨22,.data⟩ (by simp) rfl);clear hF ap
   go_wp2_with fail
   exact aY.mk _ (Below.refl _ _) rfl rfl
  ·obtain⟨e23,f23⟩:=aQ hF 23 130 _ hS rfl (by kernel_rfl) (ap ⟨23,.data⟩ (by simp) rfl);clear hF ap
   go_wp2_with fail
   exact aY.mk _ (Below.refl _ _) rfl rfl
 case tail=>
  clear hS;intro x w19 F hB aU hF;have e24:=aU 24 (by omega);change x 24=_ at e24;clear aU;simp only[bz,cT,List.setIfInBounds_toArray,List.set_cons_succ,List.set_cons_zero,Nat.reduceAdd]at hF;rw[e24]at hF;generalize x 0=r0,x 1=r1,x 2=r2,x 3=r3,x 4=r4,x 5=r5,x 6=r6,x 7=r7,x 8=r8,x 9=r9,x 10=r10,x 11=r11,x 12=r12,x 13=r13,x 14=r14,x 15=r15,x 16=r16,x 17=r17,x 18=r18,x 19=r19,x 20=r20,x 21=r21,x 22=r22,x 23=r23 at hF;subst hF;have HB19:=aa (ae HB18.o hB);clear hB e24
  go_wp2_with fail
  go_ret
  exact⟨rfl,HB19.o⟩
theorem N'(s:Sys) (vc vs vt ve:Value) (w:World) (cH:IsSys w s vc vs vt ve) (hN:movesN s.prob.a.states<2305843009213693952) (hf:vQ s.prob) :
  Calls Tryz.prog 39 #[.agg (bL s.prob vc vs s.n vt ve)] w fun r w'=>r=.returned (.int .i64 (readyE s))/\Below w.heap.size w w':=by
 have HS:=aa cH;obtain⟨⟨qc,kc,rfl⟩,⟨qs,ks,rfl⟩,⟨qt,kt,rfl⟩,⟨qe,ke,rfl⟩⟩:=bB cH;have UP:=aa (fun W (hb:Below w.heap.size w W)=>FD s _ _ _ _ W (HS.o.up hb) hN hf);have Hk:=aa (fun W (hb:Below w.heap.size w W)=>NZ s.prob.t _ W (HS.o.cases.up up_case hb));have dg:am (readyE s=if verifyE s≠0 then verifyE s else if agreeB s.prob.t then 0 else 11):=aa rfl;generalize readyE s=re at dg ⊢;generalize verifyE s=vr at UP dg;generalize agreeB s.prob.t=ag at Hk dg;clear cH hN hf;generalize s.prob.t.cases.length=nc,s.prob.a.states.length=ns,s.tab.length=nt,s.ex.length=ne at UP Hk ⊢
 go_enter Tryz.func39,Tryz.ntmps39
 go_wp2_with fail
 refine aN (fun W=>Below w.heap.size w W/\∃ c,W.heap[w.heap.size]?=some (.cells c 35)/\c=bL s.prob (.slice qc nc kc) (.slice qs ns ks) s.n (.slice qt nt kt) (.slice qe ne ke)) ⟨by go_grown,_,aq _ _,rfl⟩ (fun W0 aZ=>?_);obtain⟨aI,_,bI,rfl⟩:=aZ;refine(UP.o W0 aI).mono ?_;rintro r w1 ⟨rfl,aJ⟩;have bK:=aa (ae aI aJ);have tA:=ab (af aJ bI);clear aI bI aJ UP;by_cases hz:vr=0
 case neg=>
  have Mr:(vr != 0)=true:=by simpa using hz
  have HV:am (re=vr):=aa (by rw[dg.o,if_pos hz]);clear hz Hk
  go_wp2_with fail
  go_ret
  exact⟨aG HV.o.symm,bK.o⟩
 have HV:am (re=if ag then 0 else 11):=aa (by rw[dg.o,if_neg (by omega)]);subst hz;clear dg
 go_wp2_with fail
 refine(Hk.o w1 bK.o).mono ?_;rintro r w2 ⟨rfl,a8⟩;have cQ:=aa (ae bK.o a8);clear tA a8 Hk;cases ag with
 | true=>
  go_wp2_with fail
  go_ret
  exact⟨aG (by rw[HV.o];rfl),cQ.o⟩
 | false=>
  go_wp2_with fail
  go_ret
  exact⟨aG (by rw[HV.o];rfl),cQ.o⟩
theorem GG{s:Sys} {vc vs vt ve:Value} {w:World} (cH:IsSys w s vc vs vt ve) (hN:movesN s.prob.a.states<2305843009213693952) (hf:vQ s.prob):zV s vc vs vt ve w:=fun W hb=>N' s vc vs vt ve W (cH.up hb) hN hf
theorem Tv(l:List Int):eqV l l=true:=by unfold eqV;simp
theorem FH(s:Sys) (vc vs vt ve:Value) (w:World) (hT:iH w) (cH:IsSys w s vc vs vt ve) :
  Calls Tryz.prog 4 #[.agg (bL s.prob vc vs s.n vt ve)] w fun r w'=>r=.returned (.bool true)/\Below w.heap.size w w':=by
 have HS:=aa cH;have HT:=aa hT;have HAW:=aa (fun W (hb:Below w.heap.size w W)=>JK W (HT.o.up hb));have VR:=aa (fun W (hb:Below w.heap.size w W)=>Lw s vc vs vt ve W (HS.o.up hb));have G8:=aa (fun (h1:fewPB s.prob=true) (h2:eS s<=70) W (hb:Below w.heap.size w W)=>Gy s (by omega) vc vs vt ve W (HT.o.up hb) (HS.o.up hb) (by have:=qJ h1;omega));have GL:=aa (fun (h1:fewPB s.prob=true) (h2:eS s<=70) (h3:s.tab.length<=600) W (hb:Below w.heap.size w W)=>QR s (by omega) (by omega) vc vs vt ve W (HS.o.up hb) (GG (HS.o.up hb) (by have:=qJ h1;omega) (L9 h1)));have Cg:=aa (fun (h1:fewPB s.prob=true) (h2:eS s<=70) W (hb:Below w.heap.size w W)=>GB s (by omega) vc vs vt ve W (HT.o.up hb) (HS.o.up hb) (by have:=qJ h1;omega));have rS:=aa (fun (h1:fewPB s.prob=true) (h2:eS s<=70) W (hb:Below w.heap.size w W)=>QV s (by omega) vc vs vt ve W (HS.o.up hb) (GG (HS.o.up hb) (by have:=qJ h1;omega) (L9 h1)));obtain⟨⟨qc,kc,rfl⟩,⟨qs,ks,rfl⟩,⟨qt,kt,rfl⟩,⟨qe,ke,rfl⟩⟩:=bB cH;unfold N4 at Cg rS;obtain⟨fr,oW⟩:∃ fr,findW s=fr:=⟨_,rfl⟩;rw[oW]at Cg rS;obtain⟨ls,fb,fe⟩:=fr;obtain⟨rr,tt⟩:∃ rr,ruleR s=rr:=⟨_,rfl⟩;rw[tt]at G8 GL;obtain⟨lr,rb,re⟩:=rr;dsimp only at Cg rS G8 GL;obtain⟨ck,y8⟩:∃ ck:Int,(if fb=true then(1:Int) else 0)=ck:=⟨_,rfl⟩;rw[y8]at Cg rS;clear cH hT oW tt y8;obtain⟨nt,sM⟩:∃ nt,s.tab.length=nt:=⟨_,rfl⟩;have wN:=aa sM;rw[sM]at VR G8 GL Cg rS ⊢;clear sM;generalize s.prob.t.cases.length=nc,s.prob.a.states.length=ns,s.ex.length=ne at VR G8 GL Cg rS ⊢
 go_enter Tryz.func4,Tryz.ntmps4
 go_wp2_with fail
 refine aN (fun W=>Below w.heap.size w W/\(∃ c,W.heap[w.heap.size]?=some (.cells c 35)/\c=bL s.prob (.slice qc nc kc) (.slice qs ns ks) s.n (.slice qt nt kt) (.slice qe ne ke))) ⟨by go_grown,_,aq _ _,rfl⟩ (fun W0 aZ=>?_);obtain⟨aI,_,bI,rfl⟩:=aZ;refine(VR.o W0 aI).mono ?_;rintro r w1 ⟨⟨b,rfl,Ud⟩,aJ⟩;have bK:=aa (ae aI aJ);have db:=aa (af aJ bI);clear aI bI aJ VR;cases b with
 | false=>
  clear Ud
  go_wp2_with fail
  refine(HAW.o w1 bK.o).mono ?_;rintro r w2 ⟨rfl,a8⟩;have cQ:=aa (ae bK.o a8);clear a8
  go_wp2_with fail
  go_ret
  exact⟨rfl,cQ.o⟩
 | true=>
 obtain⟨eU,vg,VT⟩:=Ud rfl;have G8:=aa (G8.o eU vg);have GL:=aa (GL.o eU vg (by have:=wN.o;omega));have Cg:=aa (Cg.o eU vg);have rS:=aa (rS.o eU vg);have tc:=ab db.o;clear Ud eU vg VT
 go_wp2_with fail
 clear tc;refine(G8.o w1 bK.o).mono ?_;rintro r w2 ⟨u2,rfl,tD,a8⟩;unfold uF;obtain⟨a2,n2,c2,rfl⟩:∃ a n c,u2=.slice a n c:=by obtain⟨a,c,e,_⟩:=tD.at;exact⟨_,_,_,e⟩
 have pP:=aa tD;have cQ:=aa (ae bK.o a8);have mo:=aa (af a8 db.o);clear a8 tD db;have ta:=fun o=>ab (ar o mo.o)
 go_wp2_with fail
 clear ta;refine aN (fun W=>Below w2.heap.size w2 W/\W.heap[w2.heap.size]?=some (.cells #[.slice a2 n2 c2] 49)) ⟨by go_grown,aq _ _⟩ (fun W3 nY=>?_);refine(GL.o W3 (ae cQ.o nY.1)).mono ?_;rintro r w3 ⟨u3,rfl,pH,bH⟩;unfold uF;obtain⟨a3,n3,c3,rfl⟩:∃ a n c,u3=.slice a n c:=by obtain⟨a,c,e,_⟩:=pH.at;exact⟨_,_,_,e⟩
 have OA:=ae nY.1 bH;have gN:=aa (af bH nY.2);have ef:=aa (ae cQ.o OA);have pR:=aa (af OA mo.o);have pP:=aa (pP.o.up up_int OA);have yQ:=aa pH;clear OA bH nY pH mo G8 GL;have ta:=fun o=>ab (ar o pR.o)
 go_wp2_with fail
 clear ta;refine aN (fun W=>Below w3.heap.size w3 W/\W.heap[w3.heap.size]?=some (.cells #[.slice a3 n3 c3] 49)) ⟨by go_grown,aq _ _⟩ (fun W4 hW4=>?_);refine(Cg.o W4 (ae ef.o hW4.1)).mono ?_;rintro r w4 ⟨⟨u4,rfl,mr⟩,cj⟩;obtain⟨a4,n4,c4,rfl⟩:∃ a n c,u4=.slice a n c:=by obtain⟨a,c,e,_⟩:=mr.at;exact⟨_,_,_,e⟩
 have xY:=ae hW4.1 cj;have jJ:=aa (af cj hW4.2);have gN:=aa (af xY gN.o);have eG:=aa (ae ef.o xY);have wJ:=aa (af xY pR.o);have pP:=aa (pP.o.up up_int xY);have yQ:=aa (yQ.o.up up_int xY);have lU:=aa mr;clear xY cj hW4 mr pR Cg;have ta:=fun o=>ab (ar o wJ.o)
 go_wp2_with fail
 clear ta;refine aN (fun W=>Below w4.heap.size w4 W/\W.heap[w4.heap.size]?=some (.cells #[.int .i64 ck,.slice a4 n4 c4,.slice none 0 0,.slice none 0 0,.slice none 0 0] 58)) ⟨by go_grown,aq _ _⟩ (fun W5 hW5=>?_);refine(rS.o W5 (ae eG.o hW5.1)).mono ?_;rintro r w5 ⟨⟨u5,rfl,sL⟩,dE⟩;obtain⟨a5,n5,c5,rfl⟩:∃ a n c,u5=.slice a n c:=by obtain⟨a,c,e,_⟩:=sL.at;exact⟨_,_,_,e⟩
 have CW:=ae hW5.1 dE;have zX:=aa (af dE hW5.2);have jJ:=aa (af CW jJ.o);have gN:=aa (af CW gN.o);have lf:=aa (ae eG.o CW);have pP:=aa (pP.o.up up_int CW);have yQ:=aa (yQ.o.up up_int CW);have lU:=aa (lU.o.up up_link CW);have uP:=aa sL;clear CW dE hW5 sL wJ rS
 go_wp2_with fail
 refine aN (fun W=>Below w5.heap.size w5 W/\W.heap[w5.heap.size]?=some (.cells #[.int .i64 ck,.slice a5 n5 c5,.slice none 0 0,.slice none 0 0,.slice none 0 0] 58)) ⟨by go_grown,aq _ _⟩ (fun w6 mn=>?_);have lu:=aa (ae lf.o mn.1);have gN:=aa (af mn.1 gN.o);have jJ:=aa (af mn.1 jJ.o);have zX:=aa (af mn.1 zX.o);have JR:=aa mn.2;have pP:=aa (pP.o.up up_int mn.1);have yQ:=aa (yQ.o.up up_int mn.1);have lU:=aa (lU.o.up up_link mn.1);have uP:=aa (uP.o.up up_link mn.1);clear mn;refine(HAW.o w6 lu.o).mono ?_;rintro r w7 ⟨rfl,lA⟩;have MC:=aa (ae lu.o lA);have t3:=ab (af lA gN.o) 0;have t4:=ab (af lA jJ.o) 0;simp at t3 t4;have zX:=aa (af lA zX.o);have JR:=aa (af lA JR.o);have pP:=aa (pP.o.up up_int lA);have yQ:=aa (yQ.o.up up_int lA);have lU:=aa (lU.o.up up_link lA);have uP:=aa (uP.o.up up_link lA);clear lA
 go_wp2_with fail
 clear t3 t4;refine(ij _ _ lr lr w7 pP.o yQ.o).mono ?_;rintro r w8 ⟨rfl,uT⟩;rw[Tv];have Zc:=aa (ae MC.o uT);have t5:=ab (af uT zX.o);have t6:=ab (af uT JR.o);have lU:=aa (lU.o.up up_link uT);have uP:=aa (uP.o.up up_link uT);clear uT
 go_wp2_with fail
 clear t5 t6;refine(xS ck ls _ _ none none none none none none 0 0 0 0 0 0 w8 lU.o uP.o).mono ?_;rintro r w9 ⟨rfl,dS⟩;have fy:=aa (ae Zc.o dS);clear dS
 go_wp2_with fail
 go_ret
 exact⟨rfl,fy.o⟩
end Go.Proofs.YtmeaoneaephjeaaGreatDoor
