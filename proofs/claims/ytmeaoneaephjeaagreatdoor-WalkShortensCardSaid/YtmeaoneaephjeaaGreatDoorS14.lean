/-
  A part of the proof: lemmas and contracts that the parts behind it use. Each one's conditions are its own premises.
-/
import Derived.Test.YtmeaoneaephjeaaGreatDoorS12
import Derived.Test.YtmeaoneaephjeaaGreatDoorS13
set_option maxRecDepth 100000
set_option maxHeartbeats 8000000
set_option linter.unusedVariables false
set_option linter.unusedSimpArgs false
namespace Go.Proofs.YtmeaoneaephjeaaGreatDoor
open Go.RowKit Go Go.Shelf
attribute [local go_sem] Oper.semAt_some
theorem KW(a:Adv):∀ k,eH a k=eh 4096 a k
 | 0=>rfl
 | k+1=>by
  show lH a (eH a k)=zp 4096 a (eh 4096 a k)
  rw[KW a k];rfl
theorem wU{p:Pb} (h:probE p=0):numberP p=p.t.cases.length * min ((aP p).length:Int) 4097:=by
 obtain⟨ht,ha,_,rO,qi⟩:=gH h;have hn:=q6 (L:=4096) (by omega) p.a (fun s hs m hm=>(uK ha s hs m hm).2) (by have:=(ik ha).1;omega) p.rounds.toNat;unfold numberP numberS;rw[KW]
 show _ * numberL 4096 p.a p.rounds.toNat=_
 rw[hn];rfl
def ul(p:Pb):Prop:=probE p=0->p.t.cases.length * (aP p).length<=60\/4096<p.t.cases.length * (aP p).length
theorem Cw{p:Pb} (h:probE p=0):(4096:Int)<numberP p↔4096<p.t.cases.length * (aP p).length:=by
 have hc:=(fm (gH h).1).2.2.2.1;rw[wU h];generalize p.t.cases.length=a at hc ⊢;generalize (aP p).length=b;by_cases hb:b<=4097
 ·rw[Int.min_eq_left (by omega),<-Int.natCast_mul];omega
 ·have h1:1 * b<=a * b:=Nat.mul_le_mul_right b hc.1;have h2:1 * 4097<=a * 4097:=Nat.mul_le_mul_right 4097 hc.1;rw[Int.min_eq_right (by omega)];have h3:((a * 4097:Nat):Int)=(a:Int) * 4097:=by rw[Int.natCast_mul];rfl
  omega
theorem zB{p:Pb} (h:fewPB p=true):ul p:=fun h0=>by
 unfold fewPB at h;split at h
 ·cases h
 split at h
 ·cases h
 split at h
 ·cases h
 rw[if_neg (by simpa using h0)]at h;simp only[Bool.or_eq_true,decide_eq_true_eq]at h;rcases h with h|h
 ·by_cases hb:4096<p.t.cases.length * (aP p).length
  ·exact .inr hb
  ·left;have hc:=(fm (gH h0).1).2.2.2.1;rw[wU h0]at h;generalize p.t.cases.length=a at hc h hb ⊢;generalize (aP p).length=b at h hb ⊢;have h1:1 * b<=a * b:=Nat.mul_le_mul_right b hc.1;rw[Int.min_eq_left (by omega),<-Int.natCast_mul]at h;omega
 ·exact .inr ((Cw h0).1 h)
theorem pK(tmps:Array Value) (B:Nat) (W:World) (c0 c1 c2 c3 c4 c5 c6 c7 c8 c9:Value) (e:Int) (h2:tmps[2]?.getD undef=.pointer (some ⟨B,0,none⟩)) (h3:tmps[3]?.getD undef=.int .i64 e)
  (hB:W.heap[B]?=some (.cells #[c0,c1,c2,c3,c4,c5,c6,c7,c8,c9] 35)) :
  (results Tryz.f73 tmps).run Tryz.prog W=.ok (.tuple #[.agg #[c0,c1,c2,c3,c4,c5,c6,c7,c8,c9],.int .i64 e]) W:=by
 have t2:=ab hB;simp[results,Tryz.results73,go_sem,h2,h3,t2]
def zC(p:Pb) (vc vs vt ve:Value) (base:Nat) (w':World):Prop:=((∃ a c,vt=.slice a (aN p).tab.length c)/\∃ a c,ve=.slice a (aN p).ex.length c)/\∀ Wf:World,(∀ k,base<=k->k<w'.heap.size->Wf.heap[k]?=w'.heap[k]?)->bN Wf vc p.t.cases->bz Wf vs p.a.states->IsSys Wf (aN p) vc vs vt ve
def Eg(p:Pb) (vc vs:Value) (base:Nat) (r:Ending) (w':World):Prop:=∃ c,r=.returned (.tuple #[.agg c,.int .i64 (buildE p)])/\(buildE p=0->∃ vt ve,c=bZ p vc vs p.t.n vt ve/\zC p vc vs vt ve base w')/\(buildE p≠0->c=zeroSys)
theorem VG{p:Pb} {vc vs:Value} {base:Nat} {w':World} {e:Int} (h:buildE p=e) (h0:e≠0):Eg p vc vs base (.returned (.tuple #[.agg zeroSys,.int .i64 e])) w':=⟨zeroSys,by rw[h],fun h1=>absurd (h.symm.trans h1) h0,fun _=>rfl⟩
theorem wD(p:Pb) (vc vs:Value) (w:World) (hc:bN w vc p.t.cases) (hs:bz w vs p.a.states) (hN:movesN p.a.states<2305843009213693952) (hf:ul p) :
  Calls Tryz.prog 73 #[nJ p vc vs] w fun r w'=>Eg p vc vs w.heap.size r w'/\Below w.heap.size w w':=by
 have GC:=aa hc;have GS:=aa hs;obtain⟨pc,cc,rfl,_⟩:=hc.at;obtain⟨ps,cs,rfl,_⟩:=hs.at;have kX:=aa (fun W (hb:Below w.heap.size w W)=>uM p _ _ W (GC.o.up up_case hb) (GS.o.up up_moves hb) hN);have Qg:=aa (fun (h:probE p=0) W (hb:Below w.heap.size w W)=>sG p _ _ W (GC.o.up up_case hb) (GS.o.up up_moves hb) h);have uX:=aa (fun (h:probE p=0) (h2:¬ 4096<p.t.cases.length * (aP p).length) W (hb:Below w.heap.size w W)=>MY p _ _ W (GC.o.up up_case hb) (GS.o.up up_moves hb) h (by rcases hf h with h|h<;>omega));have qT:am (probE p≠0->buildE p=probE p):=aa fun h=>by unfold buildE;rw[if_pos h]
 have m3:am (probE p=0->4096<p.t.cases.length * (aP p).length->buildE p=17):=aa fun h h2=>by unfold buildE;rw[if_neg (by omega),if_pos h2]
 have Dr:am (probE p=0->¬ 4096<p.t.cases.length * (aP p).length->buildE p=0/\(aN p).tab.length<=8192):=aa fun h h2=>by
  have h3:=sP h (p.t.cases.length * (aP p).length) (Nat.le_refl _);have e:stP p (p.t.cases.length * (aP p).length)=((aN p).tab,(aN p).ex):=by unfold stP;rw[List.take_of_length_le (by rw[iD];exact Nat.le_refl _)];rfl
  rw[e]at h3;dsimp only at h3;have h4:(aN p).tab.length<=8192:=by rcases hf h with h|h<;>omega
  exact⟨by unfold buildE;rw[if_neg (by omega),if_neg h2,if_neg (by omega)],h4⟩
 have FG:=aa (fun h=>@Cw p h);have Ez:=aa (fun e (W:World) h h0=>@VG p (.slice pc p.t.cases.length cc) (.slice ps p.a.states.length cs) w.heap.size W e h h0);have I':am (∀ vt ve W,buildE p=0->zC p (.slice pc p.t.cases.length cc) (.slice ps p.a.states.length cs) vt ve w.heap.size W->Eg p (.slice pc p.t.cases.length cc) (.slice ps p.a.states.length cs) w.heap.size (.returned (.tuple #[.agg (bZ p (.slice pc p.t.cases.length cc) (.slice ps p.a.states.length cs) p.t.n vt ve),.int .i64 0])) W):=aa fun vt ve W h0 h=>⟨_,by rw[h0],fun _=>⟨vt,ve,rfl,h⟩,fun h1=>absurd h0 h1⟩
 clear hc hs hf;have LD:=aa hN;clear hN;obtain⟨pe,hpe⟩:∃ pe,probE p=pe:=⟨_,rfl⟩;rw[hpe]at kX Qg uX qT m3 Dr FG;obtain⟨nx,mi⟩:∃ nx,p.t.cases.length * (aP p).length=nx:=⟨_,rfl⟩;rw[mi]at uX m3 Dr FG;clear hpe mi;have vK:am ((∀ W,Below w.heap.size w W->bN W (.slice pc p.t.cases.length cc) p.t.cases)/\∀ W,Below w.heap.size w W->bz W (.slice ps p.a.states.length cs) p.a.states):=aa ⟨fun W hb=>GC.o.up up_case hb,fun W hb=>GS.o.up up_moves hb⟩;clear GC GS;generalize p.t.cases.length=nc,p.a.states.length=ns at kX Qg uX Ez I' vK ⊢
 go_enter Tryz.func73,Tryz.ntmps73
 go_wp2_with fail
 refine aQ (fun W=>Below w.heap.size w W/\W.heap[w.heap.size]?=some (.cells #[.int .i64 p.t.n,.int .i64 p.t.ins,.int .i64 p.t.outs,.slice pc nc cc,.int .i64 p.a.n,.slice ps ns cs,.int .i64 p.rounds] 29)/\W.heap[w.heap.size+1]?=some (.cells zeroSys 35)) ⟨by go_grown,aq _ (ap _ _),bu _ _ _⟩ (fun W0 bd=>?_);obtain⟨aK,bK,gr⟩:=bd;refine(kX.o W0 aK).mono ?_;rintro r w1 ⟨rfl,aM⟩;have bL:=aa (ae aK aM);have dP:=aa (af aM bK);have dd:=aa (af aM gr);have fT:=aC dd.o;have tA:=ab dP.o;clear aK bK gr aM kX;by_cases hz:pe=0
 case neg=>
  have HV:=aa (Ez.o pe (w1.setRow (w.heap.size+1) zeroSys) (qT.o hz) hz);have Lm:(pe != 0)=true:=by simpa using hz
  clear hz qT m3 Dr Qg uX FG I' Ez
  go_wp2_with (refine wpList_store_row rfl 35 (.tmp 2) (.tmp 10) rfl (w.heap.size+1) zeroSys rfl rfl 35 _ dd.o (by kernel_rfl) rfl (by simp[Value.oneCell']) ?_)
  exact bodyPost_ret (pK _ (w.heap.size+1) _ _ _ _ _ _ _ _ _ _ _ pe rfl rfl (setRow_heap _ _ _ _ _ _ dd.o)) rfl ⟨HV.o,below_setRow bL.o (by omega) _⟩
 have nq:=aa (Qg.o hz);have Qj:=aa (FG.o hz);generalize numberP p=nn at nq Qj;clear Qg FG qT
 go_wp2_with fail
 refine(nq.o w1 bL.o).mono ?_;rintro r w2 ⟨rfl,aZ⟩;have cX:=aa (ae bL.o aZ);have sX:=aa (af aZ dP.o);have eJ:=aa (af aZ dd.o);have gV:=aC eJ.o;clear aZ tA dP dd;by_cases wG:4096<nx
 ·have hd:decide ((4096:Int)<nn)=true:=decide_eq_true (Qj.o.2 wG);have HV:=aa (Ez.o 17 (w2.setRow (w.heap.size+1) zeroSys) (m3.o hz wG) (by omega));clear hz wG m3 Dr uX I' Ez Qj
  go_wp2_with (refine wpList_store_row rfl 35 (.tmp 2) (.tmp 15) rfl (w.heap.size+1) zeroSys rfl rfl 35 _ eJ.o (by kernel_rfl) rfl (by simp[Value.oneCell']) ?_)
  exact bodyPost_ret (pK _ (w.heap.size+1) _ _ _ _ _ _ _ _ _ _ _ 17 rfl rfl (setRow_heap _ _ _ _ _ _ eJ.o)) rfl ⟨HV.o,below_setRow cX.o (by omega) _⟩
 have hd:decide ((4096:Int)<nn)=false:=decide_eq_false (fun h=>wG (Qj.o.1 h));have kH:=aa (uX.o hz wG);obtain⟨h0,Lr⟩:=Dr.o hz wG;have HZ:=aa h0;have tA:=ab sX.o;clear hz wG m3 Dr uX Ez Qj h0
 go_wp2_with fail
 refine(kH.o w2 cX.o).mono ?_;rintro r w3 ⟨vt,ve,rfl,⟨⟨at3,ct3,rfl⟩,ave,cve,rfl⟩,dC,bG⟩;have za:=aa dC;have dT:=aa (ae cX.o bG);have HB23:=aa bG;have gp:=aa (af bG eJ.o);have JI:=aa (fun W=>I'.o (.slice at3 (aN p).tab.length ct3) (.slice ave (aN p).ex.length cve) W HZ.o);have PT:am (∀ Wf:World,_):=za;obtain⟨nt,AH⟩:∃ nt,(aN p).tab.length=nt:=⟨_,rfl⟩;obtain⟨ne,bR⟩:∃ ne,(aN p).ex.length=ne:=⟨_,rfl⟩;have Jy:=aa AH;have iP:=aa bR;rw[AH]at Lr za JI PT ⊢;rw[bR]at za JI PT ⊢;have hd8:decide ((8192:Int)<(nt:Int))=false:=decide_eq_false (by omega);have mZ:=aC gp.o;have I6:=bG.size;clear dC bG tA AH bR I' hd PT;have te:=ab (ap w3 (.cells #[.int .i64 p.t.n,.int .i64 p.t.ins,.int .i64 p.t.outs,.slice pc nc cc,.int .i64 p.a.n,.slice ps ns cs,.int .i64 p.rounds,.int .i64 p.t.n,.slice at3 nt ct3,.slice ave ne cve] 35));have qk:Below w3.heap.size w3 (w3.alloc (.cells #[.int .i64 p.t.n,.int .i64 p.t.ins,.int .i64 p.t.outs,.slice pc nc cc,.int .i64 p.a.n,.slice ps ns cs,.int .i64 p.rounds,.int .i64 p.t.n,.slice at3 nt ct3,.slice ave ne cve] 35)):=by go_grown
 have Cy:=aa qk;have oQ:=aa (af qk gp.o);clear qk
 go_wp2_with (refine wpList_store_row rfl 35 (.tmp 2) (.tmp 24) rfl (w.heap.size+1) #[.int .i64 p.t.n,.int .i64 p.t.ins,.int .i64 p.t.outs,.slice pc nc cc,.int .i64 p.a.n,.slice ps ns cs,.int .i64 p.rounds,.int .i64 p.t.n,.slice at3 nt ct3,.slice ave ne cve] rfl rfl 35 _ oQ.o (by kernel_rfl) rfl (by simp[Value.oneCell']) ?_)
 refine bodyPost_ret (pK _ (w.heap.size+1) _ _ _ _ _ _ _ _ _ _ _ 0 rfl rfl (setRow_heap _ _ _ _ _ _ oQ.o)) rfl ⟨JI.o _ ⟨⟨⟨at3,ct3,by rw[Jy.o]⟩,ave,cve,by rw[iP.o]⟩,fun Wf JR h1 h2=>za.o Wf (fun k hk mg=>?_) h1 h2⟩,below_setRow (ae dT.o Cy.o) (by omega) _⟩;refine(JR k (by omega) ?_).trans ?_
 ·exact Nat.lt_of_lt_of_le mg (Nat.le_trans Cy.o.size (below_setRow (Below.refl (w.heap.size+1) _) (Nat.le_refl _) _).size)
 ·rw[setRow_other _ _ _ _ (by omega)];exact Cy.o.block k mg
theorem Iy(s:Sys) (h:buildE s.prob=0):verifyE s=if decide ((s.n=(aN s.prob).n/\s.tab=(aN s.prob).tab)/\s.ex=(aN s.prob).ex) then 0 else 3:=by
 unfold verifyE;rw[if_neg (by omega)];simp only[and_assoc,decide_eq_true_eq]
theorem Eh(s:Sys) (vc vs vt ve:Value) (w:World) (dC:IsSys w s vc vs vt ve) (hN:movesN s.prob.a.states<2305843009213693952) (hf:ul s.prob) :
  Calls Tryz.prog 63 #[.agg (bZ s.prob vc vs s.n vt ve)] w fun r w'=>r=.returned (.int .i64 (verifyE s))/\Below w.heap.size w w':=by
 have HS:=aa dC;obtain⟨⟨qc,kc,rfl⟩,⟨qs,ks,rfl⟩,⟨qt,kt,rfl⟩,⟨qe,ke,rfl⟩⟩:=bM dC;have nW:=aa (fun W (hb:Below w.heap.size w W)=>wD s.prob _ _ W (HS.o.cases.up up_case hb) (HS.o.states.up up_moves hb) hN hf);have mo:=aa (fun W (hb:Below w.heap.size w W) uc us ut ue (hz:IsSys W (aN s.prob) uc us ut ue)=>MT s (aN s.prob) rfl _ _ _ _ uc us ut ue W (HS.o.up hb) hz);have oA:am (buildE s.prob≠0->verifyE s=buildE s.prob):=aa fun h=>by unfold verifyE;rw[if_pos h]
 have dg:=aa (Iy s);generalize verifyE s=vr at oA dg ⊢;generalize decide ((s.n=(aN s.prob).n/\s.tab=(aN s.prob).tab)/\s.ex=(aN s.prob).ex)=sb at mo dg;have F9:(aN s.prob).n=s.prob.t.n:=rfl;unfold Eg at nW;rw[F9]at mo;have qn:am (∀ W uc us ut ue,IsSys W (aN s.prob) uc us ut ue->(∃ a c,uc=.slice a s.prob.t.cases.length c)/\(∃ a c,us=.slice a s.prob.a.states.length c)/\(∃ a c,ut=.slice a (aN s.prob).tab.length c)/\∃ a c,ue=.slice a (aN s.prob).ex.length c):=aa fun W uc us ut ue h=>bM h
 clear dC hN hf F9;obtain⟨be,kZ⟩:∃ be,buildE s.prob=be:=⟨_,rfl⟩;rw[kZ]at nW oA dg;clear kZ;obtain⟨nc,iL⟩:∃ nc,s.prob.t.cases.length=nc:=⟨_,rfl⟩;obtain⟨ns,oH⟩:∃ ns,s.prob.a.states.length=ns:=⟨_,rfl⟩;have vK:am ((∀ W,Below w.heap.size w W->bN W (.slice qc s.prob.t.cases.length kc) s.prob.t.cases)/\∀ W,Below w.heap.size w W->bz W (.slice qs s.prob.a.states.length ks) s.prob.a.states):=aa ⟨fun W hb=>HS.o.cases.up up_case hb,fun W hb=>HS.o.states.up up_moves hb⟩;rw[iL,oH]at nW mo qn vK ⊢;clear iL oH;generalize s.tab.length=nt,s.ex.length=ne at mo ⊢
 go_enter Tryz.func63,Tryz.ntmps63
 go_wp2_with fail
 refine aQ (fun W=>Below w.heap.size w W/\∃ c,W.heap[w.heap.size]?=some (.cells c 35)/\c=bZ s.prob (.slice qc nc kc) (.slice qs ns ks) s.n (.slice qt nt kt) (.slice qe ne ke)) ⟨by go_grown,_,ap _ _,rfl⟩ (fun W0 bd=>?_);obtain⟨aK,_,bK,rfl⟩:=bd;refine(nW.o W0 aK).mono ?_;rintro r w1 ⟨⟨c,rfl,h1,h2⟩,aM⟩;have bL:=aa (ae aK aM);have dP:=aa (af aM bK);clear aK bK aM nW;by_cases hz:be=0
 case neg=>
  have HV:=aa (oA.o hz);obtain rfl:=h2 hz;have Lm:(be != 0)=true:=by simpa using hz
  have hg:Below w.heap.size w (w1.alloc (.cells zeroSys 35)):=bL.o.alloc bL.o.size _;have HG:=aa hg;clear hz h1 h2 dg mo hg
  go_wp2_with fail
  go_ret
  exact⟨aG HV.o.symm,HG.o⟩
 obtain⟨ut,ue,rfl,⟨⟨a3,c3,rfl⟩,a4,c4,rfl⟩,mM⟩:=h1 hz;have eQ:=mM w1 (fun _ _ _=>rfl) (vK.o.1 w1 bL.o) (vK.o.2 w1 bL.o);have HZ:=aa eQ;have Aw:=aa (dg.o hz);subst hz;obtain⟨mt,hmt⟩:∃ mt,(aN s.prob).tab.length=mt:=⟨_,rfl⟩;obtain⟨me,QG⟩:∃ me,(aN s.prob).ex.length=me:=⟨_,rfl⟩;rw[hmt,QG]at HZ ⊢;clear h1 h2 eQ mM oA dg qn hmt QG;have hg:Below w1.heap.size w1 (w1.alloc (.cells #[.int .i64 s.prob.t.n,.int .i64 s.prob.t.ins,.int .i64 s.prob.t.outs,.slice qc nc kc,.int .i64 s.prob.a.n,.slice qs ns ks,.int .i64 s.prob.rounds,.int .i64 s.prob.t.n,.slice a3 mt c3,.slice a4 me c4] 35)):=by go_grown
 have HG:=aa hg;have tA:=ab (af hg dP.o);have tB:=ab (ap w1 (.cells #[.int .i64 s.prob.t.n,.int .i64 s.prob.t.ins,.int .i64 s.prob.t.outs,.slice qc nc kc,.int .i64 s.prob.a.n,.slice qs ns ks,.int .i64 s.prob.rounds,.int .i64 s.prob.t.n,.slice a3 mt c3,.slice a4 me c4] 35));clear hg
 go_wp2_with fail
 refine(mo.o _ (ae bL.o HG.o) _ _ _ _ (HZ.o.up HG.o)).mono ?_;rintro r w2 ⟨rfl,aZ⟩;have cX:=aa (ae (ae bL.o HG.o) aZ);clear aZ tA tB mo;cases sb with
 | true=>
  go_wp2_with fail
  go_ret
  exact⟨aG (by rw[Aw.o];rfl),cX.o⟩
 | false=>
  go_wp2_with fail
  go_ret
  exact⟨aG (by rw[Aw.o];rfl),cX.o⟩
theorem Ei(tmps:Array Value) (B:Nat) (W:World) (c0 c1 c2 c3 c4 c5 c6 c7 c8 c9:Value) (h2:tmps[2]?.getD undef=.pointer (some ⟨B,0,none⟩))
  (hB:W.heap[B]?=some (.cells #[c0,c1,c2,c3,c4,c5,c6,c7,c8,c9] 35)) :
  (results Tryz.f35 tmps).run Tryz.prog W=.ok (.agg #[c0,c1,c2,c3,c4,c5,c6,c7,c8,c9]) W:=by
 have t2:=ab hB;simp[results,Tryz.results35,go_sem,h2,t2]
theorem Cx(p:Pb) (vc vs:Value) (w:World) (hc:bN w vc p.t.cases) (hs:bz w vs p.a.states) (hN:movesN p.a.states<2305843009213693952) (hf:ul p) (h0:buildE p=0) :
  Calls Tryz.prog 35 #[nJ p vc vs] w fun r w'=>∃ vt ve,r=.returned (.agg (bZ p vc vs p.t.n vt ve))/\zC p vc vs vt ve w.heap.size w'/\Below w.heap.size w w':=by
 have GC:=aa hc;have GS:=aa hs;obtain⟨pc,cc,rfl,_⟩:=hc.at;obtain⟨ps,cs,rfl,_⟩:=hs.at;have nW:=aa (fun W (hb:Below w.heap.size w W)=>wD p _ _ W (GC.o.up up_case hb) (GS.o.up up_moves hb) hN hf);have vK:am ((∀ W,Below w.heap.size w W->bN W (.slice pc p.t.cases.length cc) p.t.cases)/\∀ W,Below w.heap.size w W->bz W (.slice ps p.a.states.length cs) p.a.states):=aa ⟨fun W hb=>GC.o.up up_case hb,fun W hb=>GS.o.up up_moves hb⟩;unfold Eg at nW;rw[h0]at nW;clear hc hs hN hf h0 GC GS;unfold zC at nW ⊢;obtain⟨nc,iL⟩:∃ nc,p.t.cases.length=nc:=⟨_,rfl⟩;obtain⟨ns,oH⟩:∃ ns,p.a.states.length=ns:=⟨_,rfl⟩;rw[iL,oH]at nW vK ⊢;clear iL oH
 go_enter Tryz.func35,Tryz.ntmps35
 go_wp2_with fail
 refine aQ (fun W=>Below w.heap.size w W/\W.heap[w.heap.size+1]?=some (.cells zeroSys 35)) ⟨by go_grown,bu _ _ _⟩ (fun W0 bd=>?_);obtain⟨aK,gr⟩:=bd;refine(nW.o W0 aK).mono ?_;rintro r w1 ⟨⟨c,rfl,h1,_⟩,aM⟩;obtain⟨vt,ve,rfl,⟨⟨at3,ct3,rfl⟩,ave,cve,rfl⟩,dC⟩:=h1 (by first|rfl|trivial);have za:=aa dC;have bL:=aa (ae aK aM);have dd:=aa (af aM gr);have eQ:=aC gr;obtain⟨nt,AH⟩:∃ nt,(aN p).tab.length=nt:=⟨_,rfl⟩;obtain⟨ne,bR⟩:∃ ne,(aN p).ex.length=ne:=⟨_,rfl⟩;have Jy:=aa AH;have iP:=aa bR;rw[AH,bR]at za ⊢;have fT:=aC dd.o;clear dC h1 aK aM gr AH bR nW;have te:=ab (ap w1 (.cells #[.int .i64 p.t.n,.int .i64 p.t.ins,.int .i64 p.t.outs,.slice pc nc cc,.int .i64 p.a.n,.slice ps ns cs,.int .i64 p.rounds,.int .i64 p.t.n,.slice at3 nt ct3,.slice ave ne cve] 35));have qk:Below w1.heap.size w1 (w1.alloc (.cells #[.int .i64 p.t.n,.int .i64 p.t.ins,.int .i64 p.t.outs,.slice pc nc cc,.int .i64 p.a.n,.slice ps ns cs,.int .i64 p.rounds,.int .i64 p.t.n,.slice at3 nt ct3,.slice ave ne cve] 35)):=by go_grown
 have Cy:=aa qk;have oQ:=aa (af qk dd.o);clear qk
 go_wp2_with (refine wpList_store_row rfl 35 (.tmp 2) (.tmp 10) rfl (w.heap.size+1) #[.int .i64 p.t.n,.int .i64 p.t.ins,.int .i64 p.t.outs,.slice pc nc cc,.int .i64 p.a.n,.slice ps ns cs,.int .i64 p.rounds,.int .i64 p.t.n,.slice at3 nt ct3,.slice ave ne cve] rfl rfl 35 _ oQ.o (by kernel_rfl) rfl (by simp[Value.oneCell']) ?_)
 refine bodyPost_ret (Ei _ (w.heap.size+1) _ _ _ _ _ _ _ _ _ _ _ rfl (setRow_heap _ _ _ _ _ _ oQ.o)) rfl ⟨.slice at3 nt ct3,.slice ave ne cve,rfl,⟨⟨⟨at3,ct3,by rw[Jy.o]⟩,ave,cve,by rw[iP.o]⟩,fun Wf JR h1 h2=>za.o Wf (fun k hk mg=>?_) h1 h2⟩,below_setRow (ae bL.o Cy.o) (by omega) _⟩;refine(JR k (by omega) (Nat.lt_of_lt_of_le mg (Nat.le_trans Cy.o.size (below_setRow (Below.refl (w.heap.size+1) _) (Nat.le_refl _) _).size))).trans ?_;rw[setRow_other _ _ _ _ (by omega)];exact Cy.o.block k mg
abbrev Iz(p:Pb) (vc vs vt ve:Value):Value:=.agg #[.int .i64 p.t.n,.int .i64 p.t.ins,.int .i64 p.t.outs,vc,.int .i64 p.a.n,vs,.int .i64 p.rounds,.int .i64 p.t.n,vt,ve]
section
variable {p : Pb} {vc vs vt ve : Value} {w : World}
theorem PK(b:CkB p) (hs:IsSys w (aN p) vc vs vt ve) {x:Int} {l:List Int} (h:valuesR (aN p) x=(l,0)) :
  Calls Tryz.prog 11 #[Iz p vc vs vt ve,.int .i64 x] w fun r w'=>∃ u,r=.returned (.tuple #[u,.int .i64 0])/\aX w' u l/\Below w.heap.size w w':=by
 have h1:=MA (aN p) x b.size vc vs vt ve w hs b.moves;rw[h]at h1;exact h1
theorem Ft(b:CkB p) (hT:iA w) (hs:IsSys w (aN p) vc vs vt ve) {l:List Int} (h:choiceR (aN p)=(l,0)) :
  Calls Tryz.prog 13 #[Iz p vc vs vt ve] w fun r w'=>∃ u,r=.returned (.tuple #[u,.int .i64 0])/\aX w' u l/\Below w.heap.size w w':=by
 have h1:=MB (aN p) b.size vc vs vt ve w hT hs b.moves;rw[h]at h1;exact h1
theorem VH(b:CkB p) (hT:iA w) (hs:IsSys w (aN p) vc vs vt ve) (h:(ruleR (aN p)).2=(true,0)) :
  Calls Tryz.prog 16 #[Iz p vc vs vt ve] w fun r w'=>∃ a n c,r=.returned (.tuple #[.agg #[.slice a n c],.bool true,.int .i64 0])/\Below w.heap.size w w':=by
 have h1:=Ps (aN p) b.size vc vs vt ve w hT hs b.moves;rw[h]at h1;refine h1.mono ?_;rintro r w' ⟨u,rfl,hu,hb⟩;obtain⟨a,c,rfl,_⟩:=hu.at;exact⟨_,_,_,rfl,hb⟩
theorem VI(b:CkB p) (hT:iA w) (hs:IsSys w (aN p) vc vs vt ve) {l:List Lk} (h:findW (aN p)=(l,true,0)) :
  Calls Tryz.prog 18 #[Iz p vc vs vt ve] w fun r w'=>∃ u,r=.returned (.tuple #[.agg (fM 1 u),.bool true,.int .i64 0])/\bJ w' u l/\Below w.heap.size w w':=by
 have h1:=Fq (aN p) b.size vc vs vt ve w hT hs b.moves;rw[h]at h1;refine h1.mono ?_;rintro r w' ⟨⟨u,rfl,hu⟩,hb⟩;exact⟨u,rfl,hu,hb⟩
theorem Fu(b:CkB p) (hs:IsSys w (aN p) vc vs vt ve) {l:List Lk} {vw:Value} {e:Int} (hw:bJ w vw l) (h:certE (aN p) ⟨1,l,0,0,0⟩=e) :
  Calls Tryz.prog 24 #[Iz p vc vs vt ve,.agg (fM 1 vw)] w fun r w'=>r=.returned (.int .i64 e)/\Below w.heap.size w w':=by
 have h1:=Ak (aN p) b.size vc vs vt ve vw ⟨1,l,0,0,0⟩ none 0 none 0 none 0 w hs b.moves hw;rw[h]at h1;exact h1
theorem MZ(b:CkB p) (hT:iA w) (hs:IsSys w (aN p) vc vs vt ve) {l m:List Lk} {vw:Value} (hw:bJ w vw l) (h:shortR (aN p) ⟨1,l,0,0,0⟩=(m,0)) :
  Calls Tryz.prog 22 #[Iz p vc vs vt ve,.agg (fM 1 vw)] w fun r w'=>∃ u,r=.returned (.tuple #[.agg (fM 1 u),.int .i64 0])/\bJ w' u m/\Below w.heap.size w w':=by
 have h1:=ym (aN p) b.size vc vs vt ve vw ⟨1,l,0,0,0⟩ none 0 none 0 none 0 w hT hs b.moves hw;rw[h]at h1;refine h1.mono ?_;rintro r w' ⟨⟨u,rfl,hu⟩,hb⟩;exact⟨u,rfl,hu,hb⟩
end
theorem PL{w:World} {b:Nat} {gs:List (Int × Int)} {l:List Value} (h:w.heap[b]?=some (.cells l.toArray 92)) (hl:l=gs.flatMap fun h=>[.int .i64 h.1,.int .i64 h.2]):∀ i (hi:i<gs.length),w.cell? ⟨b,i * 2,none⟩=some (.int .i64 gs[i].1)/\w.cell? ⟨b,i * 2+1,none⟩=some (.int .i64 gs[i].2):=by
 intro i hi;rw[ab h,ab h,hl]
 have key:∀ (gs:List (Int × Int)) (i:Nat) (hi:i<gs.length),(gs.flatMap fun h=>[Value.int .i64 h.1,.int .i64 h.2])[i * 2]?=some (.int .i64 gs[i].1)/\(gs.flatMap fun h=>[Value.int .i64 h.1,.int .i64 h.2])[i * 2+1]?=some (.int .i64 gs[i].2):=by
  intro gs;induction gs with
  | nil=>intro i hi;simp at hi
  | cons a r ih=>
   intro i hi;cases i with
   | zero=>simp
   | succ i=>
    have h2:=ih i (by simpa using hi);simp only[List.flatMap_cons,List.getElem_cons_succ];rw[show (i+1) * 2=i * 2+1+1 by omega];simpa using h2
 have:=key gs i hi;simpa using this
theorem ck_few1:ul (qL 1 [(1,3),(3,3)]):=fun _=>.inl (by decide +kernel)
theorem ck_few2:ul (qL 0 [(3,3)]):=fun _=>.inl (by decide +kernel)
theorem ck_few3:ul (qL 1 [(1,3),(3,2),(3,3)]):=fun _=>.inl (by decide +kernel)
def PM(p:Pb) (pc ps:Option Addr) (nc cc ns cs:Nat) (w:World):Prop:=Calls Tryz.prog 35 #[nJ p (.slice pc nc cc) (.slice ps ns cs)] w fun r w'=>∃ pt pe:Option Addr,∃ ct ce nt ne:Nat,r=.returned (Iz p (.slice pc nc cc) (.slice ps ns cs) (.slice pt nt ct) (.slice pe ne ce))/\(∀ Wf:World,(∀ k,w.heap.size<=k->k<w'.heap.size->Wf.heap[k]?=w'.heap[k]?)->bN Wf (.slice pc nc cc) p.t.cases->bz Wf (.slice ps ns cs) p.a.states->IsSys Wf (aN p) (.slice pc nc cc) (.slice ps ns cs) (.slice pt nt ct) (.slice pe ne ce))/\Below w.heap.size w w'
theorem Bu{p:Pb} (b:CkB p) (hf:ul p) (pc ps:Option Addr) (nc cc ns cs:Nat) (w:World) (hc:bN w (.slice pc nc cc) p.t.cases) (hs:bz w (.slice ps ns cs) p.a.states):PM p pc ps nc cc ns cs w:=by
 have hm:=b.moves;refine(Cx p _ _ w hc hs (by omega) hf b.few).mono ?_;rintro r w' ⟨vt,ve,rfl,⟨⟨⟨pt,ct,rfl⟩,pe,ce,rfl⟩,dC⟩,hb⟩;exact⟨_,_,_,_,_,_,rfl,dC,hb⟩
def PN(p:Pb) (rounds:Int) (n b:Nat) (w:World):Prop:=Calls Tryz.prog 36 #[.int .i64 rounds,.slice (some ⟨b,0,none⟩) n n] w fun r w'=>∃ pc ps:Option Addr,∃ cc cs nc ns:Nat,r=.returned (nJ p (.slice pc nc cc) (.slice ps ns cs))/\(∀ Wf:World,(∀ k,w.heap.size<=k->k<w'.heap.size->Wf.heap[k]?=w'.heap[k]?)->bN Wf (.slice pc nc cc) p.t.cases/\bz Wf (.slice ps ns cs) p.a.states)/\Below w.heap.size w w'
theorem Ej(rounds:Int) (gs:List (Int × Int)) (n:Nat) (hl:gs.length=n) (hn:n<=100) (cY:∀ h∈gs,bS h.1/\bS h.2) (b:Nat) (w:World) (l:List Value) (h:w.heap[b]?=some (.cells l.toArray 92)) (he:l=gs.flatMap fun h=>[.int .i64 h.1,.int .i64 h.2]):PN (qL rounds gs) rounds n b w:=by
 refine(O5 rounds gs n hl hn cY b w (PL h he)).mono ?_;rintro r w' ⟨vc,vs,rfl,jH,hb⟩;obtain⟨hc,hs⟩:=jH w' (fun _ _ _=>rfl);obtain⟨pc,cc,rfl,_⟩:=hc.at;obtain⟨ps,cs,rfl,_⟩:=hs.at;exact⟨_,_,_,_,_,_,rfl,jH,hb⟩
theorem M0(gs:List (Int × Int)) (h:gs.all (fun x=>decide (0<=x.1/\x.1<100/\0<=x.2/\x.2<100))=true):∀ h∈gs,bS h.1/\bS h.2:=fun x hx=>by
 have:=of_decide_eq_true (List.all_eq_true.1 h x hx);exact⟨⟨by omega,by omega⟩,by omega,by omega⟩
def Yl(n:Nat) (l:List Int):MP:=⟨fun x W=>∃ i,x=.slice (some ⟨i,0,none⟩) n n/\W.heap[i]?=some (.cells (bD l) 3),fun _ _ _ h hb=>by obtain⟨i,e,h⟩:=h;exact⟨i,e,af hb h⟩⟩
theorem xC_nine:xC 9 (-1) 9=bD (List.replicate 9 (-1)):=by unfold xC;rw[p9];simp[List.map_const']
theorem IA{W:World} {b:Nat} (h:W.heap[b]?=some (.cells #[.int .i64 0,.int .i64 (-1),.int .i64 1,.int .i64 0,.int .i64 2,.int .i64 1] 75)):bJ W (.slice (some ⟨b,0,none⟩) 3 3) ckW:=by
 have t:=ab h;refine⟨some ⟨b,0,none⟩,3,rfl,⟨by simp[ckW],by omega,fun e=>by cases e⟩,by simp[ckW],fun i x hx=>⟨b,0,rfl,?_⟩⟩;obtain⟨hi,rfl⟩:=List.getElem?_eq_some_iff.1 hx;have z:∀ x:Int,-2<x->x<100->bS x:=fun x h1 h2=>⟨by omega,by omega⟩
 rcases (show i=0\/i=1\/i=2 by simp[ckW]at hi;omega) with rfl|rfl|rfl
 ·exact⟨⟨t 0,z _ (by simp[ckW]) (by simp[ckW])⟩,t 1,z _ (by simp[ckW]) (by simp[ckW])⟩
 ·exact⟨⟨t 2,z _ (by simp[ckW]) (by simp[ckW])⟩,t 3,z _ (by simp[ckW]) (by simp[ckW])⟩
 ·exact⟨⟨t 4,z _ (by simp[ckW]) (by simp[ckW])⟩,t 5,z _ (by simp[ckW]) (by simp[ckW])⟩
theorem IB(w:World) (hT:iA w):Calls Tryz.prog 10 #[] w fun r w'=>r=.returned (.bool true)/\Below w.heap.size w w':=by
 have HT:=aa hT;have AP:=aa ck1_b;have j7:=aa ck2_b;have yL:=aa ck3_b;clear hT;obtain⟨p1,sR⟩:∃ p,p=qL 1 [(1,3),(3,3)]:=⟨_,rfl⟩;rw[<-sR]at AP;have Sv:am (∀ pc ps nc cc ns cs w,bN w (.slice pc nc cc) p1.t.cases->bz w (.slice ps ns cs) p1.a.states->PM p1 pc ps nc cc ns cs w):=aa (Bu AP.o (by rw[sR];exact ck_few1));have S':am (∀ (W:World) b,W.heap[b]?=some (.cells #[.int .i64 1,.int .i64 3,.int .i64 3,.int .i64 3] 92)->PN p1 1 2 b W):=aa (by rw[sR];exact fun W b h=>Ej 1 [(1,3),(3,3)] 2 rfl (by omega) (M0 _ (by decide)) b W [.int .i64 1,.int .i64 3,.int .i64 3,.int .i64 3] h rfl);have oA:am (valuesR (aN p1) 3=([0,1],0)):=aa (by rw[sR];exact ck1_vals);have Xx:am (choiceR (aN p1)=([0,0,0,0,1,1],0)):=aa (by rw[sR];exact ck1_choice);have dd:am ((ruleR (aN p1)).2=(true,0)):=aa (by rw[sR];exact ck1_rule);obtain⟨p2,yv⟩:∃ p,p=qL 0 [(3,3)]:=⟨_,rfl⟩;rw[<-yv]at j7;have Sx:am (∀ pc ps nc cc ns cs w,bN w (.slice pc nc cc) p2.t.cases->bz w (.slice ps ns cs) p2.a.states->PM p2 pc ps nc cc ns cs w):=aa (Bu j7.o (by rw[yv];exact ck_few2));have SJ:am (∀ (W:World) b,W.heap[b]?=some (.cells #[.int .i64 3,.int .i64 3] 92)->PN p2 0 1 b W):=aa (by rw[yv];exact fun W b h=>Ej 0 [(3,3)] 1 rfl (by omega) (M0 _ (by decide)) b W [.int .i64 3,.int .i64 3] h rfl);have xr:am (findW (aN p2)=(ckW,true,0)):=aa (by rw[yv];exact ck2_find);have m3:am (certE (aN p2) ⟨1,ckW,0,0,0⟩=0):=aa (by rw[yv];exact ck2_cert);have eP:am (shortR (aN p2) ⟨1,ckW,0,0,0⟩=(ckW,0)):=aa (by rw[yv];exact ck2_short);have rJ:am (certE (aN p2) ⟨1,ckW.take 2,0,0,0⟩=18):=aa (by rw[yv];exact ck2_not);obtain⟨p3,FA⟩:∃ p,p=qL 1 [(1,3),(3,2),(3,3)]:=⟨_,rfl⟩;rw[<-FA]at yL;have Sg:am (∀ pc ps nc cc ns cs w,bN w (.slice pc nc cc) p3.t.cases->bz w (.slice ps ns cs) p3.a.states->PM p3 pc ps nc cc ns cs w):=aa (Bu yL.o (by rw[FA];exact ck_few3))
 have Sj:am (∀ (W:World) b,W.heap[b]?=some (.cells #[.int .i64 1,.int .i64 3,.int .i64 3,.int .i64 2,.int .i64 3,.int .i64 3] 92)->PN p3 1 3 b W):=aa (by rw[FA];exact fun W b h=>Ej 1 [(1,3),(3,2),(3,3)] 3 rfl (by omega) (M0 _ (by decide)) b W [.int .i64 1,.int .i64 3,.int .i64 3,.int .i64 2,.int .i64 3,.int .i64 3] h rfl);have HH3:am (choiceR (aN p3)=(List.replicate 9 (-1),0)):=aa (by rw[FA];exact ck3_choice);clear sR yv FA;unfold PM at Sv Sx Sg;unfold PN at S' SJ Sj
 go_enter Tryz.func10,Tryz.ntmps10
 go_wp2_with fail
 refine aQ (fun W=>Below w.heap.size w W/\W.heap[w.heap.size]?=some (.cells #[.int .i64 1,.int .i64 3,.int .i64 3,.int .i64 3] 92)) ⟨by go_grown,ap _ _⟩ (fun W0 bd=>?_);refine(S'.o W0 _ bd.2).mono ?_;rintro r w1 ⟨pc,ps,cc,cs,nc,ns,rfl,jH,aM⟩;have wF:=aa (ae bd.1 aM);have oE:=aa (jH w1 (fun _ _ _=>rfl));have HK:=aa (Sv.o _ _ _ _ _ _ w1 oE.o.1 oE.o.2);clear aM bd jH Sv S'
 go_wp2_with fail
 refine HK.o.mono ?_;rintro r w2 ⟨pt,pe,ct,ce,nt,ne,rfl,dC,aZ⟩;have oz:=aa (dC w2 (fun _ _ _=>rfl) (oE.o.1.up up_case aZ) (oE.o.2.up up_moves aZ));have Nv:=aa (ae wF.o aZ);clear dC aZ HK oE;have tb:=ab (ap w2 (.cells #[.int .i64 p1.t.n,.int .i64 p1.t.ins,.int .i64 p1.t.outs,.slice pc nc cc,.int .i64 p1.a.n,.slice ps ns cs,.int .i64 p1.rounds,.int .i64 p1.t.n,.slice pt nt ct,.slice pe ne ce] 35))
 go_wp2_with fail
 clear tb;refine aQ (fun W=>Below w2.heap.size w2 W/\W.heap[w2.heap.size]?=some (.cells #[.int .i64 p1.t.n,.int .i64 p1.t.ins,.int .i64 p1.t.outs,.slice pc nc cc,.int .i64 p1.a.n,.slice ps ns cs,.int .i64 p1.rounds,.int .i64 p1.t.n,.slice pt nt ct,.slice pe ne ce] 35)) ⟨by go_grown,ap _ _⟩ (fun W3 mh=>?_);have dT:=aa (ae Nv.o mh.1);have iX:=aa mh.2;have AI:=aa (oz.o.up mh.1);have gV:=Nv.o.size;clear mh oz;refine(PK AP.o AI.o oA.o).mono ?_;rintro r w4 ⟨u4,rfl,mj,bO⟩;obtain⟨a4,n4,c4,rfl⟩:∃ a n c,u4=.slice a n c:=by obtain⟨a,c,e,_⟩:=mj.at;exact⟨_,_,_,e⟩
 have vD:=aa mj;have eV:=aa (ae dT.o bO);have kK:=aa (af bO iX.o);have F3:=aa (AI.o.up bO);have tb:=ab kK.o;clear mj bO iX AI
 go_wp2_with fail
 clear tb;refine(Ft AP.o (HT.o.up eV.o) F3.o Xx.o).mono ?_;rintro r w5 ⟨u5,rfl,yH,dB⟩;obtain⟨a5,n5,c5,rfl⟩:∃ a n c,u5=.slice a n c:=by obtain⟨a,c,e,_⟩:=yH.at;exact⟨_,_,_,e⟩
 have LM:=aa yH;have vD:=aa (vD.o.up up_int dB);have kL:=aa (ae eV.o dB);have Do:=aa (af dB kK.o);have Qp:=aa (F3.o.up dB);have tb:=ab Do.o;clear yH dB kK F3
 go_wp2_with fail
 clear tb;refine(VH AP.o (HT.o.up kL.o) Qp.o dd.o).mono ?_;rintro r w6 ⟨a6,n6,c6,rfl,ip⟩;have LM:=aa (LM.o.up up_int ip);have vD:=aa (vD.o.up up_int ip);have vh:=aa (ae kL.o ip);have WC:=aa (af ip Do.o);have Tz:=aC WC.o;clear ip Do Qp
 go_wp2_with fail
 refine aQ (fun W=>Below w6.heap.size w6 W/\W.heap[w6.heap.size+1]?=some (.cells (bD [0,1]) 3)) ⟨by go_grown,bu _ _ _⟩ (fun W7 tg=>?_);refine(jr _ _ [0,1] [0,1] W7 (vD.o.up up_int tg.1) (ib [0,1] tg.2 (by decide) (by decide))).mono ?_;rintro r w7 ⟨rfl,vE⟩;rw[show eqV [0,1] [0,1]=true by decide];have NN:=ae tg.1 vE;have LM:=aa (LM.o.up up_int NN);have XH:=aa (ae vh.o NN);have De:=aa (af NN WC.o);clear vE NN tg WC vD
 go_wp2_with fail
 refine aQ (fun W=>Below w7.heap.size w7 W/\W.heap[w7.heap.size]?=some (.cells (bD [0,0,0,0,1,1]) 3)) ⟨by go_grown,ap _ _⟩ (fun W8 lz=>?_);refine(jr _ _ [0,0,0,0,1,1] [0,0,0,0,1,1] W8 (LM.o.up up_int lz.1) (ib [0,0,0,0,1,1] lz.2 (by decide) (by decide))).mono ?_;rintro r w8 ⟨rfl,IM⟩;rw[show eqV [0,0,0,0,1,1] [0,0,0,0,1,1]=true by decide];have Ta:=ae lz.1 IM;have P5:=aa (ae XH.o Ta);have Lc:=aa (af Ta De.o);clear IM Ta lz De LM
 go_wp2_with fail
 refine aQ (fun W=>Below w8.heap.size w8 W/\W.heap[w8.heap.size]?=some (.cells #[.int .i64 3,.int .i64 3] 92)) ⟨by go_grown,ap _ _⟩ (fun W9 hW9=>?_);refine(SJ.o W9 _ hW9.2).mono ?_;rintro r w9 ⟨pc2,ps2,cc2,cs2,nc2,ns2,rfl,jH,fi⟩;have Da:=af (ae hW9.1 fi) Lc.o;have hsz9:=hW9.1.size;have h28:=aC Lc.o;have yY:=aa Da;have fG:=aa (ae P5.o (ae hW9.1 fi));have S5:=jH w9 (fun _ _ _=>rfl);have HK:=aa (Sx.o _ _ _ _ _ _ w9 S5.1 S5.2);have oE:=aa jH;have hsz99:=fi.size;clear fi hW9 jH S5 Sx SJ Da Lc
 go_wp2_with fail
 refine HK.o.mono ?_;rintro r w10 ⟨pt2,pe2,ct2,ce2,nt2,ne2,rfl,dC,BD⟩;have BC:=aa (af BD yY.o);have Sy:=aa (ae fG.o BD)
 have HF10:am (Below w.heap.size w (w10.setRow w2.heap.size #[.int .i64 p2.t.n,.int .i64 p2.t.ins,.int .i64 p2.t.outs,.slice pc2 nc2 cc2,.int .i64 p2.a.n,.slice ps2 ns2 cs2,.int .i64 p2.rounds,.int .i64 p2.t.n,.slice pt2 nt2 ct2,.slice pe2 ne2 ce2])/\(w10.setRow w2.heap.size #[.int .i64 p2.t.n,.int .i64 p2.t.ins,.int .i64 p2.t.outs,.slice pc2 nc2 cc2,.int .i64 p2.a.n,.slice ps2 ns2 cs2,.int .i64 p2.rounds,.int .i64 p2.t.n,.slice pt2 nt2 ct2,.slice pe2 ne2 ce2]).heap[w2.heap.size]?=some (.cells #[.int .i64 p2.t.n,.int .i64 p2.t.ins,.int .i64 p2.t.outs,.slice pc2 nc2 cc2,.int .i64 p2.a.n,.slice ps2 ns2 cs2,.int .i64 p2.rounds,.int .i64 p2.t.n,.slice pt2 nt2 ct2,.slice pe2 ne2 ce2] 35)/\IsSys (w10.setRow w2.heap.size #[.int .i64 p2.t.n,.int .i64 p2.t.ins,.int .i64 p2.t.outs,.slice pc2 nc2 cc2,.int .i64 p2.a.n,.slice ps2 ns2 cs2,.int .i64 p2.rounds,.int .i64 p2.t.n,.slice pt2 nt2 ct2,.slice pe2 ne2 ce2]) (aN p2) (.slice pc2 nc2 cc2) (.slice ps2 ns2 cs2) (.slice pt2 nt2 ct2) (.slice pe2 ne2 ce2)):=aa (by
  have bR:∀ k,k≠w2.heap.size->(w10.setRow w2.heap.size #[.int .i64 p2.t.n,.int .i64 p2.t.ins,.int .i64 p2.t.outs,.slice pc2 nc2 cc2,.int .i64 p2.a.n,.slice ps2 ns2 cs2,.int .i64 p2.rounds,.int .i64 p2.t.n,.slice pt2 nt2 ct2,.slice pe2 ne2 ce2]).heap[k]?=w10.heap[k]?:=fun k hk=>setRow_other _ _ _ _ hk
  have M6:=oE.o (w10.setRow w2.heap.size #[.int .i64 p2.t.n,.int .i64 p2.t.ins,.int .i64 p2.t.outs,.slice pc2 nc2 cc2,.int .i64 p2.a.n,.slice ps2 ns2 cs2,.int .i64 p2.rounds,.int .i64 p2.t.n,.slice pt2 nt2 ct2,.slice pe2 ne2 ce2]) (fun k h1 h2=>(bR k (by omega)).trans (BD.block k h2))
  exact⟨below_setRow Sy.o (by omega) _,setRow_heap _ _ _ _ _ _ BC.o,dC _ (fun k h1 h2=>bR k (by omega)) M6.1 M6.2⟩)
 clear dC BD HK oE yY
 go_wp2_with (refine wpList_store_row rfl 35 (.tmp 1) (.tmp 60) rfl w2.heap.size #[.int .i64 p2.t.n,.int .i64 p2.t.ins,.int .i64 p2.t.outs,.slice pc2 nc2 cc2,.int .i64 p2.a.n,.slice ps2 ns2 cs2,.int .i64 p2.rounds,.int .i64 p2.t.n,.slice pt2 nt2 ct2,.slice pe2 ne2 ce2] rfl rfl 35 _ BC.o (by kernel_rfl) rfl (by simp[Value.oneCell']) (gQ (fun W=>Below w.heap.size w W/\W.heap[w2.heap.size]?=some (.cells #[.int .i64 p2.t.n,.int .i64 p2.t.ins,.int .i64 p2.t.outs,.slice pc2 nc2 cc2,.int .i64 p2.a.n,.slice ps2 ns2 cs2,.int .i64 p2.rounds,.int .i64 p2.t.n,.slice pt2 nt2 ct2,.slice pe2 ne2 ce2] 35)/\IsSys W (aN p2) (.slice pc2 nc2 cc2) (.slice ps2 ns2 cs2) (.slice pt2 nt2 ct2) (.slice pe2 ne2 ce2)) HF10.o ?_);intro W11 NJ;have HB11:=aa NJ.1;have SU:=aa NJ.2.1;have SX:=aa NJ.2.2;clear NJ HF10;have tb:=ab SU.o)
 clear tb;refine(VI j7.o (HT.o.up HB11.o) SX.o xr.o).mono ?_;rintro r w12 ⟨u12,rfl,S2,Nh⟩;obtain⟨a12,n12,c12,rfl⟩:∃ a n c,u12=.slice a n c:=by obtain⟨a,c,e,_⟩:=S2.at;exact⟨_,_,_,e⟩
 have HU12:=aa S2;have HB12:=aa (ae HB11.o Nh);have S9:=aa (af Nh SU.o);have HS12:=aa (SX.o.up Nh);have hs12:=aC S9.o;clear S2 Nh SU SX;have tb1:=fun o1 o2=>ab (aq o2 (aq o1 (ap w12 (.cells #[.int .i64 1,.slice a12 n12 c12,.slice none 0 0,.slice none 0 0,.slice none 0 0] 58))))
 have tb2:=fun o1 o2=>ab (bu (w12.alloc o1) o2 (.cells #[.int .i64 1,.slice (some ⟨w12.heap.size+1,0,none⟩) 3 3,.slice none 0 0,.slice none 0 0,.slice none 0 0] 58))
 simp only[World.size_alloc]at tb2
 go_wp2_with fail
 clear tb1 tb2;refine aQ (fun W=>Below w12.heap.size w12 W/\W.heap[w12.heap.size]?=some (.cells #[.int .i64 1,.slice a12 n12 c12,.slice none 0 0,.slice none 0 0,.slice none 0 0] 58)/\W.heap[w12.heap.size+1]?=some (.cells #[.int .i64 0,.int .i64 (-1),.int .i64 1,.int .i64 0,.int .i64 2,.int .i64 1] 75)/\W.heap[w12.heap.size+1+1]?=some (.cells #[.int .i64 1,.slice (some ⟨w12.heap.size+1,0,none⟩) 3 3,.slice none 0 0,.slice none 0 0,.slice none 0 0] 58)) ⟨by go_grown,aq _ (aq _ (ap _ _)),aq _ (bu _ _ _),eD _ _ _ _⟩ (fun W13 hW13=>?_);refine(wA 1 ckW _ _ none none none none none none 0 0 0 0 0 0 W13 (HU12.o.up up_link hW13.1) (IA hW13.2.2.1)).mono ?_;rintro r w13 ⟨rfl,NI⟩;have GG:=ae hW13.1 NI;have HB13:=aa (ae HB12.o GG);have Eu:=aa (af GG S9.o);have Sr:=aa (HS12.o.up GG);have St:=aa (IA (af NI hW13.2.2.1));have Td:=aa (af NI hW13.2.2.2);have tb:=ab Eu.o;have tc:=ab Td.o;clear hW13 NI GG S9 HS12 HU12
 go_wp2_with fail
 clear tb tc;refine(Fu j7.o Sr.o St.o m3.o).mono ?_;rintro r w14 ⟨rfl,Em⟩;have HB14:=aa (ae HB13.o Em);have ED:=aa (af Em Eu.o);have SP:=aa (Sr.o.up Em);have SV:=aa (St.o.up up_link Em);have SY:=aa (af Em Td.o);have tb:=ab ED.o;have tc:=ab SY.o;clear Em Eu Sr St Td
 go_wp2_with fail
 clear tb tc;refine(MZ j7.o (HT.o.up HB14.o) SP.o SV.o eP.o).mono ?_;rintro r w15 ⟨u15,rfl,Si,Ep⟩;obtain⟨a15,n15,c15,rfl⟩:∃ a n c,u15=.slice a n c:=by obtain⟨a,c,e,_⟩:=Si.at;exact⟨_,_,_,e⟩
 have HU15:=aa Si;have HB15:=aa (ae HB14.o Ep);have HX15:=aa (af Ep ED.o);have HS15:=aa (SP.o.up Ep);have HL15:=aa (SV.o.up up_link Ep);have HT15:=aa (af Ep SY.o);clear Ep Si ED SP SV SY
 go_wp2_with fail
 refine aQ (fun W=>Below w15.heap.size w15 W/\W.heap[w15.heap.size]?=some (.cells #[.int .i64 1,.slice a15 n15 c15,.slice none 0 0,.slice none 0 0,.slice none 0 0] 58)/\W.heap[w15.heap.size+1]?=some (.cells #[.int .i64 1,.int .i64 3,.int .i64 3,.int .i64 2,.int .i64 3,.int .i64 3] 92)) ⟨by go_grown,aq _ (ap _ _),bu _ _ _⟩ (fun W16 hW16=>?_);refine(Sj.o W16 _ hW16.2.2).mono ?_;rintro r w16 ⟨pc3,ps3,cc3,cs3,nc3,ns3,rfl,jH,SA⟩;have wH:=ae hW16.1 SA;have oE:=aa (jH w16 (fun _ _ _=>rfl));have HK:=aa (Sg.o _ _ _ _ _ _ w16 oE.o.1 oE.o.2);have HB16:=aa (ae HB15.o wH);have HX16:=aa (af wH HX15.o);have HS16:=aa (HS15.o.up wH);have HL16:=aa (HL15.o.up up_link wH);have HT16:=aa (af wH HT15.o);have HU16:=aa (HU15.o.up up_link wH);have HD16:=aa (af SA hW16.2.1);clear hW16 SA wH jH Sg Sj HX15 HS15 HL15 HT15 HU15
 go_wp2_with fail
 refine HK.o.mono ?_;rintro r w17 ⟨pt3,pe3,ct3,ce3,nt3,ne3,rfl,dC,uu⟩;have AI:=aa (dC w17 (fun _ _ _=>rfl) (oE.o.1.up up_case uu) (oE.o.2.up up_moves uu));have HB17:=aa (ae HB16.o uu);have HX17:=aa (af uu HX16.o);have HS17:=aa (HS16.o.up uu);have HL17:=aa (HL16.o.up up_link uu);have HT17:=aa (af uu HT16.o);have HU17:=aa (HU16.o.up up_link uu);have HD17:=aa (af uu HD16.o);clear dC uu HK oE HX16 HS16 HL16 HT16 HU16 HD16;have tb:=ab (ap w17 (.cells #[.int .i64 p3.t.n,.int .i64 p3.t.ins,.int .i64 p3.t.outs,.slice pc3 nc3 cc3,.int .i64 p3.a.n,.slice ps3 ns3 cs3,.int .i64 p3.rounds,.int .i64 p3.t.n,.slice pt3 nt3 ct3,.slice pe3 ne3 ce3] 35))
 go_wp2_with fail
 clear tb;refine aQ (fun W=>Below w17.heap.size w17 W) (by go_grown) (fun W18 hW18=>?_);refine(Ft yL.o (HT.o.up (ae HB17.o hW18)) (AI.o.up hW18) HH3.o).mono ?_;rintro r w18 ⟨u18,rfl,SK,hb18⟩;obtain⟨a18,n18,c18,rfl⟩:∃ a n c,u18=.slice a n c:=by obtain⟨a,c,e,_⟩:=SK.at;exact⟨_,_,_,e⟩
 have tp:=ae hW18 hb18;have HV18:=aa SK;have HB18:=aa (ae HB17.o tp);have HX18:=aa (af tp HX17.o);have HS18:=aa (HS17.o.up tp);have HL18:=aa (HL17.o.up up_link tp);have HT18:=aa (af tp HT17.o);have HU18:=aa (HU17.o.up up_link tp);have HD18:=aa (af tp HD17.o);clear hW18 hb18 tp SK HX17 HS17 HL17 HT17 HU17 HD17 AI
 go_wp2_with fail
 have hS:List.Nodup [107,108,109,110,111,112,113,114,115,116,117,118,119,120,121,122,123,124,125,126,127,128,129,130,0]:=by decide
 refine Gg 25 [107,108,109,110,111,112,113,114,115,116,117,118,119,120,121,122,123,124,125,126,127,128,129,130,0] [MP.eq (.int .i64 0),MP.eq (.int .i64 0),MP.eq (.int .i64 0),MP.eq (.bool true),MP.eq (.bool true),MP.eq (.agg #[.int .i64 1,.slice a15 n15 c15,.slice none 0 0,.slice none 0 0,.slice none 0 0]),MP.eq (.agg #[.int .i64 1,.slice (some ⟨w12.heap.size+1,0,none⟩) 3 3,.slice none 0 0,.slice none 0 0,.slice none 0 0]),MP.eq (.bool true),MP.eq (.bool true),MP.eq (.bool true),MP.eq (.slice a18 n18 c18),Yl 1 [-1],Yl 9 (List.replicate 9 (-1)),MP.eq (.bool true),MP.eq (.bool true),MP.eq (.bool true),MP.eq (.agg #[.int .i64 p2.t.n,.int .i64 p2.t.ins,.int .i64 p2.t.outs,.slice pc2 nc2 cc2,.int .i64 p2.a.n,.slice ps2 ns2 cs2,.int .i64 p2.rounds,.int .i64 p2.t.n,.slice pt2 nt2 ct2,.slice pe2 ne2 ce2]),MP.eq (.pointer (some ⟨w12.heap.size+1+1,1,none⟩)),MP.eq (.slice (some ⟨w12.heap.size+1,0,none⟩) 3 3),MP.eq (.slice (some ⟨w12.heap.size+1,0,none⟩) 2 3),MP.eq (.agg #[.int .i64 1,.slice (some ⟨w12.heap.size+1,0,none⟩) 2 3,.slice none 0 0,.slice none 0 0,.slice none 0 0]),MP.eq (.int .i64 18),MP.eq (.bool true),MP.eq (.bool true),MP.eq (.bool true)] (by kernel_rfl) rfl hS rfl (by kernel_rfl) ?step ?tail
 case step=>
  intro x W i o s F hi ho hs hB ar hF;rcases (show i=0\/i=1\/i=2\/i=3\/i=4\/i=5\/i=6\/i=7\/i=8\/i=9\/i=10\/i=11\/i=12\/i=13\/i=14\/i=15\/i=16\/i=17\/i=18\/i=19\/i=20\/i=21\/i=22\/i=23\/i=24 by omega) with rfl|rfl|rfl|rfl|rfl|rfl|rfl|rfl|rfl|rfl|rfl|rfl|rfl|rfl|rfl|rfl|rfl|rfl|rfl|rfl|rfl|rfl|rfl|rfl|rfl
  all_goals (obtain rfl:=dE ho.symm;obtain rfl:=dE hs.symm;clear hi ho hs)
  ·obtain⟨g3,h3⟩:=dr hF 3 (.int .i64 0) (by decide) rfl;clear hF ar
   go_wp2_with fail
   exact bA.mk _ (Below.refl _ _) rfl rfl
  ·obtain⟨g5,h5⟩:=dr hF 5 (.int .i64 0) (by decide) rfl;clear hF ar
   go_wp2_with fail
   exact bA.mk _ (Below.refl _ _) rfl rfl
  ·obtain⟨e0,f0⟩:=aW hF 0 107 _ hS rfl (by kernel_rfl) (ar ⟨0,.data⟩ (by simp) rfl);obtain⟨e1,f1⟩:=aW hF 1 108 _ hS rfl (by kernel_rfl) (ar ⟨1,.data⟩ (by simp) rfl);clear hF ar
   go_wp2_with fail
   exact bA.mk _ (Below.refl _ _) rfl rfl
  ·obtain⟨e2,f2⟩:=aW hF 2 109 _ hS rfl (by kernel_rfl) (ar ⟨2,.data⟩ (by simp) rfl);clear hF ar
   go_wp2_with fail
   exact bA.mk _ (Below.refl _ _) rfl rfl
  ·obtain⟨e3,f3⟩:=aW hF 3 110 _ hS rfl (by kernel_rfl) (ar ⟨3,.data⟩ (by simp) rfl);clear hF ar
   go_wp2_with fail
   exact bA.mk _ (Below.refl _ _) rfl rfl
  ·obtain⟨g11,PP⟩:=dr hF 11 (.pointer (some ⟨w15.heap.size,0,none⟩)) (by decide) rfl;have m4:=fq hF 4 111 (.bool true) hS rfl (by kernel_rfl) (ar ⟨4,.guard⟩ (by simp) rfl);have tb:=ab (af hB HD18.o);clear hF ar
   go_wp2_with fail
   exact bA.mk _ (Below.refl _ _) rfl rfl
  ·obtain⟨g10,FY⟩:=dr hF 10 (.pointer (some ⟨w12.heap.size+1+1,0,none⟩)) (by decide) rfl;have m4:=fq hF 4 111 (.bool true) hS rfl (by kernel_rfl) (ar ⟨4,.guard⟩ (by simp) rfl);have tb:=ab (af hB HT18.o);clear hF ar
   go_wp2_with fail
   exact bA.mk _ (Below.refl _ _) rfl rfl
  ·obtain⟨e5,f5⟩:=aW hF 5 112 _ hS rfl (by kernel_rfl) (ar ⟨5,.data⟩ (by simp) rfl);obtain⟨e6,f6⟩:=aW hF 6 113 _ hS rfl (by kernel_rfl) (ar ⟨6,.data⟩ (by simp) rfl);have m4:=fq hF 4 111 (.bool true) hS rfl (by kernel_rfl) (ar ⟨4,.guard⟩ (by simp) rfl);clear hF ar
   go_wp2_with fail
   refine(wA 1 ckW _ _ none none none none none none 0 0 0 0 0 0 W (HU18.o.up up_link hB) (HL18.o.up up_link hB)).mono ?_;rintro r W' ⟨rfl,gk⟩
   go_wp2_with fail
   exact bA.mk _ gk rfl rfl
  ·obtain⟨e4,f4⟩:=aW hF 4 111 _ hS rfl (by kernel_rfl) (ar ⟨4,.data⟩ (by simp) rfl);obtain⟨e7,f7⟩:=aW hF 7 114 _ hS rfl (by kernel_rfl) (ar ⟨7,.data⟩ (by simp) rfl);clear hF ar
   go_wp2_with fail
   exact bA.mk _ (Below.refl _ _) rfl rfl
  ·obtain⟨e8,f8⟩:=aW hF 8 115 _ hS rfl (by kernel_rfl) (ar ⟨8,.data⟩ (by simp) rfl);clear hF ar
   go_wp2_with fail
   exact bA.mk _ (Below.refl _ _) rfl rfl
  ·obtain⟨g13,h13⟩:=dr hF 13 (.slice a18 n18 c18) (by decide) rfl;have m9:=fq hF 9 116 (.bool true) hS rfl (by kernel_rfl) (ar ⟨9,.guard⟩ (by simp) rfl);clear hF ar
   go_wp2_with fail
   exact bA.mk _ (Below.refl _ _) rfl rfl
  ·have m9:=fq hF 9 116 (.bool true) hS rfl (by kernel_rfl) (ar ⟨9,.guard⟩ (by simp) rfl);clear hF ar
   go_wp2_with fail
   exact bA.mk (.slice (some ⟨W.heap.size,0,none⟩) 1 1) (by go_grown) ⟨_,rfl,ap _ _⟩ rfl
  ·have d11:=ar ⟨11,.data⟩ (by simp) rfl;have m9:=fq hF 9 116 (.bool true) hS rfl (by kernel_rfl) (ar ⟨9,.guard⟩ (by simp) rfl);obtain⟨i1,q11,PP⟩:=d11;obtain⟨e11,f11⟩:=aW hF 11 118 _ hS rfl (by kernel_rfl) q11;clear hF ar
   go_wp2_with fail
   refine(v7 (-1) 9 (by omega) (by omega) i1 W PP).mono ?_;rintro r W' ⟨rfl,h9,gk⟩;rw[xC_nine]at h9;have H9:=aa h9;clear h9
   go_wp2_with fail
   exact bA.mk (.slice (some ⟨W.heap.size,0,none⟩) 9 9) gk ⟨_,rfl,H9.o⟩ rfl
  ·obtain⟨e10,f10⟩:=aW hF 10 117 _ hS rfl (by kernel_rfl) (ar ⟨10,.data⟩ (by simp) rfl);have d12:=ar ⟨12,.data⟩ (by simp) rfl;have m9:=fq hF 9 116 (.bool true) hS rfl (by kernel_rfl) (ar ⟨9,.guard⟩ (by simp) rfl);obtain⟨i2,q12,Ut⟩:=d12;obtain⟨e12,f12⟩:=aW hF 12 119 _ hS rfl (by kernel_rfl) q12;clear hF ar
   go_wp2_with fail
   refine(jr _ _ (List.replicate 9 (-1)) (List.replicate 9 (-1)) W (HV18.o.up up_int hB) (ib (List.replicate 9 (-1)) Ut (by decide) (by decide))).mono ?_;rintro r W' ⟨rfl,gk⟩;rw[show eqV (List.replicate 9 (-1)) (List.replicate 9 (-1))=true by decide]
   go_wp2_with fail
   exact bA.mk _ gk rfl rfl
  ·obtain⟨e9,f9⟩:=aW hF 9 116 _ hS rfl (by kernel_rfl) (ar ⟨9,.data⟩ (by simp) rfl);obtain⟨e13,f13⟩:=aW hF 13 120 _ hS rfl (by kernel_rfl) (ar ⟨13,.data⟩ (by simp) rfl);clear hF ar
   go_wp2_with fail
   exact bA.mk _ (Below.refl _ _) rfl rfl
  ·obtain⟨e14,f14⟩:=aW hF 14 121 _ hS rfl (by kernel_rfl) (ar ⟨14,.data⟩ (by simp) rfl);clear hF ar
   go_wp2_with fail
   exact bA.mk _ (Below.refl _ _) rfl rfl
  ·obtain⟨g1,h1⟩:=dr hF 1 (.pointer (some ⟨w2.heap.size,0,none⟩)) (by decide) rfl;have m15:=fq hF 15 122 (.bool true) hS rfl (by kernel_rfl) (ar ⟨15,.guard⟩ (by simp) rfl);have tb:=ab (af hB HX18.o);clear hF ar
   go_wp2_with fail
   exact bA.mk _ (Below.refl _ _) rfl rfl
  ·obtain⟨g10,FY⟩:=dr hF 10 (.pointer (some ⟨w12.heap.size+1+1,0,none⟩)) (by decide) rfl;have m15:=fq hF 15 122 (.bool true) hS rfl (by kernel_rfl) (ar ⟨15,.guard⟩ (by simp) rfl);clear hF ar
   go_wp2_with fail
   exact bA.mk _ (Below.refl _ _) rfl rfl
  ·obtain⟨e17,f17⟩:=aW hF 17 124 _ hS rfl (by kernel_rfl) (ar ⟨17,.data⟩ (by simp) rfl);have m15:=fq hF 15 122 (.bool true) hS rfl (by kernel_rfl) (ar ⟨15,.guard⟩ (by simp) rfl);have tb:=ab (af hB HT18.o) 1;simp at tb;clear hF ar
   go_wp2_with fail
   exact bA.mk _ (Below.refl _ _) rfl rfl
  ·obtain⟨e18,f18⟩:=aW hF 18 125 _ hS rfl (by kernel_rfl) (ar ⟨18,.data⟩ (by simp) rfl);have m15:=fq hF 15 122 (.bool true) hS rfl (by kernel_rfl) (ar ⟨15,.guard⟩ (by simp) rfl);clear hF ar
   go_wp2_with fail
   exact bA.mk _ (Below.refl _ _) rfl rfl
  ·obtain⟨e19,f19⟩:=aW hF 19 126 _ hS rfl (by kernel_rfl) (ar ⟨19,.data⟩ (by simp) rfl);have m15:=fq hF 15 122 (.bool true) hS rfl (by kernel_rfl) (ar ⟨15,.guard⟩ (by simp) rfl);clear hF ar
   go_wp2_with fail
   exact bA.mk _ (Below.refl _ _) rfl rfl
  ·obtain⟨e16,f16⟩:=aW hF 16 123 _ hS rfl (by kernel_rfl) (ar ⟨16,.data⟩ (by simp) rfl);obtain⟨e20,f20⟩:=aW hF 20 127 _ hS rfl (by kernel_rfl) (ar ⟨20,.data⟩ (by simp) rfl);have m15:=fq hF 15 122 (.bool true) hS rfl (by kernel_rfl) (ar ⟨15,.guard⟩ (by simp) rfl);clear hF ar
   go_wp2_with fail
   refine(Fu j7.o (HS18.o.up hB) (rl (HL18.o.up up_link hB) 2 (by decide)) rJ.o).mono ?_;rintro r W' ⟨rfl,gk⟩
   go_wp2_with fail
   exact bA.mk _ gk rfl rfl
  ·obtain⟨e21,f21⟩:=aW hF 21 128 _ hS rfl (by kernel_rfl) (ar ⟨21,.data⟩ (by simp) rfl);have m15:=fq hF 15 122 (.bool true) hS rfl (by kernel_rfl) (ar ⟨15,.guard⟩ (by simp) rfl);clear hF ar
   go_wp2_with fail
   exact bA.mk _ (Below.refl _ _) rfl rfl
  ·obtain⟨e15,f15⟩:=aW hF 15 122 _ hS rfl (by kernel_rfl) (ar ⟨15,.data⟩ (by simp) rfl);obtain⟨e22,f22⟩:=aW hF 22 129 _ hS rfl (by kernel_rfl) (ar ⟨22,.data⟩ (by simp) rfl);clear hF ar
   go_wp2_with fail
   exact bA.mk _ (Below.refl _ _) rfl rfl
  ·obtain⟨e23,f23⟩:=aW hF 23 130 _ hS rfl (by kernel_rfl) (ar ⟨23,.data⟩ (by simp) rfl);clear hF ar
   go_wp2_with fail
   exact bA.mk _ (Below.refl _ _) rfl rfl
 case tail=>
  clear hS;intro x w19 F hB aT hF;have e24:=aT 24 (by omega);change x 24=_ at e24;clear aT;simp only[bC,da,List.setIfInBounds_toArray,List.set_cons_succ,List.set_cons_zero,Nat.reduceAdd]at hF;rw[e24]at hF;generalize x 0=r0,x 1=r1,x 2=r2,x 3=r3,x 4=r4,x 5=r5,x 6=r6,x 7=r7,x 8=r8,x 9=r9,x 10=r10,x 11=r11,x 12=r12,x 13=r13,x 14=r14,x 15=r15,x 16=r16,x 17=r17,x 18=r18,x 19=r19,x 20=r20,x 21=r21,x 22=r22,x 23=r23 at hF;subst hF;have HB19:=aa (ae HB18.o hB);clear hB e24
  go_wp2_with fail
  go_ret
  exact⟨rfl,HB19.o⟩
theorem Kv(p:Pb) (vc vs:Value) (w:World) (hc:bN w vc p.t.cases) (hs:bz w vs p.a.states) :
  Calls Tryz.prog 59 #[nJ p vc vs] w fun r w'=>r=.returned (.bool (fewPB p&&decide (buildE p=0)))/\Below w.heap.size w w':=by
 have GC:=aa hc;have GS:=aa hs;obtain⟨pc,cc,rfl,_⟩:=hc.at;obtain⟨ps,cs,rfl,_⟩:=hs.at;have HF:=aa (fun W (hb:Below w.heap.size w W)=>H7 p _ _ W (GC.o.up up_case hb) (GS.o.up up_moves hb));have nW:=aa (fun (h:fewPB p=true) W (hb:Below w.heap.size w W)=>wD p _ _ W (GC.o.up up_case hb) (GS.o.up up_moves hb) (by have:=pQ h;omega) (zB h));unfold Eg zC at nW;obtain⟨be,kZ⟩:∃ be,buildE p=be:=⟨_,rfl⟩;rw[kZ]at nW ⊢;generalize fewPB p=fb at HF nW ⊢;clear hc hs kZ;generalize p.t.cases.length=nc,p.a.states.length=ns at HF nW ⊢
 go_enter Tryz.func59,Tryz.ntmps59
 go_wp2_with fail
 refine aQ (fun W=>Below w.heap.size w W/\W.heap[w.heap.size]?=some (.cells #[.int .i64 p.t.n,.int .i64 p.t.ins,.int .i64 p.t.outs,.slice pc nc cc,.int .i64 p.a.n,.slice ps ns cs,.int .i64 p.rounds] 29)) ⟨by go_grown,ap _ _⟩ (fun W0 bd=>?_);obtain⟨aK,bK⟩:=bd;refine(HF.o W0 aK).mono ?_;rintro r w1 ⟨rfl,aM⟩;have bL:=aa (ae aK aM);have tA:=ab (af aM bK);clear aK bK aM HF;cases fb with
 | false=>
  go_wp2_with fail
  go_ret
  exact⟨rfl,bL.o⟩
 | true=>
 have kH:=aa (nW.o rfl);clear nW
 go_wp2_with fail
 clear tA;refine(kH.o w1 bL.o).mono ?_;rintro r w2 ⟨⟨c,rfl,h1,h2⟩,aZ⟩;have cX:=aa (ae bL.o aZ);clear aZ kH;by_cases hz:be=0
 case neg=>
  obtain rfl:=h2 hz;have Lm:(be == 0)=false:=by simpa using hz
  have HD:am (decide (be=0)=false):=aa (decide_eq_false hz);have HG:am (Below w.heap.size w (w2.alloc (.cells zeroSys 35))):=aa (cX.o.alloc cX.o.size _);clear hz h1 h2
  go_wp2_with fail
  go_ret
  exact⟨by rw[HD.o];rfl,HG.o⟩
 obtain⟨ut,ue,rfl,⟨⟨a3,c3,rfl⟩,a4,c4,rfl⟩,_⟩:=h1 hz;subst hz;have HG:am (∀ o:Obj,Below w.heap.size w (w2.alloc o)):=aa (fun o=>cX.o.alloc cX.o.size _);clear h1 h2
 go_wp2_with fail
 go_ret
 exact⟨rfl,HG.o _⟩
theorem M1(s:Sys) (vc vs vt ve:Value) (w:World) (dC:IsSys w s vc vs vt ve) (hN:movesN s.prob.a.states<2305843009213693952) (hf:ul s.prob) :
  Calls Tryz.prog 39 #[.agg (bZ s.prob vc vs s.n vt ve)] w fun r w'=>r=.returned (.int .i64 (readyE s))/\Below w.heap.size w w':=by
 have HS:=aa dC;obtain⟨⟨qc,kc,rfl⟩,⟨qs,ks,rfl⟩,⟨qt,kt,rfl⟩,⟨qe,ke,rfl⟩⟩:=bM dC;have yT:=aa (fun W (hb:Below w.heap.size w W)=>Eh s _ _ _ _ W (HS.o.up hb) hN hf);have FV:=aa (fun W (hb:Below w.heap.size w W)=>MW s.prob.t _ W (HS.o.cases.up up_case hb));have dd:am (readyE s=if verifyE s≠0 then verifyE s else if agreeB s.prob.t then 0 else 11):=aa rfl;generalize readyE s=re at dd ⊢;generalize verifyE s=vr at yT dd;generalize agreeB s.prob.t=ag at FV dd;clear dC hN hf;generalize s.prob.t.cases.length=nc,s.prob.a.states.length=ns,s.tab.length=nt,s.ex.length=ne at yT FV ⊢
 go_enter Tryz.func39,Tryz.ntmps39
 go_wp2_with fail
 refine aQ (fun W=>Below w.heap.size w W/\∃ c,W.heap[w.heap.size]?=some (.cells c 35)/\c=bZ s.prob (.slice qc nc kc) (.slice qs ns ks) s.n (.slice qt nt kt) (.slice qe ne ke)) ⟨by go_grown,_,ap _ _,rfl⟩ (fun W0 bd=>?_);obtain⟨aK,_,bK,rfl⟩:=bd;refine(yT.o W0 aK).mono ?_;rintro r w1 ⟨rfl,aM⟩;have bL:=aa (ae aK aM);have tA:=ab (af aM bK);clear aK bK aM yT;by_cases hz:vr=0
 case neg=>
  have Lm:(vr != 0)=true:=by simpa using hz
  have HV:am (re=vr):=aa (by rw[dd.o,if_pos hz]);clear hz FV
  go_wp2_with fail
  go_ret
  exact⟨aG HV.o.symm,bL.o⟩
 have HV:am (re=if ag then 0 else 11):=aa (by rw[dd.o,if_neg (by omega)]);subst hz;clear dd
 go_wp2_with fail
 refine(FV.o w1 bL.o).mono ?_;rintro r w2 ⟨rfl,aZ⟩;have cX:=aa (ae bL.o aZ);clear tA aZ FV;cases ag with
 | true=>
  go_wp2_with fail
  go_ret
  exact⟨aG (by rw[HV.o];rfl),cX.o⟩
 | false=>
  go_wp2_with fail
  go_ret
  exact⟨aG (by rw[HV.o];rfl),cX.o⟩
theorem PO{s:Sys} {vc vs vt ve:Value} {w:World} (dC:IsSys w s vc vs vt ve) (hN:movesN s.prob.a.states<2305843009213693952) (hf:ul s.prob):It s vc vs vt ve w:=fun W hb=>M1 s vc vs vt ve W (dC.up hb) hN hf
theorem Fv{p:Pb} (h:fewPB p=true) (h0:buildE p=0):eS (aN p)<=60:=by
 have h1:=rz p (aP p) (fh p) ([],[]);have h2:(aN p).ex.length=0+(fh p).length:=h1;rw[iD]at h2;unfold buildE at h0;by_cases hp:probE p=0
 ·rw[if_neg (by omega)]at h0;by_cases h4:4096<p.t.cases.length * (aP p).length
  ·rw[if_pos h4]at h0;omega
  ·unfold eS;rcases zB h hp with h5|h5<;>omega
 ·rw[if_pos hp]at h0;exact absurd h0 hp
def Sa(p:Pb) (vc vs:Value) (r:Ending) (w':World):Prop:=
 (∃ (i0 i1 i2 i4 i6 i7:Int) (a3 a5 a8 a9:Option Addr) (n3 n5 n8 n9 c3 c5 c8 c9:Nat),r=.returned (.tuple #[.agg #[.int .i64 i0,.int .i64 i1,.int .i64 i2,.slice a3 n3 c3,.int .i64 i4,.slice a5 n5 c5,.int .i64 i6,.int .i64 i7,.slice a8 n8 c8,.slice a9 n9 c9],.bool false])) ∨
 (∃ vt ve,r=.returned (.tuple #[.agg (bZ p vc vs p.t.n vt ve),.bool true])/\IsSys w' (aN p) vc vs vt ve/\buildE p=0/\readyE (aN p)=0/\fewPB p=true)
theorem uR(tmps:Array Value) (B:Nat) (W:World) (c0 c1 c2 c3 c4 c5 c6 c7 c8 c9:Value) (b:Bool) (h2:tmps[2]?.getD undef=.pointer (some ⟨B,0,none⟩)) (h3:tmps[3]?.getD undef=.bool b)
  (hB:W.heap[B]?=some (.cells #[c0,c1,c2,c3,c4,c5,c6,c7,c8,c9] 35)) :
  (results Tryz.f26 tmps).run Tryz.prog W=.ok (.tuple #[.agg #[c0,c1,c2,c3,c4,c5,c6,c7,c8,c9],.bool b]) W:=by
 have t2:=ab hB;simp[results,Tryz.results26,go_sem,h2,h3,t2]
theorem M2(p:Pb) (vc vs:Value) (w:World) (hc:bN w vc p.t.cases) (hs:bz w vs p.a.states) :
  Calls Tryz.prog 26 #[nJ p vc vs] w fun r w'=>Sa p vc vs r w'/\Below w.heap.size w w':=by
 have GC:=aa hc;have GS:=aa hs;obtain⟨pc,cc,rfl,_⟩:=hc.at;obtain⟨ps,cs,rfl,_⟩:=hs.at;have Uv:=aa (fun W (hb:Below w.heap.size w W)=>Kv p _ _ W (GC.o.up up_case hb) (GS.o.up up_moves hb));have uX:=aa (fun (h:fewPB p=true) (h0:buildE p=0) W (hb:Below w.heap.size w W)=>Cx p _ _ W (GC.o.up up_case hb) (GS.o.up up_moves hb) (by have:=pQ h;omega) (zB h) h0);have kX:am (∀ (h:fewPB p=true) (h0:buildE p=0) vt ve W,IsSys W (aN p) (.slice pc p.t.cases.length cc) (.slice ps p.a.states.length cs) vt ve->Calls Tryz.prog 14 #[.agg (bZ p (.slice pc p.t.cases.length cc) (.slice ps p.a.states.length cs) p.t.n vt ve)] W fun r w'=>∃ u,r=.returned (.tuple #[u,.int .i64 (choiceR (aN p)).2])/\aX w' u (choiceR (aN p)).1/\Below W.heap.size W w'):=aa (fun h h0 vt ve W dC=>Ks (aN p) (by have:=Fv h h0;omega) _ _ vt ve W dC (PO dC (show movesN p.a.states<_ by have:=pQ h;omega) (zB h)));have vK:am ((∀ W,Below w.heap.size w W->bN W (.slice pc p.t.cases.length cc) p.t.cases)/\∀ W,Below w.heap.size w W->bz W (.slice ps p.a.states.length cs) p.a.states):=aa ⟨fun W hb=>GC.o.up up_case hb,fun W hb=>GS.o.up up_moves hb⟩
 have j7:am ((choiceR (aN p)).2=readyE (aN p)):=aa (by
  unfold choiceR;by_cases h:readyE (aN p)=0
  ·rw[if_neg (by omega)];exact h.symm
  ·rw[if_pos h])
 generalize choiceR (aN p)=cr at kX j7;unfold zC at uX;clear hc hs GC GS;have fY:am (∀ (i0 i1 i2 i4 i6 i7:Int) (a3 a5 a8 a9:Option Addr) (n3 n5 n8 n9 c3 c5 c8 c9:Nat) W,Sa p (.slice pc p.t.cases.length cc) (.slice ps p.a.states.length cs) (.returned (.tuple #[.agg #[.int .i64 i0,.int .i64 i1,.int .i64 i2,.slice a3 n3 c3,.int .i64 i4,.slice a5 n5 c5,.int .i64 i6,.int .i64 i7,.slice a8 n8 c8,.slice a9 n9 c9],.bool false])) W):=aa (fun i0 i1 i2 i4 i6 i7 a3 a5 a8 a9 n3 n5 n8 n9 c3 c5 c8 c9 W=>.inl ⟨i0,i1,i2,i4,i6,i7,a3,a5,a8,a9,n3,n5,n8,n9,c3,c5,c8,c9,rfl⟩);have jS:am (∀ vt ve W,IsSys W (aN p) (.slice pc p.t.cases.length cc) (.slice ps p.a.states.length cs) vt ve->buildE p=0->readyE (aN p)=0->fewPB p=true->Sa p (.slice pc p.t.cases.length cc) (.slice ps p.a.states.length cs) (.returned (.tuple #[.agg (bZ p (.slice pc p.t.cases.length cc) (.slice ps p.a.states.length cs) p.t.n vt ve),.bool true])) W):=aa (fun vt ve W h1 h2 h3 h4=>.inr ⟨vt,ve,rfl,h1,h2,h3,h4⟩);obtain⟨nc,iL⟩:∃ nc,p.t.cases.length=nc:=⟨_,rfl⟩;obtain⟨ns,oH⟩:∃ ns,p.a.states.length=ns:=⟨_,rfl⟩;rw[iL,oH]at Uv uX kX vK fY jS ⊢;obtain⟨rb,C'⟩:∃ rb,(fewPB p&&decide (buildE p=0))=rb:=⟨_,rfl⟩;rw[C']at Uv;have HRB:=aa C';clear iL oH C'
 go_enter Tryz.func26,Tryz.ntmps26
 go_wp2_with fail
 refine aQ (fun W=>Below w.heap.size w W/\W.heap[w.heap.size]?=some (.cells #[.int .i64 p.t.n,.int .i64 p.t.ins,.int .i64 p.t.outs,.slice pc nc cc,.int .i64 p.a.n,.slice ps ns cs,.int .i64 p.rounds] 29)/\W.heap[w.heap.size+1]?=some (.cells zeroSys 35)) ⟨by go_grown,aq _ (ap _ _),bu _ _ _⟩ (fun W0 bd=>?_);obtain⟨aK,bK,gr⟩:=bd;refine(Uv.o W0 aK).mono ?_;rintro r w1 ⟨rfl,aM⟩;have bL:=aa (ae aK aM);have dP:=aa (af aM bK);have dd:=aa (af aM gr);have fT:=aC dd.o;clear aK bK gr aM Uv;cases rb with
 | false=>
  clear uX kX jS
  go_wp2_with (refine wpList_store_row rfl 35 (.tmp 2) (.tmp 10) rfl (w.heap.size+1) zeroSys rfl rfl 35 _ dd.o (by kernel_rfl) rfl (by simp[Value.oneCell']) ?_)
  exact bodyPost_ret (uR _ (w.heap.size+1) _ _ _ _ _ _ _ _ _ _ _ false rfl rfl (setRow_heap _ _ _ _ _ _ dd.o)) rfl ⟨fY.o _ _ _ _ _ _ _ _ _ _ _ _ _ _ _ _ _ _ _,below_setRow bL.o (by omega) _⟩
 | true=>
 obtain⟨hf,h0⟩:fewPB p=true/\buildE p=0:=by have:=HRB.o;simpa using this
 have kH:=aa (uX.o hf h0);have tI:=aa (kX.o hf h0);have HYY:=aa (fun vt ve W h1 h3=>jS.o vt ve W h1 h0 h3 hf);have tA:=ab dP.o;clear hf h0 uX kX jS HRB
 go_wp2_with fail
 clear tA;refine(kH.o w1 bL.o).mono ?_;rintro r w2 ⟨vt,ve,rfl,⟨⟨⟨a3,c3,rfl⟩,a4,c4,rfl⟩,eQ⟩,aZ⟩;have LD:=aa eQ;have cX:=aa (ae bL.o aZ);have eJ:=aa (af aZ dd.o);obtain⟨nt,AH⟩:∃ nt,(aN p).tab.length=nt:=⟨_,rfl⟩;obtain⟨ne,bR⟩:∃ ne,(aN p).ex.length=ne:=⟨_,rfl⟩;rw[AH,bR]at LD ⊢;have cI:=aZ.size;clear eQ aZ AH bR kH dd dP;have te:=ab (ap w2 (.cells #[.int .i64 p.t.n,.int .i64 p.t.ins,.int .i64 p.t.outs,.slice pc nc cc,.int .i64 p.a.n,.slice ps ns cs,.int .i64 p.rounds,.int .i64 p.t.n,.slice a3 nt c3,.slice a4 ne c4] 35))
 go_wp2_with fail
 clear te;refine aQ (fun W=>Below w2.heap.size w2 W/\W.heap[w2.heap.size]?=some (.cells #[.int .i64 p.t.n,.int .i64 p.t.ins,.int .i64 p.t.outs,.slice pc nc cc,.int .i64 p.a.n,.slice ps ns cs,.int .i64 p.rounds,.int .i64 p.t.n,.slice a3 nt c3,.slice a4 ne c4] 35)) ⟨by go_grown,ap _ _⟩ (fun W3 mh=>?_);have bG:=ae cX.o mh.1;have hsy3:=LD.o W3 (fun k _ hk=>mh.1.block k hk) (vK.o.1 W3 bG) (vK.o.2 W3 bG);refine(tI.o _ _ W3 hsy3).mono ?_;rintro r w4 ⟨u4,rfl,mj,bO⟩;obtain⟨a9,n9,c9,rfl⟩:∃ a n c,u4=.slice a n c:=by obtain⟨a,c,e,_⟩:=mj.at;exact⟨_,_,_,e⟩
 have Ns:=ae mh.1 bO;have F3:=aa (Ns);have kK:=aa (af bO mh.2);have eV:=aa (ae cX.o Ns);have oQ:=aa (af Ns eJ.o);have y9:=aC oQ.o;obtain⟨re,jX⟩:∃ re,cr.2=re:=⟨_,rfl⟩;rw[jX];have HRE:am (readyE (aN p)=re):=aa (j7.o.symm.trans jX);clear bG hsy3 Ns mh bO mj jX j7 tI;have tx:=ab kK.o
 go_wp2_with (refine wpList_store_row rfl 35 (.tmp 2) (.tmp 18) rfl (w.heap.size+1) #[.int .i64 p.t.n,.int .i64 p.t.ins,.int .i64 p.t.outs,.slice pc nc cc,.int .i64 p.a.n,.slice ps ns cs,.int .i64 p.rounds,.int .i64 p.t.n,.slice a3 nt c3,.slice a4 ne c4] rfl rfl 35 _ oQ.o (by kernel_rfl) rfl (by simp[Value.oneCell']) ?_)
 refine bodyPost_ret (uR _ (w.heap.size+1) _ _ _ _ _ _ _ _ _ _ _ (re == 0) rfl rfl (setRow_heap _ _ _ _ _ _ oQ.o)) rfl ⟨?_,below_setRow eV.o (by omega) _⟩;by_cases hz:re=0
 ·have hd:(re == 0)=true:=by rw[hz];rfl
  rw[hd];refine HYY.o _ _ _ ?_ (HRE.o.trans hz);refine LD.o _ (fun k hk mg=>?_) (vK.o.1 _ (below_setRow eV.o (by omega) _)) (vK.o.2 _ (below_setRow eV.o (by omega) _));rw[setRow_other _ _ _ _ (by omega)];exact F3.o.block k mg
 ·have hd:(re == 0)=false:=beq_eq_false_iff_ne.2 hz;rw[hd];exact fY.o _ _ _ _ _ _ _ _ _ _ _ _ _ _ _ _ _ _ _
theorem zS(p:Pb) (vc vs:Value) (w:World) (hT:iA w) (hc:bN w vc p.t.cases) (hs:bz w vs p.a.states) :
  Calls Tryz.prog 7 #[nJ p vc vs] w fun r w'=>r=.returned (.bool true)/\Below w.heap.size w w':=by
 have GC:=aa hc;have GS:=aa hs;have HT:=aa hT;have UB:=aa (fun W (hb:Below w.heap.size w W)=>IB W (HT.o.up hb));have jA:=aa (fun W (hb:Below w.heap.size w W)=>M2 p vc vs W (GC.o.up up_case hb) (GS.o.up up_moves hb));obtain⟨pc,cc,rfl,_⟩:=hc.at;obtain⟨ps,cs,rfl,_⟩:=hs.at;clear hc hs hT GC GS;obtain⟨nc,iL⟩:∃ nc,p.t.cases.length=nc:=⟨_,rfl⟩;obtain⟨ns,oH⟩:∃ ns,p.a.states.length=ns:=⟨_,rfl⟩;rw[iL,oH]at jA ⊢;clear iL oH
 go_enter Tryz.func7,Tryz.ntmps7
 go_wp2_with fail
 refine aQ (fun W=>Below w.heap.size w W) (by go_grown) (fun W0 aK=>?_);refine(jA.o W0 aK).mono ?_;rintro r w1 ⟨hscn,aM⟩;have bL:=aa (ae aK aM);clear aK aM jA;rcases hscn with ⟨j0,i1,i2,i4,i6,i7,a3,a5,a8,a9,n3,n5,n8,n9,c3,c5,c8,c9,rfl⟩|⟨vt,ve,rfl,dC,h0,jX,hf⟩
 ·have HG:am (∀ o:Obj,Below w.heap.size w (w1.alloc o)):=aa fun o=>bL.o.alloc bL.o.size _
  go_wp2_with fail
  refine aQ (fun W=>Below w.heap.size w W) (HG.o _) (fun W2 aZ=>?_);refine(UB.o W2 aZ).mono ?_;rintro r w3 ⟨rfl,bG⟩;have dT:=aa (ae aZ bG);clear aZ bG
  go_wp2_with fail
  go_ret
  exact⟨rfl,dT.o⟩
 have HS:=aa dC;obtain⟨_,_,⟨qt,kt,rfl⟩,⟨qe,ke,rfl⟩⟩:=bM dC;have fV:=Fr jX;have hE:=Fv hf h0;have Dv:movesN p.a.states<1099511627776:=by have:=pQ hf;omega
 obtain⟨ls,fb,hfw,Db⟩:=L9 jX hE;have HRE:=aa jX;have dL:=aa fV;have WP:am (∀ W,Below w1.heap.size w1 W->Calls Tryz.prog 18 #[.agg (bZ p (.slice pc nc cc) (.slice ps ns cs) p.t.n (.slice qt (aN p).tab.length kt) (.slice qe (aN p).ex.length ke))] W fun r w'=>Wa (ls,fb,0) r w'/\Below W.heap.size W w'):=aa (fun W hb=>by rw[<-hfw];exact Fq (aN p) (by omega) _ _ _ _ W (HT.o.up (ae bL.o hb)) (HS.o.up hb) Dv);have yT:am (∀ l vl W,Below w1.heap.size w1 W->bJ W vl l->Calls Tryz.prog 24 #[.agg (bZ p (.slice pc nc cc) (.slice ps ns cs) p.t.n (.slice qt (aN p).tab.length kt) (.slice qe (aN p).ex.length ke)),.agg #[.int .i64 1,vl,.slice none 0 0,.slice none 0 0,.slice none 0 0]] W fun r w'=>r=.returned (.int .i64 (certE (aN p) ⟨1,l,0,0,0⟩))/\Below W.heap.size W w'):=aa (fun l vl W hb hl=>Ak (aN p) (by omega) _ _ _ _ vl ⟨1,l,0,0,0⟩ none 0 none 0 none 0 W (HS.o.up hb) Dv hl);have JF:am (∀ l vl W,Below w1.heap.size w1 W->bJ W vl l->Calls Tryz.prog 22 #[.agg (bZ p (.slice pc nc cc) (.slice ps ns cs) p.t.n (.slice qt (aN p).tab.length kt) (.slice qe (aN p).ex.length ke)),.agg #[.int .i64 1,vl,.slice none 0 0,.slice none 0 0,.slice none 0 0]] W fun r w'=>V8 (shortR (aN p) ⟨1,l,0,0,0⟩) r w'/\Below W.heap.size W w'):=aa (fun l vl W hb hl=>ym (aN p) (by omega) _ _ _ _ vl ⟨1,l,0,0,0⟩ none 0 none 0 none 0 W (HT.o.up (ae bL.o hb)) (HS.o.up hb) Dv hl);have rH:=aa (fun h=>Ku jX (Db h).1 (Db h).2.1);have yV:=aa (fun h=>(Db h).2.2);generalize (aN p).tab.length=nt,(aN p).ex.length=ne at WP yT JF ⊢;clear dC h0 jX hf fV Dv hfw Db hE;have te:=ab (ap w1 (.cells #[.int .i64 p.t.n,.int .i64 p.t.ins,.int .i64 p.t.outs,.slice pc nc cc,.int .i64 p.a.n,.slice ps ns cs,.int .i64 p.rounds,.int .i64 p.t.n,.slice qt nt kt,.slice qe ne ke] 35))
 go_wp2_with fail
 clear te;refine aQ (fun W=>Below w1.heap.size w1 W/\W.heap[w1.heap.size]?=some (.cells #[.int .i64 p.t.n,.int .i64 p.t.ins,.int .i64 p.t.outs,.slice pc nc cc,.int .i64 p.a.n,.slice ps ns cs,.int .i64 p.rounds,.int .i64 p.t.n,.slice qt nt kt,.slice qe ne ke] 35)) ⟨by go_grown,ap _ _⟩ (fun W2 fg=>?_);obtain⟨aZ,Qd⟩:=fg;refine(WP.o W2 aZ).mono ?_;rintro r w3 ⟨⟨u,rfl,hu⟩,bG⟩;dsimp only at hu ⊢;obtain⟨aL,cL,rfl,_⟩:=hu.at;obtain⟨n9,hn⟩:∃ n9,ls.length=n9:=⟨_,rfl⟩;rw[hn]at hu ⊢;have HN:=aa hn;have dT:=aa (ae aZ bG);have iX:=aa (af bG Qd);have HL:=aa hu;clear aZ Qd bG hu WP hn;cases fb with
 | false=>
  clear yT JF rH yV
  go_wp2_with fail
  refine aQ (fun W=>Below w1.heap.size w1 W) (dT.o.alloc dT.o.size _) (fun W4 bO=>?_);refine(UB.o W4 (ae bL.o bO)).mono ?_;rintro r w5 ⟨rfl,dB⟩;have kL:=aa (ae (ae bL.o bO) dB);clear bO dB
  go_wp2_with fail
  go_ret
  exact⟨rfl,kL.o⟩
 | true=>
 have tc:=ab (ap w3 (.cells (fM 1 (.slice aL n9 cL)) 58));by_cases h40:40<n9
 ·have hd:decide ((40:Int)<(n9:Int))=true:=decide_eq_true (by omega);clear yT JF rH yV
  go_wp2_with fail
  refine aQ (fun W=>Below w1.heap.size w1 W) (dT.o.alloc dT.o.size _) (fun W4 bO=>?_);refine(UB.o W4 (ae bL.o bO)).mono ?_;rintro r w5 ⟨rfl,dB⟩;have kL:=aa (ae (ae bL.o bO) dB);clear bO dB
  go_wp2_with fail
  go_ret
  exact⟨rfl,kL.o⟩
 have hd40:decide ((40:Int)<(n9:Int))=false:=decide_eq_false (by omega);obtain⟨d,vj,dS⟩:=rH.o rfl;have eF:=aa dS;have qp:=aa (JF.o ls);rw[vj]at qp;clear rH yV vj dS;have ta:=fun o=>ab (aq o iX.o)
 go_wp2_with fail
 clear tc ta;refine aQ (fun W=>Below w3.heap.size w3 W/\W.heap[w3.heap.size]?=some (.cells (fM 1 (.slice aL n9 cL)) 58)) ⟨by go_grown,ap _ _⟩ (fun W4 hW4=>?_);obtain⟨bO,hY4⟩:=hW4;refine(qp.o _ W4 (ae dT.o bO) (HL.o.up up_link bO)).mono ?_;rintro r w5 ⟨⟨u,rfl,hu⟩,dB⟩;dsimp only at hu ⊢;rw[if_pos rfl];obtain⟨aD,cD,rfl,_⟩:=hu.at;obtain⟨m9,hm⟩:∃ m9,d.length=m9:=⟨_,rfl⟩;have hm1:m9<=n9:=by rw[<-hm,<-HN.o];exact eF.o.len
 have hm2:0<m9:=by rw[<-hm];exact eF.o.pos
 rw[hm]at hu ⊢;have HM:=aa hm;have NM:=ae bO dB;have kL:=aa (ae dT.o NM);have Do:=aa (af NM iX.o);have X0:=aa (af dB hY4);have HL5:=aa (HL.o.up up_link NM);have WJ:=aa hu;clear bO hY4 dB NM iX hu hm qp;have tz:=ab (ap w5 (.cells (fM 1 (.slice aD m9 cD)) 58));have ta:=fun o=>ab (aq o Do.o)
 have tc:=fun o=>ab (aq o X0.o)
 go_wp2_with fail
 clear tz ta tc;refine aQ (fun W=>Below w5.heap.size w5 W/\W.heap[w5.heap.size]?=some (.cells (fM 1 (.slice aD m9 cD)) 58)) ⟨by go_grown,ap _ _⟩ (fun W6 uU=>?_);obtain⟨ip,hZ6⟩:=uU;refine(yT.o d _ W6 (ae kL.o ip) (WJ.o.up up_link ip)).mono ?_;rintro r w7 ⟨rfl,vE⟩;rw[eF.o.c0];have Ek:=ae ip vE;have XH:=aa (ae kL.o Ek);have De:=aa (af Ek Do.o);have HY7:=aa (af Ek X0.o);have HZ7:=aa (af vE hZ6);have HL7:=aa (HL5.o.up up_link Ek);have Ya:=aa (WJ.o.up up_link Ek);clear ip hZ6 vE Ek Do X0 HL5 WJ;have ta:=ab De.o;have tc:=ab HY7.o;have tz:=ab HZ7.o;have AN:decide ((n9:Int)<(m9:Int))=false:=decide_eq_false (by omega);have gm:((m9:Int) == 0)=false:=beq_eq_false_iff_ne.2 (by omega);have oI:decide (n9<m9)=false:=decide_eq_false (by omega);have hd4:(m9 == 0)=false:=beq_eq_false_iff_ne.2 (by omega)
 go_wp2_with fail
 clear ta tc tz AN gm oI hd4
 have hcap:m9<=cD:=by
  obtain⟨a9,c9,e9,h9,_⟩:=Ya.o.at;injection e9 with _ _ e9
  rw[HM.o]at h9;omega
 obtain⟨b2,o2,rfl,ju⟩:∃ b o,aD=some ⟨b,o,none⟩/\∀ i,i<m9->∀ W,Below w7.heap.size w7 W->W.cell? ⟨b,o+i * 2,none⟩=some (.int .i64 (d.getD i default).x)/\W.cell? ⟨b,o+i * 2+1,none⟩=some (.int .i64 (d.getD i default).p):=by
  obtain⟨a9,c9,e9,_,_,k9⟩:=Ya.o.at;obtain⟨b,o,e8,_⟩:=k9 0 (by rw[HM.o];omega);injection e9 with e91 _ _
  refine⟨b,o,e91.trans e8,fun i hi W hb=>?_⟩;obtain⟨b',o',e7,h1,h2⟩:=k9 i (by rw[HM.o];exact hi);rw[e8]at e7;injection e7 with e7
  injection e7 with e5 e6 _
  subst e5 e6;rw[az _ (show i<d.length by rw[HM.o];exact hi)];exact⟨ak hb h1.1,ak hb h2.1⟩
 have ju:=aa ju;have eg:=enters_of (P:=Tryz.prog) Tryz.func30 (by kernel_rfl) rfl;have EG:am (∀ args w,(callFunc 30 args).run Tryz.prog w=.ok (.enter 30 args) w):=aa eg;clear eg
 go_loopw [77] (fun i wr=>∃ k:Nat,k<=m9/\i=.int .i64 k/\Below w7.heap.size w7 wr) (fun i _=>m9 - (intOf i).toNat)
 ·exact⟨0,by omega,rfl,Below.refl _ _⟩
 ·
  obtain⟨k,hk,rfl,aA⟩:=hrel;have aY:=aa aA;have eN:=aa (ae XH.o aA);have HXR:=aa (af aA De.o);have HYR:=aa (af aA HY7.o);have Ty:=aa (af aA HZ7.o);have HLR:=aa (HL7.o.up up_link aA);have Lo:=aa (Ya.o.up up_link aA);clear aA;by_cases aB:k<m9
  ·obtain⟨c0,c1⟩:=ju.o k aB wr aY.o;have Ju:=aa (eF.o.vis k (by rw[HM.o];exact aB));have hg:=az (default:Lk) (show k<d.length by rw[HM.o];exact aB);rw[<-hg]at Ju;generalize (d.getD k default).x=xk at c0 Ju;generalize (d.getD k default).p=pk at c1
   have HCF:am (∀ W,Below wr.heap.size wr W->W.heap[wr.heap.size]?=some (.cells #[.int .i64 xk,.int .i64 pk] 75)->Calls Tryz.prog 29 #[.slice aL n9 cL,.func (.func 30) #[] #[.pointer (some ⟨wr.heap.size,0,none⟩)]] W fun e w'=>e=.returned (.bool true)/\Below W.heap.size W w'):=aa (fun W hb hX=>by
    have h:=yq 30 #[.pointer (some ⟨wr.heap.size,0,none⟩)] EG.o (.slice aL n9 cL) ls (fun k=>xk == (ls.getD k default).x) W (HLR.o.up up_link hb) (fun i hi W' gk=>by
     have h2:=Kt ls[i].x ls[i].p xk pk wr.heap.size W' (af gk hX);rw[az _ hi]
     exact h2)
    rw[Ju.o]at h
    exact h)
   have tc:=fun o=>ab (aq o HYR.o)
   clear hg
   go_wp2_with fail
   clear tc c0 c1;refine aQ (fun W=>Below wr.heap.size wr W/\W.heap[wr.heap.size]?=some (.cells #[.int .i64 xk,.int .i64 pk] 75)) ⟨by go_grown,ap _ _⟩ (fun W8 lz=>?_);refine(HCF.o W8 lz.1 lz.2).mono ?_;rintro r w9 ⟨rfl,fi⟩;have fG:=aa (ae aY.o (ae lz.1 fi));clear lz fi
   go_wp2_with fail
   go_roundw
   ·exact⟨k+1,by omega,by go_num,fG.o⟩
   ·simp[intOf];omega
  ·obtain rfl:k=m9:=by omega
   obtain⟨m1,hm1n⟩:∃ m1,k=m1+1:=⟨k - 1,by omega⟩;have jB:IntKind.i64.wrap ((k:Int) - 1)=(m1:Int):=by rw[IntWalk.i64_in _ (by omega)];omega
   have hlt1:m1<k:=by omega
   have iF:m1<=cD:=by omega
   have LP:=aa hm1n;obtain⟨cl,bU⟩:∃ cl,certE (aN p) ⟨1,d.take m1,0,0,0⟩=cl:=⟨_,rfl⟩
   have Nx:(cl == 0)=false:=beq_eq_false_iff_ne.2 (by
    rw[<-bU];have h:=eF.o.last;rw[HM.o,show k - 1=m1 by omega]at h
    exact h)
   have uS:=aa (fun W hb=>yT.o (d.take m1) (.slice (some ⟨b2,o2,none⟩) m1 cD) W hb);rw[bU]at uS;have jR:=aa (fun W (hb:Below wr.heap.size wr W)=>rl (Lo.o.up up_link hb) m1 (by rw[HM.o];omega));have tz:=ab Ty.o;clear bU hm1n aB
   go_wp2_with fail
   have hS:List.Nodup [90,91,92,93,94,95,96,97,98,99,100]:=by decide
   refine DB 11 [90,91,92,93,94,95,96,97,98,99,100] [MP.eq (.agg #[.int .i64 p.t.n,.int .i64 p.t.ins,.int .i64 p.t.outs,.slice pc nc cc,.int .i64 p.a.n,.slice ps ns cs,.int .i64 p.rounds,.int .i64 p.t.n,.slice qt nt kt,.slice qe ne ke]),MP.eq (.pointer (some ⟨w5.heap.size,0,none⟩)),MP.eq (.int .i64 1),MP.eq (.pointer (some ⟨w5.heap.size,1,none⟩)),MP.eq (.slice (some ⟨b2,o2,none⟩) k cD),MP.eq (.int .i64 (k:Nat)),MP.eq (.int .i64 (m1:Nat)),MP.eq (.slice (some ⟨b2,o2,none⟩) m1 cD),MP.eq (.agg #[.int .i64 1,.slice (some ⟨b2,o2,none⟩) m1 cD,.slice none 0 0,.slice none 0 0,.slice none 0 0]),MP.eq (.int .i64 cl),MP.eq (.bool false)] (by kernel_rfl) rfl hS rfl (by kernel_rfl) ?step ?tail
   case step=>
    intro xq Wq iq oq sq F hi ho hs hB ar hF;rcases (show iq=0\/iq=1\/iq=2\/iq=3\/iq=4\/iq=5\/iq=6\/iq=7\/iq=8\/iq=9\/iq=10 by omega) with rfl|rfl|rfl|rfl|rfl|rfl|rfl|rfl|rfl|rfl|rfl
    all_goals (obtain rfl:=dE ho.symm;obtain rfl:=dE hs.symm;clear hi ho hs)
    ·obtain⟨g3,h3⟩:=dr hF 3 (.pointer (some ⟨w1.heap.size,0,none⟩)) (by decide) rfl;have tb:=ab (af hB HXR.o);clear hF ar
     go_wp2_with fail
     exact bA.mk _ (Below.refl _ _) rfl rfl
    ·obtain⟨g8,h8⟩:=dr hF 8 (.pointer (some ⟨w5.heap.size,0,none⟩)) (by decide) rfl;clear hF ar
     go_wp2_with fail
     exact bA.mk _ (Below.refl _ _) rfl rfl
    ·obtain⟨e1,f1⟩:=aW hF 1 91 _ hS rfl (by kernel_rfl) (ar ⟨1,.data⟩ (by simp) rfl);have tb:=ab (af hB Ty.o) 0;simp at tb;clear hF ar
     go_wp2_with fail
     exact bA.mk _ (Below.refl _ _) rfl rfl
    ·obtain⟨g8,h8⟩:=dr hF 8 (.pointer (some ⟨w5.heap.size,0,none⟩)) (by decide) rfl;clear hF ar
     go_wp2_with fail
     exact bA.mk _ (Below.refl _ _) rfl rfl
    ·obtain⟨e3,f3⟩:=aW hF 3 93 _ hS rfl (by kernel_rfl) (ar ⟨3,.data⟩ (by simp) rfl);have tb:=ab (af hB Ty.o) 1;simp at tb;clear hF ar
     go_wp2_with fail
     exact bA.mk _ (Below.refl _ _) rfl rfl
    ·obtain⟨g11,PP⟩:=dr hF 11 (.int .i64 (k:Nat)) (by decide) rfl;clear hF ar
     go_wp2_with fail
     exact bA.mk _ (Below.refl _ _) rfl rfl
    ·obtain⟨e5,f5⟩:=aW hF 5 95 _ hS rfl (by kernel_rfl) (ar ⟨5,.data⟩ (by simp) rfl);clear hF ar
     go_wp2_with fail
     exact bA.mk _ (Below.refl _ _) rfl rfl
    ·obtain⟨e4,f4⟩:=aW hF 4 94 _ hS rfl (by kernel_rfl) (ar ⟨4,.data⟩ (by simp) rfl);obtain⟨e6,f6⟩:=aW hF 6 96 _ hS rfl (by kernel_rfl) (ar ⟨6,.data⟩ (by simp) rfl);clear hF ar
     go_wp2_with fail
     exact bA.mk _ (Below.refl _ _) rfl rfl
    ·obtain⟨e2,f2⟩:=aW hF 2 92 _ hS rfl (by kernel_rfl) (ar ⟨2,.data⟩ (by simp) rfl);obtain⟨e7,f7⟩:=aW hF 7 97 _ hS rfl (by kernel_rfl) (ar ⟨7,.data⟩ (by simp) rfl);clear hF ar
     go_wp2_with fail
     exact bA.mk _ (Below.refl _ _) rfl rfl
    ·obtain⟨e0,f0⟩:=aW hF 0 90 _ hS rfl (by kernel_rfl) (ar ⟨0,.data⟩ (by simp) rfl);obtain⟨e8,f8⟩:=aW hF 8 98 _ hS rfl (by kernel_rfl) (ar ⟨8,.data⟩ (by simp) rfl);clear hF ar
     go_wp2_with fail
     refine(uS.o Wq (ae eN.o hB) (jR.o Wq hB)).mono ?_;rintro r w' ⟨rfl,gk⟩
     go_wp2_with fail
     exact bA.mk _ gk rfl rfl
    ·obtain⟨e9,f9⟩:=aW hF 9 99 _ hS rfl (by kernel_rfl) (ar ⟨9,.data⟩ (by simp) rfl);clear hF ar
     go_wp2_with fail
     exact bA.mk _ (Below.refl _ _) rfl rfl
   case tail=>
    clear hS;intro xq W8 F hB aT hF;have e10:xq 10=.bool false:=aT 10 (by omega);clear aT;simp only[bC,da,List.setIfInBounds_toArray,List.set_cons_succ,List.set_cons_zero,Nat.reduceAdd]at hF;rw[e10]at hF;generalize xq 0=s0,xq 1=s1,xq 2=s2,xq 3=s3,xq 4=s4,xq 5=s5,xq 6=s6,xq 7=s7,xq 8=s8,xq 9=s9 at hF;subst hF;clear e10;have P5:=aa (ae eN.o hB);have Lc:=aa (af hB HXR.o);have Xl:=aa (af hB Ty.o);have Us:=aa (Lo.o.up up_link hB);clear hB
    have Tc:am (1<k->Calls Tryz.prog 27 #[.slice (some ⟨b2,o2+2,none⟩) (k - 1) (cD - 1)] W8 fun e w'=>∃ u,e=.returned u/\aJ w' W8.heap.size 75 2 u (k - 1) (cK (d.drop 1))/\Below W8.heap.size W8 w'):=aa (fun h1=>by
     have h:=Cp Us.o 1 (by rw[HM.o];omega);rw[if_neg (by omega)]at h;have h2:=pT _ (d.drop 1) W8 h (by rw[List.length_drop,HM.o];omega);rw[List.length_drop,HM.o]at h2
     exact h2)
    have HDS:am (1<d.length->cK (⟨(d.getD 1 default).x,-1⟩ :: d.drop 2)=(cK (d.drop 1)).set 1 (.int .i64 (-1))):=aa (fun h=>by
     rw[List.drop_eq_getElem_cons h,show d.getD 1 default=d[1] by simp[h]]
     rfl)
    have tz:=ab Xl.o;by_cases ka:1<k
    case' pos=>
     have QJ:decide ((1:Int)<(k:Int))=true:=decide_eq_true (by omega);have hcd1:¬ cD=1:=by omega
     have Le:=eF.o.first (by rw[HM.o];exact ka);obtain⟨cf,F8⟩:∃ cf,certE (aN p) ⟨1,⟨(d.getD 1 default).x,-1⟩ :: d.drop 2,0,0,0⟩=cf:=⟨_,rfl⟩;have HVL2:=aa (yT.o (⟨(d.getD 1 default).x,-1⟩ :: d.drop 2));rw[F8]at Le HVL2;have hcf0:(cf == 0)=false:=beq_eq_false_iff_ne.2 Le;clear Le F8
     go_wp2_with fail
     refine(Tc.o ka).mono ?_;rintro e w4 ⟨u,rfl,hu,bO⟩;obtain⟨g,cg,rfl,oJ,AX,qk,yW⟩:=hu.some (by omega);obtain⟨⟨uo,tu⟩,fu⟩:=yW 1 (by omega);have eX:0<k - 1:=by omega
     have vm:am (∀ y∈(⟨(d.getD 1 default).x,-1⟩ :: d.drop 2:List Lk),bS y.x/\bS y.p):=aa (fun y hy=>by
      have cY:=Bq Us.o;rcases List.mem_cons.1 hy with rfl|hy
      ·have h1:=cY (d.getD 1 default) (by rw[az _ (show 1<d.length by rw[HM.o];exact ka)];exact List.getElem_mem _);exact⟨h1.1,⟨by dsimp only;omega,by dsimp only;omega⟩⟩
      ·exact cY y (List.mem_of_mem_drop hy))
     have ii:am (bJ (w4.setCell ⟨g,1,none⟩ (.int .i64 (-1))) (.slice (some ⟨g,0,none⟩) (k - 1) cg) (⟨(d.getD 1 default).x,-1⟩ :: d.drop 2)/\Below W8.heap.size W8 (w4.setCell ⟨g,1,none⟩ (.int .i64 (-1)))):=aa (by
      have h1:=Ec hu 1 (.int .i64 (-1)) (by rw[kn,List.length_drop,HM.o];omega) (HDS.o (by rw[HM.o];exact ka));have e1:(⟨(d.getD 1 default).x,-1⟩ :: d.drop 2:List Lk).length=k - 1:=by rw[List.length_cons,List.length_drop,HM.o];omega
      have h2:=aJ.links (base:=W8.heap.size) (v:=.slice (some ⟨g,0,none⟩) (k - 1) cg) (w:=w4.setCell ⟨g,1,none⟩ (.int .i64 (-1))) (l:=⟨(d.getD 1 default).x,-1⟩ :: d.drop 2) (by rw[e1];exact h1) vm.o (by rw[e1];omega)
      exact⟨h2,bO.setCell (p:=⟨g,1,none⟩) oJ _⟩)
     have La:=af ii.o.2 Lc.o;have nV:=af ii.o.2 Xl.o;have HXS:=aa La;have HZS:=aa nV;have tzs:=ab nV;have txs:=ab La;clear hu bO yW La nV Tc tz oJ AX qk
     go_wp2_with fail
     refine(HVL2.o _ _ (ae P5.o ii.o.2) ii.o.1).mono ?_;rintro r w5' ⟨rfl,IK⟩;have Wh:=aa (ae (ae P5.o ii.o.2) IK);have Wl:=aa (af IK HXS.o);have TX:=aa (af IK HZS.o);have Wj:=aa ((Us.o.up up_link ii.o.2).up up_link IK);clear IK tzs txs ii HXS HZS;have txz:=ab Wl.o;have tzz:=ab TX.o
     go_wp2_with fail
     generalize w5'=wz at *
    case' neg=>
     have QJ:decide ((1:Int)<(k:Int))=false:=decide_eq_false (by omega);have Wh:=P5;have Wl:=Lc;have TX:=Xl;have Wj:=Us;have txz:=ab Wl.o;have tzz:=ab TX.o;clear Tc
     go_wp2_with fail
     generalize W8=wz at *
    all_goals
     have gV:=JF.o d;rw[eF.o.again]at gV;have oz:=aa gV;clear gV;refine(oz.o _ wz Wh.o Wj.o).mono ?_;rintro r wa ⟨⟨u,rfl,hu⟩,TR⟩;dsimp only at hu ⊢;rw[if_pos rfl];obtain⟨aE,cE,rfl,_⟩:=hu.at;rw[HM.o]at hu ⊢;have HUa:=aa hu;have HBa:=aa (ae Wh.o TR);have HDa:=aa (Wj.o.up up_link TR);have tq:=ab (ap wa (.cells (fM 1 (.slice aE k cE)) 58));have tzo:=fun o=>ab (aq o (af TR TX.o))
     clear hu TR txz tzz
     go_wp2_with fail
     clear tq tzo;refine aQ (fun W=>Below wa.heap.size wa W) (by go_grown) (fun Wb hb=>?_);refine(wA 1 d _ _ none none none none none none 0 0 0 0 0 0 Wb (HUa.o.up up_link hb) (HDa.o.up up_link hb)).mono ?_;rintro r wc ⟨rfl,hbc⟩;have HBc:=aa (ae (ae HBa.o hb) hbc);clear hb hbc
     go_wp2_with fail
     refine(UB.o wc (ae bL.o HBc.o)).mono ?_;rintro r wd ⟨rfl,Ls⟩;have HBd:=aa (ae (ae bL.o HBc.o) Ls);clear Ls
     go_wp2_with fail
     go_ret
     exact⟨rfl,HBd.o⟩
end Go.Proofs.YtmeaoneaephjeaaGreatDoor
