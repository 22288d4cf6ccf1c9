/-
  A part of the proof: lemmas and contracts that the parts behind it use. Each one's conditions are its own premises.
-/
import Derived.Test.YtmeaoneaephjeaaGreatDoorE12
import Derived.Test.YtmeaoneaephjeaaGreatDoorE13
set_option maxRecDepth 100000
set_option maxHeartbeats 8000000
set_option linter.unusedVariables false
set_option linter.unusedSimpArgs false
namespace Go.Proofs.YtmeaoneaephjeaaGreatDoor
open Go.RowKit Go Go.Shelf
attribute [local go_sem] Oper.semAt_some
theorem Lx(a:Adv):∀ k,eL a k=ez 4096 a k
 | 0=>rfl
 | k+1=>by
  show lO a (eL a k)=zX 4096 a (ez 4096 a k)
  rw[Lx a k];rfl
theorem xG{p:Pb} (h:probE p=0):numberP p=p.t.cases.length * min ((aN p).length:Int) 4097:=by
 obtain⟨ht,ha,_,sr,pg⟩:=gP h;have hn:=rq (L:=4096) (by omega) p.a (fun s hs m hm=>(vz ha s hs m hm).2) (by have:=(ip ha).1;omega) p.rounds.toNat;unfold numberP numberS;rw[Lx]
 show _ * numberL 4096 p.a p.rounds.toNat=_
 rw[hn];rfl
def rS(p:Pb):Prop:=probE p=0->p.t.cases.length * (aN p).length<=60\/4096<p.t.cases.length * (aN p).length
theorem C8{p:Pb} (h:probE p=0):(4096:Int)<numberP p↔4096<p.t.cases.length * (aN p).length:=by
 have hc:=(fy (gP h).1).2.2.2.1;rw[xG h];generalize p.t.cases.length=a at hc ⊢;generalize (aN p).length=b;by_cases hb:b<=4097
 ·rw[Int.min_eq_left (by omega),<-Int.natCast_mul];omega
 ·have h1:1 * b<=a * b:=Nat.mul_le_mul_right b hc.1;have h2:1 * 4097<=a * 4097:=Nat.mul_le_mul_right 4097 hc.1;rw[Int.min_eq_right (by omega)];have h3:((a * 4097:Nat):Int)=(a:Int) * 4097:=by rw[Int.natCast_mul];rfl
  omega
theorem vH{p:Pb} (h:fewPB p=true):rS p:=fun h0=>by
 unfold fewPB at h;split at h
 ·cases h
 split at h
 ·cases h
 split at h
 ·cases h
 rw[if_neg (by simpa using h0)]at h;simp only[Bool.or_eq_true,decide_eq_true_eq]at h;rcases h with h|h
 ·by_cases hb:4096<p.t.cases.length * (aN p).length
  ·exact .inr hb
  ·left;have hc:=(fy (gP h0).1).2.2.2.1;rw[xG h0]at h;generalize p.t.cases.length=a at hc h hb ⊢;generalize (aN p).length=b at h hb ⊢;have h1:1 * b<=a * b:=Nat.mul_le_mul_right b hc.1;rw[Int.min_eq_left (by omega),<-Int.natCast_mul]at h;omega
 ·exact .inr ((C8 h0).1 h)
theorem pY(tmps:Array Value) (B:Nat) (W:World) (c0 c1 c2 c3 c4 c5 c6 c7 c8 c9:Value) (e:Int) (h2:tmps[2]?.getD undef=.pointer (some ⟨B,0,none⟩)) (h3:tmps[3]?.getD undef=.int .i64 e)
  (hB:W.heap[B]?=some (.cells #[c0,c1,c2,c3,c4,c5,c6,c7,c8,c9] 35)) :
  (results Tryz.f73 tmps).run Tryz.prog W=.ok (.tuple #[.agg #[c0,c1,c2,c3,c4,c5,c6,c7,c8,c9],.int .i64 e]) W:=by
 have t2:=ab hB;simp[results,Tryz.results73,go_sem,h2,h3,t2]
def Ae(p:Pb) (vc vs vt ve:Value) (base:Nat) (w':World):Prop:=((∃ a c,vt=.slice a (aF p).tab.length c)/\∃ a c,ve=.slice a (aF p).ex.length c)/\∀ Wf:World,(∀ k,base<=k->k<w'.heap.size->Wf.heap[k]?=w'.heap[k]?)->bM Wf vc p.t.cases->bu Wf vs p.a.states->IsSys Wf (aF p) vc vs vt ve
def EP(p:Pb) (vc vs:Value) (base:Nat) (r:Ending) (w':World):Prop:=∃ c,r=.returned (.tuple #[.agg c,.int .i64 (buildE p)])/\(buildE p=0->∃ vt ve,c=bL p vc vs p.t.n vt ve/\Ae p vc vs vt ve base w')/\(buildE p≠0->c=zeroSys)
theorem Wk{p:Pb} {vc vs:Value} {base:Nat} {w':World} {e:Int} (h:buildE p=e) (h0:e≠0):EP p vc vs base (.returned (.tuple #[.agg zeroSys,.int .i64 e])) w':=⟨zeroSys,by rw[h],fun h1=>absurd (h.symm.trans h1) h0,fun _=>rfl⟩
theorem xb(p:Pb) (vc vs:Value) (w:World) (hc:bM w vc p.t.cases) (hs:bu w vs p.a.states) (hN:movesN p.a.states<2305843009213693952) (hf:rS p) :
  Calls Tryz.prog 73 #[nX p vc vs] w fun r w'=>EP p vc vs w.heap.size r w'/\Below w.heap.size w w':=by
 have GC:=aa hc;have GS:=aa hs;obtain⟨pc,cc,rfl,_⟩:=hc.at;obtain⟨ps,cs,rfl,_⟩:=hs.at;have iT:=aa (fun W (hb:Below w.heap.size w W)=>vB p _ _ W (GC.o.up up_case hb) (GS.o.up up_moves hb) hN);have Rf:=aa (fun (h:probE p=0) W (hb:Below w.heap.size w W)=>sZ p _ _ W (GC.o.up up_case hb) (GS.o.up up_moves hb) h);have wo:=aa (fun (h:probE p=0) (h2:¬ 4096<p.t.cases.length * (aN p).length) W (hb:Below w.heap.size w W)=>Ns p _ _ W (GC.o.up up_case hb) (GS.o.up up_moves hb) h (by rcases hf h with h|h<;>omega));have rk:am (probE p≠0->buildE p=probE p):=aa fun h=>by unfold buildE;rw[if_pos h]
 have nu:am (probE p=0->4096<p.t.cases.length * (aN p).length->buildE p=17):=aa fun h h2=>by unfold buildE;rw[if_neg (by omega),if_pos h2]
 have Di:am (probE p=0->¬ 4096<p.t.cases.length * (aN p).length->buildE p=0/\(aF p).tab.length<=8192):=aa fun h h2=>by
  have h3:=tD h (p.t.cases.length * (aN p).length) (Nat.le_refl _);have e:stP p (p.t.cases.length * (aN p).length)=((aF p).tab,(aF p).ex):=by unfold stP;rw[List.take_of_length_le (by rw[iI];exact Nat.le_refl _)];rfl
  rw[e]at h3;dsimp only at h3;have h4:(aF p).tab.length<=8192:=by rcases hf h with h|h<;>omega
  exact⟨by unfold buildE;rw[if_neg (by omega),if_neg h2,if_neg (by omega)],h4⟩
 have GF:=aa (fun h=>@C8 p h);have E5:=aa (fun e (W:World) h h0=>@Wk p (.slice pc p.t.cases.length cc) (.slice ps p.a.states.length cs) w.heap.size W e h h0);have JT:am (∀ vt ve W,buildE p=0->Ae p (.slice pc p.t.cases.length cc) (.slice ps p.a.states.length cs) vt ve w.heap.size W->EP p (.slice pc p.t.cases.length cc) (.slice ps p.a.states.length cs) w.heap.size (.returned (.tuple #[.agg (bL p (.slice pc p.t.cases.length cc) (.slice ps p.a.states.length cs) p.t.n vt ve),.int .i64 0])) W):=aa fun vt ve W h0 h=>⟨_,by rw[h0],fun _=>⟨vt,ve,rfl,h⟩,fun h1=>absurd h0 h1⟩
 clear hc hs hf;have LE:=aa hN;clear hN;obtain⟨pe,hpe⟩:∃ pe,probE p=pe:=⟨_,rfl⟩;rw[hpe]at iT Rf wo rk nu Di GF;obtain⟨nx,mu⟩:∃ nx,p.t.cases.length * (aN p).length=nx:=⟨_,rfl⟩;rw[mu]at wo nu Di GF;clear hpe mu;have wn:am ((∀ W,Below w.heap.size w W->bM W (.slice pc p.t.cases.length cc) p.t.cases)/\∀ W,Below w.heap.size w W->bu W (.slice ps p.a.states.length cs) p.a.states):=aa ⟨fun W hb=>GC.o.up up_case hb,fun W hb=>GS.o.up up_moves hb⟩;clear GC GS;generalize p.t.cases.length=nc,p.a.states.length=ns at iT Rf wo E5 JT wn ⊢
 go_enter Tryz.func73,Tryz.ntmps73
 go_wp2_with fail
 refine aO (fun W=>Below w.heap.size w W/\W.heap[w.heap.size]?=some (.cells #[.int .i64 p.t.n,.int .i64 p.t.ins,.int .i64 p.t.outs,.slice pc nc cc,.int .i64 p.a.n,.slice ps ns cs,.int .i64 p.rounds] 29)/\W.heap[w.heap.size+1]?=some (.cells zeroSys 35)) ⟨by go_grown,ar _ (ap _ _),aZ _ _ _⟩ (fun W0 aX=>?_);obtain⟨aG,bB,eB⟩:=aX;refine(iT.o W0 aG).mono ?_;rintro r w1 ⟨rfl,aK⟩;have bI:=aa (ae aG aK);have du:=aa (af aK bB);have cO:=aa (af aK eB);have fZ:=aD cO.o;have tA:=ab du.o;clear aG bB eB aK iT;by_cases hz:pe=0
 case neg=>
  have HV:=aa (E5.o pe (w1.setRow (w.heap.size+1) zeroSys) (rk.o hz) hz);have LH:(pe != 0)=true:=by simpa using hz
  clear hz rk nu Di Rf wo GF JT E5
  go_wp2_with (refine wpList_store_row rfl 35 (.tmp 2) (.tmp 10) rfl (w.heap.size+1) zeroSys rfl rfl 35 _ cO.o (by kernel_rfl) rfl (by simp[Value.oneCell']) ?_)
  exact bodyPost_ret (pY _ (w.heap.size+1) _ _ _ _ _ _ _ _ _ _ _ pe rfl rfl (setRow_heap _ _ _ _ _ _ cO.o)) rfl ⟨HV.o,below_setRow bI.o (by omega) _⟩
 have lH:=aa (Rf.o hz);have Re:=aa (GF.o hz);generalize numberP p=nn at lH Re;clear Rf GF rk
 go_wp2_with fail
 refine(lH.o w1 bI.o).mono ?_;rintro r w2 ⟨rfl,aT⟩;have cf:=aa (ae bI.o aT);have oT:=aa (af aT du.o);have eh:=aa (af aT cO.o);have je:=aD eh.o;clear aT tA du cO;by_cases xm:4096<nx
 ·have hd:decide ((4096:Int)<nn)=true:=decide_eq_true (Re.o.2 xm);have HV:=aa (E5.o 17 (w2.setRow (w.heap.size+1) zeroSys) (nu.o hz xm) (by omega));clear hz xm nu Di wo JT E5 Re
  go_wp2_with (refine wpList_store_row rfl 35 (.tmp 2) (.tmp 15) rfl (w.heap.size+1) zeroSys rfl rfl 35 _ eh.o (by kernel_rfl) rfl (by simp[Value.oneCell']) ?_)
  exact bodyPost_ret (pY _ (w.heap.size+1) _ _ _ _ _ _ _ _ _ _ _ 17 rfl rfl (setRow_heap _ _ _ _ _ _ eh.o)) rfl ⟨HV.o,below_setRow cf.o (by omega) _⟩
 have hd:decide ((4096:Int)<nn)=false:=decide_eq_false (fun h=>xm (Re.o.1 h));have kP:=aa (wo.o hz xm);obtain⟨h0,L'⟩:=Di.o hz xm;have HZ:=aa h0;have tA:=ab oT.o;clear hz xm nu Di wo E5 Re h0
 go_wp2_with fail
 refine(kP.o w2 cf.o).mono ?_;rintro r w3 ⟨vt,ve,rfl,⟨⟨at3,ct3,rfl⟩,ave,cve,rfl⟩,cA,bG⟩;have zJ:=aa cA;have dE:=aa (ae cf.o bG);have HB23:=aa bG;have fT:=aa (af bG eh.o);have JL:=aa (fun W=>JT.o (.slice at3 (aF p).tab.length ct3) (.slice ave (aF p).ex.length cve) W HZ.o);have QK:am (∀ Wf:World,_):=zJ;obtain⟨nt,AS⟩:∃ nt,(aF p).tab.length=nt:=⟨_,rfl⟩;obtain⟨ne,bK⟩:∃ ne,(aF p).ex.length=ne:=⟨_,rfl⟩;have Jy:=aa AS;have iO:=aa bK;rw[AS]at L' zJ JL QK ⊢;rw[bK]at zJ JL QK ⊢;have hd8:decide ((8192:Int)<(nt:Int))=false:=decide_eq_false (by omega);have nK:=aD fT.o;have J6:=bG.size;clear cA bG tA AS bK JT hd QK;have te:=ab (ap w3 (.cells #[.int .i64 p.t.n,.int .i64 p.t.ins,.int .i64 p.t.outs,.slice pc nc cc,.int .i64 p.a.n,.slice ps ns cs,.int .i64 p.rounds,.int .i64 p.t.n,.slice at3 nt ct3,.slice ave ne cve] 35));have sp:Below w3.heap.size w3 (w3.alloc (.cells #[.int .i64 p.t.n,.int .i64 p.t.ins,.int .i64 p.t.outs,.slice pc nc cc,.int .i64 p.a.n,.slice ps ns cs,.int .i64 p.rounds,.int .i64 p.t.n,.slice at3 nt ct3,.slice ave ne cve] 35)):=by go_grown
 have Dz:=aa sp;have pn:=aa (af sp fT.o);clear sp
 go_wp2_with (refine wpList_store_row rfl 35 (.tmp 2) (.tmp 24) rfl (w.heap.size+1) #[.int .i64 p.t.n,.int .i64 p.t.ins,.int .i64 p.t.outs,.slice pc nc cc,.int .i64 p.a.n,.slice ps ns cs,.int .i64 p.rounds,.int .i64 p.t.n,.slice at3 nt ct3,.slice ave ne cve] rfl rfl 35 _ pn.o (by kernel_rfl) rfl (by simp[Value.oneCell']) ?_)
 refine bodyPost_ret (pY _ (w.heap.size+1) _ _ _ _ _ _ _ _ _ _ _ 0 rfl rfl (setRow_heap _ _ _ _ _ _ pn.o)) rfl ⟨JL.o _ ⟨⟨⟨at3,ct3,by rw[Jy.o]⟩,ave,cve,by rw[iO.o]⟩,fun Wf JM h1 h2=>zJ.o Wf (fun k hk mA=>?_) h1 h2⟩,below_setRow (ae dE.o Dz.o) (by omega) _⟩;refine(JM k (by omega) ?_).trans ?_
 ·exact Nat.lt_of_lt_of_le mA (Nat.le_trans Dz.o.size (below_setRow (Below.refl (w.heap.size+1) _) (Nat.le_refl _) _).size)
 ·rw[setRow_other _ _ _ _ (by omega)];exact Dz.o.block k mA
theorem I'(s:Sys) (h:buildE s.prob=0):verifyE s=if decide ((s.n=(aF s.prob).n/\s.tab=(aF s.prob).tab)/\s.ex=(aF s.prob).ex) then 0 else 3:=by
 unfold verifyE;rw[if_neg (by omega)];simp only[and_assoc,decide_eq_true_eq]
theorem vI(s:Sys) (vc vs vt ve:Value) (w:World) (cA:IsSys w s vc vs vt ve) (hN:movesN s.prob.a.states<2305843009213693952) (hf:rS s.prob) :
  Calls Tryz.prog 63 #[.agg (bL s.prob vc vs s.n vt ve)] w fun r w'=>r=.returned (.int .i64 (verifyE s))/\Below w.heap.size w w':=by
 have HS:=aa cA;obtain⟨⟨qc,kc,rfl⟩,⟨qs,ks,rfl⟩,⟨qt,kt,rfl⟩,⟨qe,ke,rfl⟩⟩:=bD cA;have kb:=aa (fun W (hb:Below w.heap.size w W)=>xb s.prob _ _ W (HS.o.cases.up up_case hb) (HS.o.states.up up_moves hb) hN hf);have mm:=aa (fun W (hb:Below w.heap.size w W) uc us ut ue (hz:IsSys W (aF s.prob) uc us ut ue)=>Nc s (aF s.prob) rfl _ _ _ _ uc us ut ue W (HS.o.up hb) hz);have oy:am (buildE s.prob≠0->verifyE s=buildE s.prob):=aa fun h=>by unfold verifyE;rw[if_pos h]
 have dd:=aa (I' s);generalize verifyE s=vr at oy dd ⊢;generalize decide ((s.n=(aF s.prob).n/\s.tab=(aF s.prob).tab)/\s.ex=(aF s.prob).ex)=sb at mm dd;have Gm:(aF s.prob).n=s.prob.t.n:=rfl;unfold EP at kb;rw[Gm]at mm;have qG:am (∀ W uc us ut ue,IsSys W (aF s.prob) uc us ut ue->(∃ a c,uc=.slice a s.prob.t.cases.length c)/\(∃ a c,us=.slice a s.prob.a.states.length c)/\(∃ a c,ut=.slice a (aF s.prob).tab.length c)/\∃ a c,ue=.slice a (aF s.prob).ex.length c):=aa fun W uc us ut ue h=>bD h
 clear cA hN hf Gm;obtain⟨be,jm⟩:∃ be,buildE s.prob=be:=⟨_,rfl⟩;rw[jm]at kb oy dd;clear jm;obtain⟨nc,ig⟩:∃ nc,s.prob.t.cases.length=nc:=⟨_,rfl⟩;obtain⟨ns,oK⟩:∃ ns,s.prob.a.states.length=ns:=⟨_,rfl⟩;have wn:am ((∀ W,Below w.heap.size w W->bM W (.slice qc s.prob.t.cases.length kc) s.prob.t.cases)/\∀ W,Below w.heap.size w W->bu W (.slice qs s.prob.a.states.length ks) s.prob.a.states):=aa ⟨fun W hb=>HS.o.cases.up up_case hb,fun W hb=>HS.o.states.up up_moves hb⟩;rw[ig,oK]at kb mm qG wn ⊢;clear ig oK;generalize s.tab.length=nt,s.ex.length=ne at mm ⊢
 go_enter Tryz.func63,Tryz.ntmps63
 go_wp2_with fail
 refine aO (fun W=>Below w.heap.size w W/\∃ c,W.heap[w.heap.size]?=some (.cells c 35)/\c=bL s.prob (.slice qc nc kc) (.slice qs ns ks) s.n (.slice qt nt kt) (.slice qe ne ke)) ⟨by go_grown,_,ap _ _,rfl⟩ (fun W0 aX=>?_);obtain⟨aG,_,bB,rfl⟩:=aX;refine(kb.o W0 aG).mono ?_;rintro r w1 ⟨⟨c,rfl,h1,h2⟩,aK⟩;have bI:=aa (ae aG aK);have du:=aa (af aK bB);clear aG bB aK kb;by_cases hz:be=0
 case neg=>
  have HV:=aa (oy.o hz);obtain rfl:=h2 hz;have LH:(be != 0)=true:=by simpa using hz
  have hg:Below w.heap.size w (w1.alloc (.cells zeroSys 35)):=bI.o.alloc bI.o.size _;have HG:=aa hg;clear hz h1 h2 dd mm hg
  go_wp2_with fail
  go_ret
  exact⟨aE HV.o.symm,HG.o⟩
 obtain⟨ut,ue,rfl,⟨⟨a3,c3,rfl⟩,a4,c4,rfl⟩,mY⟩:=h1 hz;have eT:=mY w1 (fun _ _ _=>rfl) (wn.o.1 w1 bI.o) (wn.o.2 w1 bI.o);have HZ:=aa eT;have A8:=aa (dd.o hz);subst hz;obtain⟨mt,F6⟩:∃ mt,(aF s.prob).tab.length=mt:=⟨_,rfl⟩;obtain⟨me,Rb⟩:∃ me,(aF s.prob).ex.length=me:=⟨_,rfl⟩;rw[F6,Rb]at HZ ⊢;clear h1 h2 eT mY oy dd qG F6 Rb;have hg:Below w1.heap.size w1 (w1.alloc (.cells #[.int .i64 s.prob.t.n,.int .i64 s.prob.t.ins,.int .i64 s.prob.t.outs,.slice qc nc kc,.int .i64 s.prob.a.n,.slice qs ns ks,.int .i64 s.prob.rounds,.int .i64 s.prob.t.n,.slice a3 mt c3,.slice a4 me c4] 35)):=by go_grown
 have HG:=aa hg;have tA:=ab (af hg du.o);have tB:=ab (ap w1 (.cells #[.int .i64 s.prob.t.n,.int .i64 s.prob.t.ins,.int .i64 s.prob.t.outs,.slice qc nc kc,.int .i64 s.prob.a.n,.slice qs ns ks,.int .i64 s.prob.rounds,.int .i64 s.prob.t.n,.slice a3 mt c3,.slice a4 me c4] 35));clear hg
 go_wp2_with fail
 refine(mm.o _ (ae bI.o HG.o) _ _ _ _ (HZ.o.up HG.o)).mono ?_;rintro r w2 ⟨rfl,aT⟩;have cf:=aa (ae (ae bI.o HG.o) aT);clear aT tA tB mm;cases sb with
 | true=>
  go_wp2_with fail
  go_ret
  exact⟨aE (by rw[A8.o];rfl),cf.o⟩
 | false=>
  go_wp2_with fail
  go_ret
  exact⟨aE (by rw[A8.o];rfl),cf.o⟩
theorem EQ(tmps:Array Value) (B:Nat) (W:World) (c0 c1 c2 c3 c4 c5 c6 c7 c8 c9:Value) (h2:tmps[2]?.getD undef=.pointer (some ⟨B,0,none⟩))
  (hB:W.heap[B]?=some (.cells #[c0,c1,c2,c3,c4,c5,c6,c7,c8,c9] 35)) :
  (results Tryz.f35 tmps).run Tryz.prog W=.ok (.agg #[c0,c1,c2,c3,c4,c5,c6,c7,c8,c9]) W:=by
 have t2:=ab hB;simp[results,Tryz.results35,go_sem,h2,t2]
theorem C9(p:Pb) (vc vs:Value) (w:World) (hc:bM w vc p.t.cases) (hs:bu w vs p.a.states) (hN:movesN p.a.states<2305843009213693952) (hf:rS p) (h0:buildE p=0) :
  Calls Tryz.prog 35 #[nX p vc vs] w fun r w'=>∃ vt ve,r=.returned (.agg (bL p vc vs p.t.n vt ve))/\Ae p vc vs vt ve w.heap.size w'/\Below w.heap.size w w':=by
 have GC:=aa hc;have GS:=aa hs;obtain⟨pc,cc,rfl,_⟩:=hc.at;obtain⟨ps,cs,rfl,_⟩:=hs.at;have kb:=aa (fun W (hb:Below w.heap.size w W)=>xb p _ _ W (GC.o.up up_case hb) (GS.o.up up_moves hb) hN hf);have wn:am ((∀ W,Below w.heap.size w W->bM W (.slice pc p.t.cases.length cc) p.t.cases)/\∀ W,Below w.heap.size w W->bu W (.slice ps p.a.states.length cs) p.a.states):=aa ⟨fun W hb=>GC.o.up up_case hb,fun W hb=>GS.o.up up_moves hb⟩;unfold EP at kb;rw[h0]at kb;clear hc hs hN hf h0 GC GS;unfold Ae at kb ⊢;obtain⟨nc,ig⟩:∃ nc,p.t.cases.length=nc:=⟨_,rfl⟩;obtain⟨ns,oK⟩:∃ ns,p.a.states.length=ns:=⟨_,rfl⟩;rw[ig,oK]at kb wn ⊢;clear ig oK
 go_enter Tryz.func35,Tryz.ntmps35
 go_wp2_with fail
 refine aO (fun W=>Below w.heap.size w W/\W.heap[w.heap.size+1]?=some (.cells zeroSys 35)) ⟨by go_grown,aZ _ _ _⟩ (fun W0 aX=>?_);obtain⟨aG,eB⟩:=aX;refine(kb.o W0 aG).mono ?_;rintro r w1 ⟨⟨c,rfl,h1,_⟩,aK⟩;obtain⟨vt,ve,rfl,⟨⟨at3,ct3,rfl⟩,ave,cve,rfl⟩,cA⟩:=h1 (by first|rfl|trivial);have zJ:=aa cA;have bI:=aa (ae aG aK);have cO:=aa (af aK eB);have eT:=aD eB;obtain⟨nt,AS⟩:∃ nt,(aF p).tab.length=nt:=⟨_,rfl⟩;obtain⟨ne,bK⟩:∃ ne,(aF p).ex.length=ne:=⟨_,rfl⟩;have Jy:=aa AS;have iO:=aa bK;rw[AS,bK]at zJ ⊢;have fZ:=aD cO.o;clear cA h1 aG aK eB AS bK kb;have te:=ab (ap w1 (.cells #[.int .i64 p.t.n,.int .i64 p.t.ins,.int .i64 p.t.outs,.slice pc nc cc,.int .i64 p.a.n,.slice ps ns cs,.int .i64 p.rounds,.int .i64 p.t.n,.slice at3 nt ct3,.slice ave ne cve] 35));have sp:Below w1.heap.size w1 (w1.alloc (.cells #[.int .i64 p.t.n,.int .i64 p.t.ins,.int .i64 p.t.outs,.slice pc nc cc,.int .i64 p.a.n,.slice ps ns cs,.int .i64 p.rounds,.int .i64 p.t.n,.slice at3 nt ct3,.slice ave ne cve] 35)):=by go_grown
 have Dz:=aa sp;have pn:=aa (af sp cO.o);clear sp
 go_wp2_with (refine wpList_store_row rfl 35 (.tmp 2) (.tmp 10) rfl (w.heap.size+1) #[.int .i64 p.t.n,.int .i64 p.t.ins,.int .i64 p.t.outs,.slice pc nc cc,.int .i64 p.a.n,.slice ps ns cs,.int .i64 p.rounds,.int .i64 p.t.n,.slice at3 nt ct3,.slice ave ne cve] rfl rfl 35 _ pn.o (by kernel_rfl) rfl (by simp[Value.oneCell']) ?_)
 refine bodyPost_ret (EQ _ (w.heap.size+1) _ _ _ _ _ _ _ _ _ _ _ rfl (setRow_heap _ _ _ _ _ _ pn.o)) rfl ⟨.slice at3 nt ct3,.slice ave ne cve,rfl,⟨⟨⟨at3,ct3,by rw[Jy.o]⟩,ave,cve,by rw[iO.o]⟩,fun Wf JM h1 h2=>zJ.o Wf (fun k hk mA=>?_) h1 h2⟩,below_setRow (ae bI.o Dz.o) (by omega) _⟩;refine(JM k (by omega) (Nat.lt_of_lt_of_le mA (Nat.le_trans Dz.o.size (below_setRow (Below.refl (w.heap.size+1) _) (Nat.le_refl _) _).size))).trans ?_;rw[setRow_other _ _ _ _ (by omega)];exact Dz.o.block k mA
abbrev Ja(p:Pb) (vc vs vt ve:Value):Value:=.agg #[.int .i64 p.t.n,.int .i64 p.t.ins,.int .i64 p.t.outs,vc,.int .i64 p.a.n,vs,.int .i64 p.rounds,.int .i64 p.t.n,vt,ve]
section
variable {p : Pb} {vc vs vt ve : Value} {w : World}
theorem Qd(b:CkB p) (hs:IsSys w (aF p) vc vs vt ve) {x:Int} {l:List Int} (h:valuesR (aF p) x=(l,0)) :
  Calls Tryz.prog 11 #[Ja p vc vs vt ve,.int .i64 x] w fun r w'=>∃ u,r=.returned (.tuple #[u,.int .i64 0])/\aQ w' u l/\Below w.heap.size w w':=by
 have h1:=CV (aF p) x b.size vc vs vt ve w hs b.moves;rw[h]at h1;exact h1
theorem FW(b:CkB p) (hT:iF w) (hs:IsSys w (aF p) vc vs vt ve) {l:List Int} (h:choiceR (aF p)=(l,0)) :
  Calls Tryz.prog 13 #[Ja p vc vs vt ve] w fun r w'=>∃ u,r=.returned (.tuple #[u,.int .i64 0])/\aQ w' u l/\Below w.heap.size w w':=by
 have h1:=CW (aF p) b.size vc vs vt ve w hT hs b.moves;rw[h]at h1;exact h1
theorem Wl(b:CkB p) (hT:iF w) (hs:IsSys w (aF p) vc vs vt ve) (h:(ruleR (aF p)).2=(true,0)) :
  Calls Tryz.prog 16 #[Ja p vc vs vt ve] w fun r w'=>∃ a n c,r=.returned (.tuple #[.agg #[.slice a n c],.bool true,.int .i64 0])/\Below w.heap.size w w':=by
 have h1:=P2 (aF p) b.size vc vs vt ve w hT hs b.moves;rw[h]at h1;refine h1.mono ?_;rintro r w' ⟨u,rfl,hu,hb⟩;obtain⟨a,c,rfl,_⟩:=hu.at;exact⟨_,_,_,rfl,hb⟩
theorem Wm(b:CkB p) (hT:iF w) (hs:IsSys w (aF p) vc vs vt ve) {l:List Lk} (h:findW (aF p)=(l,true,0)) :
  Calls Tryz.prog 18 #[Ja p vc vs vt ve] w fun r w'=>∃ u,r=.returned (.tuple #[.agg (gJ 1 u),.bool true,.int .i64 0])/\bN w' u l/\Below w.heap.size w w':=by
 have h1:=FU (aF p) b.size vc vs vt ve w hT hs b.moves;rw[h]at h1;refine h1.mono ?_;rintro r w' ⟨⟨u,rfl,hu⟩,hb⟩;exact⟨u,rfl,hu,hb⟩
theorem FX(b:CkB p) (hs:IsSys w (aF p) vc vs vt ve) {l:List Lk} {vw:Value} {e:Int} (hw:bN w vw l) (h:certE (aF p) ⟨1,l,0,0,0⟩=e) :
  Calls Tryz.prog 24 #[Ja p vc vs vt ve,.agg (gJ 1 vw)] w fun r w'=>r=.returned (.int .i64 e)/\Below w.heap.size w w':=by
 have h1:=KV (aF p) b.size vc vs vt ve vw ⟨1,l,0,0,0⟩ none 0 none 0 none 0 w hs b.moves hw;rw[h]at h1;exact h1
theorem Nt(b:CkB p) (hT:iF w) (hs:IsSys w (aF p) vc vs vt ve) {l m:List Lk} {vw:Value} (hw:bN w vw l) (h:shortR (aF p) ⟨1,l,0,0,0⟩=(m,0)) :
  Calls Tryz.prog 22 #[Ja p vc vs vt ve,.agg (gJ 1 vw)] w fun r w'=>∃ u,r=.returned (.tuple #[.agg (gJ 1 u),.int .i64 0])/\bN w' u m/\Below w.heap.size w w':=by
 have h1:=IY (aF p) b.size vc vs vt ve vw ⟨1,l,0,0,0⟩ none 0 none 0 none 0 w hT hs b.moves hw;rw[h]at h1;refine h1.mono ?_;rintro r w' ⟨⟨u,rfl,hu⟩,hb⟩;exact⟨u,rfl,hu,hb⟩
end
theorem Qe{w:World} {b:Nat} {gs:List (Int × Int)} {l:List Value} (h:w.heap[b]?=some (.cells l.toArray 92)) (hl:l=gs.flatMap fun h=>[.int .i64 h.1,.int .i64 h.2]):∀ i (hi:i<gs.length),w.cell? ⟨b,i * 2,none⟩=some (.int .i64 gs[i].1)/\w.cell? ⟨b,i * 2+1,none⟩=some (.int .i64 gs[i].2):=by
 intro i hi;rw[ab h,ab h,hl]
 have key:∀ (gs:List (Int × Int)) (i:Nat) (hi:i<gs.length),(gs.flatMap fun h=>[Value.int .i64 h.1,.int .i64 h.2])[i * 2]?=some (.int .i64 gs[i].1)/\(gs.flatMap fun h=>[Value.int .i64 h.1,.int .i64 h.2])[i * 2+1]?=some (.int .i64 gs[i].2):=by
  intro gs;induction gs with
  | nil=>intro i hi;simp at hi
  | cons a r ih=>
   intro i hi;cases i with
   | zero=>simp
   | succ i=>
    have h2:=ih i (by simpa using hi);simp only[List.flatMap_cons,List.getElem_cons_succ];rw[show (i+1) * 2=i * 2+1+1 by omega];simpa using h2
 have:=key gs i hi;simpa using this
theorem ck_few1:rS (qX 1 [(1,3),(3,3)]):=fun _=>.inl (by decide +kernel)
theorem ck_few2:rS (qX 0 [(3,3)]):=fun _=>.inl (by decide +kernel)
theorem ck_few3:rS (qX 1 [(1,3),(3,2),(3,3)]):=fun _=>.inl (by decide +kernel)
def Qf(p:Pb) (pc ps:Option Addr) (nc cc ns cs:Nat) (w:World):Prop:=Calls Tryz.prog 35 #[nX p (.slice pc nc cc) (.slice ps ns cs)] w fun r w'=>∃ pt pe:Option Addr,∃ ct ce nt ne:Nat,r=.returned (Ja p (.slice pc nc cc) (.slice ps ns cs) (.slice pt nt ct) (.slice pe ne ce))/\(∀ Wf:World,(∀ k,w.heap.size<=k->k<w'.heap.size->Wf.heap[k]?=w'.heap[k]?)->bM Wf (.slice pc nc cc) p.t.cases->bu Wf (.slice ps ns cs) p.a.states->IsSys Wf (aF p) (.slice pc nc cc) (.slice ps ns cs) (.slice pt nt ct) (.slice pe ne ce))/\Below w.heap.size w w'
theorem BX{p:Pb} (b:CkB p) (hf:rS p) (pc ps:Option Addr) (nc cc ns cs:Nat) (w:World) (hc:bM w (.slice pc nc cc) p.t.cases) (hs:bu w (.slice ps ns cs) p.a.states):Qf p pc ps nc cc ns cs w:=by
 have hm:=b.moves;refine(C9 p _ _ w hc hs (by omega) hf b.few).mono ?_;rintro r w' ⟨vt,ve,rfl,⟨⟨⟨pt,ct,rfl⟩,pe,ce,rfl⟩,cA⟩,hb⟩;exact⟨_,_,_,_,_,_,rfl,cA,hb⟩
def Qg(p:Pb) (rounds:Int) (n b:Nat) (w:World):Prop:=Calls Tryz.prog 36 #[.int .i64 rounds,.slice (some ⟨b,0,none⟩) n n] w fun r w'=>∃ pc ps:Option Addr,∃ cc cs nc ns:Nat,r=.returned (nX p (.slice pc nc cc) (.slice ps ns cs))/\(∀ Wf:World,(∀ k,w.heap.size<=k->k<w'.heap.size->Wf.heap[k]?=w'.heap[k]?)->bM Wf (.slice pc nc cc) p.t.cases/\bu Wf (.slice ps ns cs) p.a.states)/\Below w.heap.size w w'
theorem ER(rounds:Int) (gs:List (Int × Int)) (n:Nat) (hl:gs.length=n) (hn:n<=100) (cZ:∀ h∈gs,bR h.1/\bR h.2) (b:Nat) (w:World) (l:List Value) (h:w.heap[b]?=some (.cells l.toArray 92)) (he:l=gs.flatMap fun h=>[.int .i64 h.1,.int .i64 h.2]):Qg (qX rounds gs) rounds n b w:=by
 refine(Px rounds gs n hl hn cZ b w (Qe h he)).mono ?_;rintro r w' ⟨vc,vs,rfl,jQ,hb⟩;obtain⟨hc,hs⟩:=jQ w' (fun _ _ _=>rfl);obtain⟨pc,cc,rfl,_⟩:=hc.at;obtain⟨ps,cs,rfl,_⟩:=hs.at;exact⟨_,_,_,_,_,_,rfl,jQ,hb⟩
theorem Nu(gs:List (Int × Int)) (h:gs.all (fun x=>decide (0<=x.1/\x.1<100/\0<=x.2/\x.2<100))=true):∀ h∈gs,bR h.1/\bR h.2:=fun x hx=>by
 have:=of_decide_eq_true (List.all_eq_true.1 h x hx);exact⟨⟨by omega,by omega⟩,by omega,by omega⟩
def YT(n:Nat) (l:List Int):MP:=⟨fun x W=>∃ i,x=.slice (some ⟨i,0,none⟩) n n/\W.heap[i]?=some (.cells (bH l) 3),fun _ _ _ h hb=>by obtain⟨i,e,h⟩:=h;exact⟨i,e,af hb h⟩⟩
theorem xC_nine:xC 9 (-1) 9=bH (List.replicate 9 (-1)):=by unfold xC;rw[qz];simp[List.map_const']
theorem Jb{W:World} {b:Nat} (h:W.heap[b]?=some (.cells #[.int .i64 0,.int .i64 (-1),.int .i64 1,.int .i64 0,.int .i64 2,.int .i64 1] 75)):bN W (.slice (some ⟨b,0,none⟩) 3 3) ckW:=by
 have t:=ab h;refine⟨some ⟨b,0,none⟩,3,rfl,⟨by simp[ckW],by omega,fun e=>by cases e⟩,by simp[ckW],fun i x hx=>⟨b,0,rfl,?_⟩⟩;obtain⟨hi,rfl⟩:=List.getElem?_eq_some_iff.1 hx;have z:∀ x:Int,-2<x->x<100->bR x:=fun x h1 h2=>⟨by omega,by omega⟩
 rcases (show i=0\/i=1\/i=2 by simp[ckW]at hi;omega) with rfl|rfl|rfl
 ·exact⟨⟨t 0,z _ (by simp[ckW]) (by simp[ckW])⟩,t 1,z _ (by simp[ckW]) (by simp[ckW])⟩
 ·exact⟨⟨t 2,z _ (by simp[ckW]) (by simp[ckW])⟩,t 3,z _ (by simp[ckW]) (by simp[ckW])⟩
 ·exact⟨⟨t 4,z _ (by simp[ckW]) (by simp[ckW])⟩,t 5,z _ (by simp[ckW]) (by simp[ckW])⟩
theorem Jc(w:World) (hT:iF w):Calls Tryz.prog 10 #[] w fun r w'=>r=.returned (.bool true)/\Below w.heap.size w w':=by
 have HT:=aa hT;have uz:=aa ck1_b;have jL:=aa ck2_b;have zj:=aa ck3_b;clear hT;obtain⟨p1,ux⟩:∃ p,p=qX 1 [(1,3),(3,3)]:=⟨_,rfl⟩;rw[<-ux]at uz;have Tu:am (∀ pc ps nc cc ns cs w,bM w (.slice pc nc cc) p1.t.cases->bu w (.slice ps ns cs) p1.a.states->Qf p1 pc ps nc cc ns cs w):=aa (BX uz.o (by rw[ux];exact ck_few1));have SO:am (∀ (W:World) b,W.heap[b]?=some (.cells #[.int .i64 1,.int .i64 3,.int .i64 3,.int .i64 3] 92)->Qg p1 1 2 b W):=aa (by rw[ux];exact fun W b h=>ER 1 [(1,3),(3,3)] 2 rfl (by omega) (Nu _ (by decide)) b W [.int .i64 1,.int .i64 3,.int .i64 3,.int .i64 3] h rfl);have oy:am (valuesR (aF p1) 3=([0,1],0)):=aa (by rw[ux];exact ck1_vals);have Xe:am (choiceR (aF p1)=([0,0,0,0,1,1],0)):=aa (by rw[ux];exact ck1_choice);have cO:am ((ruleR (aF p1)).2=(true,0)):=aa (by rw[ux];exact ck1_rule);obtain⟨p2,y'⟩:∃ p,p=qX 0 [(3,3)]:=⟨_,rfl⟩;rw[<-y']at jL;have Ts:am (∀ pc ps nc cc ns cs w,bM w (.slice pc nc cc) p2.t.cases->bu w (.slice ps ns cs) p2.a.states->Qf p2 pc ps nc cc ns cs w):=aa (BX jL.o (by rw[y'];exact ck_few2));have S7:am (∀ (W:World) b,W.heap[b]?=some (.cells #[.int .i64 3,.int .i64 3] 92)->Qg p2 0 1 b W):=aa (by rw[y'];exact fun W b h=>ER 0 [(3,3)] 1 rfl (by omega) (Nu _ (by decide)) b W [.int .i64 3,.int .i64 3] h rfl);have sg:am (findW (aF p2)=(ckW,true,0)):=aa (by rw[y'];exact ck2_find);have nu:am (certE (aF p2) ⟨1,ckW,0,0,0⟩=0):=aa (by rw[y'];exact ck2_cert);have eO:am (shortR (aF p2) ⟨1,ckW,0,0,0⟩=(ckW,0)):=aa (by rw[y'];exact ck2_short);have si:am (certE (aF p2) ⟨1,ckW.take 2,0,0,0⟩=18):=aa (by rw[y'];exact ck2_not);obtain⟨p3,GB⟩:∃ p,p=qX 1 [(1,3),(3,2),(3,3)]:=⟨_,rfl⟩;rw[<-GB]at zj;have SX:am (∀ pc ps nc cc ns cs w,bM w (.slice pc nc cc) p3.t.cases->bu w (.slice ps ns cs) p3.a.states->Qf p3 pc ps nc cc ns cs w):=aa (BX zj.o (by rw[GB];exact ck_few3))
 have S8:am (∀ (W:World) b,W.heap[b]?=some (.cells #[.int .i64 1,.int .i64 3,.int .i64 3,.int .i64 2,.int .i64 3,.int .i64 3] 92)->Qg p3 1 3 b W):=aa (by rw[GB];exact fun W b h=>ER 1 [(1,3),(3,2),(3,3)] 3 rfl (by omega) (Nu _ (by decide)) b W [.int .i64 1,.int .i64 3,.int .i64 3,.int .i64 2,.int .i64 3,.int .i64 3] h rfl);have HH3:am (choiceR (aF p3)=(List.replicate 9 (-1),0)):=aa (by rw[GB];exact ck3_choice);clear ux y' GB;unfold Qf at Tu Ts SX;unfold Qg at SO S7 S8
 go_enter Tryz.func10,Tryz.ntmps10
 go_wp2_with fail
 refine aO (fun W=>Below w.heap.size w W/\W.heap[w.heap.size]?=some (.cells #[.int .i64 1,.int .i64 3,.int .i64 3,.int .i64 3] 92)) ⟨by go_grown,ap _ _⟩ (fun W0 aX=>?_);refine(SO.o W0 _ aX.2).mono ?_;rintro r w1 ⟨pc,ps,cc,cs,nc,ns,rfl,jQ,aK⟩;have xn:=aa (ae aX.1 aK);have oH:=aa (jQ w1 (fun _ _ _=>rfl));have HK:=aa (Tu.o _ _ _ _ _ _ w1 oH.o.1 oH.o.2);clear aK aX jQ Tu SO
 go_wp2_with fail
 refine HK.o.mono ?_;rintro r w2 ⟨pt,pe,ct,ce,nt,ne,rfl,cA,aT⟩;have kx:=aa (cA w2 (fun _ _ _=>rfl) (oH.o.1.up up_case aT) (oH.o.2.up up_moves aT));have NX:=aa (ae xn.o aT);clear cA aT HK oH;have tb:=ab (ap w2 (.cells #[.int .i64 p1.t.n,.int .i64 p1.t.ins,.int .i64 p1.t.outs,.slice pc nc cc,.int .i64 p1.a.n,.slice ps ns cs,.int .i64 p1.rounds,.int .i64 p1.t.n,.slice pt nt ct,.slice pe ne ce] 35))
 go_wp2_with fail
 clear tb;refine aO (fun W=>Below w2.heap.size w2 W/\W.heap[w2.heap.size]?=some (.cells #[.int .i64 p1.t.n,.int .i64 p1.t.ins,.int .i64 p1.t.outs,.slice pc nc cc,.int .i64 p1.a.n,.slice ps ns cs,.int .i64 p1.rounds,.int .i64 p1.t.n,.slice pt nt ct,.slice pe ne ce] 35)) ⟨by go_grown,ap _ _⟩ (fun W3 mz=>?_);have dE:=aa (ae NX.o mz.1);have jb:=aa mz.2;have rj:=aa (kx.o.up mz.1);have je:=NX.o.size;clear mz kx;refine(Qd uz.o rj.o oy.o).mono ?_;rintro r w4 ⟨u4,rfl,mj,bS⟩;obtain⟨a4,n4,c4,rfl⟩:∃ a n c,u4=.slice a n c:=by obtain⟨a,c,e,_⟩:=mj.at;exact⟨_,_,_,e⟩
 have wz:=aa mj;have eE:=aa (ae dE.o bS);have jF:=aa (af bS jb.o);have F8:=aa (rj.o.up bS);have tb:=ab jF.o;clear mj bS jb rj
 go_wp2_with fail
 clear tb;refine(FW uz.o (HT.o.up eE.o) F8.o Xe.o).mono ?_;rintro r w5 ⟨u5,rfl,zd,dS⟩;obtain⟨a5,n5,c5,rfl⟩:∃ a n c,u5=.slice a n c:=by obtain⟨a,c,e,_⟩:=zd.at;exact⟨_,_,_,e⟩
 have LQ:=aa zd;have wz:=aa (wz.o.up up_int dS);have mx:=aa (ae eE.o dS);have DG:=aa (af dS jF.o);have Qo:=aa (F8.o.up dS);have tb:=ab DG.o;clear zd dS jF F8
 go_wp2_with fail
 clear tb;refine(Wl uz.o (HT.o.up mx.o) Qo.o cO.o).mono ?_;rintro r w6 ⟨a6,n6,c6,rfl,gz⟩;have LQ:=aa (LQ.o.up up_int gz);have wz:=aa (wz.o.up up_int gz);have qK:=aa (ae mx.o gz);have Xg:=aa (af gz DG.o);have Uq:=aD Xg.o;clear gz DG Qo
 go_wp2_with fail
 refine aO (fun W=>Below w6.heap.size w6 W/\W.heap[w6.heap.size+1]?=some (.cells (bH [0,1]) 3)) ⟨by go_grown,aZ _ _ _⟩ (fun W7 uq=>?_);refine(jC _ _ [0,1] [0,1] W7 (wz.o.up up_int uq.1) (ib [0,1] uq.2 (by decide) (by decide))).mono ?_;rintro r w7 ⟨rfl,xV⟩;rw[show eqV [0,1] [0,1]=true by decide];have Om:=ae uq.1 xV;have LQ:=aa (LQ.o.up up_int Om);have Xt:=aa (ae qK.o Om);have DK:=aa (af Om Xg.o);clear xV Om uq Xg wz
 go_wp2_with fail
 refine aO (fun W=>Below w7.heap.size w7 W/\W.heap[w7.heap.size]?=some (.cells (bH [0,0,0,0,1,1]) 3)) ⟨by go_grown,ap _ _⟩ (fun W8 pE=>?_);refine(jC _ _ [0,0,0,0,1,1] [0,0,0,0,1,1] W8 (LQ.o.up up_int pE.1) (ib [0,0,0,0,1,1] pE.2 (by decide) (by decide))).mono ?_;rintro r w8 ⟨rfl,AU⟩;rw[show eqV [0,0,0,0,1,1] [0,0,0,0,1,1]=true by decide];have Tt:=ae pE.1 AU;have UA:=aa (ae Xt.o Tt);have Xu:=aa (af Tt DK.o);clear AU Tt pE DK LQ
 go_wp2_with fail
 refine aO (fun W=>Below w8.heap.size w8 W/\W.heap[w8.heap.size]?=some (.cells #[.int .i64 3,.int .i64 3] 92)) ⟨by go_grown,ap _ _⟩ (fun W9 hW9=>?_);refine(S7.o W9 _ hW9.2).mono ?_;rintro r w9 ⟨pc2,ps2,cc2,cs2,nc2,ns2,rfl,jQ,dU⟩;have DN:=af (ae hW9.1 dU) Xu.o;have hsz9:=hW9.1.size;have h28:=aD Xu.o;have zw:=aa DN;have fr:=aa (ae UA.o (ae hW9.1 dU));have SL:=jQ w9 (fun _ _ _=>rfl);have HK:=aa (Ts.o _ _ _ _ _ _ w9 SL.1 SL.2);have oH:=aa jQ;have hsz99:=dU.size;clear dU hW9 jQ SL Ts S7 DN Xu
 go_wp2_with fail
 refine HK.o.mono ?_;rintro r w10 ⟨pt2,pe2,ct2,ce2,nt2,ne2,rfl,cA,B2⟩;have B3:=aa (af B2 zw.o);have Tz:=aa (ae fr.o B2)
 have HF10:am (Below w.heap.size w (w10.setRow w2.heap.size #[.int .i64 p2.t.n,.int .i64 p2.t.ins,.int .i64 p2.t.outs,.slice pc2 nc2 cc2,.int .i64 p2.a.n,.slice ps2 ns2 cs2,.int .i64 p2.rounds,.int .i64 p2.t.n,.slice pt2 nt2 ct2,.slice pe2 ne2 ce2])/\(w10.setRow w2.heap.size #[.int .i64 p2.t.n,.int .i64 p2.t.ins,.int .i64 p2.t.outs,.slice pc2 nc2 cc2,.int .i64 p2.a.n,.slice ps2 ns2 cs2,.int .i64 p2.rounds,.int .i64 p2.t.n,.slice pt2 nt2 ct2,.slice pe2 ne2 ce2]).heap[w2.heap.size]?=some (.cells #[.int .i64 p2.t.n,.int .i64 p2.t.ins,.int .i64 p2.t.outs,.slice pc2 nc2 cc2,.int .i64 p2.a.n,.slice ps2 ns2 cs2,.int .i64 p2.rounds,.int .i64 p2.t.n,.slice pt2 nt2 ct2,.slice pe2 ne2 ce2] 35)/\IsSys (w10.setRow w2.heap.size #[.int .i64 p2.t.n,.int .i64 p2.t.ins,.int .i64 p2.t.outs,.slice pc2 nc2 cc2,.int .i64 p2.a.n,.slice ps2 ns2 cs2,.int .i64 p2.rounds,.int .i64 p2.t.n,.slice pt2 nt2 ct2,.slice pe2 ne2 ce2]) (aF p2) (.slice pc2 nc2 cc2) (.slice ps2 ns2 cs2) (.slice pt2 nt2 ct2) (.slice pe2 ne2 ce2)):=aa (by
  have bK:∀ k,k≠w2.heap.size->(w10.setRow w2.heap.size #[.int .i64 p2.t.n,.int .i64 p2.t.ins,.int .i64 p2.t.outs,.slice pc2 nc2 cc2,.int .i64 p2.a.n,.slice ps2 ns2 cs2,.int .i64 p2.rounds,.int .i64 p2.t.n,.slice pt2 nt2 ct2,.slice pe2 ne2 ce2]).heap[k]?=w10.heap[k]?:=fun k hk=>setRow_other _ _ _ _ hk
  have Ok:=oH.o (w10.setRow w2.heap.size #[.int .i64 p2.t.n,.int .i64 p2.t.ins,.int .i64 p2.t.outs,.slice pc2 nc2 cc2,.int .i64 p2.a.n,.slice ps2 ns2 cs2,.int .i64 p2.rounds,.int .i64 p2.t.n,.slice pt2 nt2 ct2,.slice pe2 ne2 ce2]) (fun k h1 h2=>(bK k (by omega)).trans (B2.block k h2))
  exact⟨below_setRow Tz.o (by omega) _,setRow_heap _ _ _ _ _ _ B3.o,cA _ (fun k h1 h2=>bK k (by omega)) Ok.1 Ok.2⟩)
 clear cA B2 HK oH zw
 go_wp2_with (refine wpList_store_row rfl 35 (.tmp 1) (.tmp 60) rfl w2.heap.size #[.int .i64 p2.t.n,.int .i64 p2.t.ins,.int .i64 p2.t.outs,.slice pc2 nc2 cc2,.int .i64 p2.a.n,.slice ps2 ns2 cs2,.int .i64 p2.rounds,.int .i64 p2.t.n,.slice pt2 nt2 ct2,.slice pe2 ne2 ce2] rfl rfl 35 _ B3.o (by kernel_rfl) rfl (by simp[Value.oneCell']) (gX (fun W=>Below w.heap.size w W/\W.heap[w2.heap.size]?=some (.cells #[.int .i64 p2.t.n,.int .i64 p2.t.ins,.int .i64 p2.t.outs,.slice pc2 nc2 cc2,.int .i64 p2.a.n,.slice ps2 ns2 cs2,.int .i64 p2.rounds,.int .i64 p2.t.n,.slice pt2 nt2 ct2,.slice pe2 ne2 ce2] 35)/\IsSys W (aF p2) (.slice pc2 nc2 cc2) (.slice ps2 ns2 cs2) (.slice pt2 nt2 ct2) (.slice pe2 ne2 ce2)) HF10.o ?_);intro W11 Ny;have HB11:=aa Ny.1;have Th:=aa Ny.2.1;have Tm:=aa Ny.2.2;clear Ny HF10;have tb:=ab Th.o)
 clear tb;refine(Wm jL.o (HT.o.up HB11.o) Tm.o sg.o).mono ?_;rintro r w12 ⟨u12,rfl,To,NQ⟩;obtain⟨a12,n12,c12,rfl⟩:∃ a n c,u12=.slice a n c:=by obtain⟨a,c,e,_⟩:=To.at;exact⟨_,_,_,e⟩
 have HU12:=aa To;have HB12:=aa (ae HB11.o NQ);have SQ:=aa (af NQ Th.o);have HS12:=aa (Tm.o.up NQ);have hs12:=aD SQ.o;clear To NQ Th Tm;have tb1:=fun o1 o2=>ab (ar o2 (ar o1 (ap w12 (.cells #[.int .i64 1,.slice a12 n12 c12,.slice none 0 0,.slice none 0 0,.slice none 0 0] 58))))
 have tb2:=fun o1 o2=>ab (aZ (w12.alloc o1) o2 (.cells #[.int .i64 1,.slice (some ⟨w12.heap.size+1,0,none⟩) 3 3,.slice none 0 0,.slice none 0 0,.slice none 0 0] 58))
 simp only[World.size_alloc]at tb2
 go_wp2_with fail
 clear tb1 tb2;refine aO (fun W=>Below w12.heap.size w12 W/\W.heap[w12.heap.size]?=some (.cells #[.int .i64 1,.slice a12 n12 c12,.slice none 0 0,.slice none 0 0,.slice none 0 0] 58)/\W.heap[w12.heap.size+1]?=some (.cells #[.int .i64 0,.int .i64 (-1),.int .i64 1,.int .i64 0,.int .i64 2,.int .i64 1] 75)/\W.heap[w12.heap.size+1+1]?=some (.cells #[.int .i64 1,.slice (some ⟨w12.heap.size+1,0,none⟩) 3 3,.slice none 0 0,.slice none 0 0,.slice none 0 0] 58)) ⟨by go_grown,ar _ (ar _ (ap _ _)),ar _ (aZ _ _ _),dZ _ _ _ _⟩ (fun W13 hW13=>?_);refine(C5 1 ckW _ _ none none none none none none 0 0 0 0 0 0 W13 (HU12.o.up up_link hW13.1) (Jb hW13.2.2.1)).mono ?_;rintro r w13 ⟨rfl,NR⟩;have Hk:=ae hW13.1 NR;have HB13:=aa (ae HB12.o Hk);have Fb:=aa (af Hk SQ.o);have Tn:=aa (HS12.o.up Hk);have SU:=aa (Jb (af NR hW13.2.2.1));have TL:=aa (af NR hW13.2.2.2);have tb:=ab Fb.o;have tc:=ab TL.o;clear hW13 NR Hk SQ HS12 HU12
 go_wp2_with fail
 clear tb tc;refine(FX jL.o Tn.o SU.o nu.o).mono ?_;rintro r w14 ⟨rfl,E6⟩;have HB14:=aa (ae HB13.o E6);have Fc:=aa (af E6 Fb.o);have SM:=aa (Tn.o.up E6);have Tl:=aa (SU.o.up up_link E6);have Td:=aa (af E6 TL.o);have tb:=ab Fc.o;have tc:=ab Td.o;clear E6 Fb Tn SU TL
 go_wp2_with fail
 clear tb tc;refine(Nt jL.o (HT.o.up HB14.o) SM.o Tl.o eO.o).mono ?_;rintro r w15 ⟨u15,rfl,Tw,ES⟩;obtain⟨a15,n15,c15,rfl⟩:∃ a n c,u15=.slice a n c:=by obtain⟨a,c,e,_⟩:=Tw.at;exact⟨_,_,_,e⟩
 have HU15:=aa Tw;have HB15:=aa (ae HB14.o ES);have HX15:=aa (af ES Fc.o);have HS15:=aa (SM.o.up ES);have HL15:=aa (Tl.o.up up_link ES);have HT15:=aa (af ES Td.o);clear ES Tw Fc SM Tl Td
 go_wp2_with fail
 refine aO (fun W=>Below w15.heap.size w15 W/\W.heap[w15.heap.size]?=some (.cells #[.int .i64 1,.slice a15 n15 c15,.slice none 0 0,.slice none 0 0,.slice none 0 0] 58)/\W.heap[w15.heap.size+1]?=some (.cells #[.int .i64 1,.int .i64 3,.int .i64 3,.int .i64 2,.int .i64 3,.int .i64 3] 92)) ⟨by go_grown,ar _ (ap _ _),aZ _ _ _⟩ (fun W16 hW16=>?_);refine(S8.o W16 _ hW16.2.2).mono ?_;rintro r w16 ⟨pc3,ps3,cc3,cs3,nc3,ns3,rfl,jQ,Tx⟩;have xl:=ae hW16.1 Tx;have oH:=aa (jQ w16 (fun _ _ _=>rfl));have HK:=aa (SX.o _ _ _ _ _ _ w16 oH.o.1 oH.o.2);have HB16:=aa (ae HB15.o xl);have HX16:=aa (af xl HX15.o);have HS16:=aa (HS15.o.up xl);have HL16:=aa (HL15.o.up up_link xl);have HT16:=aa (af xl HT15.o);have HU16:=aa (HU15.o.up up_link xl);have HD16:=aa (af Tx hW16.2.1);clear hW16 Tx xl jQ SX S8 HX15 HS15 HL15 HT15 HU15
 go_wp2_with fail
 refine HK.o.mono ?_;rintro r w17 ⟨pt3,pe3,ct3,ce3,nt3,ne3,rfl,cA,uS⟩;have rj:=aa (cA w17 (fun _ _ _=>rfl) (oH.o.1.up up_case uS) (oH.o.2.up up_moves uS));have HB17:=aa (ae HB16.o uS);have HX17:=aa (af uS HX16.o);have HS17:=aa (HS16.o.up uS);have HL17:=aa (HL16.o.up up_link uS);have HT17:=aa (af uS HT16.o);have HU17:=aa (HU16.o.up up_link uS);have HD17:=aa (af uS HD16.o);clear cA uS HK oH HX16 HS16 HL16 HT16 HU16 HD16;have tb:=ab (ap w17 (.cells #[.int .i64 p3.t.n,.int .i64 p3.t.ins,.int .i64 p3.t.outs,.slice pc3 nc3 cc3,.int .i64 p3.a.n,.slice ps3 ns3 cs3,.int .i64 p3.rounds,.int .i64 p3.t.n,.slice pt3 nt3 ct3,.slice pe3 ne3 ce3] 35))
 go_wp2_with fail
 clear tb;refine aO (fun W=>Below w17.heap.size w17 W) (by go_grown) (fun W18 hW18=>?_);refine(FW zj.o (HT.o.up (ae HB17.o hW18)) (rj.o.up hW18) HH3.o).mono ?_;rintro r w18 ⟨u18,rfl,TD,hb18⟩;obtain⟨a18,n18,c18,rfl⟩:∃ a n c,u18=.slice a n c:=by obtain⟨a,c,e,_⟩:=TD.at;exact⟨_,_,_,e⟩
 have ug:=ae hW18 hb18;have HV18:=aa TD;have HB18:=aa (ae HB17.o ug);have HX18:=aa (af ug HX17.o);have HS18:=aa (HS17.o.up ug);have HL18:=aa (HL17.o.up up_link ug);have HT18:=aa (af ug HT17.o);have HU18:=aa (HU17.o.up up_link ug);have HD18:=aa (af ug HD17.o);clear hW18 hb18 ug TD HX17 HS17 HL17 HT17 HU17 HD17 rj
 go_wp2_with fail
 have hS:List.Nodup [107,108,109,110,111,112,113,114,115,116,117,118,119,120,121,122,123,124,125,126,127,128,129,130,0]:=by decide
 refine GM 25 [107,108,109,110,111,112,113,114,115,116,117,118,119,120,121,122,123,124,125,126,127,128,129,130,0] [MP.eq (.int .i64 0),MP.eq (.int .i64 0),MP.eq (.int .i64 0),MP.eq (.bool true),MP.eq (.bool true),MP.eq (.agg #[.int .i64 1,.slice a15 n15 c15,.slice none 0 0,.slice none 0 0,.slice none 0 0]),MP.eq (.agg #[.int .i64 1,.slice (some ⟨w12.heap.size+1,0,none⟩) 3 3,.slice none 0 0,.slice none 0 0,.slice none 0 0]),MP.eq (.bool true),MP.eq (.bool true),MP.eq (.bool true),MP.eq (.slice a18 n18 c18),YT 1 [-1],YT 9 (List.replicate 9 (-1)),MP.eq (.bool true),MP.eq (.bool true),MP.eq (.bool true),MP.eq (.agg #[.int .i64 p2.t.n,.int .i64 p2.t.ins,.int .i64 p2.t.outs,.slice pc2 nc2 cc2,.int .i64 p2.a.n,.slice ps2 ns2 cs2,.int .i64 p2.rounds,.int .i64 p2.t.n,.slice pt2 nt2 ct2,.slice pe2 ne2 ce2]),MP.eq (.pointer (some ⟨w12.heap.size+1+1,1,none⟩)),MP.eq (.slice (some ⟨w12.heap.size+1,0,none⟩) 3 3),MP.eq (.slice (some ⟨w12.heap.size+1,0,none⟩) 2 3),MP.eq (.agg #[.int .i64 1,.slice (some ⟨w12.heap.size+1,0,none⟩) 2 3,.slice none 0 0,.slice none 0 0,.slice none 0 0]),MP.eq (.int .i64 18),MP.eq (.bool true),MP.eq (.bool true),MP.eq (.bool true)] (by kernel_rfl) rfl hS rfl (by kernel_rfl) ?step ?tail
 case step=>
  intro x W i o s F hi ho hs hB aq hF;rcases (show i=0\/i=1\/i=2\/i=3\/i=4\/i=5\/i=6\/i=7\/i=8\/i=9\/i=10\/i=11\/i=12\/i=13\/i=14\/i=15\/i=16\/i=17\/i=18\/i=19\/i=20\/i=21\/i=22\/i=23\/i=24 by omega) with rfl|rfl|rfl|rfl|rfl|rfl|rfl|rfl|rfl|rfl|rfl|rfl|rfl|rfl|rfl|rfl|rfl|rfl|rfl|rfl|rfl|rfl|rfl|rfl|rfl
  all_goals (obtain rfl:=dy ho.symm;obtain rfl:=dy hs.symm;clear hi ho hs)
  ·obtain⟨g3,h3⟩:=cJ hF 3 (.int .i64 0) (by decide) rfl;clear hF aq
   go_wp2_with fail
   exact bh.mk _ (Below.refl _ _) rfl rfl
  ·obtain⟨g5,h5⟩:=cJ hF 5 (.int .i64 0) (by decide) rfl;clear hF aq
   go_wp2_with fail
   exact bh.mk _ (Below.refl _ _) rfl rfl
  ·obtain⟨e0,f0⟩:=aS hF 0 107 _ hS rfl (by kernel_rfl) (aq ⟨0,.data⟩ (by simp) rfl);obtain⟨e1,f1⟩:=aS hF 1 108 _ hS rfl (by kernel_rfl) (aq ⟨1,.data⟩ (by simp) rfl);clear hF aq
   go_wp2_with fail
   exact bh.mk _ (Below.refl _ _) rfl rfl
  ·obtain⟨e2,f2⟩:=aS hF 2 109 _ hS rfl (by kernel_rfl) (aq ⟨2,.data⟩ (by simp) rfl);clear hF aq
   go_wp2_with fail
   exact bh.mk _ (Below.refl _ _) rfl rfl
  ·obtain⟨e3,f3⟩:=aS hF 3 110 _ hS rfl (by kernel_rfl) (aq ⟨3,.data⟩ (by simp) rfl);clear hF aq
   go_wp2_with fail
   exact bh.mk _ (Below.refl _ _) rfl rfl
  ·obtain⟨g11,TT⟩:=cJ hF 11 (.pointer (some ⟨w15.heap.size,0,none⟩)) (by decide) rfl;have m4:=fB hF 4 111 (.bool true) hS rfl (by kernel_rfl) (aq ⟨4,.guard⟩ (by simp) rfl);have tb:=ab (af hB HD18.o);clear hF aq
   go_wp2_with fail
   exact bh.mk _ (Below.refl _ _) rfl rfl
  ·obtain⟨g10,Gj⟩:=cJ hF 10 (.pointer (some ⟨w12.heap.size+1+1,0,none⟩)) (by decide) rfl;have m4:=fB hF 4 111 (.bool true) hS rfl (by kernel_rfl) (aq ⟨4,.guard⟩ (by simp) rfl);have tb:=ab (af hB HT18.o);clear hF aq
   go_wp2_with fail
   exact bh.mk _ (Below.refl _ _) rfl rfl
  ·obtain⟨e5,f5⟩:=aS hF 5 112 _ hS rfl (by kernel_rfl) (aq ⟨5,.data⟩ (by simp) rfl);obtain⟨e6,f6⟩:=aS hF 6 113 _ hS rfl (by kernel_rfl) (aq ⟨6,.data⟩ (by simp) rfl);have m4:=fB hF 4 111 (.bool true) hS rfl (by kernel_rfl) (aq ⟨4,.guard⟩ (by simp) rfl);clear hF aq
   go_wp2_with fail
   refine(C5 1 ckW _ _ none none none none none none 0 0 0 0 0 0 W (HU18.o.up up_link hB) (HL18.o.up up_link hB)).mono ?_;rintro r W' ⟨rfl,fS⟩
   go_wp2_with fail
   exact bh.mk _ fS rfl rfl
  ·obtain⟨e4,f4⟩:=aS hF 4 111 _ hS rfl (by kernel_rfl) (aq ⟨4,.data⟩ (by simp) rfl);obtain⟨e7,f7⟩:=aS hF 7 114 _ hS rfl (by kernel_rfl) (aq ⟨7,.data⟩ (by simp) rfl);clear hF aq
   go_wp2_with fail
   exact bh.mk _ (Below.refl _ _) rfl rfl
  ·obtain⟨e8,f8⟩:=aS hF 8 115 _ hS rfl (by kernel_rfl) (aq ⟨8,.data⟩ (by simp) rfl);clear hF aq
   go_wp2_with fail
   exact bh.mk _ (Below.refl _ _) rfl rfl
  ·obtain⟨g13,h13⟩:=cJ hF 13 (.slice a18 n18 c18) (by decide) rfl;have m9:=fB hF 9 116 (.bool true) hS rfl (by kernel_rfl) (aq ⟨9,.guard⟩ (by simp) rfl);clear hF aq
   go_wp2_with fail
   exact bh.mk _ (Below.refl _ _) rfl rfl
  ·have m9:=fB hF 9 116 (.bool true) hS rfl (by kernel_rfl) (aq ⟨9,.guard⟩ (by simp) rfl);clear hF aq
   go_wp2_with fail
   exact bh.mk (.slice (some ⟨W.heap.size,0,none⟩) 1 1) (by go_grown) ⟨_,rfl,ap _ _⟩ rfl
  ·have d11:=aq ⟨11,.data⟩ (by simp) rfl;have m9:=fB hF 9 116 (.bool true) hS rfl (by kernel_rfl) (aq ⟨9,.guard⟩ (by simp) rfl);obtain⟨i1,q11,TT⟩:=d11;obtain⟨e11,f11⟩:=aS hF 11 118 _ hS rfl (by kernel_rfl) q11;clear hF aq
   go_wp2_with fail
   refine(wP (-1) 9 (by omega) (by omega) i1 W TT).mono ?_;rintro r W' ⟨rfl,h9,fS⟩;rw[xC_nine]at h9;have H9:=aa h9;clear h9
   go_wp2_with fail
   exact bh.mk (.slice (some ⟨W.heap.size,0,none⟩) 9 9) fS ⟨_,rfl,H9.o⟩ rfl
  ·obtain⟨e10,f10⟩:=aS hF 10 117 _ hS rfl (by kernel_rfl) (aq ⟨10,.data⟩ (by simp) rfl);have d12:=aq ⟨12,.data⟩ (by simp) rfl;have m9:=fB hF 9 116 (.bool true) hS rfl (by kernel_rfl) (aq ⟨9,.guard⟩ (by simp) rfl);obtain⟨i2,q12,U2⟩:=d12;obtain⟨e12,f12⟩:=aS hF 12 119 _ hS rfl (by kernel_rfl) q12;clear hF aq
   go_wp2_with fail
   refine(jC _ _ (List.replicate 9 (-1)) (List.replicate 9 (-1)) W (HV18.o.up up_int hB) (ib (List.replicate 9 (-1)) U2 (by decide) (by decide))).mono ?_;rintro r W' ⟨rfl,fS⟩;rw[show eqV (List.replicate 9 (-1)) (List.replicate 9 (-1))=true by decide]
   go_wp2_with fail
   exact bh.mk _ fS rfl rfl
  ·obtain⟨e9,f9⟩:=aS hF 9 116 _ hS rfl (by kernel_rfl) (aq ⟨9,.data⟩ (by simp) rfl);obtain⟨e13,f13⟩:=aS hF 13 120 _ hS rfl (by kernel_rfl) (aq ⟨13,.data⟩ (by simp) rfl);clear hF aq
   go_wp2_with fail
   exact bh.mk _ (Below.refl _ _) rfl rfl
  ·obtain⟨e14,f14⟩:=aS hF 14 121 _ hS rfl (by kernel_rfl) (aq ⟨14,.data⟩ (by simp) rfl);clear hF aq
   go_wp2_with fail
   exact bh.mk _ (Below.refl _ _) rfl rfl
  ·obtain⟨g1,h1⟩:=cJ hF 1 (.pointer (some ⟨w2.heap.size,0,none⟩)) (by decide) rfl;have m15:=fB hF 15 122 (.bool true) hS rfl (by kernel_rfl) (aq ⟨15,.guard⟩ (by simp) rfl);have tb:=ab (af hB HX18.o);clear hF aq
   go_wp2_with fail
   exact bh.mk _ (Below.refl _ _) rfl rfl
  ·obtain⟨g10,Gj⟩:=cJ hF 10 (.pointer (some ⟨w12.heap.size+1+1,0,none⟩)) (by decide) rfl;have m15:=fB hF 15 122 (.bool true) hS rfl (by kernel_rfl) (aq ⟨15,.guard⟩ (by simp) rfl);clear hF aq
   go_wp2_with fail
   exact bh.mk _ (Below.refl _ _) rfl rfl
  ·obtain⟨e17,f17⟩:=aS hF 17 124 _ hS rfl (by kernel_rfl) (aq ⟨17,.data⟩ (by simp) rfl);have m15:=fB hF 15 122 (.bool true) hS rfl (by kernel_rfl) (aq ⟨15,.guard⟩ (by simp) rfl);have tb:=ab (af hB HT18.o) 1;simp at tb;clear hF aq
   go_wp2_with fail
   exact bh.mk _ (Below.refl _ _) rfl rfl
  ·obtain⟨e18,f18⟩:=aS hF 18 125 _ hS rfl (by kernel_rfl) (aq ⟨18,.data⟩ (by simp) rfl);have m15:=fB hF 15 122 (.bool true) hS rfl (by kernel_rfl) (aq ⟨15,.guard⟩ (by simp) rfl);clear hF aq
   go_wp2_with fail
   exact bh.mk _ (Below.refl _ _) rfl rfl
  ·obtain⟨e19,f19⟩:=aS hF 19 126 _ hS rfl (by kernel_rfl) (aq ⟨19,.data⟩ (by simp) rfl);have m15:=fB hF 15 122 (.bool true) hS rfl (by kernel_rfl) (aq ⟨15,.guard⟩ (by simp) rfl);clear hF aq
   go_wp2_with fail
   exact bh.mk _ (Below.refl _ _) rfl rfl
  ·obtain⟨e16,f16⟩:=aS hF 16 123 _ hS rfl (by kernel_rfl) (aq ⟨16,.data⟩ (by simp) rfl);obtain⟨e20,f20⟩:=aS hF 20 127 _ hS rfl (by kernel_rfl) (aq ⟨20,.data⟩ (by simp) rfl);have m15:=fB hF 15 122 (.bool true) hS rfl (by kernel_rfl) (aq ⟨15,.guard⟩ (by simp) rfl);clear hF aq
   go_wp2_with fail
   refine(FX jL.o (HS18.o.up hB) (wZ (HL18.o.up up_link hB) 2 (by decide)) si.o).mono ?_;rintro r W' ⟨rfl,fS⟩
   go_wp2_with fail
   exact bh.mk _ fS rfl rfl
  ·obtain⟨e21,f21⟩:=aS hF 21 128 _ hS rfl (by kernel_rfl) (aq ⟨21,.data⟩ (by simp) rfl);have m15:=fB hF 15 122 (.bool true) hS rfl (by kernel_rfl) (aq ⟨15,.guard⟩ (by simp) rfl);clear hF aq
   go_wp2_with fail
   exact bh.mk _ (Below.refl _ _) rfl rfl
  ·obtain⟨e15,f15⟩:=aS hF 15 122 _ hS rfl (by kernel_rfl) (aq ⟨15,.data⟩ (by simp) rfl);obtain⟨e22,f22⟩:=aS hF 22 129 _ hS rfl (by kernel_rfl) (aq ⟨22,.data⟩ (by simp) rfl);clear hF aq
   go_wp2_with fail
   exact bh.mk _ (Below.refl _ _) rfl rfl
  ·obtain⟨e23,f23⟩:=aS hF 23 130 _ hS rfl (by kernel_rfl) (aq ⟨23,.data⟩ (by simp) rfl);clear hF aq
   go_wp2_with fail
   exact bh.mk _ (Below.refl _ _) rfl rfl
 case tail=>
  clear hS;intro x w19 F hB aU hF;have e24:=aU 24 (by omega);change x 24=_ at e24;clear aU;simp only[bA,cW,List.setIfInBounds_toArray,List.set_cons_succ,List.set_cons_zero,Nat.reduceAdd]at hF;rw[e24]at hF;generalize x 0=r0,x 1=r1,x 2=r2,x 3=r3,x 4=r4,x 5=r5,x 6=r6,x 7=r7,x 8=r8,x 9=r9,x 10=r10,x 11=r11,x 12=r12,x 13=r13,x 14=r14,x 15=r15,x 16=r16,x 17=r17,x 18=r18,x 19=r19,x 20=r20,x 21=r21,x 22=r22,x 23=r23 at hF;subst hF;have HB19:=aa (ae HB18.o hB);clear hB e24
  go_wp2_with fail
  go_ret
  exact⟨rfl,HB19.o⟩
theorem K4(p:Pb) (vc vs:Value) (w:World) (hc:bM w vc p.t.cases) (hs:bu w vs p.a.states) :
  Calls Tryz.prog 59 #[nX p vc vs] w fun r w'=>r=.returned (.bool (fewPB p&&decide (buildE p=0)))/\Below w.heap.size w w':=by
 have GC:=aa hc;have GS:=aa hs;obtain⟨pc,cc,rfl,_⟩:=hc.at;obtain⟨ps,cs,rfl,_⟩:=hs.at;have HF:=aa (fun W (hb:Below w.heap.size w W)=>IE p _ _ W (GC.o.up up_case hb) (GS.o.up up_moves hb));have kb:=aa (fun (h:fewPB p=true) W (hb:Below w.heap.size w W)=>xb p _ _ W (GC.o.up up_case hb) (GS.o.up up_moves hb) (by have:=qg h;omega) (vH h));unfold EP Ae at kb;obtain⟨be,jm⟩:∃ be,buildE p=be:=⟨_,rfl⟩;rw[jm]at kb ⊢;generalize fewPB p=fb at HF kb ⊢;clear hc hs jm;generalize p.t.cases.length=nc,p.a.states.length=ns at HF kb ⊢
 go_enter Tryz.func59,Tryz.ntmps59
 go_wp2_with fail
 refine aO (fun W=>Below w.heap.size w W/\W.heap[w.heap.size]?=some (.cells #[.int .i64 p.t.n,.int .i64 p.t.ins,.int .i64 p.t.outs,.slice pc nc cc,.int .i64 p.a.n,.slice ps ns cs,.int .i64 p.rounds] 29)) ⟨by go_grown,ap _ _⟩ (fun W0 aX=>?_);obtain⟨aG,bB⟩:=aX;refine(HF.o W0 aG).mono ?_;rintro r w1 ⟨rfl,aK⟩;have bI:=aa (ae aG aK);have tA:=ab (af aK bB);clear aG bB aK HF;cases fb with
 | false=>
  go_wp2_with fail
  go_ret
  exact⟨rfl,bI.o⟩
 | true=>
 have kP:=aa (kb.o rfl);clear kb
 go_wp2_with fail
 clear tA;refine(kP.o w1 bI.o).mono ?_;rintro r w2 ⟨⟨c,rfl,h1,h2⟩,aT⟩;have cf:=aa (ae bI.o aT);clear aT kP;by_cases hz:be=0
 case neg=>
  obtain rfl:=h2 hz;have LH:(be == 0)=false:=by simpa using hz
  have HD:am (decide (be=0)=false):=aa (decide_eq_false hz);have HG:am (Below w.heap.size w (w2.alloc (.cells zeroSys 35))):=aa (cf.o.alloc cf.o.size _);clear hz h1 h2
  go_wp2_with fail
  go_ret
  exact⟨by rw[HD.o];rfl,HG.o⟩
 obtain⟨ut,ue,rfl,⟨⟨a3,c3,rfl⟩,a4,c4,rfl⟩,_⟩:=h1 hz;subst hz;have HG:am (∀ o:Obj,Below w.heap.size w (w2.alloc o)):=aa (fun o=>cf.o.alloc cf.o.size _);clear h1 h2
 go_wp2_with fail
 go_ret
 exact⟨rfl,HG.o _⟩
theorem Nv(s:Sys) (vc vs vt ve:Value) (w:World) (cA:IsSys w s vc vs vt ve) (hN:movesN s.prob.a.states<2305843009213693952) (hf:rS s.prob) :
  Calls Tryz.prog 39 #[.agg (bL s.prob vc vs s.n vt ve)] w fun r w'=>r=.returned (.int .i64 (readyE s))/\Below w.heap.size w w':=by
 have HS:=aa cA;obtain⟨⟨qc,kc,rfl⟩,⟨qs,ks,rfl⟩,⟨qt,kt,rfl⟩,⟨qe,ke,rfl⟩⟩:=bD cA;have T0:=aa (fun W (hb:Below w.heap.size w W)=>vI s _ _ _ _ W (HS.o.up hb) hN hf);have Ge:=aa (fun W (hb:Below w.heap.size w W)=>Ni s.prob.t _ W (HS.o.cases.up up_case hb));have cO:am (readyE s=if verifyE s≠0 then verifyE s else if agreeB s.prob.t then 0 else 11):=aa rfl;generalize readyE s=re at cO ⊢;generalize verifyE s=vr at T0 cO;generalize agreeB s.prob.t=ag at Ge cO;clear cA hN hf;generalize s.prob.t.cases.length=nc,s.prob.a.states.length=ns,s.tab.length=nt,s.ex.length=ne at T0 Ge ⊢
 go_enter Tryz.func39,Tryz.ntmps39
 go_wp2_with fail
 refine aO (fun W=>Below w.heap.size w W/\∃ c,W.heap[w.heap.size]?=some (.cells c 35)/\c=bL s.prob (.slice qc nc kc) (.slice qs ns ks) s.n (.slice qt nt kt) (.slice qe ne ke)) ⟨by go_grown,_,ap _ _,rfl⟩ (fun W0 aX=>?_);obtain⟨aG,_,bB,rfl⟩:=aX;refine(T0.o W0 aG).mono ?_;rintro r w1 ⟨rfl,aK⟩;have bI:=aa (ae aG aK);have tA:=ab (af aK bB);clear aG bB aK T0;by_cases hz:vr=0
 case neg=>
  have LH:(vr != 0)=true:=by simpa using hz
  have HV:am (re=vr):=aa (by rw[cO.o,if_pos hz]);clear hz Ge
  go_wp2_with fail
  go_ret
  exact⟨aE HV.o.symm,bI.o⟩
 have HV:am (re=if ag then 0 else 11):=aa (by rw[cO.o,if_neg (by omega)]);subst hz;clear cO
 go_wp2_with fail
 refine(Ge.o w1 bI.o).mono ?_;rintro r w2 ⟨rfl,aT⟩;have cf:=aa (ae bI.o aT);clear tA aT Ge;cases ag with
 | true=>
  go_wp2_with fail
  go_ret
  exact⟨aE (by rw[HV.o];rfl),cf.o⟩
 | false=>
  go_wp2_with fail
  go_ret
  exact⟨aE (by rw[HV.o];rfl),cf.o⟩
theorem Qh{s:Sys} {vc vs vt ve:Value} {w:World} (cA:IsSys w s vc vs vt ve) (hN:movesN s.prob.a.states<2305843009213693952) (hf:rS s.prob):I5 s vc vs vt ve w:=fun W hb=>Nv s vc vs vt ve W (cA.up hb) hN hf
theorem FY{p:Pb} (h:fewPB p=true) (h0:buildE p=0):eS (aF p)<=60:=by
 have h1:=rL p (aN p) (fp p) ([],[]);have h2:(aF p).ex.length=0+(fp p).length:=h1;rw[iI]at h2;unfold buildE at h0;by_cases hp:probE p=0
 ·rw[if_neg (by omega)]at h0;by_cases h4:4096<p.t.cases.length * (aN p).length
  ·rw[if_pos h4]at h0;omega
  ·unfold eS;rcases vH h hp with h5|h5<;>omega
 ·rw[if_pos hp]at h0;exact absurd h0 hp
def SB(p:Pb) (vc vs:Value) (r:Ending) (w':World):Prop:=
 (∃ (i0 i1 i2 i4 i6 i7:Int) (a3 a5 a8 a9:Option Addr) (n3 n5 n8 n9 c3 c5 c8 c9:Nat),r=.returned (.tuple #[.agg #[.int .i64 i0,.int .i64 i1,.int .i64 i2,.slice a3 n3 c3,.int .i64 i4,.slice a5 n5 c5,.int .i64 i6,.int .i64 i7,.slice a8 n8 c8,.slice a9 n9 c9],.bool false])) ∨
 (∃ vt ve,r=.returned (.tuple #[.agg (bL p vc vs p.t.n vt ve),.bool true])/\IsSys w' (aF p) vc vs vt ve/\buildE p=0/\readyE (aF p)=0/\fewPB p=true)
theorem vJ(tmps:Array Value) (B:Nat) (W:World) (c0 c1 c2 c3 c4 c5 c6 c7 c8 c9:Value) (b:Bool) (h2:tmps[2]?.getD undef=.pointer (some ⟨B,0,none⟩)) (h3:tmps[3]?.getD undef=.bool b)
  (hB:W.heap[B]?=some (.cells #[c0,c1,c2,c3,c4,c5,c6,c7,c8,c9] 35)) :
  (results Tryz.f26 tmps).run Tryz.prog W=.ok (.tuple #[.agg #[c0,c1,c2,c3,c4,c5,c6,c7,c8,c9],.bool b]) W:=by
 have t2:=ab hB;simp[results,Tryz.results26,go_sem,h2,h3,t2]
theorem Nw(p:Pb) (vc vs:Value) (w:World) (hc:bM w vc p.t.cases) (hs:bu w vs p.a.states) :
  Calls Tryz.prog 26 #[nX p vc vs] w fun r w'=>SB p vc vs r w'/\Below w.heap.size w w':=by
 have GC:=aa hc;have GS:=aa hs;obtain⟨pc,cc,rfl,_⟩:=hc.at;obtain⟨ps,cs,rfl,_⟩:=hs.at;have Ug:=aa (fun W (hb:Below w.heap.size w W)=>K4 p _ _ W (GC.o.up up_case hb) (GS.o.up up_moves hb));have wo:=aa (fun (h:fewPB p=true) (h0:buildE p=0) W (hb:Below w.heap.size w W)=>C9 p _ _ W (GC.o.up up_case hb) (GS.o.up up_moves hb) (by have:=qg h;omega) (vH h) h0);have iT:am (∀ (h:fewPB p=true) (h0:buildE p=0) vt ve W,IsSys W (aF p) (.slice pc p.t.cases.length cc) (.slice ps p.a.states.length cs) vt ve->Calls Tryz.prog 14 #[.agg (bL p (.slice pc p.t.cases.length cc) (.slice ps p.a.states.length cs) p.t.n vt ve)] W fun r w'=>∃ u,r=.returned (.tuple #[u,.int .i64 (choiceR (aF p)).2])/\aQ w' u (choiceR (aF p)).1/\Below W.heap.size W w'):=aa (fun h h0 vt ve W cA=>K0 (aF p) (by have:=FY h h0;omega) _ _ vt ve W cA (Qh cA (show movesN p.a.states<_ by have:=qg h;omega) (vH h)));have wn:am ((∀ W,Below w.heap.size w W->bM W (.slice pc p.t.cases.length cc) p.t.cases)/\∀ W,Below w.heap.size w W->bu W (.slice ps p.a.states.length cs) p.a.states):=aa ⟨fun W hb=>GC.o.up up_case hb,fun W hb=>GS.o.up up_moves hb⟩
 have jL:am ((choiceR (aF p)).2=readyE (aF p)):=aa (by
  unfold choiceR;by_cases h:readyE (aF p)=0
  ·rw[if_neg (by omega)];exact h.symm
  ·rw[if_pos h])
 generalize choiceR (aF p)=cr at iT jL;unfold Ae at wo;clear hc hs GC GS;have fk:am (∀ (i0 i1 i2 i4 i6 i7:Int) (a3 a5 a8 a9:Option Addr) (n3 n5 n8 n9 c3 c5 c8 c9:Nat) W,SB p (.slice pc p.t.cases.length cc) (.slice ps p.a.states.length cs) (.returned (.tuple #[.agg #[.int .i64 i0,.int .i64 i1,.int .i64 i2,.slice a3 n3 c3,.int .i64 i4,.slice a5 n5 c5,.int .i64 i6,.int .i64 i7,.slice a8 n8 c8,.slice a9 n9 c9],.bool false])) W):=aa (fun i0 i1 i2 i4 i6 i7 a3 a5 a8 a9 n3 n5 n8 n9 c3 c5 c8 c9 W=>.inl ⟨i0,i1,i2,i4,i6,i7,a3,a5,a8,a9,n3,n5,n8,n9,c3,c5,c8,c9,rfl⟩);have ju:am (∀ vt ve W,IsSys W (aF p) (.slice pc p.t.cases.length cc) (.slice ps p.a.states.length cs) vt ve->buildE p=0->readyE (aF p)=0->fewPB p=true->SB p (.slice pc p.t.cases.length cc) (.slice ps p.a.states.length cs) (.returned (.tuple #[.agg (bL p (.slice pc p.t.cases.length cc) (.slice ps p.a.states.length cs) p.t.n vt ve),.bool true])) W):=aa (fun vt ve W h1 h2 h3 h4=>.inr ⟨vt,ve,rfl,h1,h2,h3,h4⟩);obtain⟨nc,ig⟩:∃ nc,p.t.cases.length=nc:=⟨_,rfl⟩;obtain⟨ns,oK⟩:∃ ns,p.a.states.length=ns:=⟨_,rfl⟩;rw[ig,oK]at Ug wo iT wn fk ju ⊢;obtain⟨rb,Dx⟩:∃ rb,(fewPB p&&decide (buildE p=0))=rb:=⟨_,rfl⟩;rw[Dx]at Ug;have HRB:=aa Dx;clear ig oK Dx
 go_enter Tryz.func26,Tryz.ntmps26
 go_wp2_with fail
 refine aO (fun W=>Below w.heap.size w W/\W.heap[w.heap.size]?=some (.cells #[.int .i64 p.t.n,.int .i64 p.t.ins,.int .i64 p.t.outs,.slice pc nc cc,.int .i64 p.a.n,.slice ps ns cs,.int .i64 p.rounds] 29)/\W.heap[w.heap.size+1]?=some (.cells zeroSys 35)) ⟨by go_grown,ar _ (ap _ _),aZ _ _ _⟩ (fun W0 aX=>?_);obtain⟨aG,bB,eB⟩:=aX;refine(Ug.o W0 aG).mono ?_;rintro r w1 ⟨rfl,aK⟩;have bI:=aa (ae aG aK);have du:=aa (af aK bB);have cO:=aa (af aK eB);have fZ:=aD cO.o;clear aG bB eB aK Ug;cases rb with
 | false=>
  clear wo iT ju
  go_wp2_with (refine wpList_store_row rfl 35 (.tmp 2) (.tmp 10) rfl (w.heap.size+1) zeroSys rfl rfl 35 _ cO.o (by kernel_rfl) rfl (by simp[Value.oneCell']) ?_)
  exact bodyPost_ret (vJ _ (w.heap.size+1) _ _ _ _ _ _ _ _ _ _ _ false rfl rfl (setRow_heap _ _ _ _ _ _ cO.o)) rfl ⟨fk.o _ _ _ _ _ _ _ _ _ _ _ _ _ _ _ _ _ _ _,below_setRow bI.o (by omega) _⟩
 | true=>
 obtain⟨hf,h0⟩:fewPB p=true/\buildE p=0:=by have:=HRB.o;simpa using this
 have kP:=aa (wo.o hf h0);have uk:=aa (iT.o hf h0);have HYY:=aa (fun vt ve W h1 h3=>ju.o vt ve W h1 h0 h3 hf);have tA:=ab du.o;clear hf h0 wo iT ju HRB
 go_wp2_with fail
 clear tA;refine(kP.o w1 bI.o).mono ?_;rintro r w2 ⟨vt,ve,rfl,⟨⟨⟨a3,c3,rfl⟩,a4,c4,rfl⟩,eT⟩,aT⟩;have LE:=aa eT;have cf:=aa (ae bI.o aT);have eh:=aa (af aT cO.o);obtain⟨nt,AS⟩:∃ nt,(aF p).tab.length=nt:=⟨_,rfl⟩;obtain⟨ne,bK⟩:∃ ne,(aF p).ex.length=ne:=⟨_,rfl⟩;rw[AS,bK]at LE ⊢;have cF:=aT.size;clear eT aT AS bK kP cO du;have te:=ab (ap w2 (.cells #[.int .i64 p.t.n,.int .i64 p.t.ins,.int .i64 p.t.outs,.slice pc nc cc,.int .i64 p.a.n,.slice ps ns cs,.int .i64 p.rounds,.int .i64 p.t.n,.slice a3 nt c3,.slice a4 ne c4] 35))
 go_wp2_with fail
 clear te;refine aO (fun W=>Below w2.heap.size w2 W/\W.heap[w2.heap.size]?=some (.cells #[.int .i64 p.t.n,.int .i64 p.t.ins,.int .i64 p.t.outs,.slice pc nc cc,.int .i64 p.a.n,.slice ps ns cs,.int .i64 p.rounds,.int .i64 p.t.n,.slice a3 nt c3,.slice a4 ne c4] 35)) ⟨by go_grown,ap _ _⟩ (fun W3 mz=>?_);have bG:=ae cf.o mz.1;have hsy3:=LE.o W3 (fun k _ hk=>mz.1.block k hk) (wn.o.1 W3 bG) (wn.o.2 W3 bG);refine(uk.o _ _ W3 hsy3).mono ?_;rintro r w4 ⟨u4,rfl,mj,bS⟩;obtain⟨a9,n9,c9,rfl⟩:∃ a n c,u4=.slice a n c:=by obtain⟨a,c,e,_⟩:=mj.at;exact⟨_,_,_,e⟩
 have N6:=ae mz.1 bS;have F8:=aa (N6);have jF:=aa (af bS mz.2);have eE:=aa (ae cf.o N6);have pn:=aa (af N6 eh.o);have zQ:=aD pn.o;obtain⟨re,kg⟩:∃ re,cr.2=re:=⟨_,rfl⟩;rw[kg];have HRE:am (readyE (aF p)=re):=aa (jL.o.symm.trans kg);clear bG hsy3 N6 mz bS mj kg jL uk;have tx:=ab jF.o
 go_wp2_with (refine wpList_store_row rfl 35 (.tmp 2) (.tmp 18) rfl (w.heap.size+1) #[.int .i64 p.t.n,.int .i64 p.t.ins,.int .i64 p.t.outs,.slice pc nc cc,.int .i64 p.a.n,.slice ps ns cs,.int .i64 p.rounds,.int .i64 p.t.n,.slice a3 nt c3,.slice a4 ne c4] rfl rfl 35 _ pn.o (by kernel_rfl) rfl (by simp[Value.oneCell']) ?_)
 refine bodyPost_ret (vJ _ (w.heap.size+1) _ _ _ _ _ _ _ _ _ _ _ (re == 0) rfl rfl (setRow_heap _ _ _ _ _ _ pn.o)) rfl ⟨?_,below_setRow eE.o (by omega) _⟩;by_cases hz:re=0
 ·have hd:(re == 0)=true:=by rw[hz];rfl
  rw[hd];refine HYY.o _ _ _ ?_ (HRE.o.trans hz);refine LE.o _ (fun k hk mA=>?_) (wn.o.1 _ (below_setRow eE.o (by omega) _)) (wn.o.2 _ (below_setRow eE.o (by omega) _));rw[setRow_other _ _ _ _ (by omega)];exact F8.o.block k mA
 ·have hd:(re == 0)=false:=beq_eq_false_iff_ne.2 hz;rw[hd];exact fk.o _ _ _ _ _ _ _ _ _ _ _ _ _ _ _ _ _ _ _
theorem K5(s:Sys) (hv:verifyE s=0) (hN:movesN s.prob.a.states<2305843009213693952) (hx:rS s.prob) (lr:List Int) (vc vs vt ve vr:Value) (w:World) (cA:IsSys w s vc vs vt ve) (hr:aQ w vr lr) :
  Calls Tryz.prog 31 #[.agg (bL s.prob vc vs s.n vt ve),.agg #[vr]] w fun r w'=>(∃ e,r=.returned (.int .i64 e)/\(e=0->FormOk s lr))/\Below w.heap.size w w':=by
 have jS:=aa (fun W (hb:Below w.heap.size w W)=>vI s vc vs vt ve W (cA.up hb) hN hx);have JK:=aa (fun W (hb:Below w.heap.size w W)=>Nq s hv lr vc vs vt ve vr W (cA.up hb) (hr.up up_int hb));rw[hv]at jS;obtain⟨⟨qc,kc,rfl⟩,⟨qs,ks,rfl⟩,⟨qt,kt,rfl⟩,⟨qe,ke,rfl⟩⟩:=bD cA;obtain⟨pR,cR,rfl,-⟩:=hr.at;generalize s.prob.t.cases.length=nc,s.prob.a.states.length=ns,s.tab.length=nt,s.ex.length=ne at jS JK ⊢;generalize lr.length=m at JK ⊢;clear cA hr hv hN hx
 go_enter Tryz.func31,Tryz.ntmps31
 go_wp2_with fail
 refine aO (fun W=>Below w.heap.size w W/\(∃ c,W.heap[w.heap.size]?=some (.cells c 35)/\c=bL s.prob (.slice qc nc kc) (.slice qs ns ks) s.n (.slice qt nt kt) (.slice qe ne ke))/\W.heap[w.heap.size+1]?=some (.cells #[.slice pR m cR] 49)) ⟨by go_grown,⟨_,ar _ (ap _ _),rfl⟩,aZ _ _ _⟩ (fun W0 aX=>?_);obtain⟨aG,⟨_,bB,rfl⟩,eB⟩:=aX;refine(jS.o W0 aG).mono ?_;rintro r w1 ⟨rfl,aK⟩;have bI:=aa (ae aG aK);have ta:=ab (af aK bB);have tr:=ab (af aK eB);clear aG bB eB aK jS
 go_wp2_with fail
 refine(JK.o w1 bI.o).mono ?_;rintro r w2 ⟨⟨e,rfl,he⟩,aT⟩;have cf:=aa (ae bI.o aT);have HE:=aa he;clear aT he ta tr
 go_wp2_with fail
 go_ret
 exact⟨⟨e,rfl,HE.o⟩,cf.o⟩
theorem K6(s:Sys) (hv:verifyE s=0) (hN:movesN s.prob.a.states<1099511627776) (lr:List Int) (hf:FormOk s lr) (vc vs vt ve vr:Value) (w:World) (cA:IsSys w s vc vs vt ve) (hr:aQ w vr lr) :
  Calls Tryz.prog 65 #[.agg (bL s.prob vc vs s.n vt ve),.agg #[vr]] w fun r w'=>r=.returned (.int .i64 0)/\Below w.heap.size w w':=by
 have jS:=aa (fun W (hb:Below w.heap.size w W)=>lS s vc vs vt ve W (cA.up hb) hN);have JK:=aa (fun W (hb:Below w.heap.size w W)=>Np s hv lr hf vc vs vt ve vr W (cA.up hb) (hr.up up_int hb));rw[hv]at jS;obtain⟨⟨qc,kc,rfl⟩,⟨qs,ks,rfl⟩,⟨qt,kt,rfl⟩,⟨qe,ke,rfl⟩⟩:=bD cA;obtain⟨pR,cR,rfl,-⟩:=hr.at;generalize s.prob.t.cases.length=nc,s.prob.a.states.length=ns,s.tab.length=nt,s.ex.length=ne at jS JK ⊢;generalize lr.length=m at JK ⊢;clear cA hr hv hN hf
 go_enter Tryz.func65,Tryz.ntmps65
 go_wp2_with fail
 refine aO (fun W=>Below w.heap.size w W/\(∃ c,W.heap[w.heap.size]?=some (.cells c 35)/\c=bL s.prob (.slice qc nc kc) (.slice qs ns ks) s.n (.slice qt nt kt) (.slice qe ne ke))/\W.heap[w.heap.size+1]?=some (.cells #[.slice pR m cR] 49)) ⟨by go_grown,⟨_,ar _ (ap _ _),rfl⟩,aZ _ _ _⟩ (fun W0 aX=>?_);obtain⟨aG,⟨_,bB,rfl⟩,eB⟩:=aX;refine(jS.o W0 aG).mono ?_;rintro r w1 ⟨rfl,aK⟩;have bI:=aa (ae aG aK);have ta:=ab (af aK bB);have tr:=ab (af aK eB);clear aG bB eB aK jS
 go_wp2_with fail
 refine(JK.o w1 bI.o).mono ?_;rintro r w2 ⟨rfl,aT⟩;have cf:=aa (ae bI.o aT);clear aT ta tr
 go_wp2_with fail
 go_ret
 exact⟨rfl,cf.o⟩
def WS(s:Sys) (lr:List Int) (r:Ending):Prop:=∃ x:Int,r=.returned (.tuple #[.bool (solB s lr),.int .i64 x,.int .i64 0])
theorem vK(tmps:Array Value) (W:World) (b:Bool) (x e:Int) (h4:tmps[4]?.getD undef=.bool b) (h5:tmps[5]?.getD undef=.int .i64 x) (h6:tmps[6]?.getD undef=.int .i64 e):(results Tryz.f32 tmps).run Tryz.prog W=.ok (.tuple #[.bool b,.int .i64 x,.int .i64 e]) W:=by
 simp[results,Tryz.results32,go_sem,h4,h5,h6]
theorem Nx(s:Sys) (hv:verifyE s=0) (hN:movesN s.prob.a.states<1099511627776) (lr:List Int) (hf:FormOk s lr) (vc vs vt ve vr:Value) (w:World) (cA:IsSys w s vc vs vt ve) (hr:aQ w vr lr) :
  Calls Tryz.prog 32 #[.agg (bL s.prob vc vs s.n vt ve),.agg #[vr]] w fun r w'=>WS s lr r/\Below w.heap.size w w':=by
 have hs:=gE hv;have HS:=aa cA;have HR:=aa hr;have gr:=aa (fun W (hb:Below w.heap.size w W)=>K6 s hv hN lr hf vc vs vt ve vr W (cA.up hb) (hr.up up_int hb));have Ka:=aa (fun k (hk:k<eS s) W (hb:Below w.heap.size w W)=>G' s hs lr hf.len k hk vc vs vt ve vr W (cA.up hb) (hr.up up_int hb));have hn:=hs.n
 have QJ:=aa (fun k (hk:k<eS s) (i:Nat) (LO:(cH s k).c=i) vo W (hb:Below w.heap.size w W) (ho:aQ W vo (rdecS s lr k))=>(show Calls Tryz.prog 66 #[.agg #[.int .i64 s.prob.t.n,.int .i64 s.prob.t.ins,.int .i64 s.prob.t.outs,vc],.int .i64 i,.int .i64 (fltS s k),vo] W fun r w'=>r=.returned (.tuple #[.bool (rpermB s lr k),.int .i64 0])/\Below W.heap.size W w' from by
  have hc:=hs.cas k hk;have rg:=hs.flt k hk;have gL:i<s.prob.t.cases.length:=by have:=hc.2;rw[LO,Int.toNat_natCast]at this;exact this
  have cC:(rdecS s lr k).length=nS s:=by simp[rdecS]
  have BA:fltS s k<32:=by
   have h4:(2:Int) ^ nS s<=2 ^ 5:=by
    have h6:(2:Nat) ^ nS s<=2 ^ 5:=Nat.pow_le_pow_right (by omega) hn.2.1
    exact_mod_cast h6
   have:(2:Int) ^ 5=32:=by decide
   omega
  have Kl:s.prob.t.n.toNat=nS s:=by rw[hn.2.2.2];simp
  have vZ:gI s.prob.t i (fltS s k)=0:=by
   unfold gI;rw[if_neg (by have:=(pS hs.prob).1;omega),if_neg (by omega),if_neg (by rw[Kl];omega)]
  have h:=EN s.prob.t vc i (fltS s k) (rdecS s lr k) vo W (cA.cases.up up_case hb) ho vZ (by rw[cC,hn.2.2.2]) (fun x hx=>by
   obtain⟨p,hp,rfl⟩:=List.mem_map.1 hx;have hp:=List.mem_range.1 hp;have hff:=iH hs hk hp
   exact hf.rng _ (by rw[hf.len];omega)) (by rw[cC];exact hn.2.1) ⟨rg.1,BA⟩ gL (fun v DM=>by
   rw[cC];refine((vf hs hk).2 v ?_).1;unfold vecE;rw[LO,Int.toNat_natCast]
   exact DM)
  have e1:fm (s.prob.t.cases.getD i default) (fltS s k)=vecE s k:=by unfold vecE;rw[LO,Int.toNat_natCast]
  rw[e1]at h
  exact h))
 have wm:=aa (fun k (hk:k<eS s)=>gy hs cA.ex hk);have oC:=aa (fun k (hk:k<eS s)=>(hs.cas k hk).1);have vN:s.prob.rounds.toNat<=6:=by have:=hs.rounds;omega
 have hm4:=hs.count;have DU:am (solB s lr=!anyLt (eS s) fun e=>!rpermB s lr e):=aa rfl;obtain⟨⟨qc,kc,rfl⟩,⟨qs,ks,rfl⟩,⟨qt,kt,rfl⟩,⟨qe,ke,rfl⟩⟩:=bD cA;obtain⟨pR,cR,rfl,-⟩:=hr.at;have rY:s.ex.length=eS s:=rfl;rw[rY]at gr Ka wm ⊢;obtain⟨m,hm⟩:∃ m,eS s=m:=⟨_,rfl⟩;rw[hm]at gr Ka QJ wm oC DU hm4 ⊢;generalize solB s lr=sb at DU
 have fk:am (∀ k,k<m->rpermB s lr k=false->solB s lr=false):=aa fun k hk h=>by
  unfold solB;rw[hm,Bool.not_eq_false'];exact dN _ k _ hk (by rw[h];rfl)
 have ju:am ((∀ k,k<m->rpermB s lr k=true)->solB s lr=true):=aa fun h=>by
  unfold solB;rw[hm,Bool.not_eq_true',dG];intro k hk;rw[h k hk];rfl
 generalize s.prob.t.cases.length=nc at gr Ka QJ ⊢;generalize s.prob.a.states.length=ns,s.tab.length=nt,lr.length=mr at gr Ka ⊢;generalize s.prob.rounds.toNat=rr at wm vN;have ph:am True:=aa trivial;clear cA hr hv hf hN hs rY hm hn DU sb HS HR
 go_enter Tryz.func32,Tryz.ntmps32
 go_wp2_with fail
 refine aO (fun W=>Below w.heap.size w W/\(∃ c,W.heap[w.heap.size]?=some (.cells c 35)/\c=bL s.prob (.slice qc nc kc) (.slice qs ns ks) s.n (.slice qt nt kt) (.slice qe m ke))/\W.heap[w.heap.size+1]?=some (.cells #[.slice pR mr cR] 49)) ⟨by go_grown,⟨_,ar _ (ap _ _),rfl⟩,aZ _ _ _⟩ (fun W0 aX=>?_);obtain⟨aG,⟨_,bB,rfl⟩,eB⟩:=aX;refine(gr.o W0 aG).mono ?_;rintro r w1 ⟨rfl,aK⟩;have bI:=aa (ae aG aK);have du:=aa (af aK bB);have cO:=aa (af aK eB);have ta:=ab du.o;clear aG bB eB aK gr
 go_wp2_with fail
 clear ta
 go_loopw [21] (fun i wr=>Below w1.heap.size w1 wr/\∃ k:Nat,k<=m/\i=.int .i64 k/\∀ j,j<k->rpermB s lr j=true) (fun i _=>m - (intOf i).toNat)
 ·exact⟨Below.refl _ _,0,by omega,rfl,fun j hj=>by omega⟩
 ·
  obtain⟨aA,k,hk,rfl,fY⟩:=hrel;have nr:=aa fY;have aV:=aa aA;have dz:=aa (ae bI.o aA);have Be:=aa (af aA du.o);have ph:=aa (af aA cO.o);clear aA fY;by_cases qE:k<m
  ·obtain⟨b,o,_,ce',e0,rfl,pw,nw,cw,pv,cv,c0,c1,c2,li,eV,fU,-⟩:=wm.o k qE;injection e0 with e01 e02 e03
   subst e01 e03;have c0:=ak dz.o c0;have c1:=ak dz.o c1;have c2:=ak dz.o c2;have sA:=oC.o k qE;obtain⟨ic,Yf⟩:∃ ic:Nat,(cH s k).c=ic:=⟨(cH s k).c.toNat,by omega⟩;have xO:=aa (QJ.o k qE ic Yf);have LF:=aa (Ka.o k qE);have oE:=aa (fun W (hb:Below w.heap.size w W) (xd:nw<=6)=>I7 (cH s k).c (fltS s k) pw nw cw (.slice pv (rr+1) cv) W xd (fun h=>by obtain⟨b1,o1,e1,h1⟩:=eV h;exact⟨b1,o1,e1,ak hb h1⟩) fU);rw[Yf]at c0 oE;have HN6:am (nw<=6):=aa (by omega);have lH:=aa (fk.o k qE)
   have dr:am (rpermB s lr k=true->∀ j,j<k+1->rpermB s lr j=true):=aa fun h j hj=>by
    rcases Nat.lt_succ_iff_lt_or_eq.1 hj with h2|h2
    ·exact nr.o j h2
    ·subst h2;exact h
   generalize fltS s k=f at xO oE;generalize rpermB s lr k=pb at xO lH dr;generalize rdecS s lr k=D at xO LF;obtain⟨r1,xR⟩:∃ r1,rr+1=r1:=⟨_,rfl⟩;rw[xR]at c2 oE;clear e02 eV fU sA Yf li xR
   go_wp2_with fail
   refine bC (fun W=>Below wr.heap.size wr W/\W.heap[wr.heap.size]?=some (.cells #[.int .i64 (ic:Nat),.slice pw nw cw,.slice pv r1 cv] 89)) ⟨by go_grown,ap _ _⟩ (fun W2 eI=>?_);have cf:=aa (ae dz.o eI.1);have fN:=aa eI.2;have HBR2:=aa (ae aV.o eI.1);have oT:=aa (af eI.1 Be.o);have eh:=aa (af eI.1 ph.o);clear eI c0 c1 c2;obtain⟨wrA,lg⟩:∃ x,x=wr:=⟨_,rfl⟩;subst lg
   go_wp2_with fail
   have hS:List.Nodup [27,28,29,30,31,32,33,34,35,36,37,38,26,39,40,10,11]:=by decide
   refine uV 17 [27,28,29,30,31,32,33,34,35,36,37,38,26,39,40,10,11] [MP.eq (.pointer (some ⟨w.heap.size,0,none⟩)),MP.eq (.pointer (some ⟨w.heap.size,0,none⟩)),MP.eq (.agg #[.int .i64 s.prob.t.n,.int .i64 s.prob.t.ins,.int .i64 s.prob.t.outs,.slice qc nc kc]),MP.eq (.pointer (some ⟨wrA.heap.size,0,none⟩)),MP.eq (.int .i64 (ic:Nat)),MP.eq (.agg #[.int .i64 (ic:Nat),.slice pw nw cw,.slice pv r1 cv]),MP.eq (.int .i64 f),MP.eq (.agg #[.int .i64 s.prob.t.n,.int .i64 s.prob.t.ins,.int .i64 s.prob.t.outs,.slice qc nc kc,.int .i64 s.prob.a.n,.slice qs ns ks,.int .i64 s.prob.rounds,.int .i64 s.n,.slice qt nt kt,.slice (some ⟨b,o,none⟩) m ke]),MP.eq (.agg #[.slice pR mr cR]),MP.eq (.int .i64 (k:Nat)),TS D,MP.eq (.tuple #[.bool pb,.int .i64 0]),MP.eq (.tuple #[.bool pb,.int .i64 0]),MP.eq (.bool pb),MP.eq (.int .i64 0),MP.eq (.bool pb),MP.eq (.int .i64 0)] (by kernel_rfl) rfl hS rfl (by kernel_rfl) ?step ?tail
   case step=>
    intro xq Wq iq oq sq F hi ho hs hB aq hF;rcases (show iq=0\/iq=1\/iq=2\/iq=3\/iq=4\/iq=5\/iq=6\/iq=7\/iq=8\/iq=9\/iq=10\/iq=11\/iq=12\/iq=13\/iq=14\/iq=15\/iq=16 by omega) with rfl|rfl|rfl|rfl|rfl|rfl|rfl|rfl|rfl|rfl|rfl|rfl|rfl|rfl|rfl|rfl|rfl
    all_goals (obtain rfl:=dy ho.symm;obtain rfl:=dy hs.symm;clear hi ho hs)
    ·obtain⟨g2,h2⟩:=cJ hF 2 (.pointer (some ⟨w.heap.size,0,none⟩)) (by decide) rfl;clear hF aq
     go_wp2_with fail
     exact bh.mk _ (Below.refl _ _) rfl rfl
    ·obtain⟨e0,f0⟩:=aS hF 0 27 _ hS rfl (by kernel_rfl) (aq ⟨0,.data⟩ (by simp) rfl);clear hF aq
     go_wp2_with fail
     exact bh.mk _ (Below.refl _ _) rfl rfl
    ·obtain⟨e1,f1⟩:=aS hF 1 28 _ hS rfl (by kernel_rfl) (aq ⟨1,.data⟩ (by simp) rfl);have tb:=ab (af hB oT.o);clear hF aq
     go_wp2_with fail
     exact bh.mk _ (Below.refl _ _) rfl rfl
    ·obtain⟨g9,h9⟩:=cJ hF 9 (.pointer (some ⟨wrA.heap.size,0,none⟩)) (by decide) rfl;clear hF aq
     go_wp2_with fail
     exact bh.mk _ (Below.refl _ _) rfl rfl
    ·obtain⟨e3,f3⟩:=aS hF 3 30 _ hS rfl (by kernel_rfl) (aq ⟨3,.data⟩ (by simp) rfl);have tb:=ab (af hB fN.o) 0;simp at tb;clear hF aq
     go_wp2_with fail
     exact bh.mk _ (Below.refl _ _) rfl rfl
    ·obtain⟨g9,h9⟩:=cJ hF 9 (.pointer (some ⟨wrA.heap.size,0,none⟩)) (by decide) rfl;have tb:=ab (af hB fN.o);clear hF aq
     go_wp2_with fail
     exact bh.mk _ (Below.refl _ _) rfl rfl
    ·obtain⟨e5,f5⟩:=aS hF 5 32 _ hS rfl (by kernel_rfl) (aq ⟨5,.data⟩ (by simp) rfl);clear hF aq
     go_wp2_with fail
     refine(oE.o Wq (ae cf.o hB) HN6.o).mono ?_;rintro r w9 ⟨rfl,dU⟩
     go_wp2_with fail
     exact bh.mk (.int .i64 f) dU rfl rfl
    ·obtain⟨g2,h2⟩:=cJ hF 2 (.pointer (some ⟨w.heap.size,0,none⟩)) (by decide) rfl;have tb:=ab (af hB oT.o);clear hF aq
     go_wp2_with fail
     exact bh.mk _ (Below.refl _ _) rfl rfl
    ·obtain⟨g3,h3⟩:=cJ hF 3 (.pointer (some ⟨w.heap.size+1,0,none⟩)) (by decide) rfl;have tb:=ab (af hB eh.o);clear hF aq
     go_wp2_with fail
     exact bh.mk _ (Below.refl _ _) rfl rfl
    ·obtain⟨g8,h8⟩:=cJ hF 8 (.int .i64 (k:Nat)) (by decide) rfl;clear hF aq
     go_wp2_with fail
     exact bh.mk _ (Below.refl _ _) rfl rfl
    ·obtain⟨e7,f7⟩:=aS hF 7 34 _ hS rfl (by kernel_rfl) (aq ⟨7,.data⟩ (by simp) rfl);obtain⟨e8,f8⟩:=aS hF 8 35 _ hS rfl (by kernel_rfl) (aq ⟨8,.data⟩ (by simp) rfl);obtain⟨e9,f9⟩:=aS hF 9 36 _ hS rfl (by kernel_rfl) (aq ⟨9,.data⟩ (by simp) rfl);clear hF aq
     go_wp2_with fail
     refine(LF.o Wq (ae cf.o hB)).mono ?_;rintro r w9 ⟨u9,rfl,F',dU⟩;have Ri:=aa F';clear F'
     go_wp2_with fail
     exact bh.mk _ dU Ri.o rfl
    ·obtain⟨e2,f2⟩:=aS hF 2 29 _ hS rfl (by kernel_rfl) (aq ⟨2,.data⟩ (by simp) rfl);obtain⟨e4,f4⟩:=aS hF 4 31 _ hS rfl (by kernel_rfl) (aq ⟨4,.data⟩ (by simp) rfl);obtain⟨e6,f6⟩:=aS hF 6 33 _ hS rfl (by kernel_rfl) (aq ⟨6,.data⟩ (by simp) rfl);have d10:=aq ⟨10,.data⟩ (by simp) rfl;have D10:am (aQ Wq (xq 10) D):=aa d10;clear d10;obtain⟨e10,f10⟩:=aS hF 10 37 _ hS rfl (by kernel_rfl) rfl;clear hF aq
     go_wp2_with fail
     refine(xO.o _ Wq (ae cf.o hB) D10.o).mono ?_;rintro r w9 ⟨rfl,dU⟩
     go_wp2_with fail
     exact bh.mk (.tuple #[.bool pb,.int .i64 0]) dU rfl rfl
    ·obtain⟨e11,f11⟩:=aS hF 11 38 _ hS rfl (by kernel_rfl) (aq ⟨11,.data⟩ (by simp) rfl);clear hF aq
     go_wp2_with fail
     exact bh.mk _ (Below.refl _ _) rfl rfl
    ·obtain⟨e12,f12⟩:=aS hF 12 26 _ hS rfl (by kernel_rfl) (aq ⟨12,.data⟩ (by simp) rfl);clear hF aq
     go_wp2_with fail
     exact bh.mk _ (Below.refl _ _) rfl rfl
    ·obtain⟨e12,f12⟩:=aS hF 12 26 _ hS rfl (by kernel_rfl) (aq ⟨12,.data⟩ (by simp) rfl);clear hF aq
     go_wp2_with fail
     exact bh.mk _ (Below.refl _ _) rfl rfl
    ·obtain⟨e13,f13⟩:=aS hF 13 39 _ hS rfl (by kernel_rfl) (aq ⟨13,.data⟩ (by simp) rfl);clear hF aq
     go_wp2_with fail
     exact bh.mk _ (Below.refl _ _) rfl rfl
    ·obtain⟨e14,f14⟩:=aS hF 14 40 _ hS rfl (by kernel_rfl) (aq ⟨14,.data⟩ (by simp) rfl);clear hF aq
     go_wp2_with fail
     exact bh.mk _ (Below.refl _ _) rfl rfl
   case tail=>
    clear hS;intro xq W3 F hB aU hF;have e15:xq 15=.bool pb:=aU 15 (by omega);have e16:xq 16=.int .i64 0:=aU 16 (by omega);clear aU;simp only[bA,cW,List.setIfInBounds_toArray,List.set_cons_succ,List.set_cons_zero,Nat.reduceAdd]at hF;rw[e15,e16]at hF;generalize xq 0=s0,xq 1=s1,xq 2=s2,xq 3=s3,xq 4=s4,xq 5=s5,xq 6=s6,xq 7=s7,xq 8=s8,xq 9=s9,xq 10=s10,xq 11=s11,xq 12=s12,xq 13=s13,xq 14=s14 at hF;subst hF;have dE:=aa (ae cf.o hB);have eE:=aa (ae HBR2.o hB);clear e15 e16 hB;cases pb with
    | false=>
     have HF:=aa (lH.o rfl)
     go_wp2_with fail
     exact bodyPost_ret (vK _ _ false k 0 rfl rfl rfl) rfl ⟨⟨k,by rw[HF.o]⟩,dE.o⟩
    | true=>
     have WU:=aa (dr.o rfl)
     go_wp2_with fail
     go_roundw
     ·exact⟨eE.o,k+1,by omega,by go_num,WU.o⟩
     ·simp[intOf];omega
  ·obtain rfl:k=m:=by omega
   have HT:=aa (ju.o nr.o)
   go_wp2_with fail
   exact bodyPost_ret (vK _ _ true 0 0 rfl rfl rfl) rfl ⟨⟨0,by rw[HT.o]⟩,dz.o⟩
theorem Ar(p:Pb) (lr:List Int) (vc vs vr:Value) (w:World) (hT:iF w) (hc:bM w vc p.t.cases) (hs:bu w vs p.a.states) (hr:aQ w vr lr) :
  Calls Tryz.prog 8 #[nX p vc vs,.agg #[vr]] w fun r w'=>r=.returned (.bool true)/\Below w.heap.size w w':=by
 have GC:=aa hc;have GS:=aa hs;have HT:=aa hT;have Ur:=aa (fun W (hb:Below w.heap.size w W)=>Jc W (HT.o.up hb));have jH:=aa (fun W (hb:Below w.heap.size w W)=>Nw p vc vs W (GC.o.up up_case hb) (GS.o.up up_moves hb));obtain⟨pc,cc,rfl,_⟩:=hc.at;obtain⟨ps,cs,rfl,_⟩:=hs.at;have HR:=aa hr;obtain⟨pR,cR,rfl,-⟩:=hr.at;clear hc hs hT GC GS hr;obtain⟨nc,ig⟩:∃ nc,p.t.cases.length=nc:=⟨_,rfl⟩;obtain⟨ns,oK⟩:∃ ns,p.a.states.length=ns:=⟨_,rfl⟩;rw[ig,oK]at jH ⊢;clear ig oK
 go_enter Tryz.func8,Tryz.ntmps8
 go_wp2_with fail
 refine aO (fun W=>Below w.heap.size w W/\W.heap[w.heap.size+1]?=some (.cells #[.slice pR lr.length cR] 49)) ⟨by go_grown,aZ _ _ _⟩ (fun W0 aX=>?_);obtain⟨aG,eB⟩:=aX;refine(jH.o W0 aG).mono ?_;rintro r w1 ⟨hscn,aK⟩;have bI:=aa (ae aG aK);have cO:=aa (af aK eB);obtain⟨mr,Ua⟩:∃ mr,lr.length=mr:=⟨_,rfl⟩;have HMR:=aa Ua;rw[Ua]at HR cO;rw[Ua];clear aG aK jH eB Ua;rcases hscn with ⟨j0,i1,i2,i4,i6,i7,a3,a5,a8,a9,n3,n5,n8,n9,c3,c5,c8,c9,rfl⟩|⟨vt,ve,rfl,cA,h0,kg,hf⟩
 ·have HG:am (∀ o:Obj,Below w.heap.size w (w1.alloc o)):=aa fun o=>bI.o.alloc bI.o.size _
  go_wp2_with fail
  refine aO (fun W=>Below w.heap.size w W) (HG.o _) (fun W2 aT=>?_);refine(Ur.o W2 aT).mono ?_;rintro r w3 ⟨rfl,bG⟩;have dE:=aa (ae aT bG);clear aT bG
  go_wp2_with fail
  go_ret
  exact⟨rfl,dE.o⟩
 have HS:=aa cA;obtain⟨_,_,⟨qt,kt,rfl⟩,⟨qe,ke,rfl⟩⟩:=bD cA;have eN:=FR kg;have hE:=FY hf h0;have Bh:movesN p.a.states<1099511627776:=by have:=qg hf;omega
 obtain⟨SV,hagr⟩:=Fs kg;obtain⟨ls,hfw⟩:=Wc kg hE;have HRE:=aa kg;have dD:=aa eN;have GK:am (∀ W,Below w1.heap.size w1 W->Calls Tryz.prog 18 #[.agg (bL p (.slice pc nc cc) (.slice ps ns cs) p.t.n (.slice qt (aF p).tab.length kt) (.slice qe (aF p).ex.length ke))] W fun r w'=>WM (ls,!decide (hZ (aF p)<0),0) r w'/\Below W.heap.size W w'):=aa (fun W hb=>by rw[<-hfw];exact FU (aF p) (by omega) _ _ _ _ W (HT.o.up (ae bI.o hb)) (HS.o.up hb) Bh);have gr:am (∀ W,Below w1.heap.size w1 W->Calls Tryz.prog 31 #[.agg (bL p (.slice pc nc cc) (.slice ps ns cs) p.t.n (.slice qt (aF p).tab.length kt) (.slice qe (aF p).ex.length ke)),.agg #[.slice pR mr cR]] W fun r w'=>(∃ e,r=.returned (.int .i64 e)/\(e=0->FormOk (aF p) lr))/\Below W.heap.size W w'):=aa (fun W hb=>K5 (aF p) SV (show movesN p.a.states<_ by omega) (vH hf) lr _ _ _ _ _ W (HS.o.up hb) (HR.o.up up_int (ae bI.o hb)));have oZ:am (FormOk (aF p) lr->∀ W,Below w1.heap.size w1 W->Calls Tryz.prog 32 #[.agg (bL p (.slice pc nc cc) (.slice ps ns cs) p.t.n (.slice qt (aF p).tab.length kt) (.slice qe (aF p).ex.length ke)),.agg #[.slice pR mr cR]] W fun r w'=>WS (aF p) lr r/\Below W.heap.size W w'):=aa (fun GJ W hb=>Nx (aF p) SV Bh lr GJ _ _ _ _ _ W (HS.o.up hb) (HR.o.up up_int (ae bI.o hb)))
 have iT:am (∀ W,Below w1.heap.size w1 W->Calls Tryz.prog 13 #[.agg (bL p (.slice pc nc cc) (.slice ps ns cs) p.t.n (.slice qt (aF p).tab.length kt) (.slice qe (aF p).ex.length ke))] W fun r w'=>∃ u,r=.returned (.tuple #[u,.int .i64 0])/\aQ w' u (choiceS (aF p))/\Below W.heap.size W w'):=aa (fun W hb=>by
  have h:=CW (aF p) (by omega) _ _ _ _ W (HT.o.up (ae bI.o hb)) (HS.o.up hb) Bh;have e:choiceR (aF p)=(choiceS (aF p),0):=by unfold choiceR;rw[if_neg (by omega)]
  rw[e]at h
  exact h)
 have nz:am (∀ x:Nat,x<eS (aF p)->∀ W,Below w1.heap.size w1 W->Calls Tryz.prog 11 #[.agg (bL p (.slice pc nc cc) (.slice ps ns cs) p.t.n (.slice qt (aF p).tab.length kt) (.slice qe (aF p).ex.length ke)),.int .i64 x] W fun r w'=>∃ u,r=.returned (.tuple #[u,.int .i64 0])/\aQ w' u (valuesS (aF p) x)/\Below W.heap.size W w'):=aa (fun x hx W hb=>by
  have h:=CV (aF p) x (by omega) _ _ _ _ W (HS.o.up hb) Bh;have e:valuesR (aF p) (x:Int)=(valuesS (aF p) x,0):=by unfold valuesR;rw[if_neg (by omega),if_neg (by omega),Int.toNat_natCast]
  rw[e]at h
  exact h)
 have iu:am (solB (aF p) lr=true->(!decide (hZ (aF p)<0))=false):=aa fun h=>by rw[decide_eq_true (Nm eN hagr h)];rfl
 have UX:am ((choiceS (aF p)).contains (-1)=!decide (hZ (aF p)<0)):=aa No;have HCV:am (∀ x,x<eS (aF p)->0<=(choiceS (aF p)).getD x 0->(valuesS (aF p) x).contains ((choiceS (aF p)).getD x 0)=true):=aa fun x hx h=>Nn hx h
 have jR:am ((choiceS (aF p)).length=eS (aF p)):=aa (by simp[choiceS]);have hE2:=hE;have rY:(aF p).ex.length=eS (aF p):=rfl;rw[rY]at GK gr oZ iT nz ⊢;obtain⟨ne,bK⟩:∃ ne,eS (aF p)=ne:=⟨_,rfl⟩;rw[bK]at GK gr oZ iT nz HCV jR hE2 ⊢;generalize (aF p).tab.length=nt at GK gr oZ iT nz ⊢;generalize (!decide (hZ (aF p)<0))=fb at GK iu UX;clear cA h0 kg hf eN Bh hfw hE SV hagr rY bK;have te:=ab (ap w1 (.cells #[.int .i64 p.t.n,.int .i64 p.t.ins,.int .i64 p.t.outs,.slice pc nc cc,.int .i64 p.a.n,.slice ps ns cs,.int .i64 p.rounds,.int .i64 p.t.n,.slice qt nt kt,.slice qe ne ke] 35));have tr:=fun o=>ab (ar o cO.o) 0
 have trr:=fun o=>ab (ar o cO.o)
 simp at tr;by_cases h2000:2000<mr
 ·have hd:decide ((2000:Int)<(mr:Int))=true:=decide_eq_true (by omega);have HG:am (∀ o:Obj,Below w.heap.size w (w1.alloc o)):=aa fun o=>bI.o.alloc bI.o.size _
  clear GK gr oZ iT nz h2000
  go_wp2_with fail
  refine aO (fun W=>Below w.heap.size w W) (HG.o _) (fun W2 aT=>?_);refine(Ur.o W2 aT).mono ?_;rintro r w3 ⟨rfl,bG⟩;have dE:=aa (ae aT bG);clear aT bG
  go_wp2_with fail
  go_ret
  exact⟨rfl,dE.o⟩
 have hd:decide ((2000:Int)<(mr:Int))=false:=decide_eq_false (by omega)
 go_wp2_with fail
 clear te tr trr hd h2000;refine aO (fun W=>Below w1.heap.size w1 W/\W.heap[w1.heap.size]?=some (.cells #[.int .i64 p.t.n,.int .i64 p.t.ins,.int .i64 p.t.outs,.slice pc nc cc,.int .i64 p.a.n,.slice ps ns cs,.int .i64 p.rounds,.int .i64 p.t.n,.slice qt nt kt,.slice qe ne ke] 35)) ⟨by go_grown,ap _ _⟩ (fun W2 eI=>?_);obtain⟨aT,Qs⟩:=eI;refine(gr.o W2 aT).mono ?_;rintro r w3 ⟨⟨e,rfl,GJ⟩,bG⟩;have dE:=aa (ae aT bG);have jb:=aa (af bG Qs);have fT:=aa (af (ae aT bG) cO.o);clear aT Qs bG gr cO;by_cases he:e=0
 case neg=>
  have bK:(e != 0)=true:=by simpa using he
  clear he GJ GK oZ iT nz
  go_wp2_with fail
  refine(Ur.o w3 (ae bI.o dE.o)).mono ?_;rintro r w4 ⟨rfl,bS⟩;have eE:=aa (ae (ae bI.o dE.o) bS);clear bS
  go_wp2_with fail
  go_ret
  exact⟨rfl,eE.o⟩
 have HSV2:=aa (oZ.o (GJ he));subst he;have tx:=ab jb.o;have tr:=ab fT.o;clear oZ GJ
 go_wp2_with fail
 clear tx tr;refine(HSV2.o w3 dE.o).mono ?_;rintro r w4 ⟨⟨sx,rfl⟩,bS⟩;have eE:=aa (ae dE.o bS);have jF:=aa (af bS jb.o);clear bS HSV2 jb fT dE;generalize solB (aF p) lr=sb at iu ⊢;have tx:=ab jF.o
 go_wp2_with fail
 clear tx;refine(GK.o w4 eE.o).mono ?_;rintro r w5 ⟨⟨u,rfl,hu⟩,dS⟩;dsimp only at hu ⊢;obtain⟨aL,cL,rfl,-⟩:=hu.at;have mx:=aa (ae eE.o dS);have DG:=aa (af dS jF.o);clear dS hu GK jF;generalize (if fb=true then(1:Int) else 0)=ck;generalize ls.length=nl;have tx:=fun o=>ab (ar o DG.o)
 go_wp2_with fail
 clear tx;refine aO (fun W=>Below w5.heap.size w5 W) (by go_grown) (fun W6 gz=>?_);refine(iT.o W6 (ae mx.o gz)).mono ?_;rintro r w7 ⟨u7,rfl,Gn,xV⟩;obtain⟨a7,c7,rfl,e7⟩:=cV Gn;have Ta:=ae gz xV;have Xt:=aa (ae mx.o Ta);have DK:=aa (af Ta DG.o);have HU7:=aa Gn;rw[jR.o]at HU7 e7 ⊢;have HE7:=aa e7;have X3:am (sb=true->fb=false):=iu;clear gz xV Ta Gn e7 iT DG iu;have tx:=ab DK.o;cases sb
 case' true=>
  have Q7:=X3.o rfl;subst Q7;clear X3
  go_wp2_with fail
 case' false=>
  clear X3
  go_wp2_with fail
 all_goals
  clear tx
  go_loopw [79] (fun i wr=>Below w7.heap.size w7 wr/\∃ k:Nat,k<=ne/\i=.int .i64 k) (fun i _=>ne - (intOf i).toNat)
  ·exact⟨Below.refl _ _,0,by omega,rfl⟩
  ·
   obtain⟨aA,k,hk,rfl⟩:=hrel;have aV:=aa aA;have dz:=aa (ae Xt.o aA);have HXR:=aa (af aA DK.o);clear aA;by_cases vV:k<ne
   ·obtain⟨b7,o7,rfl,c1⟩:=HE7.o k vV;have c1:=ak aV.o c1;have X6:=aa (nz.o k vV);have gr:=aa (HCV.o k vV);generalize (choiceS (aF p)).getD k 0=v at c1 gr;generalize valuesS (aF p) k=vl at X6 gr;have tx:=ab HXR.o
    go_wp2_with fail
    clear tx c1;refine(X6.o wr dz.o).mono ?_;rintro r w8 ⟨u8,rfl,L7,AU⟩;have XL:=aa L7;obtain⟨a8,c8,rfl,-⟩:=L7.at;have UA:=aa (ae aV.o AU);clear L7 AU X6;by_cases Bi:0<=v
    ·have hd:decide ((0:Int)<=v)=true:=decide_eq_true Bi;have Kd:=aa (mS _ vl v w8 XL.o);rw[gr.o Bi]at Kd;clear Bi gr
     go_wp2_with fail
     refine Kd.o.mono ?_;rintro r w9 ⟨rfl,dU⟩;have fr:=aa (ae UA.o dU);clear dU Kd
     go_wp2_with fail
     go_roundw
     ·exact⟨fr.o,k+1,by omega,by go_num⟩
     ·simp[intOf];omega
    ·have hd:decide ((0:Int)<=v)=false:=decide_eq_false Bi;clear Bi gr
     go_wp2_with fail
     go_roundw
     ·exact⟨UA.o,k+1,by omega,by go_num⟩
     ·simp[intOf];omega
   ·obtain rfl:k=ne:=by omega
    have Kd:=aa (mS _ (choiceS (aF p)) (-1) wr (HU7.o.up up_int aV.o));rw[UX.o]at Kd
    go_wp2_with fail
    refine Kd.o.mono ?_;rintro r w9 ⟨rfl,dU⟩;have fr:=aa (ae dz.o dU);clear dU Kd
    go_wp2_with fail
    refine(Ur.o w9 (ae bI.o fr.o)).mono ?_;rintro r wa ⟨rfl,hba⟩;have A7:=aa (ae (ae bI.o fr.o) hba);clear hba
    go_wp2_with fail
    go_ret
    exact⟨rfl,A7.o⟩
end Go.Proofs.YtmeaoneaephjeaaGreatDoor
