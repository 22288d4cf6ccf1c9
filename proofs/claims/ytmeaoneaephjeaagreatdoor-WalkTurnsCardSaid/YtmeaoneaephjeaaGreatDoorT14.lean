/-
  A part of the proof: lemmas and contracts that the parts behind it use. Each one's conditions are its own premises.
-/
import Derived.Test.YtmeaoneaephjeaaGreatDoorT12
import Derived.Test.YtmeaoneaephjeaaGreatDoorT13
set_option maxRecDepth 100000
set_option maxHeartbeats 8000000
set_option linter.unusedVariables false
set_option linter.unusedSimpArgs false
namespace Go.Proofs.YtmeaoneaephjeaaGreatDoor
open Go.RowKit Go Go.Shelf
attribute [local go_sem] Oper.semAt_some
theorem Lc(a:Adv):∀ k,eF a k=dZ 4096 a k
 | 0=>rfl
 | k+1=>by
  show lK a (eF a k)=zn 4096 a (dZ 4096 a k)
  rw[Lc a k];rfl
theorem wY{p:Pb} (h:probE p=0):numberP p=p.t.cases.length * min ((aO p).length:Int) 4097:=by
 obtain⟨ht,ha,_,rU,qz⟩:=gD h;have hn:=rg (L:=4096) (by omega) p.a (fun s hs m hm=>(uS ha s hs m hm).2) (by have:=(hZ ha).1;omega) p.rounds.toNat;unfold numberP numberS;rw[Lc]
 show _ * numberL 4096 p.a p.rounds.toNat=_
 rw[hn];rfl
def uC(p:Pb):Prop:=probE p=0->p.t.cases.length * (aO p).length<=60\/4096<p.t.cases.length * (aO p).length
theorem Cu{p:Pb} (h:probE p=0):(4096:Int)<numberP p↔4096<p.t.cases.length * (aO p).length:=by
 have hc:=(fp (gD h).1).2.2.2.1;rw[wY h];generalize p.t.cases.length=a at hc ⊢;generalize (aO p).length=b;by_cases hb:b<=4097
 ·rw[Int.min_eq_left (by omega),<-Int.natCast_mul];omega
 ·have h1:1 * b<=a * b:=Nat.mul_le_mul_right b hc.1;have h2:1 * 4097<=a * 4097:=Nat.mul_le_mul_right 4097 hc.1;rw[Int.min_eq_right (by omega)];have h3:((a * 4097:Nat):Int)=(a:Int) * 4097:=by rw[Int.natCast_mul];rfl
  omega
theorem zA{p:Pb} (h:fewPB p=true):uC p:=fun h0=>by
 unfold fewPB at h;split at h
 ·cases h
 split at h
 ·cases h
 split at h
 ·cases h
 rw[if_neg (by simpa using h0)]at h;simp only[Bool.or_eq_true,decide_eq_true_eq]at h;rcases h with h|h
 ·by_cases hb:4096<p.t.cases.length * (aO p).length
  ·exact .inr hb
  ·left;have hc:=(fp (gD h0).1).2.2.2.1;rw[wY h0]at h;generalize p.t.cases.length=a at hc h hb ⊢;generalize (aO p).length=b at h hb ⊢;have h1:1 * b<=a * b:=Nat.mul_le_mul_right b hc.1;rw[Int.min_eq_left (by omega),<-Int.natCast_mul]at h;omega
 ·exact .inr ((Cu h0).1 h)
theorem pN(tmps:Array Value) (B:Nat) (W:World) (c0 c1 c2 c3 c4 c5 c6 c7 c8 c9:Value) (e:Int) (h2:tmps[2]?.getD undef=.pointer (some ⟨B,0,none⟩)) (h3:tmps[3]?.getD undef=.int .i64 e)
  (hB:W.heap[B]?=some (.cells #[c0,c1,c2,c3,c4,c5,c6,c7,c8,c9] 35)) :
  (results Tryz.f73 tmps).run Tryz.prog W=.ok (.tuple #[.agg #[c0,c1,c2,c3,c4,c5,c6,c7,c8,c9],.int .i64 e]) W:=by
 have t2:=ab hB;simp[results,Tryz.results73,go_sem,h2,h3,t2]
def zB(p:Pb) (vc vs vt ve:Value) (base:Nat) (w':World):Prop:=((∃ a c,vt=.slice a (aK p).tab.length c)/\∃ a c,ve=.slice a (aK p).ex.length c)/\∀ Wf:World,(∀ k,base<=k->k<w'.heap.size->Wf.heap[k]?=w'.heap[k]?)->bN Wf vc p.t.cases->bA Wf vs p.a.states->IsSys Wf (aK p) vc vs vt ve
def Ed(p:Pb) (vc vs:Value) (base:Nat) (r:Ending) (w':World):Prop:=∃ c,r=.returned (.tuple #[.agg c,.int .i64 (buildE p)])/\(buildE p=0->∃ vt ve,c=cj p vc vs p.t.n vt ve/\zB p vc vs vt ve base w')/\(buildE p≠0->c=zeroSys)
theorem VM{p:Pb} {vc vs:Value} {base:Nat} {w':World} {e:Int} (h:buildE p=e) (h0:e≠0):Ed p vc vs base (.returned (.tuple #[.agg zeroSys,.int .i64 e])) w':=⟨zeroSys,by rw[h],fun h1=>absurd (h.symm.trans h1) h0,fun _=>rfl⟩
theorem wH(p:Pb) (vc vs:Value) (w:World) (hc:bN w vc p.t.cases) (hs:bA w vs p.a.states) (hN:movesN p.a.states<2305843009213693952) (hf:uC p) :
  Calls Tryz.prog 73 #[nN p vc vs] w fun r w'=>Ed p vc vs w.heap.size r w'/\Below w.heap.size w w':=by
 have GC:=aa hc;have GS:=aa hs;obtain⟨pc,cc,rfl,_⟩:=hc.at;obtain⟨ps,cs,rfl,_⟩:=hs.at;have kT:=aa (fun W (hb:Below w.heap.size w W)=>uU p _ _ W (GC.o.up up_case hb) (GS.o.up up_moves hb) hN);have Qs:=aa (fun (h:probE p=0) W (hb:Below w.heap.size w W)=>sH p _ _ W (GC.o.up up_case hb) (GS.o.up up_moves hb) h);have vK:=aa (fun (h:probE p=0) (h2:¬ 4096<p.t.cases.length * (aO p).length) W (hb:Below w.heap.size w W)=>M9 p _ _ W (GC.o.up up_case hb) (GS.o.up up_moves hb) h (by rcases hf h with h|h<;>omega));have oe:am (probE p≠0->buildE p=probE p):=aa fun h=>by unfold buildE;rw[if_pos h]
 have nr:am (probE p=0->4096<p.t.cases.length * (aO p).length->buildE p=17):=aa fun h h2=>by unfold buildE;rw[if_neg (by omega),if_pos h2]
 have C8:am (probE p=0->¬ 4096<p.t.cases.length * (aO p).length->buildE p=0/\(aK p).tab.length<=8192):=aa fun h h2=>by
  have h3:=sT h (p.t.cases.length * (aO p).length) (Nat.le_refl _);have e:stP p (p.t.cases.length * (aO p).length)=((aK p).tab,(aK p).ex):=by unfold stP;rw[List.take_of_length_le (by rw[iu];exact Nat.le_refl _)];rfl
  rw[e]at h3;dsimp only at h3;have h4:(aK p).tab.length<=8192:=by rcases hf h with h|h<;>omega
  exact⟨by unfold buildE;rw[if_neg (by omega),if_neg h2,if_neg (by omega)],h4⟩
 have Gd:=aa (fun h=>@Cu p h);have Ek:=aa (fun e (W:World) h h0=>@VM p (.slice pc p.t.cases.length cc) (.slice ps p.a.states.length cs) w.heap.size W e h h0);have J4:am (∀ vt ve W,buildE p=0->zB p (.slice pc p.t.cases.length cc) (.slice ps p.a.states.length cs) vt ve w.heap.size W->Ed p (.slice pc p.t.cases.length cc) (.slice ps p.a.states.length cs) w.heap.size (.returned (.tuple #[.agg (cj p (.slice pc p.t.cases.length cc) (.slice ps p.a.states.length cs) p.t.n vt ve),.int .i64 0])) W):=aa fun vt ve W h0 h=>⟨_,by rw[h0],fun _=>⟨vt,ve,rfl,h⟩,fun h1=>absurd h0 h1⟩
 clear hc hs hf;have LI:=aa hN;clear hN;obtain⟨pe,hpe⟩:∃ pe,probE p=pe:=⟨_,rfl⟩;rw[hpe]at kT Qs vK oe nr C8 Gd;obtain⟨nx,mx⟩:∃ nx,p.t.cases.length * (aO p).length=nx:=⟨_,rfl⟩;rw[mx]at vK nr C8 Gd;clear hpe mx;have vj:am ((∀ W,Below w.heap.size w W->bN W (.slice pc p.t.cases.length cc) p.t.cases)/\∀ W,Below w.heap.size w W->bA W (.slice ps p.a.states.length cs) p.a.states):=aa ⟨fun W hb=>GC.o.up up_case hb,fun W hb=>GS.o.up up_moves hb⟩;clear GC GS;generalize p.t.cases.length=nc,p.a.states.length=ns at kT Qs vK Ek J4 vj ⊢
 go_enter Tryz.func73,Tryz.ntmps73
 go_wp2_with fail
 refine aQ (fun W=>Below w.heap.size w W/\W.heap[w.heap.size]?=some (.cells #[.int .i64 p.t.n,.int .i64 p.t.ins,.int .i64 p.t.outs,.slice pc nc cc,.int .i64 p.a.n,.slice ps ns cs,.int .i64 p.rounds] 29)/\W.heap[w.heap.size+1]?=some (.cells zeroSys 35)) ⟨by go_grown,az _ (aq _ _),bz _ _ _⟩ (fun W0 bh=>?_);obtain⟨aJ,bK,gq⟩:=bh;refine(kT.o W0 aJ).mono ?_;rintro r w1 ⟨rfl,aM⟩;have bL:=aa (ae aJ aM);have dN:=aa (af aM bK);have dd:=aa (af aM gq);have fV:=aC dd.o;have tA:=ab dN.o;clear aJ bK gq aM kT;by_cases hz:pe=0
 case neg=>
  have HV:=aa (Ek.o pe (w1.setRow (w.heap.size+1) zeroSys) (oe.o hz) hz);have LZ:(pe != 0)=true:=by simpa using hz
  clear hz oe nr C8 Qs vK Gd J4 Ek
  go_wp2_with (refine wpList_store_row rfl 35 (.tmp 2) (.tmp 10) rfl (w.heap.size+1) zeroSys rfl rfl 35 _ dd.o (by kernel_rfl) rfl (by simp[Value.oneCell']) ?_)
  exact bodyPost_ret (pN _ (w.heap.size+1) _ _ _ _ _ _ _ _ _ _ _ pe rfl rfl (setRow_heap _ _ _ _ _ _ dd.o)) rfl ⟨HV.o,below_setRow bL.o (by omega) _⟩
 have ng:=aa (Qs.o hz);have QW:=aa (Gd.o hz);generalize numberP p=nn at ng QW;clear Qs Gd oe
 go_wp2_with fail
 refine(ng.o w1 bL.o).mono ?_;rintro r w2 ⟨rfl,aY⟩;have cV:=aa (ae bL.o aY);have tV:=aa (af aY dN.o);have eH:=aa (af aY dd.o);have iT:=aC eH.o;clear aY tA dN dd;by_cases wN:4096<nx
 ·have hd:decide ((4096:Int)<nn)=true:=decide_eq_true (QW.o.2 wN);have HV:=aa (Ek.o 17 (w2.setRow (w.heap.size+1) zeroSys) (nr.o hz wN) (by omega));clear hz wN nr C8 vK J4 Ek QW
  go_wp2_with (refine wpList_store_row rfl 35 (.tmp 2) (.tmp 15) rfl (w.heap.size+1) zeroSys rfl rfl 35 _ eH.o (by kernel_rfl) rfl (by simp[Value.oneCell']) ?_)
  exact bodyPost_ret (pN _ (w.heap.size+1) _ _ _ _ _ _ _ _ _ _ _ 17 rfl rfl (setRow_heap _ _ _ _ _ _ eH.o)) rfl ⟨HV.o,below_setRow cV.o (by omega) _⟩
 have hd:decide ((4096:Int)<nn)=false:=decide_eq_false (fun h=>wN (QW.o.1 h));have jw:=aa (vK.o hz wN);obtain⟨h0,LA⟩:=C8.o hz wN;have HZ:=aa h0;have tA:=ab tV.o;clear hz wN nr C8 vK Ek QW h0
 go_wp2_with fail
 refine(jw.o w2 cV.o).mono ?_;rintro r w3 ⟨vt,ve,rfl,⟨⟨at3,ct3,rfl⟩,ave,cve,rfl⟩,dy,bH⟩;have zi:=aa dy;have dX:=aa (ae cV.o bH);have HB23:=aa bH;have gk:=aa (af bH eH.o);have Jz:=aa (fun W=>J4.o (.slice at3 (aK p).tab.length ct3) (.slice ave (aK p).ex.length cve) W HZ.o);have QO:am (∀ Wf:World,_):=zi;obtain⟨nt,Ay⟩:∃ nt,(aK p).tab.length=nt:=⟨_,rfl⟩;obtain⟨ne,bP⟩:∃ ne,(aK p).ex.length=ne:=⟨_,rfl⟩;have JH:=aa Ay;have iG:=aa bP;rw[Ay]at LA zi Jz QO ⊢;rw[bP]at zi Jz QO ⊢;have hd8:decide ((8192:Int)<(nt:Int))=false:=decide_eq_false (by omega);have nj:=aC gk.o;have Jq:=bH.size;clear dy bH tA Ay bP J4 hd QO;have te:=ab (aq w3 (.cells #[.int .i64 p.t.n,.int .i64 p.t.ins,.int .i64 p.t.outs,.slice pc nc cc,.int .i64 p.a.n,.slice ps ns cs,.int .i64 p.rounds,.int .i64 p.t.n,.slice at3 nt ct3,.slice ave ne cve] 35));have rZ:Below w3.heap.size w3 (w3.alloc (.cells #[.int .i64 p.t.n,.int .i64 p.t.ins,.int .i64 p.t.outs,.slice pc nc cc,.int .i64 p.a.n,.slice ps ns cs,.int .i64 p.rounds,.int .i64 p.t.n,.slice at3 nt ct3,.slice ave ne cve] 35)):=by go_grown
 have Df:=aa rZ;have pk:=aa (af rZ gk.o);clear rZ
 go_wp2_with (refine wpList_store_row rfl 35 (.tmp 2) (.tmp 24) rfl (w.heap.size+1) #[.int .i64 p.t.n,.int .i64 p.t.ins,.int .i64 p.t.outs,.slice pc nc cc,.int .i64 p.a.n,.slice ps ns cs,.int .i64 p.rounds,.int .i64 p.t.n,.slice at3 nt ct3,.slice ave ne cve] rfl rfl 35 _ pk.o (by kernel_rfl) rfl (by simp[Value.oneCell']) ?_)
 refine bodyPost_ret (pN _ (w.heap.size+1) _ _ _ _ _ _ _ _ _ _ _ 0 rfl rfl (setRow_heap _ _ _ _ _ _ pk.o)) rfl ⟨Jz.o _ ⟨⟨⟨at3,ct3,by rw[JH.o]⟩,ave,cve,by rw[iG.o]⟩,fun Wf Jb h1 h2=>zi.o Wf (fun k hk mr=>?_) h1 h2⟩,below_setRow (ae dX.o Df.o) (by omega) _⟩;refine(Jb k (by omega) ?_).trans ?_
 ·exact Nat.lt_of_lt_of_le mr (Nat.le_trans Df.o.size (below_setRow (Below.refl (w.heap.size+1) _) (Nat.le_refl _) _).size)
 ·rw[setRow_other _ _ _ _ (by omega)];exact Df.o.block k mr
theorem IF(s:Sys) (h:buildE s.prob=0):verifyE s=if decide ((s.n=(aK s.prob).n/\s.tab=(aK s.prob).tab)/\s.ex=(aK s.prob).ex) then 0 else 3:=by
 unfold verifyE;rw[if_neg (by omega)];simp only[and_assoc,decide_eq_true_eq]
theorem Ee(s:Sys) (vc vs vt ve:Value) (w:World) (dy:IsSys w s vc vs vt ve) (hN:movesN s.prob.a.states<2305843009213693952) (hf:uC s.prob) :
  Calls Tryz.prog 63 #[.agg (cj s.prob vc vs s.n vt ve)] w fun r w'=>r=.returned (.int .i64 (verifyE s))/\Below w.heap.size w w':=by
 have HS:=aa dy;obtain⟨⟨qc,kc,rfl⟩,⟨qs,ks,rfl⟩,⟨qt,kt,rfl⟩,⟨qe,ke,rfl⟩⟩:=bM dy;have nZ:=aa (fun W (hb:Below w.heap.size w W)=>wH s.prob _ _ W (HS.o.cases.up up_case hb) (HS.o.states.up up_moves hb) hN hf);have mj:=aa (fun W (hb:Below w.heap.size w W) uc us ut ue (hz:IsSys W (aK s.prob) uc us ut ue)=>M3 s (aK s.prob) rfl _ _ _ _ uc us ut ue W (HS.o.up hb) hz);have ox:am (buildE s.prob≠0->verifyE s=buildE s.prob):=aa fun h=>by unfold verifyE;rw[if_pos h]
 have df:=aa (IF s);generalize verifyE s=vr at ox df ⊢;generalize decide ((s.n=(aK s.prob).n/\s.tab=(aK s.prob).tab)/\s.ex=(aK s.prob).ex)=sb at mj df;have F3:(aK s.prob).n=s.prob.t.n:=rfl;unfold Ed at nZ;rw[F3]at mj;have qr:am (∀ W uc us ut ue,IsSys W (aK s.prob) uc us ut ue->(∃ a c,uc=.slice a s.prob.t.cases.length c)/\(∃ a c,us=.slice a s.prob.a.states.length c)/\(∃ a c,ut=.slice a (aK s.prob).tab.length c)/\∃ a c,ue=.slice a (aK s.prob).ex.length c):=aa fun W uc us ut ue h=>bM h
 clear dy hN hf F3;obtain⟨be,la⟩:∃ be,buildE s.prob=be:=⟨_,rfl⟩;rw[la]at nZ ox df;clear la;obtain⟨nc,iI⟩:∃ nc,s.prob.t.cases.length=nc:=⟨_,rfl⟩;obtain⟨ns,oL⟩:∃ ns,s.prob.a.states.length=ns:=⟨_,rfl⟩;have vj:am ((∀ W,Below w.heap.size w W->bN W (.slice qc s.prob.t.cases.length kc) s.prob.t.cases)/\∀ W,Below w.heap.size w W->bA W (.slice qs s.prob.a.states.length ks) s.prob.a.states):=aa ⟨fun W hb=>HS.o.cases.up up_case hb,fun W hb=>HS.o.states.up up_moves hb⟩;rw[iI,oL]at nZ mj qr vj ⊢;clear iI oL;generalize s.tab.length=nt,s.ex.length=ne at mj ⊢
 go_enter Tryz.func63,Tryz.ntmps63
 go_wp2_with fail
 refine aQ (fun W=>Below w.heap.size w W/\∃ c,W.heap[w.heap.size]?=some (.cells c 35)/\c=cj s.prob (.slice qc nc kc) (.slice qs ns ks) s.n (.slice qt nt kt) (.slice qe ne ke)) ⟨by go_grown,_,aq _ _,rfl⟩ (fun W0 bh=>?_);obtain⟨aJ,_,bK,rfl⟩:=bh;refine(nZ.o W0 aJ).mono ?_;rintro r w1 ⟨⟨c,rfl,h1,h2⟩,aM⟩;have bL:=aa (ae aJ aM);have dN:=aa (af aM bK);clear aJ bK aM nZ;by_cases hz:be=0
 case neg=>
  have HV:=aa (ox.o hz);obtain rfl:=h2 hz;have LZ:(be != 0)=true:=by simpa using hz
  have hg:Below w.heap.size w (w1.alloc (.cells zeroSys 35)):=bL.o.alloc bL.o.size _;have HG:=aa hg;clear hz h1 h2 df mj hg
  go_wp2_with fail
  go_ret
  exact⟨aF HV.o.symm,HG.o⟩
 obtain⟨ut,ue,rfl,⟨⟨a3,c3,rfl⟩,a4,c4,rfl⟩,mU⟩:=h1 hz;have eM:=mU w1 (fun _ _ _=>rfl) (vj.o.1 w1 bL.o) (vj.o.2 w1 bL.o);have HZ:=aa eM;have Au:=aa (df.o hz);subst hz;obtain⟨mt,hmt⟩:∃ mt,(aK s.prob).tab.length=mt:=⟨_,rfl⟩;obtain⟨me,P8⟩:∃ me,(aK s.prob).ex.length=me:=⟨_,rfl⟩;rw[hmt,P8]at HZ ⊢;clear h1 h2 eM mU ox df qr hmt P8;have hg:Below w1.heap.size w1 (w1.alloc (.cells #[.int .i64 s.prob.t.n,.int .i64 s.prob.t.ins,.int .i64 s.prob.t.outs,.slice qc nc kc,.int .i64 s.prob.a.n,.slice qs ns ks,.int .i64 s.prob.rounds,.int .i64 s.prob.t.n,.slice a3 mt c3,.slice a4 me c4] 35)):=by go_grown
 have HG:=aa hg;have tA:=ab (af hg dN.o);have tB:=ab (aq w1 (.cells #[.int .i64 s.prob.t.n,.int .i64 s.prob.t.ins,.int .i64 s.prob.t.outs,.slice qc nc kc,.int .i64 s.prob.a.n,.slice qs ns ks,.int .i64 s.prob.rounds,.int .i64 s.prob.t.n,.slice a3 mt c3,.slice a4 me c4] 35));clear hg
 go_wp2_with fail
 refine(mj.o _ (ae bL.o HG.o) _ _ _ _ (HZ.o.up HG.o)).mono ?_;rintro r w2 ⟨rfl,aY⟩;have cV:=aa (ae (ae bL.o HG.o) aY);clear aY tA tB mj;cases sb with
 | true=>
  go_wp2_with fail
  go_ret
  exact⟨aF (by rw[Au.o];rfl),cV.o⟩
 | false=>
  go_wp2_with fail
  go_ret
  exact⟨aF (by rw[Au.o];rfl),cV.o⟩
theorem Ef(tmps:Array Value) (B:Nat) (W:World) (c0 c1 c2 c3 c4 c5 c6 c7 c8 c9:Value) (h2:tmps[2]?.getD undef=.pointer (some ⟨B,0,none⟩))
  (hB:W.heap[B]?=some (.cells #[c0,c1,c2,c3,c4,c5,c6,c7,c8,c9] 35)) :
  (results Tryz.f35 tmps).run Tryz.prog W=.ok (.agg #[c0,c1,c2,c3,c4,c5,c6,c7,c8,c9]) W:=by
 have t2:=ab hB;simp[results,Tryz.results35,go_sem,h2,t2]
theorem Cv(p:Pb) (vc vs:Value) (w:World) (hc:bN w vc p.t.cases) (hs:bA w vs p.a.states) (hN:movesN p.a.states<2305843009213693952) (hf:uC p) (h0:buildE p=0) :
  Calls Tryz.prog 35 #[nN p vc vs] w fun r w'=>∃ vt ve,r=.returned (.agg (cj p vc vs p.t.n vt ve))/\zB p vc vs vt ve w.heap.size w'/\Below w.heap.size w w':=by
 have GC:=aa hc;have GS:=aa hs;obtain⟨pc,cc,rfl,_⟩:=hc.at;obtain⟨ps,cs,rfl,_⟩:=hs.at;have nZ:=aa (fun W (hb:Below w.heap.size w W)=>wH p _ _ W (GC.o.up up_case hb) (GS.o.up up_moves hb) hN hf);have vj:am ((∀ W,Below w.heap.size w W->bN W (.slice pc p.t.cases.length cc) p.t.cases)/\∀ W,Below w.heap.size w W->bA W (.slice ps p.a.states.length cs) p.a.states):=aa ⟨fun W hb=>GC.o.up up_case hb,fun W hb=>GS.o.up up_moves hb⟩;unfold Ed at nZ;rw[h0]at nZ;clear hc hs hN hf h0 GC GS;unfold zB at nZ ⊢;obtain⟨nc,iI⟩:∃ nc,p.t.cases.length=nc:=⟨_,rfl⟩;obtain⟨ns,oL⟩:∃ ns,p.a.states.length=ns:=⟨_,rfl⟩;rw[iI,oL]at nZ vj ⊢;clear iI oL
 go_enter Tryz.func35,Tryz.ntmps35
 go_wp2_with fail
 refine aQ (fun W=>Below w.heap.size w W/\W.heap[w.heap.size+1]?=some (.cells zeroSys 35)) ⟨by go_grown,bz _ _ _⟩ (fun W0 bh=>?_);obtain⟨aJ,gq⟩:=bh;refine(nZ.o W0 aJ).mono ?_;rintro r w1 ⟨⟨c,rfl,h1,_⟩,aM⟩;obtain⟨vt,ve,rfl,⟨⟨at3,ct3,rfl⟩,ave,cve,rfl⟩,dy⟩:=h1 (by first|rfl|trivial);have zi:=aa dy;have bL:=aa (ae aJ aM);have dd:=aa (af aM gq);have eM:=aC gq;obtain⟨nt,Ay⟩:∃ nt,(aK p).tab.length=nt:=⟨_,rfl⟩;obtain⟨ne,bP⟩:∃ ne,(aK p).ex.length=ne:=⟨_,rfl⟩;have JH:=aa Ay;have iG:=aa bP;rw[Ay,bP]at zi ⊢;have fV:=aC dd.o;clear dy h1 aJ aM gq Ay bP nZ;have te:=ab (aq w1 (.cells #[.int .i64 p.t.n,.int .i64 p.t.ins,.int .i64 p.t.outs,.slice pc nc cc,.int .i64 p.a.n,.slice ps ns cs,.int .i64 p.rounds,.int .i64 p.t.n,.slice at3 nt ct3,.slice ave ne cve] 35));have rZ:Below w1.heap.size w1 (w1.alloc (.cells #[.int .i64 p.t.n,.int .i64 p.t.ins,.int .i64 p.t.outs,.slice pc nc cc,.int .i64 p.a.n,.slice ps ns cs,.int .i64 p.rounds,.int .i64 p.t.n,.slice at3 nt ct3,.slice ave ne cve] 35)):=by go_grown
 have Df:=aa rZ;have pk:=aa (af rZ dd.o);clear rZ
 go_wp2_with (refine wpList_store_row rfl 35 (.tmp 2) (.tmp 10) rfl (w.heap.size+1) #[.int .i64 p.t.n,.int .i64 p.t.ins,.int .i64 p.t.outs,.slice pc nc cc,.int .i64 p.a.n,.slice ps ns cs,.int .i64 p.rounds,.int .i64 p.t.n,.slice at3 nt ct3,.slice ave ne cve] rfl rfl 35 _ pk.o (by kernel_rfl) rfl (by simp[Value.oneCell']) ?_)
 refine bodyPost_ret (Ef _ (w.heap.size+1) _ _ _ _ _ _ _ _ _ _ _ rfl (setRow_heap _ _ _ _ _ _ pk.o)) rfl ⟨.slice at3 nt ct3,.slice ave ne cve,rfl,⟨⟨⟨at3,ct3,by rw[JH.o]⟩,ave,cve,by rw[iG.o]⟩,fun Wf Jb h1 h2=>zi.o Wf (fun k hk mr=>?_) h1 h2⟩,below_setRow (ae bL.o Df.o) (by omega) _⟩;refine(Jb k (by omega) (Nat.lt_of_lt_of_le mr (Nat.le_trans Df.o.size (below_setRow (Below.refl (w.heap.size+1) _) (Nat.le_refl _) _).size))).trans ?_;rw[setRow_other _ _ _ _ (by omega)];exact Df.o.block k mr
abbrev IG(p:Pb) (vc vs vt ve:Value):Value:=.agg #[.int .i64 p.t.n,.int .i64 p.t.ins,.int .i64 p.t.outs,vc,.int .i64 p.a.n,vs,.int .i64 p.rounds,.int .i64 p.t.n,vt,ve]
section
variable {p : Pb} {vc vs vt ve : Value} {w : World}
theorem PR(b:CkB p) (hs:IsSys w (aK p) vc vs vt ve) {x:Int} {l:List Int} (h:valuesR (aK p) x=(l,0)) :
  Calls Tryz.prog 11 #[IG p vc vs vt ve,.int .i64 x] w fun r w'=>∃ u,r=.returned (.tuple #[u,.int .i64 0])/\aX w' u l/\Below w.heap.size w w':=by
 have h1:=MK (aK p) x b.size vc vs vt ve w hs b.moves;rw[h]at h1;exact h1
theorem Fr(b:CkB p) (hT:io w) (hs:IsSys w (aK p) vc vs vt ve) {l:List Int} (h:choiceR (aK p)=(l,0)) :
  Calls Tryz.prog 13 #[IG p vc vs vt ve] w fun r w'=>∃ u,r=.returned (.tuple #[u,.int .i64 0])/\aX w' u l/\Below w.heap.size w w':=by
 have h1:=ML (aK p) b.size vc vs vt ve w hT hs b.moves;rw[h]at h1;exact h1
theorem VN(b:CkB p) (hT:io w) (hs:IsSys w (aK p) vc vs vt ve) (h:(ruleR (aK p)).2=(true,0)) :
  Calls Tryz.prog 16 #[IG p vc vs vt ve] w fun r w'=>∃ a n c,r=.returned (.tuple #[.agg #[.slice a n c],.bool true,.int .i64 0])/\Below w.heap.size w w':=by
 have h1:=Py (aK p) b.size vc vs vt ve w hT hs b.moves;rw[h]at h1;refine h1.mono ?_;rintro r w' ⟨u,rfl,hu,hb⟩;obtain⟨a,c,rfl,_⟩:=hu.at;exact⟨_,_,_,rfl,hb⟩
theorem VO(b:CkB p) (hT:io w) (hs:IsSys w (aK p) vc vs vt ve) {l:List Lk} (h:findW (aK p)=(l,true,0)) :
  Calls Tryz.prog 18 #[IG p vc vs vt ve] w fun r w'=>∃ u,r=.returned (.tuple #[.agg (eL 1 u),.bool true,.int .i64 0])/\bJ w' u l/\Below w.heap.size w w':=by
 have h1:=Fo (aK p) b.size vc vs vt ve w hT hs b.moves;rw[h]at h1;refine h1.mono ?_;rintro r w' ⟨⟨u,rfl,hu⟩,hb⟩;exact⟨u,rfl,hu,hb⟩
theorem Fs(b:CkB p) (hs:IsSys w (aK p) vc vs vt ve) {l:List Lk} {vw:Value} {e:Int} (hw:bJ w vw l) (h:certE (aK p) ⟨1,l,0,0,0⟩=e) :
  Calls Tryz.prog 24 #[IG p vc vs vt ve,.agg (eL 1 vw)] w fun r w'=>r=.returned (.int .i64 e)/\Below w.heap.size w w':=by
 have h1:=Ai (aK p) b.size vc vs vt ve vw ⟨1,l,0,0,0⟩ none 0 none 0 none 0 w hs b.moves hw;rw[h]at h1;exact h1
theorem M'(b:CkB p) (hT:io w) (hs:IsSys w (aK p) vc vs vt ve) {l m:List Lk} {vw:Value} (hw:bJ w vw l) (h:shortR (aK p) ⟨1,l,0,0,0⟩=(m,0)) :
  Calls Tryz.prog 22 #[IG p vc vs vt ve,.agg (eL 1 vw)] w fun r w'=>∃ u,r=.returned (.tuple #[.agg (eL 1 u),.int .i64 0])/\bJ w' u m/\Below w.heap.size w w':=by
 have h1:=Iy (aK p) b.size vc vs vt ve vw ⟨1,l,0,0,0⟩ none 0 none 0 none 0 w hT hs b.moves hw;rw[h]at h1;refine h1.mono ?_;rintro r w' ⟨⟨u,rfl,hu⟩,hb⟩;exact⟨u,rfl,hu,hb⟩
end
theorem PS{w:World} {b:Nat} {gs:List (Int × Int)} {l:List Value} (h:w.heap[b]?=some (.cells l.toArray 92)) (hl:l=gs.flatMap fun h=>[.int .i64 h.1,.int .i64 h.2]):∀ i (hi:i<gs.length),w.cell? ⟨b,i * 2,none⟩=some (.int .i64 gs[i].1)/\w.cell? ⟨b,i * 2+1,none⟩=some (.int .i64 gs[i].2):=by
 intro i hi;rw[ab h,ab h,hl]
 have key:∀ (gs:List (Int × Int)) (i:Nat) (hi:i<gs.length),(gs.flatMap fun h=>[Value.int .i64 h.1,.int .i64 h.2])[i * 2]?=some (.int .i64 gs[i].1)/\(gs.flatMap fun h=>[Value.int .i64 h.1,.int .i64 h.2])[i * 2+1]?=some (.int .i64 gs[i].2):=by
  intro gs;induction gs with
  | nil=>intro i hi;simp at hi
  | cons a r ih=>
   intro i hi;cases i with
   | zero=>simp
   | succ i=>
    have h2:=ih i (by simpa using hi);simp only[List.flatMap_cons,List.getElem_cons_succ];rw[show (i+1) * 2=i * 2+1+1 by omega];simpa using h2
 have:=key gs i hi;simpa using this
theorem ck_few1:uC (qT 1 [(1,3),(3,3)]):=fun _=>.inl (by decide +kernel)
theorem ck_few2:uC (qT 0 [(3,3)]):=fun _=>.inl (by decide +kernel)
theorem ck_few3:uC (qT 1 [(1,3),(3,2),(3,3)]):=fun _=>.inl (by decide +kernel)
def PT(p:Pb) (pc ps:Option Addr) (nc cc ns cs:Nat) (w:World):Prop:=Calls Tryz.prog 35 #[nN p (.slice pc nc cc) (.slice ps ns cs)] w fun r w'=>∃ pt pe:Option Addr,∃ ct ce nt ne:Nat,r=.returned (IG p (.slice pc nc cc) (.slice ps ns cs) (.slice pt nt ct) (.slice pe ne ce))/\(∀ Wf:World,(∀ k,w.heap.size<=k->k<w'.heap.size->Wf.heap[k]?=w'.heap[k]?)->bN Wf (.slice pc nc cc) p.t.cases->bA Wf (.slice ps ns cs) p.a.states->IsSys Wf (aK p) (.slice pc nc cc) (.slice ps ns cs) (.slice pt nt ct) (.slice pe ne ce))/\Below w.heap.size w w'
theorem Bl{p:Pb} (b:CkB p) (hf:uC p) (pc ps:Option Addr) (nc cc ns cs:Nat) (w:World) (hc:bN w (.slice pc nc cc) p.t.cases) (hs:bA w (.slice ps ns cs) p.a.states):PT p pc ps nc cc ns cs w:=by
 have hm:=b.moves;refine(Cv p _ _ w hc hs (by omega) hf b.few).mono ?_;rintro r w' ⟨vt,ve,rfl,⟨⟨⟨pt,ct,rfl⟩,pe,ce,rfl⟩,dy⟩,hb⟩;exact⟨_,_,_,_,_,_,rfl,dy,hb⟩
def PU(p:Pb) (rounds:Int) (n b:Nat) (w:World):Prop:=Calls Tryz.prog 36 #[.int .i64 rounds,.slice (some ⟨b,0,none⟩) n n] w fun r w'=>∃ pc ps:Option Addr,∃ cc cs nc ns:Nat,r=.returned (nN p (.slice pc nc cc) (.slice ps ns cs))/\(∀ Wf:World,(∀ k,w.heap.size<=k->k<w'.heap.size->Wf.heap[k]?=w'.heap[k]?)->bN Wf (.slice pc nc cc) p.t.cases/\bA Wf (.slice ps ns cs) p.a.states)/\Below w.heap.size w w'
theorem Eg(rounds:Int) (gs:List (Int × Int)) (n:Nat) (hl:gs.length=n) (hn:n<=100) (cZ:∀ h∈gs,bT h.1/\bT h.2) (b:Nat) (w:World) (l:List Value) (h:w.heap[b]?=some (.cells l.toArray 92)) (he:l=gs.flatMap fun h=>[.int .i64 h.1,.int .i64 h.2]):PU (qT rounds gs) rounds n b w:=by
 refine(Pc rounds gs n hl hn cZ b w (PS h he)).mono ?_;rintro r w' ⟨vc,vs,rfl,jK,hb⟩;obtain⟨hc,hs⟩:=jK w' (fun _ _ _=>rfl);obtain⟨pc,cc,rfl,_⟩:=hc.at;obtain⟨ps,cs,rfl,_⟩:=hs.at;exact⟨_,_,_,_,_,_,rfl,jK,hb⟩
theorem Na(gs:List (Int × Int)) (h:gs.all (fun x=>decide (0<=x.1/\x.1<100/\0<=x.2/\x.2<100))=true):∀ h∈gs,bT h.1/\bT h.2:=fun x hx=>by
 have:=of_decide_eq_true (List.all_eq_true.1 h x hx);exact⟨⟨by omega,by omega⟩,by omega,by omega⟩
def Yq(n:Nat) (l:List Int):MP:=⟨fun x W=>∃ i,x=.slice (some ⟨i,0,none⟩) n n/\W.heap[i]?=some (.cells (bG l) 3),fun _ _ _ h hb=>by obtain⟨i,e,h⟩:=h;exact⟨i,e,af hb h⟩⟩
theorem xC_nine:xC 9 (-1) 9=bG (List.replicate 9 (-1)):=by unfold xC;rw[qf];simp[List.map_const']
theorem II{W:World} {b:Nat} (h:W.heap[b]?=some (.cells #[.int .i64 0,.int .i64 (-1),.int .i64 1,.int .i64 0,.int .i64 2,.int .i64 1] 75)):bJ W (.slice (some ⟨b,0,none⟩) 3 3) ckW:=by
 have t:=ab h;refine⟨some ⟨b,0,none⟩,3,rfl,⟨by simp[ckW],by omega,fun e=>by cases e⟩,by simp[ckW],fun i x hx=>⟨b,0,rfl,?_⟩⟩;obtain⟨hi,rfl⟩:=List.getElem?_eq_some_iff.1 hx;have z:∀ x:Int,-2<x->x<100->bT x:=fun x h1 h2=>⟨by omega,by omega⟩
 rcases (show i=0\/i=1\/i=2 by simp[ckW]at hi;omega) with rfl|rfl|rfl
 ·exact⟨⟨t 0,z _ (by simp[ckW]) (by simp[ckW])⟩,t 1,z _ (by simp[ckW]) (by simp[ckW])⟩
 ·exact⟨⟨t 2,z _ (by simp[ckW]) (by simp[ckW])⟩,t 3,z _ (by simp[ckW]) (by simp[ckW])⟩
 ·exact⟨⟨t 4,z _ (by simp[ckW]) (by simp[ckW])⟩,t 5,z _ (by simp[ckW]) (by simp[ckW])⟩
theorem IJ(w:World) (hT:io w):Calls Tryz.prog 10 #[] w fun r w'=>r=.returned (.bool true)/\Below w.heap.size w w':=by
 have HT:=aa hT;have AV:=aa ck1_b;have kb:=aa ck2_b;have yE:=aa ck3_b;clear hT;obtain⟨p1,uf⟩:∃ p,p=qT 1 [(1,3),(3,3)]:=⟨_,rfl⟩;rw[<-uf]at AV;have SK:am (∀ pc ps nc cc ns cs w,bN w (.slice pc nc cc) p1.t.cases->bA w (.slice ps ns cs) p1.a.states->PT p1 pc ps nc cc ns cs w):=aa (Bl AV.o (by rw[uf];exact ck_few1));have SH:am (∀ (W:World) b,W.heap[b]?=some (.cells #[.int .i64 1,.int .i64 3,.int .i64 3,.int .i64 3] 92)->PU p1 1 2 b W):=aa (by rw[uf];exact fun W b h=>Eg 1 [(1,3),(3,3)] 2 rfl (by omega) (Na _ (by decide)) b W [.int .i64 1,.int .i64 3,.int .i64 3,.int .i64 3] h rfl);have ox:am (valuesR (aK p1) 3=([0,1],0)):=aa (by rw[uf];exact ck1_vals);have Wu:am (choiceR (aK p1)=([0,0,0,0,1,1],0)):=aa (by rw[uf];exact ck1_choice);have dd:am ((ruleR (aK p1)).2=(true,0)):=aa (by rw[uf];exact ck1_rule);obtain⟨p2,ze⟩:∃ p,p=qT 0 [(3,3)]:=⟨_,rfl⟩;rw[<-ze]at kb;have Ss:am (∀ pc ps nc cc ns cs w,bN w (.slice pc nc cc) p2.t.cases->bA w (.slice ps ns cs) p2.a.states->PT p2 pc ps nc cc ns cs w):=aa (Bl kb.o (by rw[ze];exact ck_few2));have S4:am (∀ (W:World) b,W.heap[b]?=some (.cells #[.int .i64 3,.int .i64 3] 92)->PU p2 0 1 b W):=aa (by rw[ze];exact fun W b h=>Eg 0 [(3,3)] 1 rfl (by omega) (Na _ (by decide)) b W [.int .i64 3,.int .i64 3] h rfl);have xb:am (findW (aK p2)=(ckW,true,0)):=aa (by rw[ze];exact ck2_find);have nr:am (certE (aK p2) ⟨1,ckW,0,0,0⟩=0):=aa (by rw[ze];exact ck2_cert);have eO:am (shortR (aK p2) ⟨1,ckW,0,0,0⟩=(ckW,0)):=aa (by rw[ze];exact ck2_short);have rS:am (certE (aK p2) ⟨1,ckW.take 2,0,0,0⟩=18):=aa (by rw[ze];exact ck2_not);obtain⟨p3,F8⟩:∃ p,p=qT 1 [(1,3),(3,2),(3,3)]:=⟨_,rfl⟩;rw[<-F8]at yE;have S8:am (∀ pc ps nc cc ns cs w,bN w (.slice pc nc cc) p3.t.cases->bA w (.slice ps ns cs) p3.a.states->PT p3 pc ps nc cc ns cs w):=aa (Bl yE.o (by rw[F8];exact ck_few3))
 have S3:am (∀ (W:World) b,W.heap[b]?=some (.cells #[.int .i64 1,.int .i64 3,.int .i64 3,.int .i64 2,.int .i64 3,.int .i64 3] 92)->PU p3 1 3 b W):=aa (by rw[F8];exact fun W b h=>Eg 1 [(1,3),(3,2),(3,3)] 3 rfl (by omega) (Na _ (by decide)) b W [.int .i64 1,.int .i64 3,.int .i64 3,.int .i64 2,.int .i64 3,.int .i64 3] h rfl);have HH3:am (choiceR (aK p3)=(List.replicate 9 (-1),0)):=aa (by rw[F8];exact ck3_choice);clear uf ze F8;unfold PT at SK Ss S8;unfold PU at SH S4 S3
 go_enter Tryz.func10,Tryz.ntmps10
 go_wp2_with fail
 refine aQ (fun W=>Below w.heap.size w W/\W.heap[w.heap.size]?=some (.cells #[.int .i64 1,.int .i64 3,.int .i64 3,.int .i64 3] 92)) ⟨by go_grown,aq _ _⟩ (fun W0 bh=>?_);refine(SH.o W0 _ bh.2).mono ?_;rintro r w1 ⟨pc,ps,cc,cs,nc,ns,rfl,jK,aM⟩;have wK:=aa (ae bh.1 aM);have od:=aa (jK w1 (fun _ _ _=>rfl));have HK:=aa (SK.o _ _ _ _ _ _ w1 od.o.1 od.o.2);clear aM bh jK SK SH
 go_wp2_with fail
 refine HK.o.mono ?_;rintro r w2 ⟨pt,pe,ct,ce,nt,ne,rfl,dy,aY⟩;have qG:=aa (dy w2 (fun _ _ _=>rfl) (od.o.1.up up_case aY) (od.o.2.up up_moves aY));have Nd:=aa (ae wK.o aY);clear dy aY HK od;have tb:=ab (aq w2 (.cells #[.int .i64 p1.t.n,.int .i64 p1.t.ins,.int .i64 p1.t.outs,.slice pc nc cc,.int .i64 p1.a.n,.slice ps ns cs,.int .i64 p1.rounds,.int .i64 p1.t.n,.slice pt nt ct,.slice pe ne ce] 35))
 go_wp2_with fail
 clear tb;refine aQ (fun W=>Below w2.heap.size w2 W/\W.heap[w2.heap.size]?=some (.cells #[.int .i64 p1.t.n,.int .i64 p1.t.ins,.int .i64 p1.t.outs,.slice pc nc cc,.int .i64 p1.a.n,.slice ps ns cs,.int .i64 p1.rounds,.int .i64 p1.t.n,.slice pt nt ct,.slice pe ne ce] 35)) ⟨by go_grown,aq _ _⟩ (fun W3 mn=>?_);have dX:=aa (ae Nd.o mn.1);have iS:=aa mn.2;have Ap:=aa (qG.o.up mn.1);have iT:=Nd.o.size;clear mn qG;refine(PR AV.o Ap.o ox.o).mono ?_;rintro r w4 ⟨u4,rfl,mm,bR⟩;obtain⟨a4,n4,c4,rfl⟩:∃ a n c,u4=.slice a n c:=by obtain⟨a,c,e,_⟩:=mm.at;exact⟨_,_,_,e⟩
 have vO:=aa mm;have eU:=aa (ae dX.o bR);have kH:=aa (af bR iS.o);have Fv:=aa (Ap.o.up bR);have tb:=ab kH.o;clear mm bR iS Ap
 go_wp2_with fail
 clear tb;refine(Fr AV.o (HT.o.up eU.o) Fv.o Wu.o).mono ?_;rintro r w5 ⟨u5,rfl,yF,dG⟩;obtain⟨a5,n5,c5,rfl⟩:∃ a n c,u5=.slice a n c:=by obtain⟨a,c,e,_⟩:=yF.at;exact⟨_,_,_,e⟩
 have LT:=aa yF;have vO:=aa (vO.o.up up_int dG);have lC:=aa (ae eU.o dG);have Fy:=aa (af dG kH.o);have Qm:=aa (Fv.o.up dG);have tb:=ab Fy.o;clear yF dG kH Fv
 go_wp2_with fail
 clear tb;refine(VN AV.o (HT.o.up lC.o) Qm.o dd.o).mono ?_;rintro r w6 ⟨a6,n6,c6,rfl,jL⟩;have LT:=aa (LT.o.up up_int jL);have vO:=aa (vO.o.up up_int jL);have vH:=aa (ae lC.o jL);have Wn:=aa (af jL Fy.o);have TA:=aC Wn.o;clear jL Fy Qm
 go_wp2_with fail
 refine aQ (fun W=>Below w6.heap.size w6 W/\W.heap[w6.heap.size+1]?=some (.cells (bG [0,1]) 3)) ⟨by go_grown,bz _ _ _⟩ (fun W7 tD=>?_);refine(jo _ _ [0,1] [0,1] W7 (vO.o.up up_int tD.1) (ib [0,1] tD.2 (by decide) (by decide))).mono ?_;rintro r w7 ⟨rfl,xa⟩;rw[show eqV [0,1] [0,1]=true by decide];have Ni:=ae tD.1 xa;have LT:=aa (LT.o.up up_int Ni);have Lm:=aa (ae vH.o Ni);have CU:=aa (af Ni Wn.o);clear xa Ni tD Wn vO
 go_wp2_with fail
 refine aQ (fun W=>Below w7.heap.size w7 W/\W.heap[w7.heap.size]?=some (.cells (bG [0,0,0,0,1,1]) 3)) ⟨by go_grown,aq _ _⟩ (fun W8 oX=>?_);refine(jo _ _ [0,0,0,0,1,1] [0,0,0,0,1,1] W8 (LT.o.up up_int oX.1) (ib [0,0,0,0,1,1] oX.2 (by decide) (by decide))).mono ?_;rintro r w8 ⟨rfl,Cw⟩;rw[show eqV [0,0,0,0,1,1] [0,0,0,0,1,1]=true by decide];have SV:=ae oX.1 Cw;have Um:=aa (ae Lm.o SV);have Lt:=aa (af SV CU.o);clear Cw SV oX CU LT
 go_wp2_with fail
 refine aQ (fun W=>Below w8.heap.size w8 W/\W.heap[w8.heap.size]?=some (.cells #[.int .i64 3,.int .i64 3] 92)) ⟨by go_grown,aq _ _⟩ (fun W9 hW9=>?_);refine(S4.o W9 _ hW9.2).mono ?_;rintro r w9 ⟨pc2,ps2,cc2,cs2,nc2,ns2,rfl,jK,eC⟩;have Di:=af (ae hW9.1 eC) Lt.o;have hsz9:=hW9.1.size;have h28:=aC Lt.o;have sd:=aa Di;have ff:=aa (ae Um.o (ae hW9.1 eC));have Tj:=jK w9 (fun _ _ _=>rfl);have HK:=aa (Ss.o _ _ _ _ _ _ w9 Tj.1 Tj.2);have od:=aa jK;have hsz99:=eC.size;clear eC hW9 jK Tj Ss S4 Di Lt
 go_wp2_with fail
 refine HK.o.mono ?_;rintro r w10 ⟨pt2,pe2,ct2,ce2,nt2,ne2,rfl,dy,BD⟩;have BE:=aa (af BD sd.o);have Sq:=aa (ae ff.o BD)
 have HF10:am (Below w.heap.size w (w10.setRow w2.heap.size #[.int .i64 p2.t.n,.int .i64 p2.t.ins,.int .i64 p2.t.outs,.slice pc2 nc2 cc2,.int .i64 p2.a.n,.slice ps2 ns2 cs2,.int .i64 p2.rounds,.int .i64 p2.t.n,.slice pt2 nt2 ct2,.slice pe2 ne2 ce2])/\(w10.setRow w2.heap.size #[.int .i64 p2.t.n,.int .i64 p2.t.ins,.int .i64 p2.t.outs,.slice pc2 nc2 cc2,.int .i64 p2.a.n,.slice ps2 ns2 cs2,.int .i64 p2.rounds,.int .i64 p2.t.n,.slice pt2 nt2 ct2,.slice pe2 ne2 ce2]).heap[w2.heap.size]?=some (.cells #[.int .i64 p2.t.n,.int .i64 p2.t.ins,.int .i64 p2.t.outs,.slice pc2 nc2 cc2,.int .i64 p2.a.n,.slice ps2 ns2 cs2,.int .i64 p2.rounds,.int .i64 p2.t.n,.slice pt2 nt2 ct2,.slice pe2 ne2 ce2] 35)/\IsSys (w10.setRow w2.heap.size #[.int .i64 p2.t.n,.int .i64 p2.t.ins,.int .i64 p2.t.outs,.slice pc2 nc2 cc2,.int .i64 p2.a.n,.slice ps2 ns2 cs2,.int .i64 p2.rounds,.int .i64 p2.t.n,.slice pt2 nt2 ct2,.slice pe2 ne2 ce2]) (aK p2) (.slice pc2 nc2 cc2) (.slice ps2 ns2 cs2) (.slice pt2 nt2 ct2) (.slice pe2 ne2 ce2)):=aa (by
  have bP:∀ k,k≠w2.heap.size->(w10.setRow w2.heap.size #[.int .i64 p2.t.n,.int .i64 p2.t.ins,.int .i64 p2.t.outs,.slice pc2 nc2 cc2,.int .i64 p2.a.n,.slice ps2 ns2 cs2,.int .i64 p2.rounds,.int .i64 p2.t.n,.slice pt2 nt2 ct2,.slice pe2 ne2 ce2]).heap[k]?=w10.heap[k]?:=fun k hk=>setRow_other _ _ _ _ hk
  have ND:=od.o (w10.setRow w2.heap.size #[.int .i64 p2.t.n,.int .i64 p2.t.ins,.int .i64 p2.t.outs,.slice pc2 nc2 cc2,.int .i64 p2.a.n,.slice ps2 ns2 cs2,.int .i64 p2.rounds,.int .i64 p2.t.n,.slice pt2 nt2 ct2,.slice pe2 ne2 ce2]) (fun k h1 h2=>(bP k (by omega)).trans (BD.block k h2))
  exact⟨below_setRow Sq.o (by omega) _,setRow_heap _ _ _ _ _ _ BE.o,dy _ (fun k h1 h2=>bP k (by omega)) ND.1 ND.2⟩)
 clear dy BD HK od sd
 go_wp2_with (refine wpList_store_row rfl 35 (.tmp 1) (.tmp 60) rfl w2.heap.size #[.int .i64 p2.t.n,.int .i64 p2.t.ins,.int .i64 p2.t.outs,.slice pc2 nc2 cc2,.int .i64 p2.a.n,.slice ps2 ns2 cs2,.int .i64 p2.rounds,.int .i64 p2.t.n,.slice pt2 nt2 ct2,.slice pe2 ne2 ce2] rfl rfl 35 _ BE.o (by kernel_rfl) rfl (by simp[Value.oneCell']) (gL (fun W=>Below w.heap.size w W/\W.heap[w2.heap.size]?=some (.cells #[.int .i64 p2.t.n,.int .i64 p2.t.ins,.int .i64 p2.t.outs,.slice pc2 nc2 cc2,.int .i64 p2.a.n,.slice ps2 ns2 cs2,.int .i64 p2.rounds,.int .i64 p2.t.n,.slice pt2 nt2 ct2,.slice pe2 ne2 ce2] 35)/\IsSys W (aK p2) (.slice pc2 nc2 cc2) (.slice ps2 ns2 cs2) (.slice pt2 nt2 ct2) (.slice pe2 ne2 ce2)) HF10.o ?_);intro W11 NX;have HB11:=aa NX.1;have To:=aa NX.2.1;have Su:=aa NX.2.2;clear NX HF10;have tb:=ab To.o)
 clear tb;refine(VO kb.o (HT.o.up HB11.o) Su.o xb.o).mono ?_;rintro r w12 ⟨u12,rfl,Th,NH⟩;obtain⟨a12,n12,c12,rfl⟩:∃ a n c,u12=.slice a n c:=by obtain⟨a,c,e,_⟩:=Th.at;exact⟨_,_,_,e⟩
 have HU12:=aa Th;have HB12:=aa (ae HB11.o NH);have S':=aa (af NH To.o);have HS12:=aa (Su.o.up NH);have hs12:=aC S'.o;clear Th NH To Su;have tb1:=fun o1 o2=>ab (az o2 (az o1 (aq w12 (.cells #[.int .i64 1,.slice a12 n12 c12,.slice none 0 0,.slice none 0 0,.slice none 0 0] 58))))
 have tb2:=fun o1 o2=>ab (bz (w12.alloc o1) o2 (.cells #[.int .i64 1,.slice (some ⟨w12.heap.size+1,0,none⟩) 3 3,.slice none 0 0,.slice none 0 0,.slice none 0 0] 58))
 simp only[World.size_alloc]at tb2
 go_wp2_with fail
 clear tb1 tb2;refine aQ (fun W=>Below w12.heap.size w12 W/\W.heap[w12.heap.size]?=some (.cells #[.int .i64 1,.slice a12 n12 c12,.slice none 0 0,.slice none 0 0,.slice none 0 0] 58)/\W.heap[w12.heap.size+1]?=some (.cells #[.int .i64 0,.int .i64 (-1),.int .i64 1,.int .i64 0,.int .i64 2,.int .i64 1] 75)/\W.heap[w12.heap.size+1+1]?=some (.cells #[.int .i64 1,.slice (some ⟨w12.heap.size+1,0,none⟩) 3 3,.slice none 0 0,.slice none 0 0,.slice none 0 0] 58)) ⟨by go_grown,az _ (az _ (aq _ _)),az _ (bz _ _ _),eA _ _ _ _⟩ (fun W13 hW13=>?_);refine(Co 1 ckW _ _ none none none none none none 0 0 0 0 0 0 W13 (HU12.o.up up_link hW13.1) (II hW13.2.2.1)).mono ?_;rintro r w13 ⟨rfl,Ng⟩;have GJ:=ae hW13.1 Ng;have HB13:=aa (ae HB12.o GJ);have El:=aa (af GJ S'.o);have SU:=aa (HS12.o.up GJ);have SD:=aa (II (af Ng hW13.2.2.1));have So:=aa (af Ng hW13.2.2.2);have tb:=ab El.o;have tc:=ab So.o;clear hW13 Ng GJ S' HS12 HU12
 go_wp2_with fail
 clear tb tc;refine(Fs kb.o SU.o SD.o nr.o).mono ?_;rintro r w14 ⟨rfl,Ew⟩;have HB14:=aa (ae HB13.o Ew);have Es:=aa (af Ew El.o);have Sw:=aa (SU.o.up Ew);have ST:=aa (SD.o.up up_link Ew);have SZ:=aa (af Ew So.o);have tb:=ab Es.o;have tc:=ab SZ.o;clear Ew El SU SD So
 go_wp2_with fail
 clear tb tc;refine(M' kb.o (HT.o.up HB14.o) Sw.o ST.o eO.o).mono ?_;rintro r w15 ⟨u15,rfl,Tl,Ey⟩;obtain⟨a15,n15,c15,rfl⟩:∃ a n c,u15=.slice a n c:=by obtain⟨a,c,e,_⟩:=Tl.at;exact⟨_,_,_,e⟩
 have HU15:=aa Tl;have HB15:=aa (ae HB14.o Ey);have HX15:=aa (af Ey Es.o);have HS15:=aa (Sw.o.up Ey);have HL15:=aa (ST.o.up up_link Ey);have HT15:=aa (af Ey SZ.o);clear Ey Tl Es Sw ST SZ
 go_wp2_with fail
 refine aQ (fun W=>Below w15.heap.size w15 W/\W.heap[w15.heap.size]?=some (.cells #[.int .i64 1,.slice a15 n15 c15,.slice none 0 0,.slice none 0 0,.slice none 0 0] 58)/\W.heap[w15.heap.size+1]?=some (.cells #[.int .i64 1,.int .i64 3,.int .i64 3,.int .i64 2,.int .i64 3,.int .i64 3] 92)) ⟨by go_grown,az _ (aq _ _),bz _ _ _⟩ (fun W16 hW16=>?_);refine(S3.o W16 _ hW16.2.2).mono ?_;rintro r w16 ⟨pc3,ps3,cc3,cs3,nc3,ns3,rfl,jK,SO⟩;have wL:=ae hW16.1 SO;have od:=aa (jK w16 (fun _ _ _=>rfl));have HK:=aa (S8.o _ _ _ _ _ _ w16 od.o.1 od.o.2);have HB16:=aa (ae HB15.o wL);have HX16:=aa (af wL HX15.o);have HS16:=aa (HS15.o.up wL);have HL16:=aa (HL15.o.up up_link wL);have HT16:=aa (af wL HT15.o);have HU16:=aa (HU15.o.up up_link wL);have HD16:=aa (af SO hW16.2.1);clear hW16 SO wL jK S8 S3 HX15 HS15 HL15 HT15 HU15
 go_wp2_with fail
 refine HK.o.mono ?_;rintro r w17 ⟨pt3,pe3,ct3,ce3,nt3,ne3,rfl,dy,uF⟩;have Ap:=aa (dy w17 (fun _ _ _=>rfl) (od.o.1.up up_case uF) (od.o.2.up up_moves uF));have HB17:=aa (ae HB16.o uF);have HX17:=aa (af uF HX16.o);have HS17:=aa (HS16.o.up uF);have HL17:=aa (HL16.o.up up_link uF);have HT17:=aa (af uF HT16.o);have HU17:=aa (HU16.o.up up_link uF);have HD17:=aa (af uF HD16.o);clear dy uF HK od HX16 HS16 HL16 HT16 HU16 HD16;have tb:=ab (aq w17 (.cells #[.int .i64 p3.t.n,.int .i64 p3.t.ins,.int .i64 p3.t.outs,.slice pc3 nc3 cc3,.int .i64 p3.a.n,.slice ps3 ns3 cs3,.int .i64 p3.rounds,.int .i64 p3.t.n,.slice pt3 nt3 ct3,.slice pe3 ne3 ce3] 35))
 go_wp2_with fail
 clear tb;refine aQ (fun W=>Below w17.heap.size w17 W) (by go_grown) (fun W18 hW18=>?_);refine(Fr yE.o (HT.o.up (ae HB17.o hW18)) (Ap.o.up hW18) HH3.o).mono ?_;rintro r w18 ⟨u18,rfl,Sy,hb18⟩;obtain⟨a18,n18,c18,rfl⟩:∃ a n c,u18=.slice a n c:=by obtain⟨a,c,e,_⟩:=Sy.at;exact⟨_,_,_,e⟩
 have tE:=ae hW18 hb18;have HV18:=aa Sy;have HB18:=aa (ae HB17.o tE);have HX18:=aa (af tE HX17.o);have HS18:=aa (HS17.o.up tE);have HL18:=aa (HL17.o.up up_link tE);have HT18:=aa (af tE HT17.o);have HU18:=aa (HU17.o.up up_link tE);have HD18:=aa (af tE HD17.o);clear hW18 hb18 tE Sy HX17 HS17 HL17 HT17 HU17 HD17 Ap
 go_wp2_with fail
 have hS:List.Nodup [107,108,109,110,111,112,113,114,115,116,117,118,119,120,121,122,123,124,125,126,127,128,129,130,0]:=by decide
 refine Gj 25 [107,108,109,110,111,112,113,114,115,116,117,118,119,120,121,122,123,124,125,126,127,128,129,130,0] [MP.eq (.int .i64 0),MP.eq (.int .i64 0),MP.eq (.int .i64 0),MP.eq (.bool true),MP.eq (.bool true),MP.eq (.agg #[.int .i64 1,.slice a15 n15 c15,.slice none 0 0,.slice none 0 0,.slice none 0 0]),MP.eq (.agg #[.int .i64 1,.slice (some ⟨w12.heap.size+1,0,none⟩) 3 3,.slice none 0 0,.slice none 0 0,.slice none 0 0]),MP.eq (.bool true),MP.eq (.bool true),MP.eq (.bool true),MP.eq (.slice a18 n18 c18),Yq 1 [-1],Yq 9 (List.replicate 9 (-1)),MP.eq (.bool true),MP.eq (.bool true),MP.eq (.bool true),MP.eq (.agg #[.int .i64 p2.t.n,.int .i64 p2.t.ins,.int .i64 p2.t.outs,.slice pc2 nc2 cc2,.int .i64 p2.a.n,.slice ps2 ns2 cs2,.int .i64 p2.rounds,.int .i64 p2.t.n,.slice pt2 nt2 ct2,.slice pe2 ne2 ce2]),MP.eq (.pointer (some ⟨w12.heap.size+1+1,1,none⟩)),MP.eq (.slice (some ⟨w12.heap.size+1,0,none⟩) 3 3),MP.eq (.slice (some ⟨w12.heap.size+1,0,none⟩) 2 3),MP.eq (.agg #[.int .i64 1,.slice (some ⟨w12.heap.size+1,0,none⟩) 2 3,.slice none 0 0,.slice none 0 0,.slice none 0 0]),MP.eq (.int .i64 18),MP.eq (.bool true),MP.eq (.bool true),MP.eq (.bool true)] (by kernel_rfl) rfl hS rfl (by kernel_rfl) ?step ?tail
 case step=>
  intro x W i o s F hi ho hs hB ar hF;rcases (show i=0\/i=1\/i=2\/i=3\/i=4\/i=5\/i=6\/i=7\/i=8\/i=9\/i=10\/i=11\/i=12\/i=13\/i=14\/i=15\/i=16\/i=17\/i=18\/i=19\/i=20\/i=21\/i=22\/i=23\/i=24 by omega) with rfl|rfl|rfl|rfl|rfl|rfl|rfl|rfl|rfl|rfl|rfl|rfl|rfl|rfl|rfl|rfl|rfl|rfl|rfl|rfl|rfl|rfl|rfl|rfl|rfl
  all_goals (obtain rfl:=dp ho.symm;obtain rfl:=dp hs.symm;clear hi ho hs)
  ·obtain⟨g3,h3⟩:=cW hF 3 (.int .i64 0) (by decide) rfl;clear hF ar
   go_wp2_with fail
   exact bB.mk _ (Below.refl _ _) rfl rfl
  ·obtain⟨g5,h5⟩:=cW hF 5 (.int .i64 0) (by decide) rfl;clear hF ar
   go_wp2_with fail
   exact bB.mk _ (Below.refl _ _) rfl rfl
  ·obtain⟨e0,f0⟩:=aT hF 0 107 _ hS rfl (by kernel_rfl) (ar ⟨0,.data⟩ (by simp) rfl);obtain⟨e1,f1⟩:=aT hF 1 108 _ hS rfl (by kernel_rfl) (ar ⟨1,.data⟩ (by simp) rfl);clear hF ar
   go_wp2_with fail
   exact bB.mk _ (Below.refl _ _) rfl rfl
  ·obtain⟨e2,f2⟩:=aT hF 2 109 _ hS rfl (by kernel_rfl) (ar ⟨2,.data⟩ (by simp) rfl);clear hF ar
   go_wp2_with fail
   exact bB.mk _ (Below.refl _ _) rfl rfl
  ·obtain⟨e3,f3⟩:=aT hF 3 110 _ hS rfl (by kernel_rfl) (ar ⟨3,.data⟩ (by simp) rfl);clear hF ar
   go_wp2_with fail
   exact bB.mk _ (Below.refl _ _) rfl rfl
  ·obtain⟨g11,IX⟩:=cW hF 11 (.pointer (some ⟨w15.heap.size,0,none⟩)) (by decide) rfl;have m4:=fx hF 4 111 (.bool true) hS rfl (by kernel_rfl) (ar ⟨4,.guard⟩ (by simp) rfl);have tb:=ab (af hB HD18.o);clear hF ar
   go_wp2_with fail
   exact bB.mk _ (Below.refl _ _) rfl rfl
  ·obtain⟨g10,xh⟩:=cW hF 10 (.pointer (some ⟨w12.heap.size+1+1,0,none⟩)) (by decide) rfl;have m4:=fx hF 4 111 (.bool true) hS rfl (by kernel_rfl) (ar ⟨4,.guard⟩ (by simp) rfl);have tb:=ab (af hB HT18.o);clear hF ar
   go_wp2_with fail
   exact bB.mk _ (Below.refl _ _) rfl rfl
  ·obtain⟨e5,f5⟩:=aT hF 5 112 _ hS rfl (by kernel_rfl) (ar ⟨5,.data⟩ (by simp) rfl);obtain⟨e6,f6⟩:=aT hF 6 113 _ hS rfl (by kernel_rfl) (ar ⟨6,.data⟩ (by simp) rfl);have m4:=fx hF 4 111 (.bool true) hS rfl (by kernel_rfl) (ar ⟨4,.guard⟩ (by simp) rfl);clear hF ar
   go_wp2_with fail
   refine(Co 1 ckW _ _ none none none none none none 0 0 0 0 0 0 W (HU18.o.up up_link hB) (HL18.o.up up_link hB)).mono ?_;rintro r W' ⟨rfl,gp⟩
   go_wp2_with fail
   exact bB.mk _ gp rfl rfl
  ·obtain⟨e4,f4⟩:=aT hF 4 111 _ hS rfl (by kernel_rfl) (ar ⟨4,.data⟩ (by simp) rfl);obtain⟨e7,f7⟩:=aT hF 7 114 _ hS rfl (by kernel_rfl) (ar ⟨7,.data⟩ (by simp) rfl);clear hF ar
   go_wp2_with fail
   exact bB.mk _ (Below.refl _ _) rfl rfl
  ·obtain⟨e8,f8⟩:=aT hF 8 115 _ hS rfl (by kernel_rfl) (ar ⟨8,.data⟩ (by simp) rfl);clear hF ar
   go_wp2_with fail
   exact bB.mk _ (Below.refl _ _) rfl rfl
  ·obtain⟨g13,h13⟩:=cW hF 13 (.slice a18 n18 c18) (by decide) rfl;have m9:=fx hF 9 116 (.bool true) hS rfl (by kernel_rfl) (ar ⟨9,.guard⟩ (by simp) rfl);clear hF ar
   go_wp2_with fail
   exact bB.mk _ (Below.refl _ _) rfl rfl
  ·have m9:=fx hF 9 116 (.bool true) hS rfl (by kernel_rfl) (ar ⟨9,.guard⟩ (by simp) rfl);clear hF ar
   go_wp2_with fail
   exact bB.mk (.slice (some ⟨W.heap.size,0,none⟩) 1 1) (by go_grown) ⟨_,rfl,aq _ _⟩ rfl
  ·have d11:=ar ⟨11,.data⟩ (by simp) rfl;have m9:=fx hF 9 116 (.bool true) hS rfl (by kernel_rfl) (ar ⟨9,.guard⟩ (by simp) rfl);obtain⟨i1,q11,IX⟩:=d11;obtain⟨e11,f11⟩:=aT hF 11 118 _ hS rfl (by kernel_rfl) q11;clear hF ar
   go_wp2_with fail
   refine(vZ (-1) 9 (by omega) (by omega) i1 W IX).mono ?_;rintro r W' ⟨rfl,h9,gp⟩;rw[xC_nine]at h9;have H9:=aa h9;clear h9
   go_wp2_with fail
   exact bB.mk (.slice (some ⟨W.heap.size,0,none⟩) 9 9) gp ⟨_,rfl,H9.o⟩ rfl
  ·obtain⟨e10,f10⟩:=aT hF 10 117 _ hS rfl (by kernel_rfl) (ar ⟨10,.data⟩ (by simp) rfl);have d12:=ar ⟨12,.data⟩ (by simp) rfl;have m9:=fx hF 9 116 (.bool true) hS rfl (by kernel_rfl) (ar ⟨9,.guard⟩ (by simp) rfl);obtain⟨i2,q12,lS⟩:=d12;obtain⟨e12,f12⟩:=aT hF 12 119 _ hS rfl (by kernel_rfl) q12;clear hF ar
   go_wp2_with fail
   refine(jo _ _ (List.replicate 9 (-1)) (List.replicate 9 (-1)) W (HV18.o.up up_int hB) (ib (List.replicate 9 (-1)) lS (by decide) (by decide))).mono ?_;rintro r W' ⟨rfl,gp⟩;rw[show eqV (List.replicate 9 (-1)) (List.replicate 9 (-1))=true by decide]
   go_wp2_with fail
   exact bB.mk _ gp rfl rfl
  ·obtain⟨e9,f9⟩:=aT hF 9 116 _ hS rfl (by kernel_rfl) (ar ⟨9,.data⟩ (by simp) rfl);obtain⟨e13,f13⟩:=aT hF 13 120 _ hS rfl (by kernel_rfl) (ar ⟨13,.data⟩ (by simp) rfl);clear hF ar
   go_wp2_with fail
   exact bB.mk _ (Below.refl _ _) rfl rfl
  ·obtain⟨e14,f14⟩:=aT hF 14 121 _ hS rfl (by kernel_rfl) (ar ⟨14,.data⟩ (by simp) rfl);clear hF ar
   go_wp2_with fail
   exact bB.mk _ (Below.refl _ _) rfl rfl
  ·obtain⟨g1,h1⟩:=cW hF 1 (.pointer (some ⟨w2.heap.size,0,none⟩)) (by decide) rfl;have m15:=fx hF 15 122 (.bool true) hS rfl (by kernel_rfl) (ar ⟨15,.guard⟩ (by simp) rfl);have tb:=ab (af hB HX18.o);clear hF ar
   go_wp2_with fail
   exact bB.mk _ (Below.refl _ _) rfl rfl
  ·obtain⟨g10,xh⟩:=cW hF 10 (.pointer (some ⟨w12.heap.size+1+1,0,none⟩)) (by decide) rfl;have m15:=fx hF 15 122 (.bool true) hS rfl (by kernel_rfl) (ar ⟨15,.guard⟩ (by simp) rfl);clear hF ar
   go_wp2_with fail
   exact bB.mk _ (Below.refl _ _) rfl rfl
  ·obtain⟨e17,f17⟩:=aT hF 17 124 _ hS rfl (by kernel_rfl) (ar ⟨17,.data⟩ (by simp) rfl);have m15:=fx hF 15 122 (.bool true) hS rfl (by kernel_rfl) (ar ⟨15,.guard⟩ (by simp) rfl);have tb:=ab (af hB HT18.o) 1;simp at tb;clear hF ar
   go_wp2_with fail
   exact bB.mk _ (Below.refl _ _) rfl rfl
  ·obtain⟨e18,f18⟩:=aT hF 18 125 _ hS rfl (by kernel_rfl) (ar ⟨18,.data⟩ (by simp) rfl);have m15:=fx hF 15 122 (.bool true) hS rfl (by kernel_rfl) (ar ⟨15,.guard⟩ (by simp) rfl);clear hF ar
   go_wp2_with fail
   exact bB.mk _ (Below.refl _ _) rfl rfl
  ·obtain⟨e19,f19⟩:=aT hF 19 126 _ hS rfl (by kernel_rfl) (ar ⟨19,.data⟩ (by simp) rfl);have m15:=fx hF 15 122 (.bool true) hS rfl (by kernel_rfl) (ar ⟨15,.guard⟩ (by simp) rfl);clear hF ar
   go_wp2_with fail
   exact bB.mk _ (Below.refl _ _) rfl rfl
  ·obtain⟨e16,f16⟩:=aT hF 16 123 _ hS rfl (by kernel_rfl) (ar ⟨16,.data⟩ (by simp) rfl);obtain⟨e20,f20⟩:=aT hF 20 127 _ hS rfl (by kernel_rfl) (ar ⟨20,.data⟩ (by simp) rfl);have m15:=fx hF 15 122 (.bool true) hS rfl (by kernel_rfl) (ar ⟨15,.guard⟩ (by simp) rfl);clear hF ar
   go_wp2_with fail
   refine(Fs kb.o (HS18.o.up hB) (wE (HL18.o.up up_link hB) 2 (by decide)) rS.o).mono ?_;rintro r W' ⟨rfl,gp⟩
   go_wp2_with fail
   exact bB.mk _ gp rfl rfl
  ·obtain⟨e21,f21⟩:=aT hF 21 128 _ hS rfl (by kernel_rfl) (ar ⟨21,.data⟩ (by simp) rfl);have m15:=fx hF 15 122 (.bool true) hS rfl (by kernel_rfl) (ar ⟨15,.guard⟩ (by simp) rfl);clear hF ar
   go_wp2_with fail
   exact bB.mk _ (Below.refl _ _) rfl rfl
  ·obtain⟨e15,f15⟩:=aT hF 15 122 _ hS rfl (by kernel_rfl) (ar ⟨15,.data⟩ (by simp) rfl);obtain⟨e22,f22⟩:=aT hF 22 129 _ hS rfl (by kernel_rfl) (ar ⟨22,.data⟩ (by simp) rfl);clear hF ar
   go_wp2_with fail
   exact bB.mk _ (Below.refl _ _) rfl rfl
  ·obtain⟨e23,f23⟩:=aT hF 23 130 _ hS rfl (by kernel_rfl) (ar ⟨23,.data⟩ (by simp) rfl);clear hF ar
   go_wp2_with fail
   exact bB.mk _ (Below.refl _ _) rfl rfl
 case tail=>
  clear hS;intro x w19 F hB aS hF;have e24:=aS 24 (by omega);change x 24=_ at e24;clear aS;simp only[bD,cX,List.setIfInBounds_toArray,List.set_cons_succ,List.set_cons_zero,Nat.reduceAdd]at hF;rw[e24]at hF;generalize x 0=r0,x 1=r1,x 2=r2,x 3=r3,x 4=r4,x 5=r5,x 6=r6,x 7=r7,x 8=r8,x 9=r9,x 10=r10,x 11=r11,x 12=r12,x 13=r13,x 14=r14,x 15=r15,x 16=r16,x 17=r17,x 18=r18,x 19=r19,x 20=r20,x 21=r21,x 22=r22,x 23=r23 at hF;subst hF;have HB19:=aa (ae HB18.o hB);clear hB e24
  go_wp2_with fail
  go_ret
  exact⟨rfl,HB19.o⟩
theorem KF(p:Pb) (vc vs:Value) (w:World) (hc:bN w vc p.t.cases) (hs:bA w vs p.a.states) :
  Calls Tryz.prog 59 #[nN p vc vs] w fun r w'=>r=.returned (.bool (fewPB p&&decide (buildE p=0)))/\Below w.heap.size w w':=by
 have GC:=aa hc;have GS:=aa hs;obtain⟨pc,cc,rfl,_⟩:=hc.at;obtain⟨ps,cs,rfl,_⟩:=hs.at;have HF:=aa (fun W (hb:Below w.heap.size w W)=>Hz p _ _ W (GC.o.up up_case hb) (GS.o.up up_moves hb));have nZ:=aa (fun (h:fewPB p=true) W (hb:Below w.heap.size w W)=>wH p _ _ W (GC.o.up up_case hb) (GS.o.up up_moves hb) (by have:=pU h;omega) (zA h));unfold Ed zB at nZ;obtain⟨be,la⟩:∃ be,buildE p=be:=⟨_,rfl⟩;rw[la]at nZ ⊢;generalize fewPB p=fb at HF nZ ⊢;clear hc hs la;generalize p.t.cases.length=nc,p.a.states.length=ns at HF nZ ⊢
 go_enter Tryz.func59,Tryz.ntmps59
 go_wp2_with fail
 refine aQ (fun W=>Below w.heap.size w W/\W.heap[w.heap.size]?=some (.cells #[.int .i64 p.t.n,.int .i64 p.t.ins,.int .i64 p.t.outs,.slice pc nc cc,.int .i64 p.a.n,.slice ps ns cs,.int .i64 p.rounds] 29)) ⟨by go_grown,aq _ _⟩ (fun W0 bh=>?_);obtain⟨aJ,bK⟩:=bh;refine(HF.o W0 aJ).mono ?_;rintro r w1 ⟨rfl,aM⟩;have bL:=aa (ae aJ aM);have tA:=ab (af aM bK);clear aJ bK aM HF;cases fb with
 | false=>
  go_wp2_with fail
  go_ret
  exact⟨rfl,bL.o⟩
 | true=>
 have jw:=aa (nZ.o rfl);clear nZ
 go_wp2_with fail
 clear tA;refine(jw.o w1 bL.o).mono ?_;rintro r w2 ⟨⟨c,rfl,h1,h2⟩,aY⟩;have cV:=aa (ae bL.o aY);clear aY jw;by_cases hz:be=0
 case neg=>
  obtain rfl:=h2 hz;have LZ:(be == 0)=false:=by simpa using hz
  have HD:am (decide (be=0)=false):=aa (decide_eq_false hz);have HG:am (Below w.heap.size w (w2.alloc (.cells zeroSys 35))):=aa (cV.o.alloc cV.o.size _);clear hz h1 h2
  go_wp2_with fail
  go_ret
  exact⟨by rw[HD.o];rfl,HG.o⟩
 obtain⟨ut,ue,rfl,⟨⟨a3,c3,rfl⟩,a4,c4,rfl⟩,_⟩:=h1 hz;subst hz;have HG:am (∀ o:Obj,Below w.heap.size w (w2.alloc o)):=aa (fun o=>cV.o.alloc cV.o.size _);clear h1 h2
 go_wp2_with fail
 go_ret
 exact⟨rfl,HG.o _⟩
theorem Nb(s:Sys) (vc vs vt ve:Value) (w:World) (dy:IsSys w s vc vs vt ve) (hN:movesN s.prob.a.states<2305843009213693952) (hf:uC s.prob) :
  Calls Tryz.prog 39 #[.agg (cj s.prob vc vs s.n vt ve)] w fun r w'=>r=.returned (.int .i64 (readyE s))/\Below w.heap.size w w':=by
 have HS:=aa dy;obtain⟨⟨qc,kc,rfl⟩,⟨qs,ks,rfl⟩,⟨qt,kt,rfl⟩,⟨qe,ke,rfl⟩⟩:=bM dy;have zf:=aa (fun W (hb:Below w.heap.size w W)=>Ee s _ _ _ _ W (HS.o.up hb) hN hf);have FD:=aa (fun W (hb:Below w.heap.size w W)=>M7 s.prob.t _ W (HS.o.cases.up up_case hb));have dd:am (readyE s=if verifyE s≠0 then verifyE s else if agreeB s.prob.t then 0 else 11):=aa rfl;generalize readyE s=re at dd ⊢;generalize verifyE s=vr at zf dd;generalize agreeB s.prob.t=ag at FD dd;clear dy hN hf;generalize s.prob.t.cases.length=nc,s.prob.a.states.length=ns,s.tab.length=nt,s.ex.length=ne at zf FD ⊢
 go_enter Tryz.func39,Tryz.ntmps39
 go_wp2_with fail
 refine aQ (fun W=>Below w.heap.size w W/\∃ c,W.heap[w.heap.size]?=some (.cells c 35)/\c=cj s.prob (.slice qc nc kc) (.slice qs ns ks) s.n (.slice qt nt kt) (.slice qe ne ke)) ⟨by go_grown,_,aq _ _,rfl⟩ (fun W0 bh=>?_);obtain⟨aJ,_,bK,rfl⟩:=bh;refine(zf.o W0 aJ).mono ?_;rintro r w1 ⟨rfl,aM⟩;have bL:=aa (ae aJ aM);have tA:=ab (af aM bK);clear aJ bK aM zf;by_cases hz:vr=0
 case neg=>
  have LZ:(vr != 0)=true:=by simpa using hz
  have HV:am (re=vr):=aa (by rw[dd.o,if_pos hz]);clear hz FD
  go_wp2_with fail
  go_ret
  exact⟨aF HV.o.symm,bL.o⟩
 have HV:am (re=if ag then 0 else 11):=aa (by rw[dd.o,if_neg (by omega)]);subst hz;clear dd
 go_wp2_with fail
 refine(FD.o w1 bL.o).mono ?_;rintro r w2 ⟨rfl,aY⟩;have cV:=aa (ae bL.o aY);clear tA aY FD;cases ag with
 | true=>
  go_wp2_with fail
  go_ret
  exact⟨aF (by rw[HV.o];rfl),cV.o⟩
 | false=>
  go_wp2_with fail
  go_ret
  exact⟨aF (by rw[HV.o];rfl),cV.o⟩
theorem PV{s:Sys} {vc vs vt ve:Value} {w:World} (dy:IsSys w s vc vs vt ve) (hN:movesN s.prob.a.states<2305843009213693952) (hf:uC s.prob):IA s vc vs vt ve w:=fun W hb=>Nb s vc vs vt ve W (dy.up hb) hN hf
theorem Ft{p:Pb} (h:fewPB p=true) (h0:buildE p=0):eS (aK p)<=60:=by
 have h1:=rG p (aO p) (fj p) ([],[]);have h2:(aK p).ex.length=0+(fj p).length:=h1;rw[iu]at h2;unfold buildE at h0;by_cases hp:probE p=0
 ·rw[if_neg (by omega)]at h0;by_cases h4:4096<p.t.cases.length * (aO p).length
  ·rw[if_pos h4]at h0;omega
  ·unfold eS;rcases zA h hp with h5|h5<;>omega
 ·rw[if_pos hp]at h0;exact absurd h0 hp
def Si(p:Pb) (vc vs:Value) (r:Ending) (w':World):Prop:=
 (∃ (i0 i1 i2 i4 i6 i7:Int) (a3 a5 a8 a9:Option Addr) (n3 n5 n8 n9 c3 c5 c8 c9:Nat),r=.returned (.tuple #[.agg #[.int .i64 i0,.int .i64 i1,.int .i64 i2,.slice a3 n3 c3,.int .i64 i4,.slice a5 n5 c5,.int .i64 i6,.int .i64 i7,.slice a8 n8 c8,.slice a9 n9 c9],.bool false])) ∨
 (∃ vt ve,r=.returned (.tuple #[.agg (cj p vc vs p.t.n vt ve),.bool true])/\IsSys w' (aK p) vc vs vt ve/\buildE p=0/\readyE (aK p)=0/\fewPB p=true)
theorem vg(tmps:Array Value) (B:Nat) (W:World) (c0 c1 c2 c3 c4 c5 c6 c7 c8 c9:Value) (b:Bool) (h2:tmps[2]?.getD undef=.pointer (some ⟨B,0,none⟩)) (h3:tmps[3]?.getD undef=.bool b)
  (hB:W.heap[B]?=some (.cells #[c0,c1,c2,c3,c4,c5,c6,c7,c8,c9] 35)) :
  (results Tryz.f26 tmps).run Tryz.prog W=.ok (.tuple #[.agg #[c0,c1,c2,c3,c4,c5,c6,c7,c8,c9],.bool b]) W:=by
 have t2:=ab hB;simp[results,Tryz.results26,go_sem,h2,h3,t2]
theorem Nc(p:Pb) (vc vs:Value) (w:World) (hc:bN w vc p.t.cases) (hs:bA w vs p.a.states) :
  Calls Tryz.prog 26 #[nN p vc vs] w fun r w'=>Si p vc vs r w'/\Below w.heap.size w w':=by
 have GC:=aa hc;have GS:=aa hs;obtain⟨pc,cc,rfl,_⟩:=hc.at;obtain⟨ps,cs,rfl,_⟩:=hs.at;have Uz:=aa (fun W (hb:Below w.heap.size w W)=>KF p _ _ W (GC.o.up up_case hb) (GS.o.up up_moves hb));have vK:=aa (fun (h:fewPB p=true) (h0:buildE p=0) W (hb:Below w.heap.size w W)=>Cv p _ _ W (GC.o.up up_case hb) (GS.o.up up_moves hb) (by have:=pU h;omega) (zA h) h0);have kT:am (∀ (h:fewPB p=true) (h0:buildE p=0) vt ve W,IsSys W (aK p) (.slice pc p.t.cases.length cc) (.slice ps p.a.states.length cs) vt ve->Calls Tryz.prog 14 #[.agg (cj p (.slice pc p.t.cases.length cc) (.slice ps p.a.states.length cs) p.t.n vt ve)] W fun r w'=>∃ u,r=.returned (.tuple #[u,.int .i64 (choiceR (aK p)).2])/\aX w' u (choiceR (aK p)).1/\Below W.heap.size W w'):=aa (fun h h0 vt ve W dy=>KD (aK p) (by have:=Ft h h0;omega) _ _ vt ve W dy (PV dy (show movesN p.a.states<_ by have:=pU h;omega) (zA h)));have vj:am ((∀ W,Below w.heap.size w W->bN W (.slice pc p.t.cases.length cc) p.t.cases)/\∀ W,Below w.heap.size w W->bA W (.slice ps p.a.states.length cs) p.a.states):=aa ⟨fun W hb=>GC.o.up up_case hb,fun W hb=>GS.o.up up_moves hb⟩
 have kb:am ((choiceR (aK p)).2=readyE (aK p)):=aa (by
  unfold choiceR;by_cases h:readyE (aK p)=0
  ·rw[if_neg (by omega)];exact h.symm
  ·rw[if_pos h])
 generalize choiceR (aK p)=cr at kT kb;unfold zB at vK;clear hc hs GC GS;have fZ:am (∀ (i0 i1 i2 i4 i6 i7:Int) (a3 a5 a8 a9:Option Addr) (n3 n5 n8 n9 c3 c5 c8 c9:Nat) W,Si p (.slice pc p.t.cases.length cc) (.slice ps p.a.states.length cs) (.returned (.tuple #[.agg #[.int .i64 i0,.int .i64 i1,.int .i64 i2,.slice a3 n3 c3,.int .i64 i4,.slice a5 n5 c5,.int .i64 i6,.int .i64 i7,.slice a8 n8 c8,.slice a9 n9 c9],.bool false])) W):=aa (fun i0 i1 i2 i4 i6 i7 a3 a5 a8 a9 n3 n5 n8 n9 c3 c5 c8 c9 W=>.inl ⟨i0,i1,i2,i4,i6,i7,a3,a5,a8,a9,n3,n5,n8,n9,c3,c5,c8,c9,rfl⟩);have jT:am (∀ vt ve W,IsSys W (aK p) (.slice pc p.t.cases.length cc) (.slice ps p.a.states.length cs) vt ve->buildE p=0->readyE (aK p)=0->fewPB p=true->Si p (.slice pc p.t.cases.length cc) (.slice ps p.a.states.length cs) (.returned (.tuple #[.agg (cj p (.slice pc p.t.cases.length cc) (.slice ps p.a.states.length cs) p.t.n vt ve),.bool true])) W):=aa (fun vt ve W h1 h2 h3 h4=>.inr ⟨vt,ve,rfl,h1,h2,h3,h4⟩);obtain⟨nc,iI⟩:∃ nc,p.t.cases.length=nc:=⟨_,rfl⟩;obtain⟨ns,oL⟩:∃ ns,p.a.states.length=ns:=⟨_,rfl⟩;rw[iI,oL]at Uz vK kT vj fZ jT ⊢;obtain⟨rb,Dm⟩:∃ rb,(fewPB p&&decide (buildE p=0))=rb:=⟨_,rfl⟩;rw[Dm]at Uz;have HRB:=aa Dm;clear iI oL Dm
 go_enter Tryz.func26,Tryz.ntmps26
 go_wp2_with fail
 refine aQ (fun W=>Below w.heap.size w W/\W.heap[w.heap.size]?=some (.cells #[.int .i64 p.t.n,.int .i64 p.t.ins,.int .i64 p.t.outs,.slice pc nc cc,.int .i64 p.a.n,.slice ps ns cs,.int .i64 p.rounds] 29)/\W.heap[w.heap.size+1]?=some (.cells zeroSys 35)) ⟨by go_grown,az _ (aq _ _),bz _ _ _⟩ (fun W0 bh=>?_);obtain⟨aJ,bK,gq⟩:=bh;refine(Uz.o W0 aJ).mono ?_;rintro r w1 ⟨rfl,aM⟩;have bL:=aa (ae aJ aM);have dN:=aa (af aM bK);have dd:=aa (af aM gq);have fV:=aC dd.o;clear aJ bK gq aM Uz;cases rb with
 | false=>
  clear vK kT jT
  go_wp2_with (refine wpList_store_row rfl 35 (.tmp 2) (.tmp 10) rfl (w.heap.size+1) zeroSys rfl rfl 35 _ dd.o (by kernel_rfl) rfl (by simp[Value.oneCell']) ?_)
  exact bodyPost_ret (vg _ (w.heap.size+1) _ _ _ _ _ _ _ _ _ _ _ false rfl rfl (setRow_heap _ _ _ _ _ _ dd.o)) rfl ⟨fZ.o _ _ _ _ _ _ _ _ _ _ _ _ _ _ _ _ _ _ _,below_setRow bL.o (by omega) _⟩
 | true=>
 obtain⟨hf,h0⟩:fewPB p=true/\buildE p=0:=by have:=HRB.o;simpa using this
 have jw:=aa (vK.o hf h0);have uj:=aa (kT.o hf h0);have HYY:=aa (fun vt ve W h1 h3=>jT.o vt ve W h1 h0 h3 hf);have tA:=ab dN.o;clear hf h0 vK kT jT HRB
 go_wp2_with fail
 clear tA;refine(jw.o w1 bL.o).mono ?_;rintro r w2 ⟨vt,ve,rfl,⟨⟨⟨a3,c3,rfl⟩,a4,c4,rfl⟩,eM⟩,aY⟩;have LI:=aa eM;have cV:=aa (ae bL.o aY);have eH:=aa (af aY dd.o);obtain⟨nt,Ay⟩:∃ nt,(aK p).tab.length=nt:=⟨_,rfl⟩;obtain⟨ne,bP⟩:∃ ne,(aK p).ex.length=ne:=⟨_,rfl⟩;rw[Ay,bP]at LI ⊢;have cD:=aY.size;clear eM aY Ay bP jw dd dN;have te:=ab (aq w2 (.cells #[.int .i64 p.t.n,.int .i64 p.t.ins,.int .i64 p.t.outs,.slice pc nc cc,.int .i64 p.a.n,.slice ps ns cs,.int .i64 p.rounds,.int .i64 p.t.n,.slice a3 nt c3,.slice a4 ne c4] 35))
 go_wp2_with fail
 clear te;refine aQ (fun W=>Below w2.heap.size w2 W/\W.heap[w2.heap.size]?=some (.cells #[.int .i64 p.t.n,.int .i64 p.t.ins,.int .i64 p.t.outs,.slice pc nc cc,.int .i64 p.a.n,.slice ps ns cs,.int .i64 p.rounds,.int .i64 p.t.n,.slice a3 nt c3,.slice a4 ne c4] 35)) ⟨by go_grown,aq _ _⟩ (fun W3 mn=>?_);have bH:=ae cV.o mn.1;have hsy3:=LI.o W3 (fun k _ hk=>mn.1.block k hk) (vj.o.1 W3 bH) (vj.o.2 W3 bH);refine(uj.o _ _ W3 hsy3).mono ?_;rintro r w4 ⟨u4,rfl,mm,bR⟩;obtain⟨a9,n9,c9,rfl⟩:∃ a n c,u4=.slice a n c:=by obtain⟨a,c,e,_⟩:=mm.at;exact⟨_,_,_,e⟩
 have NI:=ae mn.1 bR;have Fv:=aa (NI);have kH:=aa (af bR mn.2);have eU:=aa (ae cV.o NI);have pk:=aa (af NI eH.o);have yH:=aC pk.o;obtain⟨re,ka⟩:∃ re,cr.2=re:=⟨_,rfl⟩;rw[ka];have LY:am (readyE (aK p)=re):=aa (kb.o.symm.trans ka);clear bH hsy3 NI mn bR mm ka kb uj;have tx:=ab kH.o
 go_wp2_with (refine wpList_store_row rfl 35 (.tmp 2) (.tmp 18) rfl (w.heap.size+1) #[.int .i64 p.t.n,.int .i64 p.t.ins,.int .i64 p.t.outs,.slice pc nc cc,.int .i64 p.a.n,.slice ps ns cs,.int .i64 p.rounds,.int .i64 p.t.n,.slice a3 nt c3,.slice a4 ne c4] rfl rfl 35 _ pk.o (by kernel_rfl) rfl (by simp[Value.oneCell']) ?_)
 refine bodyPost_ret (vg _ (w.heap.size+1) _ _ _ _ _ _ _ _ _ _ _ (re == 0) rfl rfl (setRow_heap _ _ _ _ _ _ pk.o)) rfl ⟨?_,below_setRow eU.o (by omega) _⟩;by_cases hz:re=0
 ·have hd:(re == 0)=true:=by rw[hz];rfl
  rw[hd];refine HYY.o _ _ _ ?_ (LY.o.trans hz);refine LI.o _ (fun k hk mr=>?_) (vj.o.1 _ (below_setRow eU.o (by omega) _)) (vj.o.2 _ (below_setRow eU.o (by omega) _));rw[setRow_other _ _ _ _ (by omega)];exact Fv.o.block k mr
 ·have hd:(re == 0)=false:=beq_eq_false_iff_ne.2 hz;rw[hd];exact fZ.o _ _ _ _ _ _ _ _ _ _ _ _ _ _ _ _ _ _ _
theorem shr_has:∀ m:Fin 32,∀ q:Fin 6,(bits .and .i64 (((m.val:Nat):Int) / 2 ^ q.val) 1 == 0)=!hasB ((m.val:Nat):Int) q.val:=by decide +kernel
theorem Eh(p:Pb) (q:Int) (hq:0<=q/\q<=255) (vc vs:Value) (w:World) (hT:io w) (hc:bN w vc p.t.cases) (hs:bA w vs p.a.states) :
  Calls Tryz.prog 6 #[nN p vc vs,.int .u8 q] w fun r w'=>r=.returned (.bool true)/\Below w.heap.size w w':=by
 obtain⟨i0,cY,cC,bY,cD⟩:=info_parts Tryz.infoLink;have bZ:=aa (And.intro cY (And.intro cC (And.intro bY cD)));clear cY cC bY cD;have GC:=aa hc;have GS:=aa hs;have HT:=aa hT;have Tw:=aa (fun W (hb:Below w.heap.size w W)=>IJ W (HT.o.up hb));have jA:=aa (fun W (hb:Below w.heap.size w W)=>Nc p vc vs W (GC.o.up up_case hb) (GS.o.up up_moves hb));obtain⟨pc,cc,rfl,_⟩:=hc.at;obtain⟨ps,cs,rfl,_⟩:=hs.at;clear hc hs hT GC GS;obtain⟨nc,iI⟩:∃ nc,p.t.cases.length=nc:=⟨_,rfl⟩;obtain⟨ns,oL⟩:∃ ns,p.a.states.length=ns:=⟨_,rfl⟩;rw[iI,oL]at jA ⊢;clear iI oL
 go_enter Tryz.func6,Tryz.ntmps6
 go_wp2_with fail
 refine aQ (fun W=>Below w.heap.size w W) (by go_grown) (fun W0 aJ=>?_);refine(jA.o W0 aJ).mono ?_;rintro r w1 ⟨hscn,aM⟩;have bL:=aa (ae aJ aM);clear aJ aM jA;rcases hscn with ⟨j0,i1,i2,i4,i6,i7,a3,a5,a8,a9,n3,n5,n8,n9,c3,c5,c8,c9,rfl⟩|⟨vt,ve,rfl,dy,h0,ka,hf⟩
 ·have HG:am (∀ o:Obj,Below w.heap.size w (w1.alloc o)):=aa fun o=>bL.o.alloc bL.o.size _
  go_wp2_with fail
  refine aQ (fun W=>Below w.heap.size w W) (HG.o _) (fun W2 aY=>?_);refine(Tw.o W2 aY).mono ?_;rintro r w3 ⟨rfl,bH⟩;have dX:=aa (ae aY bH);clear aY bH
  go_wp2_with fail
  go_ret
  exact⟨rfl,dX.o⟩
 have HS:=aa dy;obtain⟨_,_,⟨qt,kt,rfl⟩,⟨qe,ke,rfl⟩⟩:=bM dy;have fL:=Fp ka;have hE:=Ft hf h0;have Fw:movesN p.a.states<1099511627776:=by have:=pU hf;omega
 obtain⟨ls,fb,hfw,hfound⟩:=My ka hE;have LY:=aa ka;have dI:=aa fL;have XL:am (∀ W,Below w1.heap.size w1 W->Calls Tryz.prog 18 #[.agg (cj p (.slice pc nc cc) (.slice ps ns cs) p.t.n (.slice qt (aK p).tab.length kt) (.slice qe (aK p).ex.length ke))] W fun r w'=>Wg (ls,fb,0) r w'/\Below W.heap.size W w'):=aa (fun W hb=>by rw[<-hfw];exact Fo (aK p) (by omega) _ _ _ _ W (HT.o.up (ae bL.o hb)) (HS.o.up hb) Fw);have zf:am (∀ l vl W,Below w1.heap.size w1 W->bJ W vl l->Calls Tryz.prog 24 #[.agg (cj p (.slice pc nc cc) (.slice ps ns cs) p.t.n (.slice qt (aK p).tab.length kt) (.slice qe (aK p).ex.length ke)),.agg #[.int .i64 1,vl,.slice none 0 0,.slice none 0 0,.slice none 0 0]] W fun r w'=>r=.returned (.int .i64 (certE (aK p) ⟨1,l,0,0,0⟩))/\Below W.heap.size W w'):=aa (fun l vl W hb hl=>Ai (aK p) (by omega) _ _ _ _ vl ⟨1,l,0,0,0⟩ none 0 none 0 none 0 W (HS.o.up hb) Fw hl);have sX:am (∀ e:Nat,e<eS (aK p)->∀ W,Below w1.heap.size w1 W->Calls Tryz.prog 28 #[.agg (cj p (.slice pc nc cc) (.slice ps ns cs) p.t.n (.slice qt (aK p).tab.length kt) (.slice qe (aK p).ex.length ke)),.int .i64 e] W fun r w'=>r=.returned (.int .i64 (oblM (aK p) e:Nat))/\Below W.heap.size W w'):=aa (fun e he W hb=>yr (aK p) fL e he _ _ _ _ W (HS.o.up hb))
 have jV:1<=p.t.n/\p.t.n<=5:=by
  have h:=fL.n;have e:nS (aK p)=p.t.n.toNat:=rfl;omega
 have Gc:am ((nS (aK p):Int)=p.t.n):=aa (by have e:nS (aK p)=p.t.n.toNat:=rfl;omega);have tt:=aa hfound;have hE2:=hE;generalize (aK p).tab.length=nt,(aK p).ex.length=ne at XL zf sX ⊢;clear dy h0 ka hf fL Fw hfw hfound hE;have te:=ab (aq w1 (.cells #[.int .i64 p.t.n,.int .i64 p.t.ins,.int .i64 p.t.outs,.slice pc nc cc,.int .i64 p.a.n,.slice ps ns cs,.int .i64 p.rounds,.int .i64 p.t.n,.slice qt nt kt,.slice qe ne ke] 35))
 go_wp2_with fail
 clear te;refine aQ (fun W=>Below w1.heap.size w1 W/\W.heap[w1.heap.size]?=some (.cells #[.int .i64 p.t.n,.int .i64 p.t.ins,.int .i64 p.t.outs,.slice pc nc cc,.int .i64 p.a.n,.slice ps ns cs,.int .i64 p.rounds,.int .i64 p.t.n,.slice qt nt kt,.slice qe ne ke] 35)) ⟨by go_grown,aq _ _⟩ (fun W2 fh=>?_);obtain⟨aY,Qc⟩:=fh;refine(XL.o W2 aY).mono ?_;rintro r w3 ⟨⟨u,rfl,hu⟩,bH⟩;dsimp only at hu ⊢;obtain⟨aL,cL,rfl,_⟩:=hu.at;obtain⟨n9,hn⟩:∃ n9,ls.length=n9:=⟨_,rfl⟩;rw[hn]at hu ⊢;have HN:=aa hn;have dX:=aa (ae aY bH);have iS:=aa (af bH Qc);have HL:=aa hu;clear aY Qc bH hu XL hn;cases fb with
 | false=>
  clear zf sX tt
  go_wp2_with fail
  refine aQ (fun W=>Below w1.heap.size w1 W) (dX.o.alloc dX.o.size _) (fun W4 bR=>?_);refine(Tw.o W4 (ae bL.o bR)).mono ?_;rintro r w5 ⟨rfl,dG⟩;have lC:=aa (ae (ae bL.o bR) dG);clear bR dG
  go_wp2_with fail
  go_ret
  exact⟨rfl,lC.o⟩
 | true=>
 obtain⟨Lr,IS,xE⟩:=tt.o rfl;have JX:=aa Lr;have CL:=aa IS;have F4:=aa (Ia Lr);have oJ:0<n9:=by rw[<-HN.o];exact(Ia Lr).1
 rw[HN.o]at xE;clear Lr IS tt;have hne0:((n9:Int) == 0)=false:=beq_eq_false_iff_ne.2 (by omega);have hne1:(n9 == 0)=false:=beq_eq_false_iff_ne.2 (by omega);have tc:=ab (aq w3 (.cells (eL 1 (.slice aL n9 cL)) 58));have ta:=fun o=>ab (az o iS.o)
 go_wp2_with fail
 clear tc ta;refine aQ (fun W=>Below w3.heap.size w3 W/\W.heap[w3.heap.size]?=some (.cells (eL 1 (.slice aL n9 cL)) 58)) ⟨by go_grown,aq _ _⟩ (fun W4 hW4=>?_);obtain⟨bR,hY4⟩:=hW4;refine(zf.o ls _ W4 (ae dX.o bR) (HL.o.up up_link bR)).mono ?_;rintro r w5 ⟨rfl,dG⟩;rw[DQ LY.o JX.o CL.o];have NG:=ae bR dG;have lC:=aa (ae dX.o NG);have Fy:=aa (af NG iS.o);have UH:=aa (af dG hY4);have HL5:=aa (HL.o.up up_link NG);clear bR hY4 dG NG iS;obtain⟨n1,hn1n⟩:∃ n1,n9=n1+1:=⟨n9 - 1,by omega⟩;have jx:IntKind.i64.wrap ((n9:Int) - 1)=(n1:Int):=by rw[IntWalk.i64_in _ (by omega)];omega
 have SX:n1<n9:=by omega
 have iy:n9<=n1+1:=by omega
 have qE:=aa hn1n;have tc:=fun o=>ab (az o UH.o)
 have tc0:=ab UH.o;clear hn1n
 go_wp2_with fail
 clear tc tc0;refine bF (fun W=>Below w5.heap.size w5 W/\W.heap[w5.heap.size]?=some (.cells (eL 1 (.slice none 0 0)) 58)) ⟨by go_grown,aq _ _⟩ (fun W6 tj=>?_);have AR:=aa tj;clear tj
 go_wp2_with fail
 go_loopw [12] (fun i wr=>∃ (j:Nat) (iv:Int),i=.int .i64 iv/\iv=(n1:Int) - j/\j<=n9/\Below w5.heap.size w5 wr/\∃ v,wr.heap[w5.heap.size]?=some (.cells (eL 1 v) 58)/\aI wr (w5.heap.size+1) 75 2 v j (cH ((jr ls).take j))) (fun i _=>(intOf i+1).toNat)
 ·exact⟨0,n1,rfl,by omega,by omega,AR.o.1,_,AR.o.2,aI.nil _ _ _ _⟩
 ·
  clear AR;obtain⟨j,iv,rfl,hiv,hj,aB,v,jH,bg⟩:=hrel;obtain⟨av,cv,rfl⟩:=bg.slice;have aU:=aa aB;have bV:=aa jH;have oO:=aa bg;have HYR:=aa (af aB UH.o);have hsB:=aC jH
  obtain⟨b1,o1,rfl,iU⟩:∃ b o,aL=some ⟨b,o,none⟩/\∀ i,i<n9->∀ W,Below w5.heap.size w5 W->W.cell? ⟨b,o+i * 2,none⟩=some (.int .i64 (ls.getD i default).x)/\W.cell? ⟨b,o+i * 2+1,none⟩=some (.int .i64 (ls.getD i default).p):=by
   obtain⟨a9,c9,e9,_,_,k9⟩:=HL5.o.at;obtain⟨b,o,e8,_⟩:=k9 0 (by rw[HN.o];omega);injection e9 with e91 _ _
   refine⟨b,o,e91.trans e8,fun i hi W hb=>?_⟩;obtain⟨b',o',e7,h1,h2⟩:=k9 i (by rw[HN.o];exact hi);rw[e8]at e7;injection e7 with e7
   injection e7 with e5 e6 _
   subst e5 e6;rw[aA _ (show i<ls.length by rw[HN.o];exact hi)];exact⟨ak hb h1.1,ak hb h2.1⟩
  have iU:=aa iU;clear aB jH bg;by_cases tm:j<n9
  ·obtain⟨k,Cx⟩:∃ k:Nat,k+j=n1:=⟨n1 - j,by omega⟩;obtain rfl:iv=(k:Int):=by omega
   have yQ:k<n9:=by omega
   have hd:decide ((0:Int)<=(k:Int))=true:=decide_eq_true (by omega);have hw3:IntKind.i64.wrap ((k:Int) - 1)=(k:Int) - 1:=by rw[IntWalk.i64_in _ (by omega)]
   have jy:=aa (PM (ls:=ls) (HN.o.trans qE.o) Cx);obtain⟨bv,F'⟩:∃ bv:Int,(if j=0 then -1 else(ls.getD (k+1) default).p)=bv:=⟨_,rfl⟩;rw[F']at jy;have C1:=aa (iU.o k yQ wr aU.o).1;obtain⟨xk,hxk⟩:∃ xk,(ls.getD k default).x=xk:=⟨_,rfl⟩;rw[hxk]at jy C1;have XV:=aa Cx;clear hxk hiv;by_cases kX:j=0
   case' pos=>
    have aM:bv=-1:=by rw[<-F',if_pos kX]
    have aD:decide ((k:Int)<(n1:Int))=false:=decide_eq_false (by omega);have kN:decide (k<n1)=false:=decide_eq_false (by omega);have HB1V:=aa aM;clear kX F' aM Cx
    go_wp2_with fail
    rw[<-HB1V.o];clear aD kN HB1V
   case' neg=>
    have aM:(ls.getD (k+1) default).p=bv:=by rw[<-F',if_neg kX]
    obtain⟨k1,kZ⟩:∃ k1,k+1=k1:=⟨_,rfl⟩;have c2:=(iU.o (k+1) (by omega) wr aU.o).2;rw[aM,kZ]at c2;have aD:decide ((k:Int)<(n1:Int))=true:=decide_eq_true (by omega);have kN:decide (k<n1)=true:=decide_eq_true (by omega);have vJ:IntKind.i64.wrap ((k:Int)+1)=(k1:Int):=by rw[IntWalk.i64_in _ (by omega)];omega
    have vp:k1<n9:=by omega
    have ty:=ab HYR.o;clear kX F' aM Cx kZ
    go_wp2_with fail
    clear aD kN c2 ty vJ vp
   all_goals
    have hS:List.Nodup [73,74,75,76,77,78,79,80,81,82,83]:=by decide
    refine fD 11 [73,74,75,76,77,78,79,80,81,82,83] [MP.eq (.pointer (some ⟨w5.heap.size,1,none⟩)),MP.eq (.slice av j cv),MP.eq (.pointer (some ⟨w3.heap.size,1,none⟩)),MP.eq (.slice (some ⟨b1,o1,none⟩) n9 cL),MP.eq (.int .i64 (k:Nat)),MP.eq (.pointer (some ⟨b1,o1+k * 2,none⟩)),MP.eq (.pointer (some ⟨b1,o1+k * 2,none⟩)),MP.eq (.int .i64 xk),MP.eq (.int .i64 bv),MP.eq (.agg #[.int .i64 xk,.int .i64 bv]),Yu #[.int .i64 xk,.int .i64 bv]] (by kernel_rfl) (by simp) hS rfl (by kernel_rfl) (by kernel_rfl) (by kernel_rfl) ?step ?tail
    case step=>
     intro xq Wq iq oq sq F hi ho hs hB ar hF;rcases (show iq=0\/iq=1\/iq=2\/iq=3\/iq=4\/iq=5\/iq=6\/iq=7\/iq=8\/iq=9\/iq=10 by omega) with rfl|rfl|rfl|rfl|rfl|rfl|rfl|rfl|rfl|rfl|rfl
     all_goals (obtain rfl:=dp ho.symm;obtain rfl:=dp hs.symm;clear hi ho hs)
     ·obtain⟨g11,IX⟩:=cW hF 11 (.pointer (some ⟨w5.heap.size,0,none⟩)) (by decide) rfl;clear hF ar
      go_wp2_with fail
      exact bB.mk _ (Below.refl _ _) rfl rfl
     ·obtain⟨e0,f0⟩:=aT hF 0 73 _ hS rfl (by kernel_rfl) (ar ⟨0,.data⟩ (by simp) rfl);have tb:=ab (af hB bV.o) 1;simp at tb;clear hF ar
      go_wp2_with fail
      exact bB.mk _ (Below.refl _ _) rfl rfl
     ·obtain⟨g7,h7⟩:=cW hF 7 (.pointer (some ⟨w3.heap.size,0,none⟩)) (by decide) rfl;clear hF ar
      go_wp2_with fail
      exact bB.mk _ (Below.refl _ _) rfl rfl
     ·obtain⟨e2,f2⟩:=aT hF 2 75 _ hS rfl (by kernel_rfl) (ar ⟨2,.data⟩ (by simp) rfl);have tb:=ab (af hB HYR.o) 1;simp at tb;clear hF ar
      go_wp2_with fail
      exact bB.mk _ (Below.refl _ _) rfl rfl
     ·obtain⟨g12,lS⟩:=cW hF 12 (.int .i64 (k:Nat)) (by decide) rfl;clear hF ar
      go_wp2_with fail
      exact bB.mk _ (Below.refl _ _) rfl rfl
     ·obtain⟨e3,f3⟩:=aT hF 3 76 _ hS rfl (by kernel_rfl) (ar ⟨3,.data⟩ (by simp) rfl);obtain⟨e4,f4⟩:=aT hF 4 77 _ hS rfl (by kernel_rfl) (ar ⟨4,.data⟩ (by simp) rfl);clear hF ar
      go_wp2_with fail
      exact bB.mk _ (Below.refl _ _) rfl rfl
     ·obtain⟨e5,f5⟩:=aT hF 5 78 _ hS rfl (by kernel_rfl) (ar ⟨5,.data⟩ (by simp) rfl);clear hF ar
      go_wp2_with fail
      exact bB.mk _ (Below.refl _ _) rfl rfl
     ·obtain⟨e6,f6⟩:=aT hF 6 79 _ hS rfl (by kernel_rfl) (ar ⟨6,.data⟩ (by simp) rfl);have tb:=ak hB C1.o;clear hF ar
      go_wp2_with fail
      exact bB.mk _ (Below.refl _ _) rfl rfl
     ·obtain⟨g13,h13⟩:=cW hF 13 (.int .i64 bv) (by decide) rfl;clear hF ar
      go_wp2_with fail
      exact bB.mk _ (Below.refl _ _) rfl rfl
     ·obtain⟨e7,f7⟩:=aT hF 7 80 _ hS rfl (by kernel_rfl) (ar ⟨7,.data⟩ (by simp) rfl);obtain⟨e8,f8⟩:=aT hF 8 81 _ hS rfl (by kernel_rfl) (ar ⟨8,.data⟩ (by simp) rfl);clear hF ar
      go_wp2_with fail
      exact bB.mk _ (Below.refl _ _) rfl rfl
     ·obtain⟨e9,f9⟩:=aT hF 9 82 _ hS rfl (by kernel_rfl) (ar ⟨9,.data⟩ (by simp) rfl);clear hF ar
      go_wp2_with fail
      exact bB.mk _ (by go_grown) ⟨_,rfl,aq _ _⟩ rfl
    case tail=>
     clear hS;intro xq W7 F hB aS hF;have e1:xq 1=.slice av j cv:=aS 1 (by omega);obtain⟨bl,e10,lQ⟩:∃ b,xq 10=.slice (some ⟨b,0,none⟩) 1 1/\W7.heap[b]?=some (.cells #[.int .i64 xk,.int .i64 bv] 75):=aS 10 (by omega);clear aS;simp only[bD,cX,List.setIfInBounds_toArray,List.set_cons_succ,List.set_cons_zero,Nat.reduceAdd]at hF;rw[e1,e10]at hF;generalize xq 0=s0,xq 2=s2,xq 3=s3,xq 4=s4,xq 5=s5,xq 6=s6,xq 7=s7,xq 8=s8,xq 9=s9 at hF;subst hF;clear e1 e10;have bE:=aa (IB (l:=[.int .i64 xk,.int .i64 bv]) lQ);have Lm:=aa (aU.o.trans (hB.mono aU.o.size));have Bz:=aa (oO.o.up hB);have HBX7:=aa (af hB bV.o);have jJ:am (j+1<=maxLen):=aa (by unfold maxLen;omega);have SY:am ((j+1) * 16<=140737488355328):=aa (by omega);have gm:am (w5.heap.size+1<=W7.heap.size):=aa (by have:=hB.size;omega);clear hB lQ;simp only[List.drop_succ_cons,List.drop_zero];refine aZ _ rfl (.tmp 74) (.tmp 83) 54 rfl (w5.heap.size+1) 75 i0 _ 2 16 Tryz.underlying54 bZ.o.1 bZ.o.2.1 bZ.o.2.2.1 bZ.o.2.2.2 rfl (by decide) _ j _ rfl Bz.o ⟨bl,0,none⟩ 1 1 [.int .i64 xk,.int .i64 bv] rfl rfl bE.o (by simp[Value.oneCell']) jJ.o SY.o gm.o ?_;intro v9 w9 eP dk _;have ff:am (Below w5.heap.size w5 w9):=aa (Lm.o.grown dk Lm.o.size (fun g h=>by have:=(Bz.o.lt g h).1;omega));have eC:w9.heap[w5.heap.size]?=some (.cells (eL 1 (.slice av j cv)) 58):=(dk.block _ (aC HBX7.o) (fun e=>by have:=(Bz.o.lt _ e.symm).1;omega)).trans HBX7.o;have sd:=aa eC;obtain⟨a9,c9,rfl⟩:=eP.slice;have Jo:=aa eP;have tb:=ab eC 1;simp at tb;have zb:=aG eC 1;clear eC eP dk
     go_wp2_with fail
     go_roundw
     ·exact⟨j+1,(k:Int) - 1,rfl,by have:=XV.o;omega,by omega,ff.o.setCell (by dsimp only;omega) _,_,aH sd.o 1 _,by rw[jy.o];exact Jo.o.put (B:=w5.heap.size) (fun g e=>by have:=(Jo.o.lt g e).1;omega) 1 _⟩
     ·simp[intOf]<;>omega
  ·obtain rfl:iv=-1:=by omega
   obtain rfl:j=n9:=by omega
   have nE:bJ wr (.slice av j cv) (jr ls):=by
    have h:=oO.o;rw[List.take_of_length_le (by rw[lq,HN.o];exact Nat.le_refl _)]at h;have e:(jr ls).length=j:=by rw[lq,HN.o]
    have h2:=nd (l:=jr ls) (v:=.slice av j cv) (base:=w5.heap.size+1) (w:=wr) (by rw[e];exact h) (fun y hy=>by have h3:=RI F4.o.2 y hy;have:=Gc.o;exact⟨⟨by omega,by omega⟩,⟨by omega,by omega⟩⟩) (by rw[e];omega);exact h2
   have F9:=aa nE;have HXR:=aa (af aU.o Fy.o);clear nE hiv oO;have ta:=ab HXR.o;have tx:=ab bV.o
   go_wp2_with fail
   clear ta tx;refine(zf.o (jr ls) _ wr (ae lC.o aU.o) F9.o).mono ?_;rintro r w7 ⟨rfl,xa⟩;rw[DQ LY.o (KP JX.o CL.o).1 (KP JX.o CL.o).2];have Ez:=ae aU.o xa;have Lm:=aa (ae lC.o Ez);have CU:=aa (af Ez Fy.o);have Xu:=aa (af Ez UH.o);have HL7:=aa (HL5.o.up up_link Ez);have jI:=(iU.o n1 SX w7 Ez).1
   have Qx:0<=(ls.getD n1 default).x/\(ls.getD n1 default).x.toNat<eS (aK p):=by
    have h:=F4.o.2 _ (List.getElem_mem (show n1<ls.length by rw[HN.o];exact SX));rw[aA _ (show n1<ls.length by rw[HN.o];exact SX)];exact⟨h.1,h.2.1⟩
   obtain⟨e,he⟩:∃ e:Nat,(ls.getD n1 default).x=e:=⟨(ls.getD n1 default).x.toNat,by omega⟩;rw[he]at jI Qx;have oe:=aa he;have hlt3:e<eS (aK p):=by simpa using Qx.2
   have hmv2:movesN p.a.states=movesN p.a.states:=rfl;have xg:IntKind.i64.wrap q=q:=IntWalk.i64_in _ (by omega);have Ye:=Int.emod_nonneg q (show p.t.n≠0 by omega);have hm2:=Int.emod_lt_of_pos q (show 0<p.t.n by omega);obtain⟨qq,hqq⟩:∃ qq:Nat,q % p.t.n=qq:=⟨(q % p.t.n).toNat,by omega⟩;have Lw:Int.tmod q p.t.n=(qq:Int):=by rw[Int.tmod_eq_emod_of_nonneg hq.1];exact hqq
   have CT:(p.t.n == 0)=false:=beq_eq_false_iff_ne.2 (by omega);have hq5:(qq:Int)<p.t.n:=by omega
   have CQ7:=aa jI;have ta:=ab CU.o;have ty:=ab Xu.o;clear xa Ez Qx he Ye hm2 hqq hmv2
   go_wp2_with fail
   have HCL2:=aa (fun W (hb:Below w7.heap.size w7 W)=>pX (.slice (some ⟨b1,o1,none⟩) j cL) ls W (HL7.o.up up_link hb) (by have:=HN.o;omega));rw[HN.o]at HCL2;have hS:List.Nodup [103,104,105,106,107,108,109,110,111,112,113,16]:=by decide
   obtain⟨VS,xx⟩:∃ VS:List (Option Value),VS=[some (.pointer (some ⟨w3.heap.size,0,none⟩)),some (.int .i64 1),some (.pointer (some ⟨w3.heap.size,1,none⟩)),some (.slice (some ⟨b1,o1,none⟩) j cL),none,some (.int .i64 e),some (.int .i64 qq),some (.agg #[.int .i64 e,.int .i64 qq]),none,none,none,none,none]:=⟨_,rfl⟩;have HO0:am (∀ x,OnR w7 VS j (cH ls) [.int .i64 e,.int .i64 qq] (fun _=>false) x w7.drew):=aa fun x=>OnR.start x (Below.refl _ _).drew
   clear ta ty;refine lH 13 [103,104,105,106,107,108,109,110,111,112,113,16] (OnR w7 VS j (cH ls) [.int .i64 e,.int .i64 qq]) (by kernel_rfl) rfl hS (by kernel_rfl) HO0.o ?step ?free ?last
   case step=>
    intro x W D i o s' F ho qI hD ar hc hF;have hi:i<12:=(List.getElem?_eq_some_iff.1 qI).1;rcases (show i=0\/i=1\/i=2\/i=3\/i=4\/i=5\/i=6\/i=7\/i=8\/i=9\/i=10\/i=11 by omega) with rfl|rfl|rfl|rfl|rfl|rfl|rfl|rfl|rfl|rfl|rfl|rfl
    all_goals (obtain rfl:=dp ho.symm;obtain rfl:=dp qI.symm;clear hi ho qI;subst xx)
    ·obtain⟨g7,h7⟩:=cW hF 7 (.pointer (some ⟨w3.heap.size,0,none⟩)) (by decide) rfl;clear hF ar
     go_wp2_with fail
     exact cI.mk (.pointer (some ⟨w3.heap.size,0,none⟩)) (hc.set 0 (by omega) hD rfl) rfl
    ·obtain⟨e0,f0⟩:=aT hF 0 103 _ hS rfl (by kernel_rfl) (hc.val 0 _ rfl (ar ⟨0,.data⟩ (by simp) rfl));have tb:=ab (af hc.below Xu.o) 0;simp at tb;clear hF ar
     go_wp2_with fail
     exact cI.mk (.int .i64 1) (hc.set 1 (by omega) hD rfl) rfl
    ·obtain⟨g7,h7⟩:=cW hF 7 (.pointer (some ⟨w3.heap.size,0,none⟩)) (by decide) rfl;clear hF ar
     go_wp2_with fail
     exact cI.mk (.pointer (some ⟨w3.heap.size,1,none⟩)) (hc.set 2 (by omega) hD rfl) rfl
    ·obtain⟨e0,f0⟩:=aT hF 2 105 _ hS rfl (by kernel_rfl) (hc.val 2 _ rfl (ar ⟨2,.data⟩ (by simp) rfl));have tb:=ab (af hc.below Xu.o) 1;simp at tb;clear hF ar
     go_wp2_with fail
     exact cI.mk (.slice (some ⟨b1,o1,none⟩) j cL) (hc.set 3 (by omega) hD rfl) rfl
    ·obtain⟨e0,f0⟩:=aT hF 3 106 _ hS rfl (by kernel_rfl) (hc.val 3 _ rfl (ar ⟨3,.data⟩ (by simp) rfl));clear hF ar
     go_wp2_with fail
     refine(HCL2.o W hc.below).mono ?_;rintro r W' ⟨u,rfl,ho,gp⟩;obtain⟨au,cu,rfl⟩:=ho.slice;have JT:=aa (hc.clone hD gp ho rfl);clear ho gp
     go_wp2_with fail
     exact cI.mk _ JT.o rfl
    ·obtain⟨g7,h7⟩:=cW hF 14 (.int .i64 e) (by decide) rfl;clear hF ar
     go_wp2_with fail
     exact cI.mk (.int .i64 e) (hc.set 5 (by omega) hD rfl) rfl
    ·obtain⟨g7,h7⟩:=cW hF 15 (.int .i64 qq) (by decide) rfl;clear hF ar
     go_wp2_with fail
     exact cI.mk (.int .i64 qq) (hc.set 6 (by omega) hD rfl) rfl
    ·obtain⟨e0,f0⟩:=aT hF 5 108 _ hS rfl (by kernel_rfl) (hc.val 5 _ rfl (ar ⟨5,.data⟩ (by simp) rfl));obtain⟨e1,f1⟩:=aT hF 6 109 _ hS rfl (by kernel_rfl) (hc.val 6 _ rfl (ar ⟨6,.data⟩ (by simp) rfl));clear hF ar
     go_wp2_with fail
     exact cI.mk (.agg #[.int .i64 e,.int .i64 qq]) (hc.set 7 (by omega) hD rfl) rfl
    ·obtain⟨e0,f0⟩:=aT hF 7 110 _ hS rfl (by kernel_rfl) (hc.val 7 _ rfl (ar ⟨7,.data⟩ (by simp) rfl));clear hF ar
     go_wp2_with fail
     exact cI.mk _ (hc.news hD rfl) rfl
    ·have d4:=ar ⟨4,.data⟩ (by simp) rfl;have d8:=ar ⟨8,.data⟩ (by simp) rfl;obtain⟨g,e8,hg,_⟩:=hc.bs d8 hD;have ho:=hc.cl d4 hD;obtain⟨e0,f0⟩:=aT hF 4 107 _ hS rfl (by kernel_rfl) rfl;obtain⟨e1,f1⟩:=aT hF 8 111 _ hS rfl (by kernel_rfl) e8;clear hF ar;refine aZ _ rfl (.tmp 107) (.tmp 111) 54 rfl w7.heap.size 75 i0 _ 2 16 Tryz.underlying54 bZ.o.1 bZ.o.2.1 bZ.o.2.2.1 bZ.o.2.2.2 rfl (by decide) (x 4) j (cH ls) e0 ho ⟨g,0,none⟩ 1 1 [.int .i64 e,.int .i64 qq] e1 rfl (IB hg) (by simp[Value.oneCell']) (by unfold maxLen;omega) (by omega) hc.below.size ?_;intro v9 w9 eP dk _;have JT:=aa (hc.app hD d4 d8 rfl eP dk);clear eP dk e0 f0 e1 f1
     go_wp2_with fail
     exact cI.mk _ JT.o rfl
    ·have d9:=ar ⟨9,.data⟩ (by simp) rfl;obtain⟨a9,c9,e9⟩:=(hc.ap d9).slice;obtain⟨e0,f0⟩:=aT hF 1 104 _ hS rfl (by kernel_rfl) (hc.val 1 _ rfl (ar ⟨1,.data⟩ (by simp) rfl));obtain⟨e1,f1⟩:=aT hF 9 112 _ hS rfl (by kernel_rfl) e9;have Uh:=hc.build hD d9 rfl;rw[e9]at Uh;have JT:=aa Uh;clear hF ar Uh e9
     go_wp2_with fail
     exact cI.mk _ JT.o rfl
    ·clear hF ar
     go_wp2_with fail
     exact cI.mk _ (hc.box hD rfl) rfl
   case free=>
    intro x W D i o F ho h6 h8 hD ar hc hF;obtain rfl:i=12:=by simp at h6;omega
    obtain rfl:=dp ho.symm;subst xx
    have aS:∀ k,k<12->D k=true:=fun k hk=>by
     rcases (show k=0\/k=1\/k=2\/k=3\/k=4\/k=5\/k=6\/k=7\/k=8\/k=9\/k=10\/k=11 by omega) with rfl|rfl|rfl|rfl|rfl|rfl|rfl|rfl|rfl|rfl|rfl|rfl
     ·exact ar ⟨0,.phase⟩ (by simp) rfl
     ·exact ar ⟨1,.phase⟩ (by simp) rfl
     ·exact ar ⟨2,.phase⟩ (by simp) rfl
     ·exact ar ⟨3,.phase⟩ (by simp) rfl
     ·exact ar ⟨4,.phase⟩ (by simp) rfl
     ·exact ar ⟨5,.phase⟩ (by simp) rfl
     ·exact ar ⟨6,.phase⟩ (by simp) rfl
     ·exact ar ⟨7,.phase⟩ (by simp) rfl
     ·exact ar ⟨8,.phase⟩ (by simp) rfl
     ·exact ar ⟨9,.phase⟩ (by simp) rfl
     ·exact ar ⟨10,.phase⟩ (by simp) rfl
     ·exact ar ⟨11,.phase⟩ (by simp) rfl
    obtain⟨g,e11,_,hg⟩:=hc.al (aS 11 (by omega));rw[hD]at hg;have e10:=hc.bd (aS 10 (by omega));obtain⟨a9,c9,e9⟩:=(hc.ap (aS 9 (by omega))).slice;obtain⟨f11,g11⟩:=aT hF 11 16 _ hS rfl (by kernel_rfl) e11;obtain⟨f10,g10⟩:=aT hF 10 113 _ hS rfl (by kernel_rfl) e10;have dO:=hc.store hD aS e11 rfl;rw[e9]at f10 g10 dO;have JT:=aa dO;refine wpList_store_row rfl 58 (.tmp 16) (.tmp 113) rfl g (eL 1 (.slice a9 (j+1) c9)) f11 f10 58 _ hg (by kernel_rfl) rfl (by simp[Value.oneCell']) ?_;clear hF ar dO e9 f10 g10 f11 g11;exact⟨rfl,JT.o⟩
   case last=>
    intro x W8 D F aS hc hF;obtain⟨g,e11,oR,hg⟩:=hc.al (aS 11 (by omega));rw[aS 12 (by omega),if_pos rfl]at hg;have I5:=hc.ap (aS 9 (by omega));obtain⟨a9,c9,e9⟩:=I5.slice;rw[e9]at hg I5;simp only[bD,cX,List.setIfInBounds_toArray,List.set_cons_succ,List.set_cons_zero,Nat.reduceAdd]at hF;rw[e11]at hF;generalize x 0=s0,x 1=s1,x 2=s2,x 3=s3,x 4=s4,x 5=s5,x 6=s6,x 7=s7,x 8=s8,x 9=s9,x 10=s10 at hF;subst hF;have Um:=aa (ae Lm.o hc.below);have Xm:=aa hg;have Lt:=aa (af hc.below CU.o)
    have HL8:am (bJ W8 (.slice a9 (j+1) c9) (qi ls qq)):=aa (by
     have e1:qi ls qq=ls++[⟨(e:Nat),(qq:Nat)⟩]:=by unfold qi;rw[HN.o,show j - 1=n1 by omega,oe.o]
     have e2:(ls++[(⟨(e:Nat),(qq:Nat)⟩:Lk)]).length=j+1:=by rw[List.length_append,HN.o];rfl
     rw[e1]
     have h2:=nd (l:=ls++[⟨(e:Nat),(qq:Nat)⟩]) (v:=.slice a9 (j+1) c9) (base:=w7.heap.size) (w:=W8) (by rw[e2,kq];exact I5) (fun y hy=>by
      rcases List.mem_append.1 hy with hy|hy
      ·have h3:=F4.o.2 y hy;have:=Gc.o;exact⟨⟨by omega,by omega⟩,⟨by omega,by omega⟩⟩
      ·obtain rfl:=List.mem_singleton.1 hy;exact⟨⟨by dsimp only;omega,by dsimp only;omega⟩,⟨by dsimp only;omega,by dsimp only;omega⟩⟩) (by rw[e2];omega)
     exact h2)
    clear aS hc I5 e9 e11 hS HO0 hg oR;have ta:=ab Lt.o
    go_wp2_with fail
    clear ta;refine(sX.o e hlt3 W8 Um.o).mono ?_;rintro r w9 ⟨rfl,eC⟩;have ff:=aa (ae Um.o eC);have sd:=aa (af eC Lt.o);have IW:=aa (af eC Xm.o);have UD:=aa (HL8.o.up up_link eC);have Tf:=K5 (s:=aK p) (p:=qq) (by have:=Gc.o;omega) e;have hol:=Is (s:=aK p) (by have:=Gc.o;omega) e;obtain⟨ob,AP⟩:∃ ob,oblM (aK p) e=ob:=⟨_,rfl⟩;rw[AP]at Tf hol ⊢;have ta:=ab sd.o;have tg:=ab IW.o;clear eC AP;have fK:=shr_has ⟨ob,hol⟩ ⟨qq,by omega⟩;dsimp only at fK;rw[Tf,Bool.not_not]at fK;have XK:=Yj JX.o CL.o (by have:=HN.o;omega) qq (by have:=Gc.o;omega);rw[HN.o,show j - 1=n1 by omega,oe.o,Int.toNat_natCast]at XK;have Yc:=aa XK;clear Tf XK;cases ol:hasB (fltS (aK p) e) qq with
    | true=>
     rw[ol]at fK;have H18:=aa (U3 LY.o (Yc.o.2 ol));clear ol
     go_wp2_with fail
     refine(zf.o (qi ls qq) _ w9 ff.o UD.o).mono ?_;rintro r wa ⟨rfl,QF⟩;rw[H18.o];have tp:=aa (ae ff.o QF);clear QF ta tg
     go_wp2_with fail
     refine(Tw.o wa (ae bL.o tp.o)).mono ?_;rintro r wb ⟨rfl,oV⟩;have jw:=aa (ae (ae bL.o tp.o) oV);clear oV
     go_wp2_with fail
     go_ret
     exact⟨rfl,jw.o⟩
    | false=>
     rw[ol]at fK;have H0:=aa (DQ LY.o (Yc.o.1 ol).1 (Yc.o.1 ol).2);clear ol
     go_wp2_with fail
     refine(zf.o (qi ls qq) _ w9 ff.o UD.o).mono ?_;rintro r wa ⟨rfl,QF⟩;rw[H0.o];have tp:=aa (ae ff.o QF);clear QF ta tg
     go_wp2_with fail
     refine(Tw.o wa (ae bL.o tp.o)).mono ?_;rintro r wb ⟨rfl,oV⟩;have jw:=aa (ae (ae bL.o tp.o) oV);clear oV
     go_wp2_with fail
     go_ret
     exact⟨rfl,jw.o⟩
end Go.Proofs.YtmeaoneaephjeaaGreatDoor
