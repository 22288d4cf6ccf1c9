/-
  A part of the proof: lemmas and contracts that the parts behind it use. Each one's conditions are its own premises.
-/
import Derived.WalkKit
import Derived.ProofKit
import Derived.OpenShut
import Derived.ShutString
import Derived.ChangeOld
import Derived.Below
import Derived.SizedLaws
import Derived.Deep.Slices
import Derived.Test.YtmeaoneaephjeaaGreatDoorRows
import Derived.Test.YtmeaoneaephjeaaGreatDoorProg
import Derived.ChangeKeysEq
import Derived.WalkSpells
import Derived.Laws.AppendOwnNone
import Derived.Test.YtmeaoneaephjeaaGreatDoorE2
set_option maxRecDepth 100000
set_option maxHeartbeats 8000000
set_option linter.unusedVariables false
set_option linter.unusedSimpArgs false
namespace Go.Proofs.YtmeaoneaephjeaaGreatDoor
open Go.ChangeShapes Go.WideShapes Go.ChangeAt Go.RowKit Go Go.Deep
section
variable {H : Type} {enc : TypeId × Value → H} {w : World}
abbrev lU(enc:TypeId × Value->H) (w:World) (fuel:Nat) (t:TypeId) (cs:List Value) (x:DataW H × List MemPlace):Prop:=DataW.trod enc Tryz.prog w 0 (fun _=>true) true fuel t cs=some x
def sO(t:TypeId) (d:DataW H):Prop:=∀ n∈d.weights Tryz.prog t,n<=reachBytes
theorem Ii{n:Int} (h:(Lit.int .i64 n).wf=true):bR n:=by
 simp[Lit.wf,IntKind.min,IntKind.max,IntKind.bits,IntKind.signed]at h;unfold bR;omega
theorem Cj{ts:List TypeId} {ds:List (DataW H)} {j:Nat} {t:TypeId} {d:DataW H} (ht:ts[j]?=some t) (hd:ds[j]?=some d) {n:Nat} (hn:n∈d.weights Tryz.prog t):n∈DataW.weightsEach Tryz.prog ts ds:=DataW.weights_mem_each ht hd n hn
theorem Eb{e:TypeId} {ds:List (DataW H)} {d:DataW H} (hd:d∈ds) {n:Nat} (hn:n∈d.weights Tryz.prog e):n∈DataW.weightsAll Tryz.prog e ds:=by
 induction ds with
 | nil=>cases hd
 | cons x r ih=>
  simp only[DataW.weightsAll,List.mem_append];rcases List.mem_cons.1 hd with rfl|h
  ·exact .inl hn
  ·exact .inr (ih h)
theorem nV{fs:Array Field} {t:TypeId} {fuel:Nat} {cs:List Value} {x:DataW H × List MemPlace} (ht:Tryz.prog.underlying t=some (.struct fs)) (h:lU enc w fuel t cs x) (hz:sO t x.1) :
  cs.length=Tryz.prog.cellsOf t/\∃ n,∀ (i:Nat) (f:Field),fs[i]?=some f->∃ y,lU enc w n f.type ((cs.drop f.offset).take (Tryz.prog.cellsOf f.type)) y/\sO f.type y.1:=by
 obtain⟨xs,n,_,rfl,hl,hx,hf⟩:=DataW.trod_struct ht h;refine⟨hl,n,fun i f hi=>?_⟩;have aC:i<xs.length:=by have:=(Array.getElem?_eq_some_iff.1 hi).1;omega
 refine⟨xs[i],(hf i f hi).trans (List.getElem?_eq_getElem aC),fun m hm=>hz m ?_⟩;simp only[DataW.weights,ht];exact Cj (j:=i) (by simp[hi]) (by simp[aC]) hm
def qp(enc:TypeId × Value->H) (w:World) (t:TypeId) (k:Nat):Prop:=∀ fuel cs x,lU enc w fuel t cs x->cs.length=k/\∀ j,j<k->∃ n,cs[j]?=some (.int .i64 n)/\bR n
theorem wL{t:TypeId} (ht:Tryz.prog.underlying t=some (.int .i64)):qp enc w t 1:=fun fuel cs x h=>by
 obtain⟨n,rfl,_,hw⟩:=DataW.trod_int ht h;refine⟨rfl,fun j hj=>⟨n,?_,Ii hw⟩⟩;obtain rfl:j=0:=by omega
 rfl
theorem Ij{t e:TypeId} {m:Nat} (ht:Tryz.prog.underlying t=some (.array m e)) (he:Tryz.prog.underlying e=some (.int .i64)) (h1:Tryz.prog.cellsOf e=1) (hk:Tryz.prog.cellsOf t=m):qp enc w t m:=fun fuel cs x h=>by
 obtain⟨xs,n,_,_,hl,hx,hf⟩:=DataW.trod_array ht h;refine⟨by rw[hl,hk],fun j hj=>?_⟩;have h2:=hf j hj;rw[h1,Nat.mul_one,List.getElem?_eq_getElem (by omega)]at h2;obtain⟨v,e1,_,hw⟩:=DataW.trod_int he h2;refine⟨v,?_,Ii hw⟩;have h3:((cs.drop j).take 1)[0]?=cs[j]?:=by simp
 rw[<-h3,e1];rfl
theorem wM{t:TypeId} {f0 f1:Field} {k0 k1:Nat} (ht:Tryz.prog.underlying t=some (.struct #[f0,f1])) (o0:f0.offset=0) (o1:f1.offset=k0) (c0:Tryz.prog.cellsOf f0.type=k0) (c1:Tryz.prog.cellsOf f1.type=k1) (ct:Tryz.prog.cellsOf t=k0+k1)
  (h0:qp enc w f0.type k0) (h1:qp enc w f1.type k1):qp enc w t (k0+k1):=fun fuel cs x h=>by
 obtain⟨xs,n,_,_,hl,hx,hf⟩:=DataW.trod_struct ht h;refine⟨by rw[hl,ct],fun j hj=>?_⟩;have g0:=hf 0 f0 rfl;have g1:=hf 1 f1 rfl;have dM:xs.length=2:=hx;rw[o0,c0,List.getElem?_eq_getElem (by omega)]at g0;rw[o1,c1,List.getElem?_eq_getElem (by omega)]at g1;by_cases oG:j<k0
 ·obtain⟨v,e,hv⟩:=(h0 _ _ _ g0).2 j oG;refine⟨v,?_,hv⟩;rw[<-e];simp[List.getElem?_take_of_lt oG]
 ·obtain⟨v,e,hv⟩:=(h1 _ _ _ g1).2 (j - k0) (by omega);refine⟨v,?_,hv⟩;rw[<-e,List.getElem?_take_of_lt (by omega),List.getElem?_drop,show k0+(j - k0)=j by omega]
def Ck{α:Type} (enc:TypeId × Value->H) (w:World) (t:TypeId) (k:Nat) (R:World->Nat->Nat->α->Prop):Prop:=
 ∀ fuel cs x b off,lU enc w fuel t cs x->sO t x.1->(∀ j,j<k->w.cell? ⟨b,off+j,none⟩=cs[j]?)->∃ a:α,R w b off a
theorem opn_int:Ck enc w 3 1 gj:=fun fuel cs x b off h _ hc=>by
 obtain⟨n,rfl,_,hw⟩:=DataW.trod_int Tryz.underlying3 h;exact⟨n,(hc 0 (by omega)).trans rfl,Ii hw⟩
theorem xz{a:Addr} {j:Nat} (h:a.spot=none):a.add j=⟨a.block,a.off+j,none⟩:=by
 obtain⟨b,o,s⟩:=a;simp at h;subst h;unfold Addr.add;split<;>simp_all
theorem z5{α:Type} {t e:TypeId} {k:Nat} {R:World->Nat->Nat->α->Prop} (hu:Tryz.prog.underlying t=some (.slice e)) (hk:Tryz.prog.cellsOf e=k) (ff:0<k) (gT:8<=Tryz.prog.bytesOf e) (he:Ck enc w e k R)
  {fuel:Nat} {cs:List Value} {x:DataW H × List MemPlace} (h:lU enc w fuel t cs x) (hz:sO t x.1):∃ v l,cs=[v]/\fj k R w v l:=by
 rcases open_slice hu h with ⟨rfl,_⟩|⟨a,len,cap,m,n,D,Pl,rfl,_,hl,hm,vL,rfl,hi⟩
 ·exact⟨_,[],rfl,none,0,rfl,⟨by simp,by omega,fun _=>rfl⟩,by simp,fun i x hx=>by simp at hx⟩
 ·have uB:m=cap:=by rw[vL];rfl
  subst uB
  have hw:(((List.range len).map D).length+((List.range (m - len)).map fun j=>D (len+j)).length) * Tryz.prog.bytesOf e<=reachBytes:=by
   refine hz _ ?_;simp only[DataW.weights,hu];exact List.mem_cons_self
  have zB:m * 8<=reachBytes:=by
   refine Nat.le_trans (Nat.mul_le_mul_left m gT) ?_;refine Nat.le_trans ?_ hw;rw[List.length_map,List.length_map,List.length_range,List.length_range];exact Nat.mul_le_mul_right _ (by omega)
  have hw3:m<=17592186044416:=by unfold reachBytes at zB;omega
  have hsp0:0<len->a.spot=none:=fun h0=>by
   obtain⟨cs',hc,ht⟩:=hi 0 (by omega);rw[hk]at hc;obtain⟨_,bW,DS⟩:=World.cells?_some hc;have h1:=DS 0 ff;rw[List.getElem?_eq_getElem (by omega)]at h1;have:=World.cell?_spot h1;simpa[Addr.add] using this
  have key:∀ i:Fin len,∃ y:α,a.spot=none/\R w a.block (a.off+i.1 * k) y:=fun i=>by
   obtain⟨cs',hc,ht⟩:=hi i.1 (by have:=i.2;omega);rw[hk]at hc;obtain⟨_,bW,DS⟩:=World.cells?_some hc;have hsp:=hsp0 (by have:=i.2;omega)
   have bX:sO e (D i.1):=fun q hq=>hz q (by
    simp only[DataW.weights,hu];refine List.mem_cons_of_mem _ (List.mem_append_left _ (Eb (d:=D i.1) ?_ hq))
    exact List.mem_map.2 ⟨i.1,List.mem_range.2 i.2,rfl⟩)
   obtain⟨y,hy⟩:=he _ _ _ a.block (a.off+i.1 * k) ht bX (fun j hj=>by
    rw[<-DS j hj,xz hsp,xz rfl])
   exact⟨y,hsp,hy⟩
  refine⟨_,List.ofFn fun i=>Classical.choose (key i),rfl,some a,m,by rw[List.length_ofFn],⟨by rw[List.length_ofFn];omega,by omega,fun h=>by cases h⟩,by rw[List.length_ofFn];omega,fun i y hy=>?_⟩;have gL:i<len:=by have:=(List.getElem?_eq_some_iff.1 hy).1;simpa using this
  have e1:y=Classical.choose (key ⟨i,gL⟩):=by
   rw[List.getElem?_ofFn]at hy;simp[gL]at hy;exact hy.symm
  obtain⟨hs,hr⟩:=Classical.choose_spec (key ⟨i,gL⟩);refine⟨a.block,a.off,?_,by rw[e1];exact hr⟩;obtain⟨b,o,s⟩:=a;simp at hs;subst hs;rfl
theorem yz{α:Type} {t e:TypeId} {k:Nat} {R:World->Nat->Nat->α->Prop} (hu:Tryz.prog.underlying t=some (.slice e)) (hk:Tryz.prog.cellsOf e=k) (ff:0<k) (gT:8<=Tryz.prog.bytesOf e) (he:Ck enc w e k R):Ck enc w t 1 (mK k R):=fun fuel cs x b off h hz hc=>by
 obtain⟨v,l,rfl,hl⟩:=z5 hu hk ff gT he h hz;exact⟨l,v,(hc 0 (by omega)).trans rfl,hl⟩
theorem Ik{cs:List Value} {j:Nat} (h:j<cs.length):(cs.drop j).take 1=[cs[j]]:=by
 rw[List.drop_eq_getElem_cons h];rfl
theorem Tryz.cInt:Tryz.prog.cellsOf 3=1:=by kernel_rfl
theorem Tryz.cInts:Tryz.prog.cellsOf 38=1:=by kernel_rfl
theorem Tryz.cVecs:Tryz.prog.cellsOf 56=1:=by kernel_rfl
theorem Tryz.cCase:Tryz.prog.cellsOf 135=3:=by kernel_rfl
theorem Tryz.cGraph:Tryz.prog.cellsOf 139=6:=by kernel_rfl
theorem Tryz.cRound:Tryz.prog.cellsOf 141=7:=by kernel_rfl
theorem Tryz.cMove:Tryz.prog.cellsOf 143=8:=by kernel_rfl
theorem Tryz.cMoves:Tryz.prog.cellsOf 136=1:=by kernel_rfl
theorem opn_ints:Ck enc w 38 1 x':=yz Tryz.underlying38 Tryz.cInt (by omega) (of_decide_eq_true (by kernel_rfl)) opn_int
theorem opn_vecs:Ck enc w 56 1 uT:=yz Tryz.underlying56 Tryz.cInts (by omega) (of_decide_eq_true (by kernel_rfl)) opn_ints
theorem opn_case:Ck enc w 135 3 Hn:=fun fuel cs x b off h hz hc=>by
 obtain⟨hl,n,hf⟩:=nV Tryz.underlying135 h hz;rw[Tryz.cCase]at hl;obtain⟨y0,r0,z0⟩:=hf 0 _ rfl;obtain⟨y1,r1,z1⟩:=hf 1 _ rfl;obtain⟨y2,r2,z2⟩:=hf 2 _ rfl;change lU enc w n 38 ((cs.drop 0).take (Tryz.prog.cellsOf 38)) y0 at r0;change lU enc w n 56 ((cs.drop 1).take (Tryz.prog.cellsOf 56)) y1 at r1;change lU enc w n 56 ((cs.drop 2).take (Tryz.prog.cellsOf 56)) y2 at r2;rw[Tryz.cInts,Ik (by omega)]at r0;rw[Tryz.cVecs,Ik (by omega)]at r1 r2
 obtain⟨a0,h0⟩:=opn_ints _ _ _ b off r0 z0 (fun j hj=>by obtain rfl:j=0:=by omega
                                                         rw[hc 0 (by omega),List.getElem?_eq_getElem (by omega)];rfl)
 obtain⟨a1,h1⟩:=opn_vecs _ _ _ b (off+1) r1 z1 (fun j hj=>by obtain rfl:j=0:=by omega
                                                             rw[show off+1+0=off+1 by omega,hc 1 (by omega),List.getElem?_eq_getElem (by omega)];rfl)
 obtain⟨a2,h2⟩:=opn_vecs _ _ _ b (off+2) r2 z2 (fun j hj=>by obtain rfl:j=0:=by omega
                                                             rw[show off+2+0=off+2 by omega,hc 2 (by omega),List.getElem?_eq_getElem (by omega)];rfl)
 exact⟨⟨a0,a1,a2⟩,h0,h1,h2⟩
theorem allInt_graph:qp enc w 139 6:=wM (k0:=1) (k1:=5) Tryz.underlying139 rfl rfl Tryz.cInt (by kernel_rfl) Tryz.cGraph (wL Tryz.underlying3) (Ij Tryz.underlying137 Tryz.underlying3 Tryz.cInt (by kernel_rfl))
theorem allInt_round:qp enc w 141 7:=wM (k0:=6) (k1:=1) Tryz.underlying141 rfl rfl Tryz.cGraph Tryz.cInt Tryz.cRound allInt_graph (wL Tryz.underlying3)
theorem allInt_move:qp enc w 143 8:=wM (k0:=7) (k1:=1) Tryz.underlying143 rfl rfl Tryz.cRound Tryz.cInt Tryz.cMove allInt_round (wL Tryz.underlying3)
theorem opn_move:Ck enc w 143 8 B8:=fun fuel cs x b off h _ hc=>by
 have ha:=(allInt_move _ _ _ h).2;obtain⟨n0,e0,i0⟩:=ha 0 (by omega);obtain⟨n1,e1,i1⟩:=ha 1 (by omega);obtain⟨n2,e2,i2⟩:=ha 2 (by omega);obtain⟨n3,e3,i3⟩:=ha 3 (by omega);obtain⟨n4,e4,i4⟩:=ha 4 (by omega);obtain⟨n5,e5,i5⟩:=ha 5 (by omega);obtain⟨n6,e6,i6⟩:=ha 6 (by omega);obtain⟨n7,e7,i7⟩:=ha 7 (by omega);exact⟨⟨⟨⟨n0,n1,n2,n3,n4,n5⟩,n6⟩,n7⟩,⟨⟨(hc 0 (by omega)).trans e0,i0⟩,⟨(hc 1 (by omega)).trans e1,i1⟩,⟨(hc 2 (by omega)).trans e2,i2⟩,⟨(hc 3 (by omega)).trans e3,i3⟩,⟨(hc 4 (by omega)).trans e4,i4⟩,⟨(hc 5 (by omega)).trans e5,i5⟩,⟨(hc 6 (by omega)).trans e6,i6⟩⟩,(hc 7 (by omega)).trans e7,i7⟩
theorem opn_moves:Ck enc w 136 1 DX:=yz Tryz.underlying136 Tryz.cMove (by omega) (of_decide_eq_true (by kernel_rfl)) opn_move
theorem YN{l:List Value} (h:l.length=7):∃ c0 c1 c2 c3 c4 c5 c6,l=[c0,c1,c2,c3,c4,c5,c6]:=by
 match l,h with
 | [c0,c1,c2,c3,c4,c5,c6],_=>exact⟨c0,c1,c2,c3,c4,c5,c6,rfl⟩
theorem Tryz.cProb:Tryz.prog.cellsOf 29=7:=by kernel_rfl
theorem Tryz.cTask:Tryz.prog.cellsOf 24=4:=by kernel_rfl
theorem Tryz.cAdv:Tryz.prog.cellsOf 27=2:=by kernel_rfl
theorem Tryz.cCases:Tryz.prog.cellsOf 22=1:=by kernel_rfl
theorem Tryz.cStates:Tryz.prog.cellsOf 25=1:=by kernel_rfl
theorem OV{fuel:Nat} {c0 c1 c2 c3:Value} {x:DataW H × List MemPlace} (h:lU enc w fuel 24 [c0,c1,c2,c3] x) (hz:sO 24 x.1) :
  ∃ (t:Tk),c0=.int .i64 t.n/\c1=.int .i64 t.ins/\c2=.int .i64 t.outs/\bM w c3 t.cases:=by
 obtain⟨_,n,hf⟩:=nV Tryz.underlying24 h hz;obtain⟨u0,s0,_⟩:=hf 0 _ rfl;obtain⟨u1,s1,_⟩:=hf 1 _ rfl;obtain⟨u2,s2,_⟩:=hf 2 _ rfl;obtain⟨u3,s3,q3⟩:=hf 3 _ rfl;change lU enc w n 3 (([c0,c1,c2,c3].drop 0).take (Tryz.prog.cellsOf 3)) u0 at s0;change lU enc w n 3 (([c0,c1,c2,c3].drop 1).take (Tryz.prog.cellsOf 3)) u1 at s1;change lU enc w n 3 (([c0,c1,c2,c3].drop 2).take (Tryz.prog.cellsOf 3)) u2 at s2;change lU enc w n 22 (([c0,c1,c2,c3].drop 3).take (Tryz.prog.cellsOf 22)) u3 at s3;change sO 22 u3.1 at q3;rw[Tryz.cInt]at s0 s1 s2;rw[Tryz.cCases]at s3;obtain⟨m0,e0,_,_⟩:=DataW.trod_int Tryz.underlying3 s0;obtain⟨m1,e1,_,_⟩:=DataW.trod_int Tryz.underlying3 s1;obtain⟨m2,e2,_,_⟩:=DataW.trod_int Tryz.underlying3 s2;obtain⟨vc,cases,e3,g3⟩:=z5 Tryz.underlying22 Tryz.cCase (by omega) (of_decide_eq_true (by kernel_rfl)) opn_case s3 q3;simp at e0 e1 e2 e3;subst e3;exact⟨⟨m0,m1,m2,cases⟩,e0,e1,e2,g3⟩
theorem RJ{fuel:Nat} {c0 c1:Value} {x:DataW H × List MemPlace} (h:lU enc w fuel 27 [c0,c1] x) (hz:sO 27 x.1) :
  ∃ (a:Adv),c0=.int .i64 a.n/\bu w c1 a.states:=by
 obtain⟨_,n,hf⟩:=nV Tryz.underlying27 h hz;obtain⟨u0,s0,_⟩:=hf 0 _ rfl;obtain⟨u1,s1,q1⟩:=hf 1 _ rfl;change lU enc w n 3 (([c0,c1].drop 0).take (Tryz.prog.cellsOf 3)) u0 at s0;change lU enc w n 25 (([c0,c1].drop 1).take (Tryz.prog.cellsOf 25)) u1 at s1;change sO 25 u1.1 at q1;rw[Tryz.cInt]at s0;rw[Tryz.cStates]at s1;obtain⟨m0,e0,_,_⟩:=DataW.trod_int Tryz.underlying3 s0;obtain⟨vs,states,e1,g1⟩:=z5 Tryz.underlying25 Tryz.cMoves (by omega) (of_decide_eq_true (by kernel_rfl)) opn_moves s1 q1;simp at e0 e1;subst e1;exact⟨⟨m0,states⟩,e0,g1⟩
theorem OW{fuel:Nat} {cs:List Value} {x:DataW H × List MemPlace} (h:lU enc w fuel 29 cs x) (hz:sO 29 x.1) :
  ∃ (p:Pb) (vc vs:Value),cs=[.int .i64 p.t.n,.int .i64 p.t.ins,.int .i64 p.t.outs,vc,.int .i64 p.a.n,vs,.int .i64 p.rounds]/\bM w vc p.t.cases/\bu w vs p.a.states:=by
 obtain⟨hl,n,hf⟩:=nV Tryz.underlying29 h hz;rw[Tryz.cProb]at hl;obtain⟨c0,c1,c2,c3,c4,c5,c6,rfl⟩:=YN hl;obtain⟨y0,r0,z0⟩:=hf 0 _ rfl;obtain⟨y1,r1,z1⟩:=hf 1 _ rfl;obtain⟨y2,r2,z2⟩:=hf 2 _ rfl;change lU enc w n 24 (([c0,c1,c2,c3,c4,c5,c6].drop 0).take (Tryz.prog.cellsOf 24)) y0 at r0;change lU enc w n 27 (([c0,c1,c2,c3,c4,c5,c6].drop 4).take (Tryz.prog.cellsOf 27)) y1 at r1;change lU enc w n 3 (([c0,c1,c2,c3,c4,c5,c6].drop 6).take (Tryz.prog.cellsOf 3)) y2 at r2;rw[Tryz.cTask]at r0;rw[Tryz.cAdv]at r1;rw[Tryz.cInt]at r2;obtain⟨t,rfl,rfl,rfl,g0⟩:=OV r0 z0;obtain⟨a,rfl,g1⟩:=RJ r1 z1;obtain⟨m6,e6,_,_⟩:=DataW.trod_int Tryz.underlying3 r2;simp at e6;subst e6;exact⟨⟨t,a,m6⟩,c3,c5,rfl,g0,g1⟩
end
end Go.Proofs.YtmeaoneaephjeaaGreatDoor
namespace Go.Proofs.YtmeaoneaephjeaaGreatDoor
open Go.RowKit Go
theorem Ft(n:Int) (w:World) :
  Calls Tryz.prog 226 #[.int .i64 n] w fun e w'=>e=.returned (.int .i64 (iV n))/\w=w':=by
 go_enter Tryz.func226,Tryz.ntmps226
 go_wp2
 all_goals go_ret;exact⟨aE (by unfold iV;first|rw[if_pos (by omega)]|rw[if_neg (by omega)]),rfl⟩
theorem BJ(n x:Int) (w:World) :
  Calls Tryz.prog 223 #[.int .i64 n,.int .i64 x] w fun e w'=>e=.returned (.int .i64 (ky n x))/\w=w':=by
 by_cases hn:n<1\/5<n
 ·have hp:iV n=1:=by unfold iV;rw[if_pos hn]
  have hc:=Ft n w;rw[hp]at hc;have H:=aa hp;clear hp
  go_enter Tryz.func223,Tryz.ntmps223
  go_wp2_with (go_at_call 226;refine hc.mono ?_;rintro e w' ⟨rfl,rfl⟩)
  go_ret;exact⟨aE (by unfold ky;rw[H.o];rfl),rfl⟩
 ·have hp:iV n=0:=by unfold iV;rw[if_neg hn]
  have hc:=Ft n w;rw[hp]at hc;have H:=aa hp;clear hp;have h1:1<=n:=by omega
  have h2:n<=5:=by omega
  clear hn
  go_enter Tryz.func223,Tryz.ntmps223
  go_wp2_with (go_at_call 226;refine hc.mono ?_;rintro e w' ⟨rfl,rfl⟩)
  all_goals
   go_ret
   refine⟨aE ?_,rfl⟩
   go_light
   unfold ky;rw[H.o]
   grind
theorem Mz(g:Gr) (k:Nat) (hk:k<5) (w:World):(Instr.index 137 (.agg #[.int .i64 g.h0,.int .i64 g.h1,.int .i64 g.h2,.int .i64 g.h3,.int .i64 g.h4]) (.int .i64 k)).run Tryz.prog w=.ok (.int .i64 (g.hear k)) w:=by
 have:k=0\/k=1\/k=2\/k=3\/k=4:=by omega
 rcases this with h|h|h|h|h<;>(subst h;with_reducible refine Eq.trans ?_ (Eq.refl _);kernel_rfl)
theorem RK(n:Int) (w:World) (h1:1<=n) (h2:n<=5) :
  Calls Tryz.prog 225 #[.int .i64 n] w fun e w'=>e=.returned (.int .i64 (2 ^ n.toNat - 1))/\w=w':=by
 have:n=1\/n=2\/n=3\/n=4\/n=5:=by omega
 rcases this with rfl|rfl|rfl|rfl|rfl
 all_goals
  go_enter Tryz.func225,Tryz.ntmps225
  go_wp2
  go_ret
  exact⟨rfl,rfl⟩
theorem Ec(g:Gr) (w:World) :
  Calls Tryz.prog 222 #[g.v] w fun e w'=>e=.returned (.int .i64 (gZ g))/\Below w.heap.size w w':=by
 obtain⟨n,h0,h1,h2,h3,h4⟩:=g;by_cases hn:n<1\/5<n
 ·have H:am (gZ ⟨n,h0,h1,h2,h3,h4⟩=2):=by unfold gZ;rw[if_pos hn];rfl
  rcases hn with hn|hn
  ·go_enter Tryz.func222,Tryz.ntmps222
   go_wp2
   go_ret;exact⟨aE H.o.symm,by go_grown⟩
  ·have zz:¬ n<1:=by omega
   go_enter Tryz.func222,Tryz.ntmps222
   go_wp2
   go_ret;exact⟨aE H.o.symm,by go_grown⟩
 have kq:1<=n:=by omega
 have oM:n<=5:=by omega
 have HE:am (gZ ⟨n,h0,h1,h2,h3,h4⟩=bm 5 fun p=>mC n (Gr.hear ⟨n,h0,h1,h2,h3,h4⟩ p) p):=by unfold gZ;rw[if_neg hn];rfl
 clear hn
 go_enter Tryz.func222,Tryz.ntmps222
 go_wp2
 go_loop [15] (fun i=>∃ k:Nat,k<=5/\i=.int .i64 k/\∀ j,j<k->mC n (Gr.hear ⟨n,h0,h1,h2,h3,h4⟩ j) j=0) (fun i=>5 - (intOf i).toNat)
 ·exact⟨0,by omega,rfl,by simp⟩
 ·
  obtain⟨k,hk,rfl,aW⟩:=hrel;have H:=aa aW;clear aW;by_cases aC:k<5
  ·have hx:=Mz ⟨n,h0,h1,h2,h3,h4⟩ k aC;have hEx:∃ x,x=Gr.hear ⟨n,h0,h1,h2,h3,h4⟩ k:=⟨_,rfl⟩;obtain⟨x,lJ⟩:=hEx;rw[<-lJ]at hx;have HX:=aa lJ;clear lJ;have gR:=sJ x k
   go_wp2_with (go_at_call 225;refine(RK _ _ (by omega) (by omega)).mono ?_;rintro e w' ⟨rfl,rfl⟩)
   all_goals first
    | (go_ret
       refine⟨aE ?_,by go_grown⟩
       rw[HE.o]
       go_light
       refine bT k _ aC H.o ?_ (by decide)
       rw[<-HX.o]
       unfold mC
       grind)
    | (go_round
       ·
        refine⟨k+1,by omega,by go_num,aY H.o ?_⟩
        go_light
        rw[<-HX.o]
        unfold mC
        grind
       ·simp[intOf];omega)
  ·go_wp2
   go_ret;exact⟨aE (by rw[HE.o,cS];intro j hj;exact H.o j (by omega)),by go_grown⟩
theorem z6(a b:Int) (w:World) :
  Calls Tryz.prog 203 #[.int .i64 a,.int .i64 b] w fun e w'=>e=.returned (.int .i64 (cmpI a b))/\w=w':=by
 go_enter Tryz.func203,Tryz.ntmps203
 go_wp2
 all_goals
  go_ret
  refine⟨aE ?_,rfl⟩
  go_light
  unfold cmpI
  grind
theorem Il(d:Nat) (a0 a1 a2 a3 a4 b0 b1 b2 b3 b4:Int) (w:World):(Op.equalIn (d+2) 137 (.agg #[.int .i64 a0,.int .i64 a1,.int .i64 a2,.int .i64 a3,.int .i64 a4]) (.agg #[.int .i64 b0,.int .i64 b1,.int .i64 b2,.int .i64 b3,.int .i64 b4])).run Tryz.prog w=.ok (decide (a0=b0/\a1=b1/\a2=b2/\a3=b3/\a4=b4)) w:=by
 obtain⟨i,hi⟩:∃ i,Tryz.prog.info? 3=some i:=Option.isSome_iff_exists.1 (by kernel_rfl);have hc:Tryz.prog.cellsOf 3=1:=by kernel_rfl
 rw[run_equalIn_array w (d+1) _ _ Tryz.underlying137 hi,hc];have ag:=Tryz.isAgg3;have u3:=Tryz.underlying3;have hr:List.range 5=[0,1,2,3,4]:=rfl;rw[hr];simp only[Op.eqItems,Sem.run_bind,part,ag,Result.andThen_ok];simp[run_equalIn_int w d 3 _ .i64 _ _ u3];by_cases h0:a0=b0
 case neg=>simp[h0]
 by_cases h1:a1=b1
 case neg=>simp[h0,h1]
 by_cases h2:a2=b2
 case neg=>simp[h0,h1,h2]
 by_cases h3:a3=b3
 case neg=>simp[h0,h1,h2,h3]
 by_cases h4:a4=b4<;>simp[h0,h1,h2,h3,h4]
theorem Ed(d:Nat) (a b:Gr) (w:World):(Op.equalIn (d+3) 139 a.v b.v).run Tryz.prog w=.ok (decide (a=b)) w:=by
 have hS:Tryz.prog.underlying 139=some (.struct (Tryz.prog.fieldsOf 139)):=by kernel_rfl
 have hp:Tryz.prog.stoodInHeld 139=false:=by kernel_rfl
 rw[run_equalIn_struct w (d+2) 139 _ _ hS hp];have ag:=Tryz.isAgg3;have ah:=Tryz.isAgg137;have zh:=Tryz.sizeOf137;have u3:=Tryz.underlying3;simp only[Program.fieldsOf,Tryz.underlying139];simp[Op.eqFields,part,ag,ah,zh,run_equalIn_int w (d+1) 3 _ .i64 _ _ u3,Il d];obtain⟨n,h0,h1,h2,h3,h4⟩:=a;obtain⟨m,g0,g1,g2,g3,g4⟩:=b;by_cases hn:n=m
 case neg=>simp[hn]
 by_cases hh:h0=g0/\h1=g1/\h2=g2/\h3=g3/\h4=g4<;>simp[hn,hh]
theorem Ee(d:Nat) (a b:Rd) (w:World):(Op.equalIn (d+4) 141 a.v b.v).run Tryz.prog w=.ok (decide (a=b)) w:=by
 have hS:Tryz.prog.underlying 141=some (.struct (Tryz.prog.fieldsOf 141)):=by kernel_rfl
 have hp:Tryz.prog.stoodInHeld 141=false:=by kernel_rfl
 rw[run_equalIn_struct w (d+3) 141 _ _ hS hp];have ag:=Tryz.isAgg3;have ah:=Tryz.isAgg139;have zh:=Tryz.sizeOf139;have u3:=Tryz.underlying3;have hg:=Ed d a.g b.g w;simp only[Program.fieldsOf,Tryz.underlying141];simp[Op.eqFields,part,ag,ah,zh,run_equalIn_int w (d+2) 3 _ .i64 _ _ u3,hg];obtain⟨ga,fa⟩:=a;obtain⟨gb,fb⟩:=b;by_cases hn:ga=gb
 case neg=>simp[hn]
 by_cases hh:fa=fb<;>simp[hn,hh]
theorem OX(a b:Gr) (w:World):(binOp .eql 139 a.v b.v).run Tryz.prog w=.ok (.bool (decide (a=b))) w:=by
 rw[run_eql_struct,Ed 9997];rfl
theorem OY(a b:Gr) (w:World):(binOp .neq 139 a.v b.v).run Tryz.prog w=.ok (.bool (!decide (a=b))) w:=by
 rw[run_neq_struct,Ed 9997];rfl
theorem OZ(a b:Rd) (w:World):(binOp .eql 141 a.v b.v).run Tryz.prog w=.ok (.bool (decide (a=b))) w:=by
 rw[run_eql_struct,Ee 9996];rfl
theorem qq(a:Int):cmpI a a=0:=by unfold cmpI;grind
theorem lA{a b:Int} (h:cmpI a b=0):a=b:=by unfold cmpI at h;grind
theorem uI(a:Gr):fA a a=0:=by
 unfold fA;rw[qq];simp;exact cS _ _ (fun j _=>qq _)
theorem ni(g:Gr) (k:Nat) (hk:k<5) (w:World) (B:Nat) (hw:w.heap[B]?=some (.cells #[.int .i64 g.n,.int .i64 g.h0,.int .i64 g.h1,.int .i64 g.h2,.int .i64 g.h3,.int .i64 g.h4] 139)) :
  w.cell? ⟨B,1+k,none⟩=some (.int .i64 (g.hear k)):=by
 have:k=0\/k=1\/k=2\/k=3\/k=4:=by omega
 rcases this with h|h|h|h|h<;>subst h<;>simp[World.cell?,hw,Gr.hear]
theorem BK(a b:Gr) (w:World) :
  Calls Tryz.prog 224 #[a.v,b.v] w fun e w'=>e=.returned (.int .i64 (fA a b))/\Below w.heap.size w w':=by
 by_cases A0:a=b
 ·subst A0;have ka:∀ w,(binOp .eql 139 a.v a.v).run Tryz.prog w=.ok (.bool true) w:=fun w=>by rw[OX];simp
  have H:=aa (uI a);obtain⟨n,h0,h1,h2,h3,h4⟩:=a
  go_enter Tryz.func224,Tryz.ntmps224
  go_wp2
  go_ret;exact⟨aE H.o.symm,by go_grown⟩
 have ka:∀ w,(binOp .eql 139 a.v b.v).run Tryz.prog w=.ok (.bool false) w:=fun w=>by rw[OX];simp[A0]
 clear A0;by_cases hn:a.n=b.n
 ·have iP:(a.n != b.n)=false:=by simp[hn]
  have HC:am (fA a b=bm 5 fun p=>cmpI (a.hear p) (b.hear p)):=by(have h:fA a b=bm 5 fun p=>cmpI (a.hear p) (b.hear p):=by(unfold fA;rw[hn,qq];simp));exact h
  clear hn
  go_enter Tryz.func224,Tryz.ntmps224
  go_wp2
  refine bC (fun W=>Below w.heap.size w W/\W.heap[w.heap.size]?=some (.cells #[.int .i64 a.n,.int .i64 a.h0,.int .i64 a.h1,.int .i64 a.h2,.int .i64 a.h3,.int .i64 a.h4] 139)/\W.heap[w.heap.size+1]?=some (.cells #[.int .i64 b.n,.int .i64 b.h0,.int .i64 b.h1,.int .i64 b.h2,.int .i64 b.h3,.int .i64 b.h4] 139))
   ⟨by go_grown,ar _ (ap _ _),by have:=ap (w.alloc (.cells #[.int .i64 a.n,.int .i64 a.h0,.int .i64 a.h1,.int .i64 a.h2,.int .i64 a.h3,.int .i64 a.h4] 139));rw[World.size_alloc]at this;exact this _⟩ (fun W0 aX=>?_)
  obtain⟨aG,hA,hB⟩:=aX;have HA:=aa hA;clear hA;have HB:=aa hB;clear hB
  go_loopw [20] (fun i wr=>Below W0.heap.size W0 wr/\∃ k:Nat,k<=5/\i=.int .i64 k/\∀ j,j<k->cmpI (a.hear j) (b.hear j)=0) (fun i _=>5 - (intOf i).toNat)
  ·exact⟨Below.refl _ _,0,by omega,rfl,by simp⟩
  ·
   obtain⟨aA,k,hk,rfl,aW⟩:=hrel;have H:=aa aW;clear aW;by_cases aC:k<5
   ·have c1:∀ x:ExtW wr,x.val.cell? ⟨w.heap.size,1+k,none⟩=some (.int .i64 (a.hear k)):=fun x=>x.cell (ni a k aC wr _ (af aA HA.o))
    have c2:∀ x:ExtW wr,x.val.cell? ⟨w.heap.size+1,1+k,none⟩=some (.int .i64 (b.hear k)):=fun x=>x.cell (ni b k aC wr _ (af aA HB.o))
    go_wp2
    refine aB (by kernel_rfl) (by kernel_rfl) ?_
    repeat (quiet_step ((go_at_call 203;exact Calls.ext_of ((z6 _ _ _).mono fun _ _ ⟨h1,h2⟩=>⟨h1,h2 ▸ Below.refl _ _⟩))))
    refine wpQuiet_nil ?_;intro _ eJ;obtain⟨xq,dj⟩:=eJ;subst dj
    go_wp2
    ·have ht:(cmpI (a.hear k) (b.hear k) != 0)=true:=by assumption
     go_ret
     exact⟨aE (by rw[HC.o];exact bT k _ aC H.o rfl (by simpa using ht)),ae aG (ae aA xq.ext)⟩
    ·have ht:(cmpI (a.hear k) (b.hear k) != 0)=false:=by assumption
     go_roundw
     ·exact⟨ae aA xq.ext,k+1,by omega,by go_num,aY H.o (by simpa using ht)⟩
     ·simp[intOf];omega
   ·go_wp2
    go_ret;exact⟨aE (by rw[HC.o,cS];intro j hj;exact H.o j (by omega)),ae aG aA⟩
 ·have iP:(a.n != b.n)=true:=by simp[hn]
  have HC:am (fA a b=cmpI a.n b.n):=by unfold fA;rw[if_pos];exact rfl;intro h;exact hn (lA h)
  clear hn
  go_enter Tryz.func224,Tryz.ntmps224
  go_wp2_with (go_at_call 203;refine(z6 _ _ _).mono ?_;rintro e w' ⟨rfl,rfl⟩)
  go_ret;exact⟨aE HC.o.symm,by go_grown⟩
theorem Ef(r:Rd) (w:World) :
  Calls Tryz.prog 219 #[r.v] w fun e w'=>e=.returned (.int .i64 (roundE r))/\Below w.heap.size w w':=by
 obtain⟨⟨n,h0,h1,h2,h3,h4⟩,f⟩:=r
 go_enter Tryz.func219,Tryz.ntmps219
 go_wp2_with (first
  | (go_at_call 222;refine(Ec ⟨_,_,_,_,_,_⟩ _).mono ?_;rintro e w1 ⟨rfl,hb⟩;obtain⟨hc,hf⟩:=Mg hb)
  | (go_at_call 223;refine(BJ _ _ _).mono ?_;rintro e w2 ⟨rfl,rfl⟩))
 all_goals
  go_ret
  refine⟨aE ?_,?_⟩
  ·go_light
   unfold roundE
   grind
  ·exact ae (by go_grown) hb
theorem Kz(a:Rd):roundC a a=0:=by
 unfold roundC;rw[uI,qq];simp
theorem RL{a b:Gr} (hn:a.n=b.n) (h:∀ j,j<5->cmpI (a.hear j) (b.hear j)=0):a=b:=by
 obtain⟨n,h0,h1,h2,h3,h4⟩:=a;obtain⟨m,g0,g1,g2,g3,g4⟩:=b;have e0:=lA (h 0 (by omega));have e1:=lA (h 1 (by omega));have e2:=lA (h 2 (by omega));have e3:=lA (h 3 (by omega));have e4:=lA (h 4 (by omega));simp[Gr.hear]at e0 e1 e2 e3 e4 hn;simp[e0,e1,e2,e3,e4,hn]
theorem KA{a b:Gr} (h:fA a b=0):a=b:=by
 unfold fA at h;by_cases hc:cmpI a.n b.n=0
 ·rw[if_neg (by simpa using hc)]at h;exact RL (lA hc) (fH h)
 ·rw[if_pos hc]at h;exact absurd h hc
theorem BL(a b:Rd) (w:World) :
  Calls Tryz.prog 220 #[a.v,b.v] w fun e w'=>e=.returned (.int .i64 (roundC a b))/\Below w.heap.size w w':=by
 by_cases A0:a=b
 ·subst A0;have ka:∀ w,(binOp .eql 141 a.v a.v).run Tryz.prog w=.ok (.bool true) w:=fun w=>by rw[OZ];simp
  have H:=aa (Kz a)
  go_enter Tryz.func220,Tryz.ntmps220
  go_wp2
  go_ret;exact⟨aE H.o.symm,by go_grown⟩
 have ka:∀ w,(binOp .eql 141 a.v b.v).run Tryz.prog w=.ok (.bool false) w:=fun w=>by rw[OZ];simp[A0]
 by_cases hg:a.g=b.g
 ·have bK:∀ w,(binOp .neq 139 a.g.v b.g.v).run Tryz.prog w=.ok (.bool false) w:=fun w=>by rw[OY];simp[hg]
  have HC:am (roundC a b=cmpI a.f b.f):=by(have h:roundC a b=cmpI a.f b.f:=by(unfold roundC;rw[hg,uI];simp));exact h
  clear hg A0
  go_enter Tryz.func220,Tryz.ntmps220
  go_wp2_with (go_at_call 203;refine(z6 _ _ _).mono ?_;rintro e w' ⟨rfl,rfl⟩)
  go_ret;exact⟨aE HC.o.symm,by go_grown⟩
 ·have bK:∀ w,(binOp .neq 139 a.g.v b.g.v).run Tryz.prog w=.ok (.bool true) w:=fun w=>by rw[OY];simp[hg]
  have HC:am (roundC a b=fA a.g b.g):=by(have h:roundC a b=fA a.g b.g:=by(unfold roundC;rw[if_pos (fun h=>hg (KA h))]));exact h
  clear hg A0
  go_enter Tryz.func220,Tryz.ntmps220
  go_wp2_with (go_at_call 224;refine(BK a.g b.g _).mono ?_;rintro e w1 ⟨rfl,hb⟩)
  go_ret;exact⟨aE HC.o.symm,ae (by go_grown) hb⟩
theorem jC(va vb:Value) (a b:List Int) (w:World) (ha:aQ w va a) (hb:aQ w vb b) :
  Calls Tryz.prog 15 #[va,vb] w fun e w'=>e=.returned (.bool (eqV a b))/\Below w.heap.size w w':=by
 obtain⟨pa,ca,rfl,la1,la2,ea⟩:=ha.at;obtain⟨pb,cb,rfl,lb1,lb2,eb⟩:=hb.at;clear ha hb;have EA:=aa ea;clear ea;have EB:=aa eb;clear eb;by_cases hl:a.length=b.length
 ·have iz:((a.length:Int) != (b.length:Int))=false:=by simp[hl]
  have HL:=aa hl;clear hl
  go_enter Tryz.func15,Tryz.ntmps15
  go_wp2
  go_loopw [13] (fun i wr=>Below w.heap.size w wr/\∃ k:Nat,k<=a.length/\i=.int .i64 k/\∀ j,j<k->a.getD j 0=b.getD j 0) (fun i _=>a.length - (intOf i).toNat)
  ·exact⟨Below.refl _ _,0,by omega,rfl,by simp⟩
  ·
   obtain⟨aA,k,hk,rfl,aW⟩:=hrel;have H:=aa aW;clear aW;by_cases aC:k<a.length
   ·obtain⟨b1,o1,rfl,h1⟩:=EA.o k aC;have jc:k<b.length:=by have:=HL.o;omega
    obtain⟨b2,o2,rfl,h2⟩:=EB.o k jc;obtain⟨x,hx⟩:∃ x,x=a[k]:=⟨_,rfl⟩;obtain⟨y,hy⟩:∃ y,y=b[k]:=⟨_,rfl⟩;rw[<-hx,Nat.mul_one]at h1;rw[<-hy,Nat.mul_one]at h2;have c1:∀ n,(wr.drewN n).cell? ⟨b1,o1+k,none⟩=some (.int .i64 x):=fun n=>ak aA h1.1
    have c2:∀ n,(wr.drewN n).cell? ⟨b2,o2+k,none⟩=some (.int .i64 y):=fun n=>ak aA h2.1
    have HX:=aa hx;clear hx;have HY:=aa hy;clear hy
    go_wp2
    go_quiet (fail)
    go_wp2
    ·have ht:(x != y)=true:=by assumption
     go_ret
     refine⟨aR ?_,eK aA _⟩
     go_light
     unfold eqV;simp at ht ⊢;intro h;subst h;exact ht (HX.o.trans HY.o.symm)
    ·have ht:(x != y)=false:=by assumption
     go_roundw
     ·
      refine⟨eK aA _,k+1,by omega,by go_num,aY H.o ?_⟩;rw[az 0 aC,az 0 jc,<-HX.o,<-HY.o];simpa using ht
     ·simp[intOf];omega
   ·go_wp2
    go_ret
    refine⟨aR ?_,aA⟩;unfold eqV;simp;refine List.ext_getElem HL.o fun i h1 h2=>?_
    have:=H.o i (by omega)
    rwa [az 0 h1,az 0 h2]at this
 ·have iz:((a.length:Int) != (b.length:Int))=true:=by simp;omega
  go_enter Tryz.func15,Tryz.ntmps15
  go_wp2
  go_ret
  exact⟨aR (by unfold eqV;simp;intro h;exact hl (by rw[h])),Below.refl _ _⟩
theorem Fu{a b:List Int} {k:Nat} (h1:k<a.length) (h2:k<b.length) (hO:ordV a b=ordV (a.drop k) (b.drop k)):ordV a b=if cmpI a[k] b[k]=0 then ordV (a.drop (k+1)) (b.drop (k+1)) else cmpI a[k] b[k]:=by
 rw[hO,sC h1,sC h2,ordV];unfold cmpI
 grind
theorem qY(va vb:Value) (a b:List Int) (w:World) (ha:aQ w va a) (hb:aQ w vb b) :
  Calls Tryz.prog 170 #[va,vb] w fun e w'=>e=.returned (.int .i64 (ordV a b))/\Below w.heap.size w w':=by
 obtain⟨pa,ca,rfl,la1,la2,ea⟩:=ha.at;obtain⟨pb,cb,rfl,lb1,lb2,eb⟩:=hb.at;clear ha hb;have EA:=aa ea;clear ea;have EB:=aa eb;clear eb
 go_enter Tryz.func170,Tryz.ntmps170
 go_wp2
 go_loop [11] (fun i=>∃ k:Nat,k<=a.length/\i=.int .i64 k/\ordV a b=ordV (a.drop k) (b.drop k)) (fun i=>a.length - (intOf i).toNat)
 ·exact⟨0,by omega,rfl,by simp⟩
 ·
  obtain⟨k,hk,rfl,aW⟩:=hrel;have H:=aa aW;clear aW;by_cases aC:k<a.length
  ·obtain⟨b1,o1,rfl,h1⟩:=EA.o k aC;obtain⟨x,hx⟩:∃ x,x=a[k]:=⟨_,rfl⟩;rw[<-hx,Nat.mul_one]at h1;have c1:=h1.1;have HX:=aa hx;clear hx h1;by_cases jc:k<b.length
   ·obtain⟨b2,o2,rfl,h2⟩:=EB.o k jc;obtain⟨y,hy⟩:∃ y,y=b[k]:=⟨_,rfl⟩;rw[<-hy,Nat.mul_one]at h2;have c2:=h2.1;have HY:=aa hy;clear hy h2;have HS:=Fu aC jc H.o;rw[<-HX.o,<-HY.o]at HS;have LX:=aa HS;clear HS
    go_wp2_with (go_at_call 203;refine(z6 _ _ _).mono ?_;rintro e w' ⟨rfl,rfl⟩)
    ·have ht:(cmpI x y != 0)=true:=by assumption
     go_ret
     exact⟨aE (by rw[LX.o,if_neg (by simpa using ht)]),Below.refl _ _⟩
    ·have ht:(cmpI x y != 0)=false:=by assumption
     go_round
     ·exact⟨k+1,by omega,by go_num,by rw[LX.o,if_pos (by simpa using ht)]⟩
     ·simp[intOf];omega
   ·go_wp2
    go_ret
    refine⟨aE ?_,Below.refl _ _⟩;rw[H.o,sC aC,List.drop_of_length_le (l:=b) (by omega)];rfl
  ·have HR:am (ordV a b=if a.length<b.length then -1 else 0):=by
    have h:ordV a b=if a.length<b.length then -1 else 0:=by
     rw[H.o,List.drop_of_length_le (by omega),xp,List.length_drop]
     grind
    exact h
   go_wp2
   all_goals
    go_ret
    refine⟨aE ?_,Below.refl _ _⟩;rw[HR.o]
    go_light
    grind
theorem Am(g:Nat) (lb:Array Value) (eg:∀ args w,(callFunc g args).run Tryz.prog w=.ok (.enter g args) w) (v:Value) (l:List Int) (p:Nat->Bool) (w:World) (hv:aQ w v l)
  (hp:∀ i (hi:i<l.length)  W,Below w.heap.size w W->Calls Tryz.prog g (#[.int .i64 l[i]]++lb) W fun e W'=>e=.returned (.bool (p i))/\Below W.heap.size W W') :
  Calls Tryz.prog 152 #[v,.func (.func g) #[] lb] w fun e w'=>e=.returned (.int .i64 (firstIx l.length p))/\Below w.heap.size w w':=by
 obtain⟨pa,ca,rfl,la1,la2,ea⟩:=hv.at;clear hv;have EA:=aa ea;clear ea;have HP:=aa hp;clear hp
 go_enter Tryz.func152,Tryz.ntmps152
 go_wp2
 go_loopw [8] (fun i wr=>Below w.heap.size w wr/\∃ k:Nat,k<=l.length/\i=.int .i64 k/\∀ j,j<k->p j=false) (fun i _=>l.length - (intOf i).toNat)
 ·exact⟨Below.refl _ _,0,by omega,rfl,by simp⟩
 ·
  obtain⟨aA,k,hk,rfl,aW⟩:=hrel;have H:=aa aW;clear aW;by_cases aC:k<l.length
  ·obtain⟨b1,o1,rfl,h1⟩:=EA.o k aC;rw[Nat.mul_one]at h1;have c1:=ak aA h1.1;have fo:=HP.o k aC wr aA;clear h1;generalize l[k]=x at c1 fo;cases tE:p k with
   | true=>
    rw[tE]at fo;have bV:=aa fo;clear fo;have xO:=aa tE;clear tE
    go_wp2_with fail
    refine bV.o.mono ?_;rintro e w1 ⟨rfl,aK⟩
    go_wp2_with fail
    go_ret
    exact⟨aE (dB _ _ _ aC H.o xO.o).symm,ae aA aK⟩
   | false=>
    rw[tE]at fo;have bV:=aa fo;clear fo;have xO:=aa tE;clear tE
    go_wp2_with fail
    refine bV.o.mono ?_;rintro e w1 ⟨rfl,aK⟩
    go_wp2_with fail
    go_roundw
    ·exact⟨ae aA aK,k+1,by omega,by go_num,aY H.o xO.o⟩
    ·simp[intOf];omega
  ·go_wp2
   go_ret
   exact⟨aE (by rw[dK];intro j hj;exact H.o j (by omega)),aA⟩
theorem An(g:Nat) (lb:Array Value) (eg:∀ args w,(callFunc g args).run Tryz.prog w=.ok (.enter g args) w) (v:Value) (l:List (List Int)) (p:Nat->Bool) (w:World) (hv:dL w v l)
  (hp:∀ i (hi:i<l.length) (x:Value) (_:aQ w x l[i]) W,Below w.heap.size w W->Calls Tryz.prog g (#[x]++lb) W fun e W'=>e=.returned (.bool (p i))/\Below W.heap.size W W') :
  Calls Tryz.prog 153 #[v,.func (.func g) #[] lb] w fun e w'=>e=.returned (.int .i64 (firstIx l.length p))/\Below w.heap.size w w':=by
 obtain⟨pa,ca,rfl,la1,la2,ea⟩:=hv.at;clear hv;have EA:=aa ea;clear ea;have HP:=aa hp;clear hp
 go_enter Tryz.func153,Tryz.ntmps153
 go_wp2
 go_loopw [8] (fun i wr=>Below w.heap.size w wr/\∃ k:Nat,k<=l.length/\i=.int .i64 k/\∀ j,j<k->p j=false) (fun i _=>l.length - (intOf i).toNat)
 ·exact⟨Below.refl _ _,0,by omega,rfl,by simp⟩
 ·
  obtain⟨aA,k,hk,rfl,aW⟩:=hrel;have H:=aa aW;clear aW;by_cases aC:k<l.length
  ·obtain⟨b1,o1,rfl,h1⟩:=EA.o k aC;rw[Nat.mul_one]at h1;obtain⟨x,kR,hx⟩:=h1;have c1:=ak aA kR;have fo:=HP.o k aC x hx wr aA;clear kR hx;cases tE:p k with
   | true=>
    rw[tE]at fo;have bV:=aa fo;clear fo;have xO:=aa tE;clear tE
    go_wp2_with fail
    refine bV.o.mono ?_;rintro e w1 ⟨rfl,aK⟩
    go_wp2_with fail
    go_ret
    exact⟨aE (dB _ _ _ aC H.o xO.o).symm,ae aA aK⟩
   | false=>
    rw[tE]at fo;have bV:=aa fo;clear fo;have xO:=aa tE;clear tE
    go_wp2_with fail
    refine bV.o.mono ?_;rintro e w1 ⟨rfl,aK⟩
    go_wp2_with fail
    go_roundw
    ·exact⟨ae aA aK,k+1,by omega,by go_num,aY H.o xO.o⟩
    ·simp[intOf];omega
  ·go_wp2
   go_ret
   exact⟨aE (by rw[dK];intro j hj;exact H.o j (by omega)),aA⟩
theorem iE(g:Nat) (lb:Array Value) (eg:∀ args w,(callFunc g args).run Tryz.prog w=.ok (.enter g args) w) (v:Value) (l:List Int) (p:Nat->Bool) (w:World) (hv:aQ w v l)
  (hp:∀ i (hi:i<l.length)  W,Below w.heap.size w W->Calls Tryz.prog g (#[.int .i64 l[i]]++lb) W fun e W'=>e=.returned (.bool (p i))/\Below W.heap.size W W') :
  Calls Tryz.prog 106 #[v,.func (.func g) #[] lb] w fun e w'=>e=.returned (.bool (anyLt l.length p))/\Below w.heap.size w w':=by
 have hc:=Am g lb eg v l p w hv hp;have HA:=aa (p9 l.length p);generalize firstIx l.length p=r at hc HA;have HC:=aa hc;clear hc hp
 go_enter Tryz.func106,Tryz.ntmps106
 go_wp2_with fail
 refine HC.o.mono ?_;rintro e w1 ⟨rfl,aK⟩
 go_wp2_with fail
 go_ret
 exact⟨aR HA.o,aK⟩
theorem nW(g:Nat) (lb:Array Value) (eg:∀ args w,(callFunc g args).run Tryz.prog w=.ok (.enter g args) w) (v:Value) (l:List (List Int)) (p:Nat->Bool) (w:World) (hv:dL w v l)
  (hp:∀ i (hi:i<l.length) (x:Value) (_:aQ w x l[i]) W,Below w.heap.size w W->Calls Tryz.prog g (#[x]++lb) W fun e W'=>e=.returned (.bool (p i))/\Below W.heap.size W W') :
  Calls Tryz.prog 108 #[v,.func (.func g) #[] lb] w fun e w'=>e=.returned (.bool (anyLt l.length p))/\Below w.heap.size w w':=by
 have hc:=An g lb eg v l p w hv hp;have HA:=aa (p9 l.length p);generalize firstIx l.length p=r at hc HA;have HC:=aa hc;clear hc hp
 go_enter Tryz.func108,Tryz.ntmps108
 go_wp2_with fail
 refine HC.o.mono ?_;rintro e w1 ⟨rfl,aK⟩
 go_wp2_with fail
 go_ret
 exact⟨aR HA.o,aK⟩
end Go.Proofs.YtmeaoneaephjeaaGreatDoor
namespace Go.Proofs.YtmeaoneaephjeaaGreatDoor
open Go.RowKit Go Go.Shelf
def TP(w:World) (v:Value) (xs:List Value):Prop:=
 ∃ a cap,v=.slice a xs.length cap/\(a=none->xs.length=0/\cap=0)/\(∀ i x,xs[i]?=some x->∃ b off,a=some ⟨b,off,none⟩/\w.cell? ⟨b,off+i,none⟩=some x)/\∀ x∈xs,x.oneCell'=true
theorem Tryz.infoInt:(Tryz.prog.info? 3).map (fun i=>(i.zero,i.size,i.bytes))=some (some (.int .i64 0),1,8):=by kernel_rfl
theorem Tryz.infoInts:(Tryz.prog.info? 38).map (fun i=>(i.zero,i.size,i.bytes))=some (some (.slice none 0 0),1,24):=by kernel_rfl
theorem yD(v:Value) (xs:List Value) (w:World) (hv:TP w v xs) (hn:xs.length<=1099511627776) :
  Calls Tryz.prog 195 #[v] w fun e w'=>∃ u,e=.returned u/\w'.ownsRow w.heap.size 3 1 u xs.length xs/\Below w.heap.size w w':=by
 obtain⟨a,cap,rfl,ha,hc,h1⟩:=hv;obtain⟨i0,hi,cD,bX,cF⟩:=info_parts Tryz.infoInt;cases a with
 | none=>
  obtain⟨hl,rfl⟩:=ha rfl;obtain rfl:xs=[]:=List.eq_nil_of_length_eq_zero hl;have ka:=fun w=>Lib.run_eql_slice_nil (P:=Tryz.prog) w 38
  go_enter Tryz.func195,Tryz.ntmps195
  go_wp2_with fail
  go_ret
  exact⟨_,rfl,World.ownsRow_nil _ _ _ _,Below.refl _ _⟩
 | some ad=>
  have ka:=fun w=>Lib.run_eql_slice_nil (P:=Tryz.prog) w 38
  have bQ:∀ j u,xs[j]?=some u->(w.alloc (.cells #[] 3)).cell? (ad.add j)=some u:=fun j u hj=>by
   obtain⟨b,off,e,eP⟩:=hc j u hj;cases e;have:(Addr.add ⟨b,off,none⟩ j)=⟨b,off+j,none⟩:=by unfold Addr.add;split<;>simp_all
   rw[this];exact ak (by go_grown) eP
  have bd:(w.alloc (.cells #[] 3)).ownsRow w.heap.size 3 1 (.slice (some ⟨w.heap.size,0,none⟩) 0 0) 0 []:=⟨by simp,.inr ⟨w.heap.size,0,#[],rfl,Nat.le_refl _,ap _ _,by omega,by simp[maxLen],by simp,by simp⟩⟩;have bF:=aa bQ;have bO:=aa bd;have H1:=aa h1;clear bQ bd h1 hc ha
  go_enter Tryz.func195,Tryz.ntmps195
  go_wp2_with (at_builtin;refine wpList_append_own _ rfl (.tmp 5) (.tmp 6) 38 rfl w.heap.size 3 i0 (.int .i64 0) 1 8 Tryz.underlying38 hi cD bX cF rfl (by decide) _ 0 [] rfl bO.o ad xs.length cap xs rfl (by simp) bF.o H1.o (by unfold maxLen;omega) (by omega) (by simp) ?_;intro v' w1 gY lK _)
  go_ret
  refine⟨_,rfl,by simpa using gY,Below.grown (w:=w.alloc (.cells #[] 3)) (by go_grown) lK (by simp) (fun k hk=>?_)⟩;cases hk;exact Nat.le_refl _
theorem GQ{w:World} {v:Value} {α:Type} {k:Nat} {R:World->Nat->Nat->α->Prop} {l:List α} (h:fj k R w v l):v.oneCell'=true:=by
 obtain⟨a,cap,rfl,_⟩:=h;rfl
theorem AA{w:World} {v:Value} {l:List Int} (h:aQ w v l):TP w v (l.map (Value.int .i64)):=by
 obtain⟨a,cap,rfl,h1,h2,h3⟩:=h;refine⟨a,cap,by simp,fun e=>?_,fun i x hx=>?_,fun x hx=>?_⟩
 ·have:=h1.2.2 e;exact⟨by rw[List.length_map];omega,this⟩
 ·simp only[List.getElem?_map,Option.map_eq_some_iff]at hx;obtain⟨y,hy,rfl⟩:=hx;obtain⟨b,off,ha,hr⟩:=h3 i y hy;exact⟨b,off,ha,by have:=hr.1;rwa [Nat.mul_one]at this⟩
 ·obtain⟨y,_,rfl⟩:=List.mem_map.1 hx;rfl
theorem sP{w:World} {base:Nat} {e:TypeId} {v:Value} {n:Nat} {xs:List Value} (h:w.ownsRow base e 1 v n xs):∃ a cap,v=.slice a n cap/\n<=cap/\cap<=9223372036854775807/\(a=none->cap=0)/\xs.length=n/\∀ i x,xs[i]?=some x->∃ b,a=some ⟨b,0,none⟩/\w.cell? ⟨b,i,none⟩=some x:=by
 obtain⟨hl,h⟩:=h;rw[Nat.mul_one]at hl;rcases h with ⟨rfl,rfl⟩|⟨g,cap,cur,rfl,hg,hb,hn,hm,hs,ht⟩
 ·exact⟨none,0,rfl,by omega,by omega,fun _=>rfl,hl,fun i x hx=>by have:=(List.getElem?_eq_some_iff.1 hx).1;omega⟩
 ·refine⟨_,cap,rfl,hn,by simpa[maxLen] using hm,(fun e=>(by cases e)),hl,fun i x hx=>⟨g,rfl,?_⟩⟩;rw[ab hb,<-hx,<-ht,Nat.mul_one];have hi:=(List.getElem?_eq_some_iff.1 hx).1;rw[List.getElem?_take_of_lt (by omega)];simp
theorem Im{w:World} {v:Value} {l:List Int} (h:aQ w v l):∀ x∈l,bR x:=fun x hx=>by
 obtain⟨a,cap,rfl,_,_,h3⟩:=h;obtain⟨i,hi,rfl⟩:=List.getElem_of_mem hx;obtain⟨b,off,_,hr⟩:=h3 i _ (List.getElem?_eq_getElem hi);exact hr.2
theorem KB(x most:Int) (B:Nat) (W:World) (hc:W.cell? ⟨B,0,none⟩=some (.int .i64 most)) :
  Calls Tryz.prog 202 #[.int .i64 x,.pointer (some ⟨B,0,none⟩)] W fun e W'=>e=.returned (.bool (decide (x<0) || decide (most<=x)))/\Below W.heap.size W W':=by
 by_cases hx:x<0
 ·go_enter Tryz.func202,Tryz.ntmps202
  go_wp2
  go_ret
  exact⟨aR (by simp[hx]),Below.refl _ _⟩
 ·go_enter Tryz.func202,Tryz.ntmps202
  go_wp2
  go_ret
  exact⟨aR (by simp;omega),Below.refl _ _⟩
theorem Cl(v:Value) (l:List Int) (n most:Int) (w:World) (hv:aQ w v l) :
  Calls Tryz.prog 169 #[v,.int .i64 n,.int .i64 most] w fun e w'=>e=.returned (.int .i64 (vectorE l n most))/\Below w.heap.size w w':=by
 have aG:Below w.heap.size w (w.alloc (.cells #[.int .i64 most] 3)):=by go_grown
 have E7:=iE 202 #[.pointer (some ⟨w.heap.size,0,none⟩)] (enters_of Tryz.func202 (by kernel_rfl) rfl) v l (fun i=>decide (l.getD i 0<0) || decide (most<=l.getD i 0))
  (w.alloc (.cells #[.int .i64 most] 3)) (hv.up up_int aG) (fun i hi W hW=>by
   rw[az 0 hi]
   exact KB _ _ _ _ (ak hW (by simp[ab (ap _ _)])))
 have HV:am (vectorE l n most=if (l.length:Int)≠n then 15 else if anyLt l.length (fun i=>decide (l.getD i 0<0) || decide (most<=l.getD i 0)) then 2 else 0):=by exact rfl
 generalize anyLt l.length (fun i=>decide (l.getD i 0<0) || decide (most<=l.getD i 0))=r at E7 HV;have HC:=aa E7;clear E7;obtain⟨pa,ca,rfl,la1,la2,_⟩:=hv.at;clear hv;by_cases hl:(l.length:Int)=n
 ·have iz:((l.length:Int) != n)=false:=by simp[hl]
  have HL:=aa hl;clear hl;cases r with
  | true=>
   go_enter Tryz.func169,Tryz.ntmps169
   go_wp2_with fail
   refine HC.o.mono ?_;rintro e w1 ⟨rfl,aK⟩
   go_wp2_with fail
   go_ret
   exact⟨aE (by rw[HV.o,if_neg (by simpa using HL.o)];rfl),ae aG aK⟩
  | false=>
   go_enter Tryz.func169,Tryz.ntmps169
   go_wp2_with fail
   refine HC.o.mono ?_;rintro e w1 ⟨rfl,aK⟩
   go_wp2_with fail
   go_ret
   exact⟨aE (by rw[HV.o,if_neg (by simpa using HL.o)];rfl),ae aG aK⟩
 ·have iz:((l.length:Int) != n)=true:=by simp[hl]
  go_enter Tryz.func169,Tryz.ntmps169
  go_wp2_with fail
  go_ret
  exact⟨aE (by rw[HV.o,if_pos hl]),aG⟩
theorem xA(v:Value) (l:List (List Int)) (i:Nat) (hi:i<l.length) (w:World) (hv:dL w v l) :
  Calls Tryz.prog 204 #[v,.int .i64 i] w fun e w'=>e=.returned (.bool (unordB l i))/\Below w.heap.size w w':=by
 obtain⟨pa,ca,rfl,la1,la2,ea⟩:=hv.at;clear hv;by_cases h0:0<i
 ·obtain⟨j,rfl⟩:∃ j,i=j+1:=⟨i - 1,by omega⟩;have hj:j<l.length:=by omega
  obtain⟨b1,o1,rfl,x1,c1,h1⟩:=ea j hj;obtain⟨b2,o2,e2,x2,c2,h2⟩:=ea (j+1) hi;obtain⟨rfl,rfl⟩:b1=b2/\o1=o2:=by simpa using e2
  clear e2 ea;rw[Nat.mul_one]at c1 c2
  have HU:am (unordB l (j+1)=decide (0<=ordV l[j] l[j+1])):=by
   have h:unordB l (j+1)=decide (0<=ordV l[j] l[j+1]):=by
    unfold unordB;rw[Nat.add_sub_cancel,az [] hj,az [] hi];simp
   exact h
  generalize l[j]=y1 at h1 HU;generalize l[j+1]=y2 at h2 HU;have d1:∀ x:ExtW w,x.val.cell? ⟨b1,o1+j,none⟩=some x1:=fun x=>x.cell c1
  have d2:∀ x:ExtW w,x.val.cell? ⟨b1,o1+(j+1),none⟩=some x2:=fun x=>x.cell c2
  have fo:∀ x:ExtW w,Calls Tryz.prog 170 #[x1,x2] x.val fun e w''=>e=.returned (.int .i64 (ordV y1 y2))/\∃ p:ExtW w,w''=p.val:=
   fun x=>Calls.ext_of (qY _ _ _ _ _ (h1.up up_int x.ext) (h2.up up_int x.ext))
  have bV:=aa fo;clear fo;clear c1 c2 h1 h2;have T5:IntKind.i64.wrap (j:Int)=(j:Int):=IntWalk.i64_in _ (by omega);have xH:(0:Int)<=(j:Int)+1:=by omega
  have Gw:(j:Int)+1<(l.length:Int):=by omega
  have AT:((j:Int)+1).toNat=j+1:=by omega
  go_enter Tryz.func204,Tryz.ntmps204
  go_wp2_with fail
  refine aB (by kernel_rfl) (by kernel_rfl) ?_
  repeat (quiet_step ((go_at_call 170;exact bV.o _)))
  refine wpQuiet_nil ?_;intro _ eJ;obtain⟨xq,dj⟩:=eJ;subst dj
  go_wp2_with fail
  go_ret
  exact⟨aR HU.o.symm,xq.ext⟩
 ·obtain rfl:i=0:=by omega
  go_enter Tryz.func204,Tryz.ntmps204
  go_wp2_with fail
  go_quiet (fail)
  go_wp2_with fail
  go_ret
  exact⟨aR (by simp[unordB]),eK (Below.refl _ _) _⟩
theorem RM(x:Value) (v:Value) (y z:List Int) (B:Nat) (W:World) (hc:W.cell? ⟨B,0,none⟩=some v) (hx:aQ W x y) (hv:aQ W v z) :
  Calls Tryz.prog 214 #[x,.pointer (some ⟨B,0,none⟩)] W fun e W'=>e=.returned (.bool (eqV y z))/\Below W.heap.size W W':=by
 have HC:=aa (jC x v y z W hx hv);obtain⟨_,_,rfl,_⟩:=hv;clear hx
 go_enter Tryz.func214,Tryz.ntmps214
 go_wp2_with fail
 refine HC.o.mono ?_;rintro e w1 ⟨rfl,aK⟩
 go_wp2_with fail
 go_ret
 exact⟨rfl,aK⟩
theorem Vj(v:Value) (l:List (List Int)) (x:Value) (y:List Int) (w:World) (hv:dL w v l) (hx:aQ w x y) :
  Calls Tryz.prog 205 #[v,x] w fun e w'=>e=.returned (.bool (hasV l y))/\Below w.heap.size w w':=by
 have aG:Below w.heap.size w (w.alloc (.cells #[x] 38)):=by go_grown
 have E7:=nW 214 #[.pointer (some ⟨w.heap.size,0,none⟩)] (enters_of Tryz.func214 (by kernel_rfl) rfl) v l (fun i=>eqV (l.getD i []) y)
  (w.alloc (.cells #[x] 38)) (hv.up up_ints aG) (fun i hi z hz W hW=>by
   rw[az [] hi]
   exact RM _ _ _ _ _ _ (ak hW (by simp[ab (ap _ _)])) (hz.up up_int hW) ((hx.up up_int aG).up up_int hW))
 have HC:=aa E7;clear E7;obtain⟨_,_,rfl,_⟩:=hx;clear hv
 go_enter Tryz.func205,Tryz.ntmps205
 go_wp2_with fail
 refine HC.o.mono ?_;rintro e w1 ⟨rfl,aK⟩
 go_wp2_with fail
 go_ret
 exact⟨rfl,ae aG aK⟩
theorem AB(t:Tk) (pc:Option Addr) (nc cc:Nat) (c:Cs) (x0 x1 x2:Value) (w:World) (h0:aQ w x0 c.inp) (h1:dL w x1 c.out) (h2:dL w x2 c.calm) :
  Calls Tryz.prog 171 #[.agg #[.int .i64 t.n,.int .i64 t.ins,.int .i64 t.outs,.slice pc nc cc],.agg #[x0,x1,x2]] w fun e w'=>e=.returned (.int .i64 (vectorsE t c))/\Below w.heap.size w w':=by
 have G1:=aa h1;have G2:=aa h2;obtain⟨p0,c0,rfl,_⟩:=h0;obtain⟨p1,c1,rfl,l1,m1,e1⟩:=h1.at;obtain⟨p2,c2,rfl,l2,m2,e2⟩:=h2.at;have E1:=aa e1;have E2:=aa e2;clear h1 h2 e1 e2;by_cases hl:c.out.length<1\/1024<c.out.length
 ·have HV:am (vectorsE t c=5):=by(have h:vectorsE t c=5:=by(unfold vectorsE;rw[if_pos hl]));exact h
  rcases hl with hl|hl
  ·go_enter Tryz.func171,Tryz.ntmps171
   go_wp2_with fail
   go_ret
   exact⟨aE HV.o.symm,by go_grown⟩
  ·go_enter Tryz.func171,Tryz.ntmps171
   go_wp2_with fail
   go_ret
   exact⟨aE HV.o.symm,by go_grown⟩
 have iz:1<=c.out.length:=by omega
 have nA:c.out.length<=1024:=by omega
 have HV:am (vectorsE t c=if bm c.out.length (jq t c)≠0 then bm c.out.length (jq t c) else bm c.calm.length (jh c)):=by
  have h:vectorsE t c=if bm c.out.length (jq t c)≠0 then bm c.out.length (jq t c) else bm c.calm.length (jh c):=by unfold vectorsE;rw[if_neg hl]
  exact h
 clear hl
 go_enter Tryz.func171,Tryz.ntmps171
 go_wp2_with fail
 refine bC (fun W=>Below w.heap.size w W/\W.heap[w.heap.size]?=some (.cells #[.int .i64 t.n,.int .i64 t.ins,.int .i64 t.outs,.slice pc nc cc] 24)/\W.heap[w.heap.size+1]?=some (.cells #[.slice p0 c.inp.length c0,.slice p1 c.out.length c1,.slice p2 c.calm.length c2] 135))
  ⟨by go_grown,ar _ (ap _ _),by simpa using ap (w.alloc (.cells #[.int .i64 t.n,.int .i64 t.ins,.int .i64 t.outs,.slice pc nc cc] 24)) _⟩ (fun W0 aX=>?_)
 obtain⟨aG,hT,hC⟩:=aX;have HT:=aa hT;clear hT;have HC:=aa hC;clear hC
 go_loopw [23] (fun i wr=>Below W0.heap.size W0 wr/\∃ k:Nat,k<=c.out.length/\i=.int .i64 k/\∀ j,j<k->jq t c j=0) (fun i _=>c.out.length - (intOf i).toNat)
 ·exact⟨Below.refl _ _,0,by omega,rfl,by simp⟩
 ·
  obtain⟨aA,k,hk,rfl,aW⟩:=hrel;have H:=aa aW;clear aW;have t1:=ab (af aA HT.o);have t2:=ab (af aA HC.o);by_cases aC:k<c.out.length
  ·obtain⟨b1,o1,rfl,x,cx,hx⟩:=E1.o k aC;rw[Nat.mul_one]at cx;have d1:=ak (ae aG aA) cx;have HX:=aa (hx.up up_int (ae aG aA));obtain⟨px,qx,rfl,_⟩:=hx;clear cx
   go_wp2_with fail
   refine(Cl _ _ _ _ _ HX.o).mono ?_;rintro e w1 ⟨rfl,aK⟩
   have HO:am (jq t c k=if vectorE c.out[k] t.n t.outs≠0 then vectorE c.out[k] t.n t.outs else if unordB c.out k then 14 else 0):=by
    have h:jq t c k=if vectorE c.out[k] t.n t.outs≠0 then vectorE c.out[k] t.n t.outs else if unordB c.out k then 14 else 0:=by unfold jq;rw[az [] aC]
    exact h
   generalize vectorE c.out[k] t.n t.outs=ev at HO;by_cases my:ev=0
   ·subst my;have s1:=ab (af (ae aA aK) HT.o);have s2:=ab (af (ae aA aK) HC.o);clear t1 t2 d1
    go_wp2_with fail
    refine(xA _ _ k aC _ (G1.o.up up_ints (ae (ae aG aA) aK))).mono ?_;rintro e w2 ⟨rfl,aT⟩;generalize unordB c.out k=u at HO;cases u with
    | true=>
     go_wp2_with fail
     go_ret
     exact⟨aE (by rw[HV.o,<-bT k 14 aC H.o (by rw[HO.o];rfl) (by decide)];rfl),ae (ae (ae aG aA) aK) aT⟩
    | false=>
     go_wp2_with fail
     go_roundw
     ·exact⟨ae (ae aA aK) aT,k+1,by omega,by go_num,aY H.o (by rw[HO.o];rfl)⟩
     ·simp[intOf];omega
   ·have hev':(ev != 0)=true:=by simpa using my
    go_wp2_with fail
    go_ret
    exact⟨aE (by rw[HV.o,<-bT k ev aC H.o (by rw[HO.o,if_pos my]) my,if_pos my]),ae (ae aG aA) aK⟩
  ·have dd:am (vectorsE t c=bm c.calm.length (jh c)):=by
    have h:vectorsE t c=bm c.calm.length (jh c):=by rw[HV.o,cS _ _ (fun j hj=>H.o j (by omega))];simp
    exact h
   go_wp2_with fail
   clear t1 t2;have dF:=ae aG aA;obtain⟨W1,cM⟩:∃ W1:World,W1=wr:=⟨_,rfl⟩;rw[<-cM]at aA dF ⊢;clear cM wr
   go_loopw [45] (fun i wr=>Below W1.heap.size W1 wr/\∃ k:Nat,k<=c.calm.length/\i=.int .i64 k/\∀ j,j<k->jh c j=0) (fun i _=>c.calm.length - (intOf i).toNat)
   ·exact⟨Below.refl _ _,0,by omega,rfl,by simp⟩
   ·
    obtain⟨ki,q,hq,rfl,qk⟩:=hrel;have H2:=aa qk;clear qk;have t2:=ab (af (ae aA ki) HC.o);by_cases Bz:q<c.calm.length
    ·obtain⟨b1,o1,rfl,x,cx,hx⟩:=E2.o q Bz;rw[Nat.mul_one]at cx;have d1:=ak (ae dF ki) cx;have HX:=aa (hx.up up_int (ae dF ki));obtain⟨px,qx,rfl,_⟩:=hx;clear cx
     go_wp2_with fail
     refine(Vj _ _ _ _ _ (G1.o.up up_ints (ae dF ki)) HX.o).mono ?_;rintro e w1 ⟨rfl,aK⟩
     have HO:am (jh c q=if hasV c.out c.calm[q] then(if unordB c.calm q then 14 else 0) else 6):=by
      have h:jh c q=if hasV c.out c.calm[q] then(if unordB c.calm q then 14 else 0) else 6:=by unfold jh;rw[az [] Bz]
      exact h
     generalize hasV c.out c.calm[q]=ev at HO;cases ev with
     | true=>
      have s2:=ab (af (ae (ae aA ki) aK) HC.o);clear t2 d1
      go_wp2_with fail
      refine(xA _ _ q Bz _ (G2.o.up up_ints (ae (ae dF ki) aK))).mono ?_;rintro e w2 ⟨rfl,aT⟩;generalize unordB c.calm q=u at HO;cases u with
      | true=>
       go_wp2_with fail
       go_ret
       exact⟨aE (by rw[dd.o,<-bT q 14 Bz H2.o (by rw[HO.o];rfl) (by decide)]),ae (ae (ae dF ki) aK) aT⟩
      | false=>
       go_wp2_with fail
       go_roundw
       ·exact⟨ae (ae ki aK) aT,q+1,by omega,by go_num,aY H2.o (by rw[HO.o];rfl)⟩
       ·simp[intOf];omega
     | false=>
      go_wp2_with fail
      go_ret
      exact⟨aE (by rw[dd.o,<-bT q 6 Bz H2.o (by rw[HO.o];rfl) (by decide)]),ae (ae dF ki) aK⟩
    ·go_wp2_with fail
     go_ret
     exact⟨aE (by rw[dd.o,cS];intro j hj;exact H2.o j (by omega)),ae dF ki⟩
theorem qR(t:Tk) (vc:Value) (w:World) (hv:bM w vc t.cases) :
  Calls Tryz.prog 124 #[.agg #[.int .i64 t.n,.int .i64 t.ins,.int .i64 t.outs,vc]] w fun e w'=>e=.returned (.int .i64 (taskE t))/\Below w.heap.size w w':=by
 have G:=aa hv;obtain⟨pc,cc,rfl,l1,m1,e1⟩:=hv.at;clear hv;have E:=aa e1;clear e1;by_cases hr:t.n<1\/5<t.n\/t.ins<1\/8<t.ins\/t.outs<1\/8<t.outs
 ·have HV:am (taskE t=2):=by(have h:taskE t=2:=by(unfold taskE;rw[if_pos hr]));exact h
  by_cases r1:t.n<1
  ·go_enter Tryz.func124,Tryz.ntmps124
   go_wp2_with fail
   go_ret;exact⟨aE HV.o.symm,by go_grown⟩
  by_cases r2:5<t.n
  ·go_enter Tryz.func124,Tryz.ntmps124
   go_wp2_with fail
   go_ret;exact⟨aE HV.o.symm,by go_grown⟩
  by_cases r3:t.ins<1
  ·go_enter Tryz.func124,Tryz.ntmps124
   go_wp2_with fail
   go_ret;exact⟨aE HV.o.symm,by go_grown⟩
  by_cases r4:8<t.ins
  ·go_enter Tryz.func124,Tryz.ntmps124
   go_wp2_with fail
   go_ret;exact⟨aE HV.o.symm,by go_grown⟩
  by_cases r5:t.outs<1
  ·go_enter Tryz.func124,Tryz.ntmps124
   go_wp2_with fail
   go_ret;exact⟨aE HV.o.symm,by go_grown⟩
  ·have r6:8<t.outs:=by omega
   clear hr
   go_enter Tryz.func124,Tryz.ntmps124
   go_wp2_with fail
   go_ret;exact⟨aE HV.o.symm,by go_grown⟩
 have r1:1<=t.n:=by omega
 have r2:t.n<=5:=by omega
 have r3:1<=t.ins:=by omega
 have r4:t.ins<=8:=by omega
 have r5:1<=t.outs:=by omega
 have r6:t.outs<=8:=by omega
 by_cases hl:t.cases.length<1\/1024<t.cases.length
 ·have HV:am (taskE t=5):=by(have h:taskE t=5:=by(unfold taskE;rw[if_neg hr,if_pos hl]));exact h
  clear hr;rcases hl with hl|hl
  ·go_enter Tryz.func124,Tryz.ntmps124
   go_wp2_with fail
   go_ret;exact⟨aE HV.o.symm,by go_grown⟩
  ·go_enter Tryz.func124,Tryz.ntmps124
   go_wp2_with fail
   go_ret;exact⟨aE HV.o.symm,by go_grown⟩
 have iz:1<=t.cases.length:=by omega
 have nA:t.cases.length<=1024:=by omega
 have HV:am (taskE t=bm t.cases.length (fd t)):=by(have h:taskE t=bm t.cases.length (fd t):=by(unfold taskE;rw[if_neg hr,if_neg hl]));exact h
 clear hr hl
 go_enter Tryz.func124,Tryz.ntmps124
 go_wp2_with fail
 refine bC (fun W=>Below w.heap.size w W/\W.heap[w.heap.size]?=some (.cells #[.int .i64 t.n,.int .i64 t.ins,.int .i64 t.outs,.slice pc t.cases.length cc] 24))
  ⟨by go_grown,ap _ _⟩ (fun W0 aX=>?_)
 obtain⟨aG,hT⟩:=aX;have HT:=aa hT;clear hT
 go_loopw [46] (fun i wr=>Below W0.heap.size W0 wr/\∃ k:Nat,k<=t.cases.length/\i=.int .i64 k/\∀ j,j<k->fd t j=0) (fun i _=>t.cases.length - (intOf i).toNat)
 ·exact⟨Below.refl _ _,0,by omega,rfl,by simp⟩
 ·
  obtain⟨aA,k,hk,rfl,aW⟩:=hrel;have H:=aa aW;clear aW;have t1:=ab (af aA HT.o);have dF:=ae aG aA;by_cases aC:k<t.cases.length
  ·obtain⟨b1,o1,rfl,⟨x0,cx0,dk⟩,⟨x1,cx1,dm⟩,⟨x2,cx2,dM⟩⟩:=E.o k aC;have d0:=ak dF cx0;have d1:=ak dF cx1;have d2:=ak dF cx2;have zA:=aa dk;have kS:=aa dm;have fN:=aa dM;obtain⟨p0,q0,rfl,_⟩:=dk;obtain⟨p1,q1,rfl,_⟩:=dm;obtain⟨p2,q2,rfl,_⟩:=dM;clear cx0 cx1 cx2;have eT:=aD (af aA HT.o)
   go_wp2_with fail
   refine aO (fun W=>Below wr.heap.size wr W/\W.heap[wr.heap.size]?=some (.cells #[.slice p0 t.cases[k].inp.length q0,.slice p1 t.cases[k].out.length q1,.slice p2 t.cases[k].calm.length q2] 135)) ⟨by go_grown,ap _ _⟩ (fun V hV=>?_);obtain⟨lp,hC⟩:=hV;have HC:=aa hC;clear hC;have UQ:=ae dF lp;refine(Cl _ _ _ _ _ (zA.o.up up_int UQ)).mono ?_;rintro e w1 ⟨rfl,aK⟩
   have HO:am (fd t k=if vectorE t.cases[k].inp t.n t.ins≠0 then vectorE t.cases[k].inp t.n t.ins else if 0<k/\0<=ordV (t.cases.getD (k - 1) default).inp t.cases[k].inp then 14 else vectorsE t t.cases[k]):=by
    have h:fd t k=if vectorE t.cases[k].inp t.n t.ins≠0 then vectorE t.cases[k].inp t.n t.ins else if 0<k/\0<=ordV (t.cases.getD (k - 1) default).inp t.cases[k].inp then 14 else vectorsE t t.cases[k]:=by unfold fd;rw[az default aC]
    exact h
   generalize vectorE t.cases[k].inp t.n t.ins=ev at HO;have jk:=ae UQ aK;by_cases my:ev=0
   case neg=>
    have hev':(ev != 0)=true:=by simpa using my
    go_wp2_with fail
    go_ret
    exact⟨aE (by rw[HV.o,<-bT k ev aC H.o (by rw[HO.o,if_pos my]) my]),jk⟩
   subst my;have zT:=ae lp aK;have s1:=ab (af (ae aA zT) HT.o);have s2:=ab (af aK HC.o);clear t1 d0 d1 d2 eT
   go_wp2_with fail
   by_cases ff:k=0
   ·have eO:am (fd t k=vectorsE t t.cases[k]):=by(have h:fd t k=vectorsE t t.cases[k]:=by(rw[HO.o,if_neg (by simp),if_neg (by omega)]));exact h
    have hd:decide ((0:Int)<(k:Int))=false:=by simp;omega
    have fw:decide (0<k)=false:=by simp;omega
    clear HO ff;refine aB (by kernel_rfl) (by kernel_rfl) ?_
    repeat (go_big_quiet_step (fail))
    refine wpQuiet_nil ?_;intro _ eJ;obtain⟨xq,dj⟩:=eJ;subst dj;have r1':=ab (af (ae (ae aA zT) xq.ext) HT.o);have r2':=ab (af (ae aK xq.ext) HC.o);clear s1 s2 hd fw;have ul:=ae jk xq.ext
    go_wp2_with fail
    refine(AB t _ _ _ t.cases[k] _ _ _ _ (zA.o.up up_int ul) (kS.o.up up_ints ul) (fN.o.up up_ints ul)).mono ?_;rintro e w2 ⟨rfl,aT⟩;generalize vectorsE t t.cases[k]=e2 at eO;by_cases Bj:e2=0
    ·subst Bj
     go_wp2_with fail
     go_roundw
     ·exact⟨ae (ae (ae aA zT) xq.ext) aT,k+1,by omega,by go_num,aY H.o eO.o⟩
     ·simp[intOf];omega
    ·have he2':(e2 != 0)=true:=by simpa using Bj
     go_wp2_with fail
     go_ret
     exact⟨aE (by rw[HV.o,<-bT k e2 aC H.o eO.o Bj]),ae ul aT⟩
   ·obtain⟨j,hj⟩:∃ j,k=j+1:=⟨k - 1,by omega⟩;have fL:j<t.cases.length:=by omega
    have HJ:=aa hj;obtain⟨b2,o2,e2,⟨y0,cy0,fM⟩,_⟩:=E.o j fL;obtain⟨rfl,rfl⟩:b1=b2/\o1=o2:=by simpa using e2
    clear e2;have hd:decide ((0:Int)<(k:Int))=true:=by simp;omega
    have fw:0<k:=by omega
    have gh:am (fd t k=if 0<=ordV t.cases[j].inp t.cases[k].inp then 14 else vectorsE t t.cases[k]):=by
     have h:fd t k=if 0<=ordV t.cases[j].inp t.cases[k].inp then 14 else vectorsE t t.cases[k]:=by
      rw[HO.o,if_neg (by simp)];have e:k - 1=j:=by omega
      rw[e,az default fL]
      grind
     exact h
    clear HO ff hj;have jn:IntKind.i64.wrap ((k:Int) - 1)=(j:Int):=by rw[HJ.o];rw[IntWalk.i64_in _ (by omega)];omega
    have q1:∀ x:ExtW w1,∀ o,x.val.cell? ⟨w.heap.size,o,none⟩=_:=fun x=>ab (af (ae (ae aA zT) x.ext) HT.o)
    have q2:∀ x:ExtW w1,∀ o,x.val.cell? ⟨wr.heap.size,o,none⟩=_:=fun x=>ab (af (ae aK x.ext) HC.o)
    have q3:∀ x:ExtW w1,x.val.cell? ⟨b1,o1+j * 3,none⟩=some y0:=fun x=>x.cell (ak jk cy0)
    have fo:∀ x:ExtW w1,Calls Tryz.prog 170 #[y0,.slice p0 t.cases[k].inp.length q0] x.val fun e w''=>e=.returned (.int .i64 (ordV t.cases[j].inp t.cases[k].inp))/\∃ p:ExtW w1,w''=p.val:=
     fun x=>Calls.ext_of (qY _ _ _ _ _ (fM.up up_int (ae jk x.ext)) (zA.o.up up_int (ae jk x.ext)))
    have bV:=aa fo;clear fo;have Ue:=aa fM;clear fM cy0;generalize ordV t.cases[j].inp t.cases[k].inp=oo at bV gh;clear s1 s2;refine aB (by kernel_rfl) (by kernel_rfl) ?_
    repeat (go_big_quiet_step ((go_at_call 170;exact bV.o _)))
    refine wpQuiet_nil ?_;intro _ eJ;obtain⟨xq,dj⟩:=eJ;subst dj;have r1':=q1 xq;have r2':=q2 xq;clear q1 q2 q3 hd fw;have ul:=ae jk xq.ext;by_cases rc:0<=oo
    ·go_wp2_with fail
     go_ret
     exact⟨aE (by rw[HV.o,<-bT k 14 aC H.o (by rw[gh.o,if_pos rc]) (by decide)]),ul⟩
    ·have eO:am (fd t k=vectorsE t t.cases[k]):=by(have h:fd t k=vectorsE t t.cases[k]:=by(rw[gh.o,if_neg rc]));exact h
     clear gh
     go_wp2_with fail
     refine(AB t _ _ _ t.cases[k] _ _ _ _ (zA.o.up up_int ul) (kS.o.up up_ints ul) (fN.o.up up_ints ul)).mono ?_;rintro e w2 ⟨rfl,aT⟩;generalize vectorsE t t.cases[k]=e2 at eO;by_cases Bj:e2=0
     ·subst Bj
      go_wp2_with fail
      go_roundw
      ·exact⟨ae (ae (ae aA zT) xq.ext) aT,k+1,by omega,by go_num,aY H.o eO.o⟩
      ·simp[intOf];omega
     ·have he2':(e2 != 0)=true:=by simpa using Bj
      go_wp2_with fail
      go_ret
      exact⟨aE (by rw[HV.o,<-bT k e2 aC H.o eO.o Bj]),ae ul aT⟩
  ·go_wp2_with fail
   go_ret
   exact⟨aE (by rw[HV.o,cS];intro j hj;exact H.o j (by omega)),dF⟩
theorem pT{w w':World} {base:Nat} {e:TypeId} {v:Value} {n:Nat} {xs:List Value} (h:w.ownsRow base e 1 v n xs) (hb:Below w.heap.size w w'):w'.ownsRow base e 1 v n xs:=by
 obtain⟨hl,h⟩:=h;refine⟨hl,?_⟩;rcases h with h|⟨g,cap,cur,h1,h2,h3,h4⟩
 ·exact .inl h
 ·exact .inr ⟨g,cap,cur,h1,h2,af hb h3,h4⟩
theorem AC{w w':World} {base base':Nat} {e e':TypeId} {u v:Value} {n m:Nat} {xs ys:List Value} (h:w.ownsRow base e 1 u n xs) (hv:w.ownsRow base' e' 1 v m ys) (bK:e≠e') (hg:w.grownBy w' v.ownBlock):w'.ownsRow base e 1 u n xs:=by
 obtain⟨hl,h⟩:=h;refine⟨hl,?_⟩;rcases h with h|⟨g,cap,cur,h1,h2,h3,h4⟩
 ·exact .inl h
 ·refine .inr ⟨g,cap,cur,h1,h2,(hg.block g (aD h3) (fun e1=>?_)).trans h3,h4⟩;rcases hv.2 with ⟨rfl,_⟩|⟨g',cap',cur',rfl,_,UP,_⟩
  ·cases e1
  ·cases e1
   rw[h3]at UP;cases UP;exact bK rfl
theorem Eg{w:World} {base:Nat} {e:TypeId} {v:Value} {n:Nat} {xs:List Value} (h:w.ownsRow base e 1 v n xs):∀ g,v.ownBlock=some g->base<=g/\g<w.heap.size:=by
 intro g hg;rcases h.2 with ⟨rfl,_⟩|⟨g',cap,cur,rfl,h2,h3,_⟩
 ·cases hg
 ·cases hg;exact⟨h2,aD h3⟩
theorem sQ{w:World} {base base':Nat} {e:TypeId} {v:Value} {n:Nat} {xs:List Value} (h:w.ownsRow base e 1 v n xs) (hb:base'<=base):w.ownsRow base' e 1 v n xs:=by
 obtain⟨hl,h⟩:=h;refine⟨hl,?_⟩;rcases h with h|⟨g,cap,cur,h1,h2,h3⟩
 ·exact .inl h
 ·exact .inr ⟨g,cap,cur,h1,Nat.le_trans hb h2,h3⟩
def qr(w:World) (base:Nat) (v:Value) (l:List (List Int)):Prop:=
 ∃ xs:List Value,w.ownsRow base 38 1 v l.length xs/\∀ i (hi:i<l.length) (hx:i<xs.length),w.ownsRow base 3 1 xs[i] l[i].length (l[i].map (Value.int .i64))
theorem MA(v:Value) (l:List (List Int)) (w:World) (hv:dL w v l) (hn:l.length<=1099511627776) (oM:∀ x∈l,x.length<=1099511627776) :
  Calls Tryz.prog 173 #[v] w fun e w'=>∃ u,e=.returned u/\qr w' w.heap.size u l/\Below w.heap.size w w':=by
 have HR:=aa (fun i (hi:i<l.length)=>oM l[i] (List.getElem_mem hi));clear oM;obtain⟨pa,ca,rfl,la1,la2,ea⟩:=hv.at;clear hv;have EA:=aa ea;clear ea;obtain⟨i0,cX,cD,bX,cF⟩:=info_parts Tryz.infoInts
 go_enter Tryz.func173,Tryz.ntmps173
 go_wp2_with fail
 go_loopw [3,8] (fun o i wr=>Below w.heap.size w wr/\∃ k:Nat,k<=l.length/\i=.int .i64 k/\qr wr w.heap.size o (l.take k)) (fun _ i _=>l.length - (intOf i).toNat)
 ·exact⟨Below.refl _ _,0,by omega,rfl,[],by simpa using World.ownsRow_nil _ _ _ _,fun i hi=>by simp at hi⟩
 ·
  obtain⟨aA,k,hk,rfl,ri⟩:=hrel;by_cases aC:k<l.length
  ·obtain⟨b1,o1,rfl,x,cx,hx⟩:=EA.o k aC;rw[Nat.mul_one]at cx;have d1:=ak aA cx;have HX:=aa (hx.up up_int aA);obtain⟨px,qx,rfl,_⟩:=hx;clear cx;obtain⟨xs,bd,kh⟩:=ri;have mq:(l.take k).length=k:=by simp;omega
   rw[mq]at bd;have bO:=aa bd;have Df:=aa kh;have U1:=aa mq;clear bd kh mq
   go_wp2_with fail
   refine(yD _ _ _ (AA HX.o) (by rw[List.length_map];exact HR.o k aC)).mono ?_;rintro e w1 ⟨u,rfl,hu,aK⟩;obtain⟨au,cu,rfl,_⟩:=sP hu;rw[List.length_map]at hu;rw[List.length_map];generalize hN:l[k].length=nn at hu ⊢;have HN:=aa hN;clear hN;have xW:=ae aA aK;have hA:Below w1.heap.size w1 (w1.alloc (.cells #[(Value.slice au nn cu)] 38)):=by go_grown
   have dx:=aa (pT (pT bO.o aK) hA)
   have bQ:∀ j u',[(Value.slice au nn cu)][j]?=some u'->(w1.alloc (.cells #[(Value.slice au nn cu)] 38)).cell? (Addr.add ⟨w1.heap.size,0,none⟩ j)=some u':=fun j u' hj=>by
    cases j with
    | zero=>simp at hj;subst hj;simp[Addr.add,ab (ap w1 _)]
    | succ j=>simp at hj
   have bF:=aa bQ;have HU:=aa hu;clear bQ hu d1;have iy:=xW.size
   go_wp2_with (at_builtin;(refine wpList_append_own _ rfl (.tmp 12) (.tmp 15) 56 rfl w.heap.size 38 i0 (.slice none 0 0) 1 24 Tryz.underlying56 cX cD bX cF rfl (by decide) _ k xs rfl dx.o ⟨w1.heap.size,0,none⟩ 1 1 [(Value.slice au nn cu)] rfl rfl bF.o (by simp[Value.oneCell']) (by unfold maxLen;omega) (by omega) (by simp;omega) ?_;intro v' w2 fQ dA _))
   go_roundw
   ·
    refine⟨Below.grown (w:=w1.alloc (.cells #[(Value.slice au nn cu)] 38)) (xW.alloc iy _) dA (by simp;omega) (fun g hg=>(Eg bO.o g hg).1),k+1,by omega,by go_num,xs++[(Value.slice au nn cu)],?_,?_⟩
    ·rw[show (l.take (k+1)).length=k+1 by simp;omega];exact fQ
    ·intro i hi hx;have iQ:xs.length=k:=by have:=bO.o.1;omega
     by_cases kQ:i<k
     ·have h1:=Df.o i (by rw[U1.o];exact kQ) (by omega);have h2:=AC (pT (pT h1 aK) hA) dx.o (by decide) dA;simp only[List.getElem_take]at h2 ⊢
      rwa [List.getElem_append_left (by omega)]
     ·obtain rfl:i=k:=by simp at hi;omega
      have h2:=AC (sQ (pT HU.o hA) aA.size) dx.o (by decide) dA;simp only[List.getElem_take];rw[List.getElem_append_right (by omega)];obtain rfl:=HN.o;simpa using h2
   ·simp[intOf];omega
  ·go_wp2_with fail
   go_ret
   refine⟨_,rfl,?_,aA⟩
   rwa [List.take_of_length_le (by omega)]at ri
theorem yE(x0 x1 x2:Value) (c:Cs) (f:Int) (w:World) (h1:dL w x1 c.out) (h2:dL w x2 c.calm) :
  Calls Tryz.prog 109 #[.agg #[x0,x1,x2],.int .i64 f] w fun e w'=>∃ u,e=.returned u/\dL w' u (fm c f)/\Below w.heap.size w w':=by
 have H1:=aa h1;have H2:=aa h2;obtain⟨p1,q1,rfl,_⟩:=h1.at;obtain⟨p2,q2,rfl,m1,m2,_⟩:=h2.at;clear h1 h2;by_cases hf:f=0
 ·subst hf;by_cases hl:0<c.calm.length
  ·have HV:am (fm c 0=c.calm):=by(have h:fm c 0=c.calm:=by(unfold fm;rw[if_pos ⟨rfl,hl⟩]));exact h
   have hl':decide ((0:Int)<(c.calm.length:Int))=true:=by simp;omega
   go_enter Tryz.func109,Tryz.ntmps109
   go_wp2_with fail
   go_ret
   refine⟨_,rfl,?_,by go_grown⟩;rw[HV.o];exact H2.o.up up_ints (by go_grown)
  ·have HV:am (fm c 0=c.out):=by(have h:fm c 0=c.out:=by(unfold fm;rw[if_neg (fun h=>hl h.2)]));exact h
   have hl':decide ((0:Int)<(c.calm.length:Int))=false:=decide_eq_false (by omega)
   go_enter Tryz.func109,Tryz.ntmps109
   go_wp2_with fail
   go_ret
   refine⟨_,rfl,?_,by go_grown⟩;rw[HV.o];exact H1.o.up up_ints (by go_grown)
 ·have HV:am (fm c f=c.out):=by(have h:fm c f=c.out:=by(unfold fm;rw[if_neg (fun h=>hf h.1)]));exact h
  have hf':(f == 0)=false:=by simpa using hf
  go_enter Tryz.func109,Tryz.ntmps109
  go_wp2_with fail
  go_ret
  refine⟨_,rfl,?_,by go_grown⟩;rw[HV.o];exact H1.o.up up_ints (by go_grown)
theorem O1{t:Tk} {i f:Int} (h:gI t i f=0):taskE t=0/\0<=i/\i.toNat<t.cases.length:=by
 unfold gI at h;split at h
 ·omega
 ·rename_i h1;split at h
  ·omega
  ·exact⟨by simpa using h1,by omega,by omega⟩
theorem Fv(t:Tk) (vc:Value) (i f:Int) (w:World) (hv:bM w vc t.cases) :
  Calls Tryz.prog 105 #[.agg #[.int .i64 t.n,.int .i64 t.ins,.int .i64 t.outs,vc],.int .i64 i,.int .i64 f] w fun e w'=>e=.returned (.int .i64 (gI t i f))/\Below w.heap.size w w':=by
 have G:=aa hv;obtain⟨pc,cc,rfl,l1,m1,_⟩:=hv.at;clear hv
 go_enter Tryz.func105,Tryz.ntmps105
 go_wp2_with fail
 refine aO (fun W=>Below w.heap.size w W/\W.heap[w.heap.size]?=some (.cells #[.int .i64 t.n,.int .i64 t.ins,.int .i64 t.outs,.slice pc t.cases.length cc] 24)) ⟨by go_grown,ap _ _⟩ (fun W0 aX=>?_);obtain⟨aG,bB⟩:=aX;refine(qR t _ W0 (G.o.up up_case aG)).mono ?_;rintro e w1 ⟨rfl,aK⟩;have gw:=ae aG aK;have t1:=ab (af aK bB);clear bB;by_cases oQ:taskE t=0
 case neg=>
  have HV:am (gI t i f=taskE t):=by(have h:gI t i f=taskE t:=by(unfold gI;rw[if_pos oQ]));exact h
  generalize taskE t=et at HV oQ;have Od:(et != 0)=true:=by simpa using oQ
  go_wp2_with fail
  go_ret
  exact⟨aE (by rw[HV.o]),gw⟩
 obtain⟨⟨n1,n2⟩,_⟩:=fy oQ;have HV:am (gI t i f=if i<0\/(t.cases.length:Int)<=i then 6 else if f<0\/2 ^ t.n.toNat<=f then 2 else 0):=by(have h:gI t i f=if i<0\/(t.cases.length:Int)<=i then 6 else if f<0\/2 ^ t.n.toNat<=f then 2 else 0:=by(unfold gI;rw[if_neg (by simpa using oQ)]));exact h
 rw[oQ];clear oQ;generalize t.n=n at *;have:n=1\/n=2\/n=3\/n=4\/n=5:=by omega
 rcases this with rfl|rfl|rfl|rfl|rfl
 all_goals
  go_wp2_with fail
  all_goals
   go_ret
   refine⟨aE ?_,gw⟩;rw[HV.o]
   go_light
   grind
theorem KC(t:Tk) (vc:Value) (i f:Int) (w:World) (hv:bM w vc t.cases) :
  Calls Tryz.prog 126 #[.agg #[.int .i64 t.n,.int .i64 t.ins,.int .i64 t.outs,vc],.int .i64 i,.int .i64 f] w fun e w'=>∃ u,e=.returned (.tuple #[u,.int .i64 (gI t i f)])/\qr w' w.heap.size u (iY t i f)/\Below w.heap.size w w':=by
 have G:=aa hv;obtain⟨pc,cc,rfl,l1,m1,e1⟩:=hv.at;clear hv;have E:=aa e1;clear e1
 go_enter Tryz.func126,Tryz.ntmps126
 go_wp2_with fail
 refine aO (fun W=>Below w.heap.size w W/\W.heap[w.heap.size]?=some (.cells #[.int .i64 t.n,.int .i64 t.ins,.int .i64 t.outs,.slice pc t.cases.length cc] 24)) ⟨by go_grown,ap _ _⟩ (fun W0 aX=>?_);obtain⟨aG,bB⟩:=aX;refine(Fv t _ i f W0 (G.o.up up_case aG)).mono ?_;rintro e w1 ⟨rfl,aK⟩;have gw:=ae aG aK;have t1:=ab (af aK bB);clear bB;by_cases hp:gI t i f=0
 case neg=>
  have HV:am (iY t i f=[]):=by(have h:iY t i f=[]:=by(unfold iY;rw[if_pos hp]));exact h
  generalize hE:gI t i f=et at hp;have HE:=aa hE;clear hE;have Od:(et != 0)=true:=by simpa using hp
  go_wp2_with fail
  go_ret2
  refine⟨.slice none 0 0,by rw[HE.o];rfl,?_,gw⟩;rw[HV.o];exact⟨[],by simpa using World.ownsRow_nil _ _ _ _,fun i hi=>by simp at hi⟩
 obtain⟨ht,cX,pC⟩:=O1 hp;have HV:am (iY t i f=fm (t.cases.getD i.toNat default) f):=by(have h:iY t i f=fm (t.cases.getD i.toNat default) f:=by(unfold iY;rw[if_neg (by simpa using hp)]));exact h
 rw[hp];have HE:=aa hp;clear hp;obtain⟨k,rfl⟩:∃ k:Nat,i=k:=⟨i.toNat,by omega⟩;simp only[Int.toNat_natCast]at pC HV;have dD:=aa (K8 ((fy ht).2.2.2.2 t.cases[k] (List.getElem_mem pC)) f);have HN:=aa (fy ht).1;clear ht cX;have A8:am (iY t k f=fm t.cases[k] f):=by(have h:iY t k f=fm t.cases[k] f:=by(rw[HV.o,az default pC]));exact h
 clear HV;obtain⟨b1,o1,rfl,⟨x0,cx0,dk⟩,⟨x1,cx1,dm⟩,⟨x2,cx2,dM⟩⟩:=E.o k pC;have d0:=ak gw cx0;have d1:=ak gw cx1;have d2:=ak gw cx2;have kS:=aa (dm.up up_ints gw);have fN:=aa (dM.up up_ints gw);obtain⟨p0,q0,rfl,_⟩:=dk;obtain⟨p1,q1,rfl,_⟩:=dm;obtain⟨p2,q2,rfl,_⟩:=dM;clear cx0 cx1 cx2
 go_wp2_with fail
 refine(yE _ _ _ t.cases[k] f w1 kS.o fN.o).mono ?_;rintro e w2 ⟨u,rfl,hu,aT⟩;have HU:=aa hu;obtain⟨pu,qu,rfl,_⟩:=hu;clear t1 d0 d1 d2
 go_wp2_with fail
 refine(MA _ _ w2 HU.o (Nat.le_trans dD.o.1 (by omega)) (fun x hx=>by have h1:=dD.o.2 x hx;have h2:=HN.o;omega)).mono ?_;rintro e w3 ⟨u3,rfl,sB,bG⟩;have kI:=ae gw aT
 go_wp2_with fail
 go_ret2
 refine⟨u3,by rw[HE.o];rfl,?_,ae kI bG⟩;rw[A8.o];obtain⟨xs,h1,h2⟩:=sB;exact⟨xs,sQ h1 kI.size,fun i hi hx=>sQ (h2 i hi hx) kI.size⟩
theorem RN{n k:Nat} {p:Nat->Bool} (hk:k<n) (h:p k=true):anyLt n p=true:=dN n k p hk h
theorem z'(k:Nat) (h:k<=30):(1:Int)<=2 ^ k/\(2:Int) ^ k<=1073741824:=by
 have h1:2 ^ k<=2 ^ 30:=Nat.pow_le_pow_right (by decide) h;have h2:1<=2 ^ k:=Nat.one_le_two_pow;have e:((2 ^ k:Nat):Int)=2 ^ k:=by simp
 rw[<-e];omega
theorem wN(n:Nat) (h:n<=30) (w:World) :
  Calls Tryz.prog 88 #[.int .i64 n] w fun e w'=>e=.returned (.int .i64 (2 ^ n))/\w=w':=by
 go_enter Tryz.func88,Tryz.ntmps88
 go_wp2
 go_loop [3,4] (fun o i=>∃ k:Nat,k<=n/\i=.int .i64 k/\o=.int .i64 (2 ^ k)) (fun _ i=>n - (intOf i).toNat)
 ·exact⟨0,by omega,rfl,rfl⟩
 ·
  obtain⟨k,hk,rfl,rfl⟩:=hrel;have hp:=z' k (by omega);have HS:am ((2:Int) ^ (k+1)=2 ^ k * 2):=by(have h:(2:Int) ^ (k+1)=2 ^ k * 2:=Int.pow_succ _ _);exact h
  have HK:am ((2:Int) ^ k=2 ^ k):=by exact rfl
  generalize hx:(2:Int) ^ k=x at hp HS;have HX:=aa hx;clear hx;by_cases aC:k<n
  ·go_wp2
   go_round
   ·exact⟨k+1,by omega,by go_num,by rw[HS.o]⟩
   ·simp[intOf];omega
  ·go_wp2
   go_ret
   obtain rfl:k=n:=by omega
   exact⟨aE HX.o.symm,rfl⟩
theorem RO(set:Int) (p:Nat) (h:0<=set):(Int.tmod (Int.tdiv set (2 ^ p)) 2 == 1)=hasB set p:=by
 unfold hasB;rw[Int.tdiv_eq_ediv_of_nonneg h,Int.tmod_eq_emod_of_nonneg (Int.ediv_nonneg h (by have:=Int.pow_pos (n:=2) (m:=p) (by decide);omega))]
theorem mR(set:Int) (p:Nat) (h:p<=30) (h0:0<=set) (h1:set<=9223372036854775807) (w:World) :
  Calls Tryz.prog 47 #[.int .i64 set,.int .i64 p] w fun e w'=>e=.returned (.bool (hasB set p))/\w=w':=by
 have hp:=z' p h;have HD:=aa (RO set p h0);have hc:=fun w=>wN p h w
 have HC:=aa hc;clear hc;generalize (2:Int) ^ p=x at hp HD HC
 go_enter Tryz.func47,Tryz.ntmps47
 go_wp2_with (go_at_call 88;refine(HC.o _).mono ?_;rintro e w' ⟨rfl,rfl⟩)
 go_ret
 refine⟨aR ?_,rfl⟩;rw[<-HD.o,Int.tdiv_eq_ediv_of_nonneg h0,Int.tmod_eq_emod_of_nonneg (Int.ediv_nonneg h0 (by omega))]
theorem Fw(n:Nat) (h:n<=30) (w:World) :
  Calls Tryz.prog 60 #[.int .i64 n] w fun e w'=>e=.returned (.int .i64 (2 ^ n - 1))/\w=w':=by
 have hp:=z' n h;have HC:=aa (fun w=>wN n h w);generalize (2:Int) ^ n=x at hp HC
 go_enter Tryz.func60,Tryz.ntmps60
 go_wp2_with (go_at_call 88;refine(HC.o _).mono ?_;rintro e w' ⟨rfl,rfl⟩)
 go_ret
 exact⟨rfl,rfl⟩
theorem Cm(n:Int) (w:World) :
  Calls Tryz.prog 215 #[.int .i64 n] w fun e w'=>e=.returned (.int .i64 (iV n))/\w=w':=by
 go_enter Tryz.func215,Tryz.ntmps215
 go_wp2
 all_goals
  go_ret
  refine⟨aE ?_,rfl⟩
  go_light
  unfold iV
  grind
theorem Vl(f:Int) (n:Nat) (h:0<=f):f / 2 ^ n≠0↔2 ^ n<=f:=by
 have hp:(0:Int)<2 ^ n:=Int.pow_pos (by decide);constructor
 ·intro h1;rcases Int.lt_or_le f (2 ^ n) with h2|h2
  ·exact absurd (Int.ediv_eq_zero_of_lt h h2) h1
  ·exact h2
 ·intro h1 h2;have:(1:Int)<=f / 2 ^ n:=(Int.le_ediv_iff_mul_le hp).2 (by omega);omega
theorem GR(n set:Int) (w:World) :
  Calls Tryz.prog 209 #[.int .i64 n,.int .i64 set] w fun e w'=>e=.returned (.int .i64 (ky n set))/\w=w':=by
 by_cases hn:n<1\/5<n
 ·have hp:iV n=1:=by unfold iV;rw[if_pos hn]
  have HP:am (ky n set=1):=by(have h:ky n set=1:=by(unfold ky;rw[hp];rfl));exact h
  have HC:=aa (Cm n);rw[hp]at HC;clear hp
  go_enter Tryz.func209,Tryz.ntmps209
  go_wp2_with (go_at_call 215;refine(HC.o _).mono ?_;rintro e w' ⟨rfl,rfl⟩)
  go_ret
  exact⟨aE HP.o.symm,rfl⟩
 ·have hp:iV n=0:=by unfold iV;rw[if_neg hn]
  obtain⟨m,rfl⟩:∃ m:Nat,n=m:=⟨n.toNat,by omega⟩
  have HP:am (ky m set=if set<0\/2 ^ m<=set then 2 else 0):=by
   have h:ky m set=if set<0\/2 ^ m<=set then 2 else 0:=by
    unfold ky;rw[hp,Int.toNat_natCast,if_neg (by simp)];by_cases h0:set<0
    ·simp[h0]
    ·have:=Vl set m (by omega);simp only[this]
   exact h
  have HC:=aa (Cm m);rw[hp]at HC;have jL:=aa (fun w=>wN m (by omega) w);generalize (2:Int) ^ m=x at HP jL;clear hp hn
  go_enter Tryz.func209,Tryz.ntmps209
  go_wp2_with (first|(go_at_call 215;refine(HC.o _).mono ?_;rintro e w' ⟨rfl,rfl⟩)|(go_at_call 88;refine(jL.o _).mono ?_;rintro e w' ⟨rfl,rfl⟩))
  all_goals
   go_ret
   refine⟨aE ?_,rfl⟩;rw[HP.o]
   go_light
   grind
theorem KD(a b:Int) (h1:0<=a/\a<=9223372036854775807) (h2:0<=b/\b<=9223372036854775807) (w:World) :
  Calls Tryz.prog 188 #[.int .i64 a,.int .i64 b] w fun e w'=>e=.returned (.bool (iU a b))/\w=w':=by
 have HV:am (iU a b=!anyLt 5 fun p=>hasB a p&&!hasB b p):=by exact rfl
 go_enter Tryz.func188,Tryz.ntmps188
 go_wp2
 go_loop [5] (fun i=>∃ k:Nat,k<=5/\i=.int .i64 k/\∀ j,j<k->(hasB a j&&!hasB b j)=false) (fun i=>5 - (intOf i).toNat)
 ·exact⟨0,by omega,rfl,by simp⟩
 ·
  obtain⟨k,hk,rfl,aW⟩:=hrel;have H:=aa aW;clear aW;by_cases aC:k<5
  ·have C1:=aa (fun w=>mR a k (by omega) h1.1 h1.2 w);have C2:=aa (fun w=>mR b k (by omega) h2.1 h2.2 w);cases hx:hasB a k with
   | false=>
    rw[hx]at C1;have HX:=aa hx;clear hx
    go_wp2_with (go_at_call 47;refine(C1.o _).mono ?_;rintro e w' ⟨rfl,rfl⟩)
    go_round
    ·exact⟨k+1,by omega,by go_num,aY H.o (by rw[HX.o];rfl)⟩
    ·simp[intOf];omega
   | true=>
    rw[hx]at C1;have HX:=aa hx;clear hx;cases hy:hasB b k with
    | false=>
     rw[hy]at C2;have HY:=aa hy;clear hy
     go_wp2_with fail
     refine(C1.o _).mono ?_;rintro e w' ⟨rfl,rfl⟩
     go_wp2_with fail
     refine(C2.o _).mono ?_;rintro e w' ⟨rfl,rfl⟩
     go_wp2_with fail
     go_ret
     exact⟨aR (by rw[HV.o,dN 5 k _ aC (by rw[HX.o,HY.o];rfl)];rfl),rfl⟩
    | true=>
     rw[hy]at C2;have HY:=aa hy;clear hy
     go_wp2_with fail
     refine(C1.o _).mono ?_;rintro e w' ⟨rfl,rfl⟩
     go_wp2_with fail
     refine(C2.o _).mono ?_;rintro e w' ⟨rfl,rfl⟩
     go_wp2_with fail
     go_round
     ·exact⟨k+1,by omega,by go_num,aY H.o (by rw[HX.o,HY.o];rfl)⟩
     ·simp[intOf];omega
  ·go_wp2
   go_ret
   exact⟨aR (by rw[HV.o,eX];rfl;intro j hj;exact H.o j (by omega)),rfl⟩
structure KeyKit {K:Type} [DecidableEq K] (P:Program) (kt:TypeId) (enc:K->Value):Prop where
 eq:∀ a b w,(Op.equal kt (enc a) (enc b)).run P w=.ok (decide (a=b)) w
 check:∀ em a w,(Instr.checkKey em 10000 kt (enc a)).run P w=.ok () w
 und:∃ fs,P.underlying kt=some (.struct fs)
def mf{K:Type} (enc:K->Value) (w:World) (b:Nat) (f:List (K × Value)):Prop:=
 ∃ es clock,w.heap[b]?=some (.map es clock)/\es.toList.map (fun e=>(e.key,e.val))=f.map (fun p=>(enc p.1,p.2))
def lB{K:Type} [DecidableEq K] (f:List (K × Value)) (r:K):Option Value:=(f.find? fun p=>decide (r=p.1)).map (·.2)
theorem mf.up{K:Type} {enc:K->Value} {A A':World} {b:Nat} {f:List (K × Value)} (h:mf enc A b f) (hb:Below A.heap.size A A'):mf enc A' b f:=by
 obtain⟨es,clock,h1,hf⟩:=h;exact⟨es,clock,af hb h1,hf⟩
theorem AD{K:Type} [DecidableEq K] {P:Program} {kt:TypeId} {enc:K->Value} (kit:KeyKit P kt enc) (r:K) (w:World):∀ (f:List (K × Value)) (es:List MapEntry) (i:Nat),es.map (fun e=>(e.key,e.val))=f.map (fun p=>(enc p.1,p.2)) →
  (lB f r=none->(Instr.findAsking kt (enc r) es i).run P w=.ok none w)/\(∀ x,lB f r=some x->∃ j,(Instr.findAsking kt (enc r) es i).run P w=.ok (some (j,x)) w)
 | [],es,i,h=>by
  obtain rfl:es=[]:=by simpa using h
  exact⟨fun _=>rfl,fun x hx=>by simp[lB]at hx⟩
 | p :: f,es,i,h=>by
  cases es with
  | nil=>simp at h
  | cons e es=>
   simp only[List.map_cons,List.cons.injEq,Prod.mk.injEq]at h;obtain⟨⟨hk,hv⟩,h⟩:=h;have ih:=AD kit r w f es (i+1) h;unfold Instr.findAsking;by_cases hr:r=p.1
   ·subst hr;refine⟨fun hn=>by simp[lB]at hn,fun x hx=>?_⟩;have hx':p.2=x:=by simpa[lB] using hx
    refine⟨i,?_⟩;simp[Sem.run_bind,hk,kit.eq,hv,hx']
   ·have e1:lB (p :: f) r=lB f r:=by simp[lB,hr]
    rw[e1];refine⟨fun hn=>?_,fun x hx=>?_⟩
    ·simp[Sem.run_bind,hk,kit.eq,hr,ih.1 hn]
    ·obtain⟨j,hj⟩:=ih.2 x hx;exact⟨j,by simp[Sem.run_bind,hk,kit.eq,hr,hj]⟩
theorem In{K:Type} [DecidableEq K] {P:Program} {kt:TypeId} {enc:K->Value} (kit:KeyKit P kt enc) (r:K) (w:World) (f:List (K × Value)) (es:List MapEntry) (h:es.map (fun e=>(e.key,e.val))=f.map (fun p=>(enc p.1,p.2))) :
  (lB f r=none->(Instr.findKey kt (enc r) es).run P w=.ok none w)/\(∀ x,lB f r=some x->∃ j,(Instr.findKey kt (enc r) es).run P w=.ok (some (j,x)) w):=by
 have hA:=AD kit r w f es 0 h;obtain⟨fs,hu⟩:=kit.und;unfold Instr.findKey;cases es with
 | nil=>
  obtain rfl:f=[]:=by simpa using h.symm
  refine⟨fun _=>?_,fun x hx=>by simp[lB]at hx⟩;simp[run_underlying hu,Instr.findNow]
 | cons e es=>
  have hn:Instr.findNow (.struct fs) (enc r) (e :: es) 0=none:=by simp[Instr.findNow,Instr.sameNow]
  simp only[Sem.run_bind,run_underlying hu,Result.andThen_ok,hn];exact hA
theorem Io{K:Type} [DecidableEq K] {P:Program} {kt mt vt:TypeId} {z:Value} {enc:K->Value} (kit:KeyKit P kt enc) (hm:P.underlying mt=some (.map kt vt)) (hz:∀ w,(zeroValue vt).run P w=.ok z w) {w:World} {b:Nat} {f:List (K × Value)} (h:mf enc w b f) (r:K) :
  (Instr.lookup mt (.map (some b)) (enc r) true).run P w=.ok (.tuple #[(lB f r).getD z,.bool (lB f r).isSome]) w:=by
 obtain⟨es,clock,hb,jg⟩:=h;have hF:=In kit r w f es.toList jg;have hg:(getObj b).run P w=.ok (.map es clock) w:=by simp[getObj,Sem.run,hb]
 unfold Instr.lookup;cases hn:lB f r with
 | none=>simp[Sem.run_bind,run_underlying hm,hg,kit.check,hF.1 hn,hz]
 | some x=>
  obtain⟨j,hj⟩:=hF.2 x hn;simp[run_underlying hm,hg,kit.check,hj]
theorem Vm{K:Type} [DecidableEq K] {P:Program} {kt mt vt:TypeId} {enc:K->Value} (kit:KeyKit P kt enc) (hm:P.underlying mt=some (.map kt vt)) {w:World} {b:Nat} {f:List (K × Value)} (h:mf enc w b f) (r:K) (x:Value) (hn:lB f r=none) :
  ∃ o,(Instr.mapUpdate mt (.map (some b)) (enc r) x).run P w=.ok () (w.putObj b o)/\mf enc (w.putObj b o) b (f++[(r,x)]):=by
 obtain⟨es,clock,hb,jg⟩:=h;have hF:=In kit r w f es.toList jg;have hg:(getObj b).run P w=.ok (.map es clock) w:=by simp[getObj,Sem.run,hb]
 have hs:∀ o,(setObj b o).run P w=.ok () (w.putObj b o):=fun o=>by simp[setObj,Sem.run,hb,World.putObj]
 refine⟨_,?_,es.push { key:=enc r,val:=x,born:=clock },clock+1,World.putObj_heap_same (aD hb),?_⟩
 ·unfold Instr.mapUpdate;simp[run_underlying hm,hg,kit.check,hF.1 hn,hs]
 ·simp[jg]
def uJ(tb:List Vw):List (Vw × Value):=tb.zipIdx.map fun x=>(x.1,Value.int .i64 (x.2:Nat))
theorem O2(tb:List Vw) (v:Vw):uJ (tb++[v])=uJ tb++[(v,.int .i64 (tb.length:Nat))]:=by
 unfold uJ;rw[List.zipIdx_append];simp
theorem RP(v:Vw) (tb:List Vw):∀ k:Nat,(((tb.zipIdx k).map fun x=>(x.1,Value.int .i64 ((x.2:Nat):Int))).find? fun p=>decide (v=p.1))=if v∈tb then some (v,.int .i64 ((k+tb.idxOf v:Nat):Int)) else none:=by
 induction tb with
 | nil=>intro k;simp
 | cons a r ih=>
  intro k;rw[List.zipIdx_cons,List.map_cons,List.find?_cons];by_cases h:v=a
  ·subst h;simp
  ·have h2:decide (v=(a,Value.int .i64 ((k:Nat):Int)).1)=false:=by simpa using h
   rw[h2];have h3:=ih (k+1);simp only at h3 ⊢;rw[h3];have h4:(a == v)=false:=by simpa using fun e=>h e.symm
   by_cases hm:v∈r
   ·rw[if_pos hm,if_pos (by simp[hm]),List.idxOf_cons,h4];simp only[cond_false];rw[show k+1+List.idxOf v r=k+(List.idxOf v r+1) by omega]
   ·rw[if_neg hm,if_neg (by simp[hm,h])]
theorem RQ(tb:List Vw) (v:Vw):lB (uJ tb) v=if v∈tb then some (.int .i64 (tb.idxOf v:Nat)) else none:=by
 unfold lB uJ;have h:=RP v tb 0;simp only[Nat.zero_add]at h;rw[h];split<;>rfl
theorem lN(va vb:Value) (a b:List Int) (w:World) (ha:aQ w va a) (hb:aQ w vb b) :
  Calls Tryz.prog 132 #[va,vb] w fun e w'=>e=.returned (.int .i64 (ordV a b))/\Below w.heap.size w w':=by
 obtain⟨pa,ca,rfl,la1,la2,ea⟩:=ha.at;obtain⟨pb,cb,rfl,lb1,lb2,eb⟩:=hb.at;clear ha hb;have EA:=aa ea;clear ea;have EB:=aa eb;clear eb
 go_enter Tryz.func132,Tryz.ntmps132
 go_wp2
 go_loopw [5] (fun i wr=>Below w.heap.size w wr/\∃ k:Nat,k<=a.length/\k<=b.length/\i=.int .i64 k/\ordV a b=ordV (a.drop k) (b.drop k)) (fun i _=>a.length - (intOf i).toNat)
 ·exact⟨Below.refl _ _,0,by omega,by omega,rfl,by simp⟩
 ·
  obtain⟨aA,k,hk,mA,rfl,aW⟩:=hrel;have H:=aa aW;clear aW;by_cases aC:k<a.length
  ·by_cases jc:k<b.length
   ·obtain⟨b1,o1,rfl,h1⟩:=EA.o k aC;obtain⟨x,hx⟩:∃ x,x=a[k]:=⟨_,rfl⟩;rw[<-hx,Nat.mul_one]at h1;obtain⟨b2,o2,rfl,h2⟩:=EB.o k jc;obtain⟨y,hy⟩:∃ y,y=b[k]:=⟨_,rfl⟩;rw[<-hy,Nat.mul_one]at h2;have c1:∀ n,(wr.drewN n).cell? ⟨b1,o1+k,none⟩=some (.int .i64 x):=fun n=>ak aA h1.1
    have c2:∀ n,(wr.drewN n).cell? ⟨b2,o2+k,none⟩=some (.int .i64 y):=fun n=>ak aA h2.1
    have HS:=Fu aC jc H.o;rw[<-hx,<-hy]at HS;have LX:=aa HS;clear HS hx hy h1 h2;rcases Int.lt_trichotomy x y with hn|hn|hn
    ·go_wp2
     go_quiet (fail)
     go_wp2
     go_ret
     refine⟨aE ?_,eK aA _⟩;rw[LX.o];unfold cmpI;grind
    ·have h1:¬ x<y:=by omega
     have h2:¬ y<x:=by omega
     have HN:=aa hn;clear hn
     go_wp2
     go_quiet (fail)
     go_wp2
     have c3:∀ m n,((wr.drewN m).drewN n).cell? ⟨b1,o1+k,none⟩=some (.int .i64 x):=fun m n=>c1 m
     have c4:∀ m n,((wr.drewN m).drewN n).cell? ⟨b2,o2+k,none⟩=some (.int .i64 y):=fun m n=>c2 m
     go_quiet (fail)
     go_wp2
     go_roundw
     ·
      refine⟨eK aA _,k+1,by omega,by omega,by go_num,?_⟩;rw[LX.o,if_pos];rw[HN.o,cmpI];simp
     ·simp[intOf];omega
    ·have h1:¬ x<y:=by omega
     go_wp2
     go_quiet (fail)
     go_wp2
     have c3:∀ m n,((wr.drewN m).drewN n).cell? ⟨b1,o1+k,none⟩=some (.int .i64 x):=fun m n=>c1 m
     have c4:∀ m n,((wr.drewN m).drewN n).cell? ⟨b2,o2+k,none⟩=some (.int .i64 y):=fun m n=>c2 m
     go_quiet (fail)
     go_wp2
     go_ret
     refine⟨aE ?_,eK (eK aA _) _⟩;rw[LX.o];unfold cmpI;grind
   ·have HR:am (ordV a b=1):=by
     have h:ordV a b=1:=by rw[H.o,sC aC,List.drop_of_length_le (l:=b) (by omega)];rfl
     exact h
    have h3:¬ a.length<b.length:=by omega
    have h4:b.length<a.length:=by omega
    go_wp2
    go_ret
    exact⟨aE HR.o.symm,aA⟩
  ·have HR:am (ordV a b=if a.length<b.length then -1 else 0):=by
    have h:ordV a b=if a.length<b.length then -1 else 0:=by
     rw[H.o,List.drop_of_length_le (by omega),xp,List.length_drop]
     grind
    exact h
   have h3:¬ b.length<a.length:=by omega
   by_cases h4:a.length<b.length
   ·go_wp2
    go_ret
    refine⟨aE ?_,aA⟩;rw[HR.o,if_pos h4]
   ·go_wp2
    go_ret
    refine⟨aE ?_,aA⟩;rw[HR.o,if_neg (by omega)]
theorem Ip(a b:List Int):(ordV a b == 0)=eqV a b:=by
 unfold eqV;by_cases h:a=b
 ·subst h;simp[sD]
 ·simp[h];intro h1;exact h (On h1)
theorem Fx(vl vv:Value) (l:List (List Int)) (v:List Int) (w:World) (hl:dL w vl l) (hv:aQ w vv v) :
  Calls Tryz.prog 81 #[vl,vv] w fun e w'=>e=.returned (.bool (hasV l v))/\Below w.heap.size w w':=by
 obtain⟨pa,ca,rfl,la1,la2,ea⟩:=hl.at;have HV:=aa hv;obtain⟨pv,cv,rfl,_⟩:=hv;clear hl;have EA:=aa ea;clear ea;have HD:am (hasV l v=anyLt l.length fun i=>eqV (l.getD i []) v):=by exact rfl
 go_enter Tryz.func81,Tryz.ntmps81
 go_wp2
 go_loopw [5] (fun i wr=>Below w.heap.size w wr/\∃ k:Nat,k<=l.length/\i=.int .i64 k/\∀ j,j<k->eqV (l.getD j []) v=false) (fun i _=>l.length - (intOf i).toNat)
 ·exact⟨Below.refl _ _,0,by omega,rfl,by simp⟩
 ·
  obtain⟨aA,k,hk,rfl,aW⟩:=hrel;have H:=aa aW;clear aW;by_cases aC:k<l.length
  ·obtain⟨b1,o1,rfl,x,cx,hx⟩:=EA.o k aC;rw[Nat.mul_one]at cx;have c1:=ak aA cx;have HX:=aa (hx.up up_int aA);obtain⟨px,qx,rfl,_⟩:=hx;have he:=Ip l[k] v;rw[show eqV l[k] v=eqV (l.getD k []) v by rw[az [] aC]]at he;have HC:=aa (lN _ _ l[k] v wr HX.o (HV.o.up up_int aA));clear cx;generalize ordV l[k] v=r at he HC;cases hp:eqV (l.getD k []) v with
   | true=>
    rw[hp]at he;have HP:=aa hp;clear hp
    go_wp2_with fail
    refine HC.o.mono ?_;rintro e w1 ⟨rfl,aK⟩
    go_wp2_with fail
    go_ret
    exact⟨aR (by rw[HD.o,dN _ k _ aC HP.o]),ae aA aK⟩
   | false=>
    rw[hp]at he;have HP:=aa hp;clear hp
    go_wp2_with fail
    refine HC.o.mono ?_;rintro e w1 ⟨rfl,aK⟩
    go_wp2_with fail
    go_roundw
    ·exact⟨ae aA aK,k+1,by omega,by go_num,aY H.o HP.o⟩
    ·simp[intOf];omega
  ·go_wp2
   go_ret
   exact⟨aR (by rw[HD.o,eX];intro j hj;exact H.o j (by omega)),aA⟩
theorem AE(v:Value) (l:List Int) (n most:Int) (w:World) (hv:aQ w v l) :
  Calls Tryz.prog 185 #[v,.int .i64 n,.int .i64 most] w fun e w'=>e=.returned (.int .i64 (vectorE l n most))/\w=w':=by
 obtain⟨pa,ca,rfl,la1,la2,ea⟩:=hv.at;clear hv;have EA:=aa ea;clear ea;by_cases hl:(l.length:Int)=n
 ·have HV:am (vectorE l n most=if anyLt l.length (fun i=>decide (l.getD i 0<0) || decide (most<=l.getD i 0)) then 2 else 0):=by
   have h:vectorE l n most=if anyLt l.length (fun i=>decide (l.getD i 0<0) || decide (most<=l.getD i 0)) then 2 else 0:=by unfold vectorE;rw[if_neg (by simpa using hl)]
   exact h
  subst hl
  go_enter Tryz.func185,Tryz.ntmps185
  go_wp2
  go_loop [7] (fun i=>∃ k:Nat,k<=l.length/\i=.int .i64 k/\∀ j,j<k->(decide (l.getD j 0<0) || decide (most<=l.getD j 0))=false) (fun i=>l.length - (intOf i).toNat)
  ·exact⟨0,by omega,rfl,by simp⟩
  ·
   obtain⟨k,hk,rfl,aW⟩:=hrel;have H:=aa aW;clear aW;by_cases aC:k<l.length
   ·obtain⟨b1,o1,rfl,h1⟩:=EA.o k aC;have HX:=aa (az 0 aC);rw[Nat.mul_one]at h1;have c1:=h1.1;generalize l[k]=x at c1 HX;clear h1
    go_wp2
    all_goals first
     | (go_ret
        refine⟨aE ?_,rfl⟩
        rw[HV.o,dN _ k _ aC (by rw[HX.o];go_light;simp;omega)]
        rfl)
     | (go_round
        ·
         refine⟨k+1,by omega,by go_num,aY H.o ?_⟩
         rw[HX.o]
         go_light
         simp;omega
        ·simp[intOf];omega)
   ·go_wp2
    go_ret
    exact⟨aE (by rw[HV.o,eX];rfl;intro j hj;exact H.o j (by omega)),rfl⟩
 ·have HV:am (vectorE l n most=15):=by(have h:vectorE l n most=15:=by(unfold vectorE;rw[if_pos hl]));exact h
  have iz:((l.length:Int) != n)=true:=by simpa using hl
  clear hl
  go_enter Tryz.func185,Tryz.ntmps185
  go_wp2
  go_ret
  exact⟨aE HV.o.symm,rfl⟩
theorem Iq{t:Tk} {c:Cs} (h:c.out.length<1\/1024<c.out.length):vectorsE t c=5:=by unfold vectorsE;rw[if_pos h]
theorem yF{t:Tk} {c:Cs} (h:¬ (c.out.length<1\/1024<c.out.length)) (k:Nat) (e:Int) (hk:k<c.out.length) (hj:∀ j,j<k->jq t c j=0) (he:jq t c k=e) (h0:e≠0):e=vectorsE t c:=by
 unfold vectorsE;rw[if_neg h,<-bT k e hk hj he h0,if_pos h0]
theorem GT{t:Tk} {c:Cs} (h:¬ (c.out.length<1\/1024<c.out.length)) (ho:∀ j,j<c.out.length->jq t c j=0):vectorsE t c=bm c.calm.length (jh c):=by
 unfold vectorsE;rw[if_neg h,cS _ _ ho];simp
theorem O3{t:Tk} {c:Cs} {j:Nat} (hj:j+1<c.out.length) (h1:vectorE c.out[j+1] t.n t.outs=0):jq t c (j+1)=if 0<=ordV (c.out[j]'(by omega)) c.out[j+1] then 14 else 0:=by
 unfold jq unordB;rw[az [] hj,h1,Nat.add_sub_cancel,az [] (show j<c.out.length by omega)];simp
theorem O4{t:Tk} {c:Cs} (hj:0<c.out.length) (h1:vectorE c.out[0] t.n t.outs=0):jq t c 0=0:=by
 unfold jq unordB;rw[az [] hj,h1];simp
theorem MB{c:Cs} {j:Nat} (hj:j+1<c.calm.length) (h1:hasV c.out c.calm[j+1]=true):jh c (j+1)=if 0<=ordV (c.calm[j]'(by omega)) c.calm[j+1] then 14 else 0:=by
 unfold jh unordB;rw[az [] hj,h1,Nat.add_sub_cancel,az [] (show j<c.calm.length by omega)];simp
theorem MC{c:Cs} (hj:0<c.calm.length) (h1:hasV c.out c.calm[0]=true):jh c 0=0:=by
 unfold jh unordB;rw[az [] hj,h1];simp
theorem RR{c:Cs} {k:Nat} (hk:k<c.calm.length) (h1:hasV c.out c.calm[k]=false):jh c k=6:=by
 unfold jh;rw[az [] hk,h1];simp
theorem RS(t:Tk) (vc:Value) (k:Nat) (aC:k<t.cases.length) (w:World) (hv:bM w vc t.cases) :
  Calls Tryz.prog 154 #[.agg #[.int .i64 t.n,.int .i64 t.ins,.int .i64 t.outs,vc],.int .i64 k] w fun e w'=>e=.returned (.int .i64 (fd t k))/\Below w.heap.size w w':=by
 obtain⟨pc,cc,rfl,l1,m1,e1⟩:=hv.at;clear hv;have E:=aa e1;clear e1;obtain⟨b1,o1,rfl,⟨x0,cx0,dk⟩,⟨x1,cx1,dm⟩,⟨x2,cx2,dM⟩⟩:=E.o k aC;have zA:=aa dk;have kS:=aa dm;have fN:=aa dM;obtain⟨p1,q1,rfl,u1,v1,E1⟩:=dm.at;obtain⟨p2,q2,rfl,u2,v2,E2⟩:=dM.at;obtain⟨p0,q0,rfl,_⟩:=dk;have rk:=aa E1;have nu:=aa E2;clear dm dM E1 E2
 have HO:am (fd t k=if vectorE t.cases[k].inp t.n t.ins≠0 then vectorE t.cases[k].inp t.n t.ins else if 0<k/\0<=ordV (t.cases.getD (k - 1) default).inp t.cases[k].inp then 14 else vectorsE t t.cases[k]):=by
  have h:fd t k=if vectorE t.cases[k].inp t.n t.ins≠0 then vectorE t.cases[k].inp t.n t.ins else if 0<k/\0<=ordV (t.cases.getD (k - 1) default).inp t.cases[k].inp then 14 else vectorsE t t.cases[k]:=by unfold fd;rw[az default aC]
  exact h
 have YJ:b1<w.heap.size:=fx cx0;have hlb':b1<w.heap.size+1:=by omega
 go_enter Tryz.func154,Tryz.ntmps154
 go_wp2_with fail
 refine aO (fun V=>Below w.heap.size w V/\V.heap[w.heap.size]?=some (.cells #[.int .i64 t.n,.int .i64 t.ins,.int .i64 t.outs,.slice (some ⟨b1,o1,none⟩) t.cases.length cc] 24)/\V.heap[w.heap.size+1]?=some (.cells #[.slice p0 t.cases[k].inp.length q0,.slice p1 t.cases[k].out.length q1,.slice p2 t.cases[k].calm.length q2] 135)) ⟨by go_grown,ar _ (ap _ _),by simpa using ap (w.alloc _) _⟩ (fun V hV=>?_);obtain⟨lp,hT,hC⟩:=hV;have HT:=aa hT;have HC:=aa hC;have t1:=ab hT;have t2:=ab hC;clear hT hC cx1 cx2;refine(AE _ _ _ _ _ (zA.o.up up_int lp)).mono ?_;rintro e V' ⟨rfl,rfl⟩;generalize vectorE t.cases[k].inp t.n t.ins=ev at HO;by_cases my:ev=0
 case neg=>
  have hev':(ev != 0)=true:=by simpa using my
  go_wp2_with fail
  go_ret
  exact⟨aE (by rw[HO.o,if_pos my]),lp⟩
 subst my
 go_wp2_with fail
 clear t1 t2;by_cases ff:k=0
 case' pos=>
  have eO:am (fd t k=vectorsE t t.cases[k]):=by(have h:fd t k=vectorsE t t.cases[k]:=by(rw[HO.o,if_neg (by simp),if_neg (by omega)]));exact h
  have hd:decide ((0:Int)<(k:Int))=false:=decide_eq_false (by omega);have fw:decide (0<k)=false:=decide_eq_false (by omega);clear HO ff cx0;refine aB (by kernel_rfl) (by kernel_rfl) ?_
  repeat (go_big_quiet_step (fail))
  refine wpQuiet_nil ?_;intro _ eJ;obtain⟨xq,dj⟩:=eJ;subst dj;clear hd fw
 case' neg=>
  obtain⟨j,hj⟩:∃ j,k=j+1:=⟨k - 1,by omega⟩;have fL:j<t.cases.length:=by omega
  have HJ:=aa hj;obtain⟨b2,o2,e2,⟨y0,cy0,fM⟩,_⟩:=E.o j fL;obtain⟨rfl,rfl⟩:b1=b2/\o1=o2:=by simpa using e2
  clear e2;have hd:decide ((0:Int)<(k:Int))=true:=decide_eq_true (by omega);have fw:0<k:=by omega
  have gh:am (fd t k=if 0<=ordV t.cases[j].inp t.cases[k].inp then 14 else vectorsE t t.cases[k]):=by
   have h:fd t k=if 0<=ordV t.cases[j].inp t.cases[k].inp then 14 else vectorsE t t.cases[k]:=by
    rw[HO.o,if_neg (by simp)];have e:k - 1=j:=by omega
    rw[e,az default fL]
    grind
   exact h
  clear HO ff hj;have jn:IntKind.i64.wrap ((k:Int) - 1)=(j:Int):=by rw[HJ.o];rw[IntWalk.i64_in _ (by omega)];omega
  have r1:∀ x:ExtW V,∀ o,x.val.cell? ⟨w.heap.size,o,none⟩=_:=fun x=>ab (af x.ext HT.o)
  have r2:∀ x:ExtW V,∀ o,x.val.cell? ⟨w.heap.size+1,o,none⟩=_:=fun x=>ab (af x.ext HC.o)
  have r3:∀ x:ExtW V,x.val.cell? ⟨b1,o1+j * 3,none⟩=some y0:=fun x=>x.cell (ak lp cy0)
  have bV:=aa (fun x:ExtW V=>Calls.ext_of (lN _ _ _ _ x.val (fM.up up_int (ae lp x.ext)) (zA.o.up up_int (ae lp x.ext))));clear fM cy0 cx0;generalize ordV t.cases[j].inp t.cases[k].inp=oo at bV gh;refine aB (by kernel_rfl) (by kernel_rfl) ?_
  repeat (go_big_quiet_step ((go_at_call 132;exact bV.o _)))
  refine wpQuiet_nil ?_;intro _ eJ;obtain⟨xq,dj⟩:=eJ;subst dj;clear r1 r2 r3 hd fw jn;by_cases rc:0<=oo
  ·go_wp2_with fail
   go_ret
   exact⟨aE (by rw[gh.o,if_pos rc]),ae lp xq.ext⟩
  have eO:am (fd t k=vectorsE t t.cases[k]):=by(have h:fd t k=vectorsE t t.cases[k]:=by(rw[gh.o,if_neg rc]));exact h
  clear gh HJ bV
 all_goals
  have Gk:=ae lp xq.ext;have dS:=Gk;have Gx:=af xq.ext HT.o;have Ut:=af xq.ext HC.o;clear Gk HT HC;generalize xq.val=W5 at dS Gx Ut ⊢;clear xq lp;have HT:=aa Gx;have HC:=aa Ut;have t1:=ab Gx;have t2:=ab Ut;clear Gx Ut;by_cases L9:t.cases[k].out.length<1\/1024<t.cases[k].out.length
  ·have HR:=aa (Iq (t:=t) L9);rcases L9 with L9|L9
   ·go_wp2_with fail
    go_ret
    exact⟨aE (by rw[eO.o,HR.o]),dS⟩
   ·have hou':¬ t.cases[k].out.length<1:=by omega
    go_wp2_with fail
    go_ret
    exact⟨aE (by rw[eO.o,HR.o]),dS⟩
  have XW:=aa L9;have ho1:¬ t.cases[k].out.length<1:=by omega
  have sk:¬ 1024<t.cases[k].out.length:=by omega
  clear L9
  go_wp2_with fail
  clear t1 t2 ho1 sk
  go_loopw [7] (fun i wr=>Below W5.heap.size W5 wr/\∃ m:Nat,m<=t.cases[k].out.length/\i=.int .i64 m/\∀ j,j<m->jq t t.cases[k] j=0) (fun i _=>t.cases[k].out.length - (intOf i).toNat)
  ·exact⟨Below.refl _ _,0,by omega,rfl,by simp⟩
  ·
   obtain⟨BZ,m,hm,rfl,aW⟩:=hrel;have HM:=aa aW;clear aW;have aA:=ae dS BZ;have t1:=ab (af BZ HT.o);have t2:=ab (af BZ HC.o);by_cases ml:m<t.cases[k].out.length
   ·obtain⟨b3,o3,rfl,y,cy,hy⟩:=rk.o m ml;rw[Nat.mul_one]at cy;have HY:=aa hy
    go_wp2_with fail
    clear t1 t2;have r1:∀ x:ExtW wr,∀ o,x.val.cell? ⟨w.heap.size,o,none⟩=_:=fun x=>ab (af (ae BZ x.ext) HT.o)
    have r2:∀ x:ExtW wr,∀ o,x.val.cell? ⟨w.heap.size+1,o,none⟩=_:=fun x=>ab (af (ae BZ x.ext) HC.o)
    have r3:∀ x:ExtW wr,x.val.cell? ⟨b3,o3+m,none⟩=some y:=fun x=>x.cell (ak aA cy)
    have bV:=aa (fun x:ExtW wr=>Calls.ext_of ((AE _ _ t.n t.outs x.val (HY.o.up up_int (ae aA x.ext))).mono (fun _ _ ⟨h1,h2⟩=>⟨h1,h2 ▸ Below.refl _ _⟩)));have HZ:=aa (fun (h:vectorE t.cases[k].out[m] t.n t.outs≠0)=>show jq t t.cases[k] m=vectorE t.cases[k].out[m] t.n t.outs by unfold jq;rw[az [] ml,if_pos h]);generalize qM:vectorE t.cases[k].out[m] t.n t.outs=em at bV HZ;have vS:=aa qM;clear qM hy;have cyy:=cy;clear cy;refine aB (by kernel_rfl) (by kernel_rfl) ?_
    repeat (go_big_quiet_step ((go_at_call 185;exact bV.o _)))
    refine wpQuiet_nil ?_;intro _ eJ;obtain⟨xs,dj⟩:=eJ;subst dj;clear r1 r2 r3 bV;have Oc:=ae BZ xs.ext;have E8:=ae aA xs.ext;by_cases vR:em=0
    case neg=>
     have hem':(em != 0)=true:=by simpa using vR
     go_wp2_with fail
     go_ret
     exact⟨aE (by rw[eO.o];exact yF XW.o m em ml HM.o (HZ.o vR) vR),E8⟩
    subst vR
    go_wp2_with fail
    by_cases vO:m=0
    ·subst vO;have zb:=aa (O4 ml vS.o);refine aB (by kernel_rfl) (by kernel_rfl) ?_
     repeat (go_big_quiet_step (fail))
     refine wpQuiet_nil ?_;intro _ eJ;obtain⟨xt,dj⟩:=eJ;subst dj
     go_wp2_with fail
     go_roundw
     ·exact⟨ae Oc xt.ext,1,by omega,by go_num,aY HM.o zb.o⟩
     ·simp[intOf];omega
    ·obtain⟨j,rfl⟩:∃ j,m=j+1:=⟨m - 1,by omega⟩;have zb:=aa (O3 ml vS.o);obtain⟨b4,o4,e4,z,cz,hz⟩:=rk.o j (by omega);obtain⟨rfl,rfl⟩:b3=b4/\o3=o4:=by simpa using e4
     rw[Nat.mul_one]at cz;have r1:∀ x:ExtW xs.val,∀ o,x.val.cell? ⟨w.heap.size,o,none⟩=_:=fun x=>ab (af (ae Oc x.ext) HT.o)
     have r2:∀ x:ExtW xs.val,∀ o,x.val.cell? ⟨w.heap.size+1,o,none⟩=_:=fun x=>ab (af (ae Oc x.ext) HC.o)
     have r3:∀ x:ExtW xs.val,x.val.cell? ⟨b3,o3+(j+1),none⟩=some y:=fun x=>x.cell (ak E8 cyy)
     have r4:∀ x:ExtW xs.val,x.val.cell? ⟨b3,o3+j,none⟩=some z:=fun x=>x.cell (ak E8 cz)
     have bV:=aa (fun x:ExtW xs.val=>Calls.ext_of (lN _ _ _ _ x.val (hz.up up_int (ae E8 x.ext)) (HY.o.up up_int (ae E8 x.ext))));have T5:IntKind.i64.wrap (j:Int)=(j:Int):=IntWalk.i64_in _ (by omega);have oG:decide ((0:Int)<(j:Int)+1)=true:=decide_eq_true (by omega);have xH:(0:Int)<=(j:Int)+1:=by omega
     have Gw:(j:Int)+1<(t.cases[k].out.length:Int):=by omega
     have AT:((j:Int)+1).toNat=j+1:=by omega
     generalize ordV t.cases[k].out[j] t.cases[k].out[j+1]=oo at bV zb;clear e4 hz cz cyy vO;refine aB (by kernel_rfl) (by kernel_rfl) ?_
     repeat (go_big_quiet_step ((go_at_call 132;exact bV.o _)))
     refine wpQuiet_nil ?_;intro _ eJ;obtain⟨xt,dj⟩:=eJ;subst dj;clear r1 r2 r3 r4 T5 oG xH Gw AT;by_cases rc:0<=oo
     ·go_wp2_with fail
      go_ret
      exact⟨aE (by rw[eO.o];exact yF XW.o (j+1) 14 ml HM.o (by rw[zb.o,if_pos rc]) (by decide)),ae E8 xt.ext⟩
     ·go_wp2_with fail
      go_roundw
      ·exact⟨ae Oc xt.ext,j+1+1,by omega,by go_num,aY HM.o (by rw[zb.o,if_neg (by omega)])⟩
      ·simp[intOf];omega
   ·have lV:=aa (eO.o.trans (GT XW.o (fun j hj=>HM.o j (by omega))))
    go_wp2_with fail
    clear t1 t2
    go_loopw [9] (fun i ws=>Below wr.heap.size wr ws/\∃ q:Nat,q<=t.cases[k].calm.length/\i=.int .i64 q/\∀ j,j<q->jh t.cases[k] j=0) (fun i _=>t.cases[k].calm.length - (intOf i).toNat)
    ·exact⟨Below.refl _ _,0,by omega,rfl,by simp⟩
    ·
     obtain⟨l3,q,hq,rfl,aW⟩:=hrel;have HQ:=aa aW;clear aW;have so:=ae BZ l3;have iy:=ae aA l3
     rename World=>ws
     have t2:=ab (af so HC.o);by_cases oO:q<t.cases[k].calm.length
     ·obtain⟨b6,o6,rfl,y,cy,hy⟩:=nu.o q oO;rw[Nat.mul_one]at cy;have HY:=aa hy
      go_wp2_with fail
      clear t2;have r2:∀ x:ExtW ws,∀ o,x.val.cell? ⟨w.heap.size+1,o,none⟩=_:=fun x=>ab (af (ae so x.ext) HC.o)
      have r3:∀ x:ExtW ws,x.val.cell? ⟨b6,o6+q,none⟩=some y:=fun x=>x.cell (ak iy cy)
      have bV:=aa (fun x:ExtW ws=>Calls.ext_of (Fx _ _ t.cases[k].out _ x.val (kS.o.up up_ints (ae iy x.ext)) (HY.o.up up_int (ae iy x.ext))));cases qM:hasV t.cases[k].out t.cases[k].calm[q] with
      | false=>
       rw[qM]at bV;have HZ:=aa (RR oO qM);clear qM hy cy;refine aB (by kernel_rfl) (by kernel_rfl) ?_
       repeat (go_big_quiet_step ((go_at_call 81;exact bV.o _)))
       refine wpQuiet_nil ?_;intro _ eJ;obtain⟨xu,dj⟩:=eJ;subst dj;clear r2 r3 bV
       go_wp2_with fail
       go_ret
       exact⟨aE (by rw[lV.o];exact bT q 6 oO HQ.o HZ.o (by decide)),ae iy xu.ext⟩
      | true=>
       rw[qM]at bV;have vS:=aa qM;clear qM hy;have cyy:=cy;clear cy;refine aB (by kernel_rfl) (by kernel_rfl) ?_
       repeat (go_big_quiet_step ((go_at_call 81;exact bV.o _)))
       refine wpQuiet_nil ?_;intro _ eJ;obtain⟨xs,dj⟩:=eJ;subst dj;clear r2 r3 bV;have hbs6:=ae l3 xs.ext;have hbs6':=ae so xs.ext;have Jz:=ae iy xs.ext
       go_wp2_with fail
       by_cases vO:q=0
       ·subst vO;have zb:=aa (MC oO vS.o);refine aB (by kernel_rfl) (by kernel_rfl) ?_
        repeat (go_big_quiet_step (fail))
        refine wpQuiet_nil ?_;intro _ eJ;obtain⟨xt,dj⟩:=eJ;subst dj
        go_wp2_with fail
        go_roundw
        ·exact⟨ae hbs6 xt.ext,1,by omega,by go_num,aY HQ.o zb.o⟩
        ·simp[intOf];omega
       ·obtain⟨j,rfl⟩:∃ j,q=j+1:=⟨q - 1,by omega⟩;have zb:=aa (MB oO vS.o);obtain⟨b4,o4,e4,z,cz,hz⟩:=nu.o j (by omega);obtain⟨rfl,rfl⟩:b6=b4/\o6=o4:=by simpa using e4
        rw[Nat.mul_one]at cz;have r2:∀ x:ExtW xs.val,∀ o,x.val.cell? ⟨w.heap.size+1,o,none⟩=_:=fun x=>ab (af (ae hbs6' x.ext) HC.o)
        have r3:∀ x:ExtW xs.val,x.val.cell? ⟨b6,o6+(j+1),none⟩=some y:=fun x=>x.cell (ak Jz cyy)
        have r4:∀ x:ExtW xs.val,x.val.cell? ⟨b6,o6+j,none⟩=some z:=fun x=>x.cell (ak Jz cz)
        have bV:=aa (fun x:ExtW xs.val=>Calls.ext_of (lN _ _ _ _ x.val (hz.up up_int (ae Jz x.ext)) (HY.o.up up_int (ae Jz x.ext))));have T5:IntKind.i64.wrap (j:Int)=(j:Int):=IntWalk.i64_in _ (by omega);have oG:decide ((0:Int)<(j:Int)+1)=true:=decide_eq_true (by omega);have xH:(0:Int)<=(j:Int)+1:=by omega
        have Gw:(j:Int)+1<(t.cases[k].calm.length:Int):=by omega
        have AT:((j:Int)+1).toNat=j+1:=by omega
        generalize ordV t.cases[k].calm[j] t.cases[k].calm[j+1]=oo at bV zb;clear e4 hz cz cyy vO;refine aB (by kernel_rfl) (by kernel_rfl) ?_
        repeat (go_big_quiet_step ((go_at_call 132;exact bV.o _)))
        refine wpQuiet_nil ?_;intro _ eJ;obtain⟨xt,dj⟩:=eJ;subst dj;clear r2 r3 r4 T5 oG xH Gw AT;by_cases rc:0<=oo
        ·go_wp2_with fail
         go_ret
         exact⟨aE (by rw[lV.o];exact bT (j+1) 14 oO HQ.o (by rw[zb.o,if_pos rc]) (by decide)),ae Jz xt.ext⟩
        ·go_wp2_with fail
         go_roundw
         ·exact⟨ae hbs6 xt.ext,j+1+1,by omega,by go_num,aY HQ.o (by rw[zb.o,if_neg (by omega)])⟩
         ·simp[intOf];omega
     ·go_wp2_with fail
      go_ret
      exact⟨aE (by rw[lV.o,cS];intro j hj;exact HQ.o j (by omega)),iy⟩
theorem Eh(t:Tk) (vc:Value) (w:World) (hv:bM w vc t.cases) :
  Calls Tryz.prog 114 #[.agg #[.int .i64 t.n,.int .i64 t.ins,.int .i64 t.outs,vc]] w fun e w'=>e=.returned (.int .i64 (taskE t))/\Below w.heap.size w w':=by
 have G:=aa hv;obtain⟨pc,cc,rfl,l1,m1,_⟩:=hv.at;clear hv;by_cases c0:t.n<1
 ·have HR:am (taskE t=2):=by(have h:taskE t=2:=by(unfold taskE;rw[if_pos (by omega)]));exact h
  go_enter Tryz.func114,Tryz.ntmps114
  go_wp2
  go_ret
  exact⟨aE HR.o.symm,by go_grown⟩
 by_cases c1:5<t.n
 ·have HR:am (taskE t=2):=by(have h:taskE t=2:=by(unfold taskE;rw[if_pos (by omega)]));exact h
  go_enter Tryz.func114,Tryz.ntmps114
  go_wp2
  go_ret
  exact⟨aE HR.o.symm,by go_grown⟩
 by_cases c2:t.ins<1
 ·have HR:am (taskE t=2):=by(have h:taskE t=2:=by(unfold taskE;rw[if_pos (by omega)]));exact h
  go_enter Tryz.func114,Tryz.ntmps114
  go_wp2
  go_ret
  exact⟨aE HR.o.symm,by go_grown⟩
 by_cases c3:8<t.ins
 ·have HR:am (taskE t=2):=by(have h:taskE t=2:=by(unfold taskE;rw[if_pos (by omega)]));exact h
  go_enter Tryz.func114,Tryz.ntmps114
  go_wp2
  go_ret
  exact⟨aE HR.o.symm,by go_grown⟩
 by_cases c4:t.outs<1
 ·have HR:am (taskE t=2):=by(have h:taskE t=2:=by(unfold taskE;rw[if_pos (by omega)]));exact h
  go_enter Tryz.func114,Tryz.ntmps114
  go_wp2
  go_ret
  exact⟨aE HR.o.symm,by go_grown⟩
 by_cases c5:8<t.outs
 ·have HR:am (taskE t=2):=by(have h:taskE t=2:=by(unfold taskE;rw[if_pos (by omega)]));exact h
  go_enter Tryz.func114,Tryz.ntmps114
  go_wp2
  go_ret
  exact⟨aE HR.o.symm,by go_grown⟩
 by_cases d0:t.cases.length<1
 ·have HR:am (taskE t=5):=by(have h:taskE t=5:=by(unfold taskE;rw[if_neg (by omega),if_pos (by omega)]));exact h
  go_enter Tryz.func114,Tryz.ntmps114
  go_wp2
  go_ret
  exact⟨aE HR.o.symm,by go_grown⟩
 by_cases d1:1024<t.cases.length
 ·have HR:am (taskE t=5):=by(have h:taskE t=5:=by(unfold taskE;rw[if_neg (by omega),if_pos (by omega)]));exact h
  go_enter Tryz.func114,Tryz.ntmps114
  go_wp2
  go_ret
  exact⟨aE HR.o.symm,by go_grown⟩
 have HV:am (taskE t=bm t.cases.length (fd t)):=by(have h:taskE t=bm t.cases.length (fd t):=by(unfold taskE;rw[if_neg (by omega),if_neg (by omega)]));exact h
 go_enter Tryz.func114,Tryz.ntmps114
 go_wp2
 refine bC (fun W=>Below w.heap.size w W/\W.heap[w.heap.size]?=some (.cells #[.int .i64 t.n,.int .i64 t.ins,.int .i64 t.outs,.slice pc t.cases.length cc] 24)) ⟨by go_grown,ap _ _⟩ (fun W0 aX=>?_);obtain⟨aG,bB⟩:=aX;have HA:=aa bB;clear bB c0 c1 c2 c3 c4 c5 d0 d1
 go_loopw [3] (fun i wr=>Below W0.heap.size W0 wr/\∃ k:Nat,k<=t.cases.length/\i=.int .i64 k/\∀ j,j<k->fd t j=0) (fun i _=>t.cases.length - (intOf i).toNat)
 ·exact⟨Below.refl _ _,0,by omega,rfl,by simp⟩
 ·
  obtain⟨ja,k,hk,rfl,aW⟩:=hrel;have H:=aa aW;clear aW;have aA:=ae aG ja;have t1:=ab (af ja HA.o);by_cases aC:k<t.cases.length
  ·have HC:=aa (RS t _ k aC wr (G.o.up up_case aA));generalize qM:fd t k=ek at HC;have vS:=aa qM;clear qM;by_cases uf:ek=0
   ·subst uf
    go_wp2_with fail
    refine HC.o.mono ?_;rintro e w1 ⟨rfl,aK⟩
    go_wp2_with fail
    go_roundw
    ·exact⟨ae ja aK,k+1,by omega,by go_num,aY H.o vS.o⟩
    ·simp[intOf];omega
   ·have Ty:(ek != 0)=true:=by simpa using uf
    go_wp2_with fail
    refine HC.o.mono ?_;rintro e w1 ⟨rfl,aK⟩
    go_wp2_with fail
    go_ret
    exact⟨aE (by rw[HV.o];exact bT k ek aC H.o vS.o uf),ae aA aK⟩
  ·go_wp2
   go_ret
   exact⟨aE (by rw[HV.o,cS];intro j hj;exact H.o j (by omega)),aA⟩
def fewVB(l:List (List Int)):Bool:=!decide (30<l.length)&&!anyLt l.length fun i=>decide (10<(l.getD i []).length)
theorem sR(v:Value) (l:List (List Int)) (w:World) (hv:dL w v l) :
  Calls Tryz.prog 112 #[v,.int .i64 30] w fun e w'=>e=.returned (.bool (fewVB l))/\w=w':=by
 obtain⟨pa,ca,rfl,la1,la2,ea⟩:=hv.at;clear hv;have EA:=aa ea;clear ea;by_cases hl:30<l.length
 ·have HV:am (fewVB l=false):=by(have h:fewVB l=false:=by(unfold fewVB;simp[hl]));exact h
  go_enter Tryz.func112,Tryz.ntmps112
  go_wp2
  go_ret
  exact⟨aR HV.o.symm,rfl⟩
 ·have HV:am (fewVB l=!anyLt l.length fun i=>decide (10<(l.getD i []).length)):=by(have h:fewVB l=!anyLt l.length fun i=>decide (10<(l.getD i []).length):=by(unfold fewVB;rw[decide_eq_false hl];rfl));exact h
  go_enter Tryz.func112,Tryz.ntmps112
  go_wp2
  go_loop [5] (fun i=>∃ k:Nat,k<=l.length/\i=.int .i64 k/\∀ j,j<k->decide (10<(l.getD j []).length)=false) (fun i=>l.length - (intOf i).toNat)
  ·exact⟨0,by omega,rfl,by simp⟩
  ·
   obtain⟨k,hk,rfl,aW⟩:=hrel;have H:=aa aW;clear aW;by_cases aC:k<l.length
   ·obtain⟨b1,o1,rfl,x,cx,hx⟩:=EA.o k aC;rw[Nat.mul_one]at cx;have HX:=aa (az [] aC);obtain⟨px,qx,rfl,_,dM,_⟩:=hx;generalize l[k]=y at cx HX dM;by_cases Gj:10<y.length
    ·go_wp2
     go_ret
     exact⟨aR (by rw[HV.o,dN _ k _ aC (by rw[HX.o];exact decide_eq_true Gj)];rfl),rfl⟩
    ·go_wp2
     go_round
     ·exact⟨k+1,by omega,by go_num,aY H.o (by rw[HX.o];exact decide_eq_false (by omega))⟩
     ·simp[intOf];omega
   ·go_wp2
    go_ret
    exact⟨aR (by rw[HV.o,eX];rfl;intro j hj;exact H.o j (by omega)),rfl⟩
def Ir(c:Cs):Bool:=decide (10<c.inp.length) || !fewVB c.out || !fewVB c.calm
def fewTB(t:Tk):Bool:=!decide (30<t.cases.length)&&!anyLt t.cases.length fun i=>Ir (t.cases.getD i default)
theorem Is(t:Tk) (vc:Value) (w:World) (hv:bM w vc t.cases) :
  Calls Tryz.prog 69 #[.agg #[.int .i64 t.n,.int .i64 t.ins,.int .i64 t.outs,vc]] w fun e w'=>e=.returned (.bool (fewTB t))/\Below w.heap.size w w':=by
 obtain⟨pc,cc,rfl,l1,m1,e1⟩:=hv.at;clear hv;have E:=aa e1;clear e1;by_cases hl:30<t.cases.length
 ·have HV:am (fewTB t=false):=by(have h:fewTB t=false:=by(unfold fewTB;simp[hl]));exact h
  go_enter Tryz.func69,Tryz.ntmps69
  go_wp2
  go_ret
  exact⟨aR HV.o.symm,by go_grown⟩
 ·have HV:am (fewTB t=!anyLt t.cases.length fun i=>Ir (t.cases.getD i default)):=by(have h:fewTB t=!anyLt t.cases.length fun i=>Ir (t.cases.getD i default):=by(unfold fewTB;rw[decide_eq_false hl];rfl));exact h
  go_enter Tryz.func69,Tryz.ntmps69
  go_wp2
  refine bC (fun W=>Below w.heap.size w W/\W.heap[w.heap.size]?=some (.cells #[.int .i64 t.n,.int .i64 t.ins,.int .i64 t.outs,.slice pc t.cases.length cc] 24)) ⟨by go_grown,ap _ _⟩ (fun W0 aX=>?_);obtain⟨aG,bB⟩:=aX;have HA:=aa bB;clear bB hl
  go_loopw [3] (fun i wr=>Below W0.heap.size W0 wr/\∃ k:Nat,k<=t.cases.length/\i=.int .i64 k/\∀ j,j<k->Ir (t.cases.getD j default)=false) (fun i _=>t.cases.length - (intOf i).toNat)
  ·exact⟨Below.refl _ _,0,by omega,rfl,by simp⟩
  ·
   obtain⟨ja,k,hk,rfl,aW⟩:=hrel;have H:=aa aW;clear aW;have aA:=ae aG ja;have t1:=ab (af ja HA.o);by_cases aC:k<t.cases.length
   ·obtain⟨b1,o1,rfl,⟨x0,cx0,dk⟩,⟨x1,cx1,dm⟩,⟨x2,cx2,dM⟩⟩:=E.o k aC;have d0:=ak aA cx0;have d1:=ak aA cx1;have d2:=ak aA cx2;have HX:=aa (az default aC);have uz:=aa (fun W (hb:Below w.heap.size w W)=>sR _ _ W (dm.up up_ints hb));have jL:=aa (fun W (hb:Below w.heap.size w W)=>sR _ _ W (dM.up up_ints hb));obtain⟨p0,q0,rfl,_,h0l,_⟩:=dk;obtain⟨p1,q1,rfl,_⟩:=dm;obtain⟨p2,q2,rfl,_⟩:=dM;have eT:=aD (af ja HA.o);clear cx0 cx1 cx2;have HB:am (Ir t.cases[k]=(decide (10<t.cases[k].inp.length) || !fewVB t.cases[k].out || !fewVB t.cases[k].calm)):=by exact rfl
    generalize fewVB t.cases[k].out=f1 at uz HB;generalize fewVB t.cases[k].calm=f2 at jL HB;have oJ:Below wr.heap.size wr (wr.alloc (.cells #[.slice p0 t.cases[k].inp.length q0,.slice p1 t.cases[k].out.length q1,.slice p2 t.cases[k].calm.length q2] 135)):=by go_grown
    have yZ:=ae aA oJ;have AQ:=aa oJ;clear oJ;by_cases Gj:10<t.cases[k].inp.length
    ·go_wp2_with fail
     go_ret
     exact⟨aR (by rw[HV.o,dN _ k _ aC (by rw[HX.o,HB.o,decide_eq_true Gj];rfl)];rfl),yZ⟩
    ·have SJ:am (decide (10<t.cases[k].inp.length)=false):=by(have h:=decide_eq_false Gj);exact h
     cases f1 with
     | false=>
      go_wp2_with fail
      refine(uz.o _ yZ).mono ?_;rintro e w1 ⟨rfl,rfl⟩
      go_wp2_with fail
      go_ret
      exact⟨aR (by rw[HV.o,dN _ k _ aC (by rw[HX.o,HB.o,SJ.o];rfl)];rfl),yZ⟩
     | true=>
      cases f2 with
      | false=>
       go_wp2_with fail
       refine(uz.o _ yZ).mono ?_;rintro e w1 ⟨rfl,rfl⟩
       go_wp2_with fail
       refine(jL.o _ yZ).mono ?_;rintro e w1 ⟨rfl,rfl⟩
       go_wp2_with fail
       go_ret
       exact⟨aR (by rw[HV.o,dN _ k _ aC (by rw[HX.o,HB.o,SJ.o];rfl)];rfl),yZ⟩
      | true=>
       go_wp2_with fail
       refine(uz.o _ yZ).mono ?_;rintro e w1 ⟨rfl,rfl⟩
       go_wp2_with fail
       refine(jL.o _ yZ).mono ?_;rintro e w1 ⟨rfl,rfl⟩
       go_wp2_with fail
       go_roundw
       ·exact⟨ae ja AQ.o,k+1,by omega,by go_num,aY H.o (by rw[HX.o,HB.o,SJ.o];rfl)⟩
       ·simp[intOf];omega
   ·go_wp2
    go_ret
    exact⟨aR (by rw[HV.o,eX];rfl;intro j hj;exact H.o j (by omega)),aA⟩
abbrev Gr.c(g:Gr):Array Value:=#[.int .i64 g.n,.int .i64 g.h0,.int .i64 g.h1,.int .i64 g.h2,.int .i64 g.h3,.int .i64 g.h4]
theorem Cn(g:Gr) (w:World) :
  Calls Tryz.prog 208 #[g.v] w fun e w'=>e=.returned (.int .i64 (gZ g))/\Below w.heap.size w w':=by
 by_cases hn:g.n<1\/5<g.n
 ·have H:am (gZ g=2):=by(have h:gZ g=2:=by(unfold gZ;rw[if_pos hn]));exact h
  rcases hn with hn|hn
  ·go_enter Tryz.func208,Tryz.ntmps208
   go_wp2
   go_ret;exact⟨aE H.o.symm,by go_grown⟩
  ·have zz:¬ g.n<1:=by omega
   go_enter Tryz.func208,Tryz.ntmps208
   go_wp2
   go_ret;exact⟨aE H.o.symm,by go_grown⟩
 have kq:1<=g.n:=by omega
 have oM:g.n<=5:=by omega
 have HE:am (gZ g=bm 5 fun p=>mC g.n (g.hear p) p):=by(have h:gZ g=bm 5 fun p=>mC g.n (g.hear p) p:=by(unfold gZ;rw[if_neg hn]));exact h
 clear hn;have hn3:¬ g.n<1:=by omega
 have hn4:¬ 5<g.n:=by omega
 go_enter Tryz.func208,Tryz.ntmps208
 go_wp2
 refine bC (fun W=>Below w.heap.size w W/\W.heap[w.heap.size]?=some (.cells g.c 139)) ⟨by go_grown,ap _ _⟩ (fun W0 aX=>?_);obtain⟨aG,hA⟩:=aX;have HA:=aa hA;have t1:=ab hA 0;simp at t1;clear hA
 go_loop [3] (fun i=>∃ k:Nat,k<=5/\i=.int .i64 k/\∀ j,j<k->mC g.n (g.hear j) j=0) (fun i=>5 - (intOf i).toNat)
 ·exact⟨0,by omega,rfl,by simp⟩
 ·
  obtain⟨k,hk,rfl,aW⟩:=hrel;have H:=aa aW;clear aW;by_cases aC:k<5
  ·have hx:=ni g k aC W0 _ HA.o;obtain⟨x,lJ⟩:∃ x,x=g.hear k:=⟨_,rfl⟩;rw[<-lJ]at hx;have HX:=aa lJ;clear lJ;obtain⟨m,hm⟩:∃ m:Nat,g.n=m:=⟨g.n.toNat,by omega⟩;have hp:=z' m (by omega);have HC:=aa (fun w=>Fw m (by omega) w)
   have HV:am (mC g.n x k=if (m:Int)<=k then(if x≠0 then 3 else 0) else if x<0\/2 ^ m - 1<x then 2 else if hasB x k then 0 else 3):=by
    have h:mC g.n x k=if (m:Int)<=k then(if x≠0 then 3 else 0) else if x<0\/2 ^ m - 1<x then 2 else if hasB x k then 0 else 3:=by
     unfold mC;rw[hm,Int.toNat_natCast]
    exact h
   rw[hm]at t1;rw[hm]at kq oM;have HM:=aa hm;generalize (2:Int) ^ m=y at hp HC HV;clear hm hn3 hn4;by_cases gg:(m:Int)<=k
   ·go_wp2
    ·go_ret
     refine⟨aE ?_,aG⟩;rw[HE.o]
     go_light
     refine bT k _ aC H.o ?_ (by decide);rw[<-HX.o,HV.o]
     grind
    ·go_round
     ·
      refine⟨k+1,by omega,by go_num,aY H.o ?_⟩
      go_light
      rw[<-HX.o,HV.o]
      grind
     ·simp[intOf];omega
   ·by_cases lJ:x<0\/y - 1<x
    ·have hq:∀ z,z=2->z=gZ g:=fun z hz=>by
      subst hz;rw[HE.o];refine bT k _ aC H.o ?_ (by decide);rw[<-HX.o,HV.o,if_neg gg,if_pos lJ]
     have HQ:=aa hq;clear hq;rcases lJ with lJ|lJ
     ·go_wp2
      go_ret
      exact⟨aE (HQ.o _ rfl),aG⟩
     ·have dk:¬ x<0:=by omega
      go_wp2_with (go_at_call 60;refine(HC.o _).mono ?_;rintro e w' ⟨rfl,rfl⟩)
      go_ret
      exact⟨aE (HQ.o _ rfl),aG⟩
    ·have dk:¬ x<0:=by omega
     have dm:¬ y - 1<x:=by omega
     have jL:=aa (fun w=>mR x k (by omega) (by omega) (by omega) w);cases hb:hasB x k with
     | true=>
      rw[hb]at jL HV;have Yu:=aa lJ;clear hb lJ
      go_wp2_with (first|(go_at_call 60;refine(HC.o _).mono ?_;rintro e w' ⟨rfl,rfl⟩)|(go_at_call 47;refine(jL.o _).mono ?_;rintro e w' ⟨rfl,rfl⟩))
      go_round
      ·
       refine⟨k+1,by omega,by go_num,aY H.o ?_⟩;rw[<-HX.o,HV.o,if_neg (by omega),if_neg (by omega)];rfl
      ·simp[intOf];omega
     | false=>
      rw[hb]at jL HV;have Yu:=aa lJ;clear hb lJ
      go_wp2_with (first|(go_at_call 60;refine(HC.o _).mono ?_;rintro e w' ⟨rfl,rfl⟩)|(go_at_call 47;refine(jL.o _).mono ?_;rintro e w' ⟨rfl,rfl⟩))
      go_ret
      refine⟨aE ?_,aG⟩;rw[HE.o];refine bT k _ aC H.o ?_ (by decide);rw[<-HX.o,HV.o,if_neg (by omega),if_neg (by omega)];rfl
  ·go_wp2
   go_ret;exact⟨aE (by rw[HE.o,cS];intro j hj;exact H.o j (by omega)),aG⟩
theorem O5{a b:Gr} (h:a.n<b.n):fA a b=-1:=by unfold fA cmpI;grind
theorem O6{a b:Gr} (h:b.n<a.n):fA a b=1:=by unfold fA cmpI;grind
theorem O7{a b:Gr} (h:a.n=b.n):fA a b=bm 5 fun p=>cmpI (a.hear p) (b.hear p):=by unfold fA;rw[h,qq];simp
theorem Ao(a b:Gr) (w:World) :
  Calls Tryz.prog 210 #[a.v,b.v] w fun e w'=>e=.returned (.int .i64 (fA a b))/\Below w.heap.size w w':=by
 rcases Int.lt_trichotomy a.n b.n with hn|hn|hn
 ·have H:=aa (O5 hn)
  go_enter Tryz.func210,Tryz.ntmps210
  go_wp2
  go_ret;exact⟨aE H.o.symm,by go_grown⟩
 ·have HC:=aa (O7 hn);have h1:¬ a.n<b.n:=by omega
  have h2:¬ b.n<a.n:=by omega
  clear hn
  go_enter Tryz.func210,Tryz.ntmps210
  go_wp2
  refine bC (fun W=>Below w.heap.size w W/\W.heap[w.heap.size]?=some (.cells a.c 139)/\W.heap[w.heap.size+1]?=some (.cells b.c 139))
   ⟨by go_grown,ar _ (ap _ _),by have:=ap (w.alloc (.cells a.c 139));rw[World.size_alloc]at this;exact this _⟩ (fun W0 aX=>?_)
  obtain⟨aG,hA,hB⟩:=aX;have HA:=aa hA;clear hA;have HB:=aa hB;clear hB;clear h1 h2
  go_loopw [5] (fun i wr=>Below W0.heap.size W0 wr/\∃ k:Nat,k<=5/\i=.int .i64 k/\∀ j,j<k->cmpI (a.hear j) (b.hear j)=0) (fun i _=>5 - (intOf i).toNat)
  ·exact⟨Below.refl _ _,0,by omega,rfl,by simp⟩
  ·
   obtain⟨aA,k,hk,rfl,aW⟩:=hrel;have H:=aa aW;clear aW;by_cases aC:k<5
   ·have c1:∀ n,(wr.drewN n).cell? ⟨w.heap.size,1+k,none⟩=some (.int .i64 (a.hear k)):=fun n=>ni a k aC wr _ (af aA HA.o)
    have c2:∀ n,(wr.drewN n).cell? ⟨w.heap.size+1,1+k,none⟩=some (.int .i64 (b.hear k)):=fun n=>ni b k aC wr _ (af aA HB.o)
    have HV:am (cmpI (a.hear k) (b.hear k)=if a.hear k<b.hear k then -1 else if b.hear k<a.hear k then 1 else 0):=by exact rfl
    generalize hx:a.hear k=x at c1 HV;generalize hy:b.hear k=y at c2 HV;have HX:=aa hx;clear hx;have HY:=aa hy;clear hy;rcases Int.lt_trichotomy x y with hn|hn|hn
    ·go_wp2
     go_quiet (fail)
     go_wp2
     go_ret
     refine⟨aE ?_,eK (ae aG aA) _⟩;rw[HC.o];refine bT k _ aC H.o ?_ (by decide);rw[HX.o,HY.o,HV.o,if_pos hn]
    ·have h1:¬ x<y:=by omega
     have h2:¬ y<x:=by omega
     clear hn
     go_wp2
     go_quiet (fail)
     go_wp2
     have c3:∀ m n,((wr.drewN m).drewN n).cell? ⟨w.heap.size,1+k,none⟩=some (.int .i64 x):=fun m n=>c1 m
     have c4:∀ m n,((wr.drewN m).drewN n).cell? ⟨w.heap.size+1,1+k,none⟩=some (.int .i64 y):=fun m n=>c2 m
     go_quiet (fail)
     go_wp2
     go_roundw
     ·
      refine⟨eK aA _,k+1,by omega,by go_num,aY H.o ?_⟩;rw[HX.o,HY.o,HV.o,if_neg (by omega),if_neg (by omega)]
     ·simp[intOf];omega
    ·have h1:¬ x<y:=by omega
     go_wp2
     go_quiet (fail)
     go_wp2
     have c3:∀ m n,((wr.drewN m).drewN n).cell? ⟨w.heap.size,1+k,none⟩=some (.int .i64 x):=fun m n=>c1 m
     have c4:∀ m n,((wr.drewN m).drewN n).cell? ⟨w.heap.size+1,1+k,none⟩=some (.int .i64 y):=fun m n=>c2 m
     go_quiet (fail)
     go_wp2
     go_ret
     refine⟨aE ?_,eK (eK (ae aG aA) _) _⟩;rw[HC.o];refine bT k _ aC H.o ?_ (by decide);rw[HX.o,HY.o,HV.o,if_neg (by omega),if_pos hn]
   ·go_wp2
    go_ret;exact⟨aE (by rw[HC.o,cS];intro j hj;exact H.o j (by omega)),ae aG aA⟩
 ·have H:=aa (O6 hn);have h1:¬ a.n<b.n:=by omega
  go_enter Tryz.func210,Tryz.ntmps210
  go_wp2
  go_ret;exact⟨aE H.o.symm,by go_grown⟩
theorem Co(r:Rd) (w:World) :
  Calls Tryz.prog 186 #[r.v] w fun e w'=>e=.returned (.int .i64 (roundE r))/\Below w.heap.size w w':=by
 obtain⟨⟨n,h0,h1,h2,h3,h4⟩,f⟩:=r
 go_enter Tryz.func186,Tryz.ntmps186
 go_wp2_with (first
  | (go_at_call 208;refine(Cn ⟨_,_,_,_,_,_⟩ _).mono ?_;rintro e w1 ⟨rfl,hb⟩;obtain⟨hc,hf⟩:=Mg hb)
  | (go_at_call 209;refine(GR _ _ _).mono ?_;rintro e w2 ⟨rfl,rfl⟩))
 all_goals
  go_ret
  refine⟨aE ?_,?_⟩
  ·go_light
   unfold roundE
   grind
  ·exact ae (by go_grown) hb
theorem Ap(a b:Rd) (w:World) :
  Calls Tryz.prog 187 #[a.v,b.v] w fun e w'=>e=.returned (.int .i64 (roundC a b))/\Below w.heap.size w w':=by
 obtain⟨⟨n,h0,h1,h2,h3,h4⟩,f⟩:=a;obtain⟨⟨m,g0,g1,g2,g3,g4⟩,g⟩:=b
 go_enter Tryz.func187,Tryz.ntmps187
 go_wp2_with (first
  | (go_at_call 210;refine(Ao ⟨_,_,_,_,_,_⟩ ⟨_,_,_,_,_,_⟩ _).mono ?_;rintro e w1 ⟨rfl,hb⟩;obtain⟨hc,hf⟩:=Mg hb))
 all_goals
  go_ret
  refine⟨aE ?_,?_⟩
  ·go_light
   unfold roundC cmpI
   grind
  ·exact ae (by go_grown) hb
end Go.Proofs.YtmeaoneaephjeaaGreatDoor
