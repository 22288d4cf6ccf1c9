/-
  A part of the proof: lemmas and contracts that the parts behind it use. Each one's conditions are its own premises.
-/
import Derived.Test.YtkfgpnbpcpdclaaGreatJ5
set_option maxRecDepth 100000
set_option maxHeartbeats 8000000
set_option linter.unusedVariables false
namespace Go.Proofs.YtkfgpnbpcpdclaaGreat
open Go.RowKit Go Go.Shelf
attribute [local go_sem] Oper.semAt_some
theorem aL.p2{w w':World} {base sz:Nat} {e e':TypeId} {v:Value} {n:Nat} {xs:List Value} {B:Nat} {cs:Array Value} {f:Nat × Nat} (h:aL w base e sz v n xs) (hc:w.heap[B]?=some (.cells cs e' f)) (bH:e≠e') (p2:∀ k,k≠B->w'.heap[k]?=w.heap[k]?):aL w' base e sz v n xs:=
 h.keep fun g o e ho=>(p2 g (h.ne hc bH g e)).trans ho
theorem aL.cells_keep{w w':World} {base sz:Nat} {e:TypeId} {v:Value} {n:Nat} {xs:List Value} (h:aL w base e sz v n xs) (hk:∀ g o,base<=g->w.heap[g]?=some o->o.isCells=true->w'.heap[g]?=some o):aL w' base e sz v n xs:=
 h.keep fun g o hg ho=>hk g o (h.lt g hg).1 ho (by
  cases hx:o.isCells with
  | true=>rfl
  | false=>exact absurd hg.symm (h.isCells ho hx))
theorem aL.ck_ne{w w':World} {base sz:Nat} {e e':TypeId} {v:Value} {n:Nat} {xs:List Value} {B:Nat} {cs:Array Value} {f:Nat × Nat} (h:aL w base e sz v n xs) (hB:w.heap[B]?=some (.cells cs e' f)) (bH:e≠e') (hk:∀ g o,w.heap[g]?=some o->o.isCells=true->g≠B->w'.heap[g]?=some o):aL w' base e sz v n xs:=
 h.keep fun g o hg ho=>hk g o ho (by
  cases hx:o.isCells with
  | true=>rfl
  | false=>exact absurd hg.symm (h.isCells ho hx)) (h.ne hB bH g hg)
theorem G'{w:World} {v:Value} {l:List Rd} (h:bN w v l):∀ i (hi:i<l.length),bK l[i].g.n/\bK l[i].g.h0/\bK l[i].g.h1/\bK l[i].g.h2/\bK l[i].g.h3/\bK l[i].g.h4/\bK l[i].f:=by
 obtain⟨a,cap,rfl,h1,h2,h3⟩:=h;intro i hi;obtain⟨b,off,_,hr⟩:=h3 i _ (List.getElem?_eq_getElem hi);obtain⟨⟨_,a0⟩,⟨_,a1⟩,⟨_,a2⟩,⟨_,a3⟩,⟨_,a4⟩,⟨_,a5⟩,⟨_,a6⟩⟩:=hr;exact⟨a0,a1,a2,a3,a4,a5,a6⟩
def BI(base:Nat) (w:World) (t:Tr) (ui uw us um ud ut:Value):Prop:=∀ W,cQ base w W->IsTr W t ui uw us um ud ut
structure C4 (W2:World) (v:Value) (inputs:List Int) (word:List Rd) (D:Nat->Bool) (x:Nat->Value) (W:World):Prop where
 b:Below W2.heap.size W2 W
 i:D 1=true->aL W W2.heap.size 3 1 (x 1) inputs.length (inputs.map (Value.int .i64))
 j:D 3=true->aL W W2.heap.size 52 7 (x 3) word.length (bi word)
 k:D 5=true->∃ a b,x 5=.agg (ee a b v (.slice none 0 0) (.slice none 0 0) (.slice none 0 0))/\aL W W2.heap.size 3 1 a inputs.length (inputs.map (Value.int .i64))/\aL W W2.heap.size 52 7 b word.length (bi word)
 t:D 6=true->∃ g cs,x 6=.pointer (some ⟨g,0,none⟩)/\W2.heap.size<=g/\W.heap[g]?=some (.cells cs 65)/\(D 7=false->cs=zeroTr)/\(D 7=true->∃ a b,cs=ee a b v (.slice none 0 0) (.slice none 0 0) (.slice none 0 0)/\aL W W2.heap.size 3 1 a inputs.length (inputs.map (Value.int .i64))/\aL W W2.heap.size 52 7 b word.length (bi word))
 o:D 7=true->D 6=true
theorem C4.grow{W2:World} {v:Value} {inputs:List Int} {word:List Rd} {D:Nat->Bool} {x:Nat->Value} {W W':World} (h:C4 W2 v inputs word D x W) (hb:Below W.heap.size W W'):C4 W2 v inputs word D x W':=by
 refine⟨aj h.b hb,fun q=>(h.i q).up hb,fun q=>(h.j q).up hb,fun q=>?_,fun q=>?_,h.o⟩
 ·obtain⟨a,b,e,h1,h2⟩:=h.k q
  exact⟨a,b,e,h1.up hb,h2.up hb⟩
 ·obtain⟨g,cs,e,h1,h2,h3,h4⟩:=h.t q
  refine⟨g,cs,e,h1,ak hb h2,h3,fun q7=>?_⟩;obtain⟨a,b,e',h5,h6⟩:=h4 q7;exact⟨a,b,e',h5.up hb,h6.up hb⟩
theorem Tz{W:World} {D:Nat} {a:Option (List Deferred)} (o':Obj) (h:W.heap[D]?=some (.deferred a)):CK W (W.putObj D o'):=fun k o hk ho=>
 (World.putObj_heap_other (fun e=>by(subst e;rw[h]at hk;cases hk;cases ho))).trans hk
theorem zd(tmps:Array Value) (B C:Nat) (W:World) (vi vw vs vm vd vt:Value) (x:Int) (ty ty':TypeId) (h1:tmps[6]?.getD undef=.pointer (some ⟨B,0,none⟩)) (h2:tmps[7]?.getD undef=.pointer (some ⟨C,0,none⟩))
  (hb:W.heap[B]?=some (.cells (ee vi vw vs vm vd vt) ty)) (hc:W.heap[C]?=some (.cells #[.int .i64 x] ty')) :
  (results Tryz.f38 tmps).run Tryz.prog W=.ok (.tuple #[.agg (ee vi vw vs vm vd vt),.int .i64 x]) W:=by
 have c:=ae hb;have d:=ae hc 0;simp at d;simp[results,Tryz.results38,go_sem,h1,h2,c,d]
theorem sS(m:Mac) (vf vy vt vo vi vw:Value) (inputs:List Int) (word:List Rd) (w:World) (hf:bF w vf m.first) (hy:eZ w vy m.syms) (ht:dh w vt m.steps) (ho:fj w vo m.out) (hi:aU w vi inputs) (hw:bN w vw word) :
  Calls Tryz.prog 38 #[.agg (bX m vf vy vt vo),vi,vw] w fun e w'=>∃ ui uw us um ud ut,e=.returned (.tuple #[.agg (ee ui uw us um ud ut),.int .i64 (playE m inputs word)])/\(playE m inputs word=0->BI w.heap.size w' (eQ m inputs word) ui uw us um ud ut)/\(playE m inputs word≠0->ee ui uw us um ud ut=zeroTr)/\Below w.heap.size w w':=by
 have HF:=aa hf;have HY:=aa hy;have HT:=aa ht;have HO:=aa ho;have HI:=aa hi;have HW:=aa hw;have HPLAY:=aa (fun W (hb:Below w.heap.size w W)=>Qs m vf vy vt vo vi vw inputs word W (hf.up up_ints hb) (hy.up up_v3 hb) (ht.up up_step hb) (ho.up up_vecs hb) (hi.up up_int hb) (hw.up up_round hb));obtain⟨pf,cf,rfl,_⟩:=hf.at;obtain⟨py,cy,rfl,_⟩:=hy.at;obtain⟨pt,ct,rfl,_⟩:=ht.at;obtain⟨po,co,rfl,_⟩:=ho.at;obtain⟨pi,ci,rfl,li1,li2,_⟩:=hi.at;obtain⟨pw,cw,rfl,lw1,lw2,_⟩:=hw.at;clear hf hy ht ho hi hw;obtain⟨pe,iT⟩:∃ pe,playE m inputs word=pe:=⟨_,rfl⟩;rw[iT];have vU:=aa iT;clear iT;refine eI Tryz.func38 rfl ?_;simp only[Tryz.ntmps38,List.size_toArray,List.length_cons,List.length_nil,Nat.reduceAdd,Nat.reduceSub,Array.replicate_succ,Array.replicate_zero,List.push_toArray,List.append_toArray,List.nil_append,List.cons_append]
 go_wp2_with fail
 refine aT (fun W=>Below w.heap.size w W/\W.heap[w.heap.size]?=some (.cells (bX m (.slice pf m.first.length cf) (.slice py m.syms.length cy) (.slice pt m.steps.length ct) (.slice po m.out.length co)) 35)/\W.heap[w.heap.size+1]?=some (.cells zeroTr 65)/\W.heap[w.heap.size+1+1]?=some (.cells #[.int .i64 0] 42)) ⟨by go_grown,aq _ (aq _ (ar _ _)),aq _ (aX _ _ _),cV _ _ _ _⟩ (fun W0 bd=>?_);obtain⟨aH,iw,iq,I5⟩:=bd;have H0:=aa (And.intro iw (And.intro iq I5));clear iw iq I5;refine(HPLAY.out W0 aH).mono ?_;rintro e w1 ⟨v,rfl,gV,li,aG⟩;rw[vU.out];have dD:=aj aH aG;have jz:=aa (ak aG H0.out.1);have jx:=aa (ak aG H0.out.2.1);have jP:=aa (ak aG H0.out.2.2);have db:=aa gV
 have SW:∃ a l c,v=.slice a l c:=by
  by_cases h:playE m inputs word=0
  ·obtain⟨a,c,e,_⟩:=(gV h w1 (cQ.refl _ _)).at
   exact⟨_,_,_,e⟩
  ·exact⟨_,_,_,li h⟩
 obtain⟨av,lv,cv,rfl⟩:=SW;clear gV li HPLAY;by_cases VU:pe=0
 case neg=>
  have hpz':(pe != 0)=true:=by simpa using VU
  go_wp2_with fail
  refine bw (fun W=>Below w.heap.size w W/\W.heap[w.heap.size+1]?=some (.cells zeroTr 65)/\W.heap[w.heap.size+1+1]?=some (.cells #[.int .i64 0] 42)/\W.heap[w1.heap.size+1]?=some (.cells #[.int .i64 pe] 42)) ⟨(dD.alloc dD.size _).alloc (by simp;have:=dD.size;omega) _,aq _ (aq _ jx.out),aq _ (aq _ jP.out),aX _ _ _⟩ (fun W2 jD=>?_);have jg:=dD.size;have hsE:=aB jP.out;clear hpz'
  refine jZ 4 [27,28,4,5] [some (.agg zeroTr),
   some (.int .i64 pe),
   some (undef),
   some (undef)] (fun D _ W=>Below w.heap.size w W/\W.heap[w.heap.size+1]?=some (.cells zeroTr 65)/\(∃ y,W.heap[w.heap.size+1+1]?=some (.cells #[.int .i64 y] 42)/\(D 3=true->y=pe))/\W.heap[w1.heap.size+1]?=some (.cells #[.int .i64 pe] 42)) (by kernel_rfl) rfl (by decide) rfl (by kernel_rfl) (fun _=>⟨jD.1.drew,jD.2.1,⟨0,jD.2.2.1,fun h=>by cases h⟩,jD.2.2.2⟩) ?step ?tail
  case step=>
   intro x W D i o s F hi ho hs hD bv al hv az hF;have bY:i=0\/i=1\/i=2\/i=3:=by omega
   rcases bY with rfl|rfl|rfl|rfl
   all_goals (obtain rfl:=cO ho.symm;obtain rfl:=cO hs.symm)
   ·clear al hi ho hs hv
    clear hF bv;have HD:=aa hD;have ap:=aa az;clear hD az
    go_wp2_with fail
    refine aR.mk _ cD ?_ rfl;exact ap.out
   ·clear al hi ho hs hv
    have e9:F.getD 9 undef=.pointer (some ⟨w1.heap.size+1,0,none⟩):=eJ hF (by decide) rfl;clear hF bv;have t:=ae az.2.2.2 0;simp at t;have e9':=br e9;have HD:=aa hD;have ap:=aa az;clear hD az
    go_wp2_with fail
    refine aR.mk _ cD ?_ rfl;exact ap.out
   ·have g0:=al ⟨0,.data⟩ (by simp) rfl
    have d0:=hv 0 _ (by omega) g0 rfl;clear al hi ho hs hv;have e6:F.getD 6 undef=.pointer (some ⟨w.heap.size+1,0,none⟩):=eJ hF (by decide) rfl;have e27:=bT hF 0 27 (by decide) rfl (by kernel_rfl) d0;have dn:F=F.setIfInBounds 4 undef:=by(have iY:x 2=undef:=bv;rw[<-iY,hF];exact eD (by decide) rfl)
    have gE:=aa dn;clear dn;clear hF bv d0;have t:=ae az.2.1;have f:=aD az.2.1;have e6':=br e6;have e27':=br e27;have HD:=aa hD;have ap:=aa az;clear hD az;clear g0
    go_wp2_with fail
    refine aR.mk undef cD ?_ (congrArg (fun t=>Act.mk t _) gE.out);obtain⟨h1,h2,⟨y,h3,h4⟩,h5⟩:=ap.out;obtain⟨p1,p2,p3,p4⟩:=AA h2 rfl (.slice none 0 0) (.slice none 0 0) (.slice none 0 0) (.slice none 0 0) (.slice none 0 0) (.slice none 0 0) _ rfl;exact⟨p4 _ _ (by omega) h1,p1,⟨y,(p2 _ (by omega)).trans h3,h4⟩,(p2 _ (by omega)).trans h5⟩
   ·have g1:=al ⟨1,.data⟩ (by simp) rfl
    have d1:=hv 1 _ (by omega) g1 rfl;clear al hi ho hs hv;have e7:F.getD 7 undef=.pointer (some ⟨w.heap.size+1+1,0,none⟩):=eJ hF (by decide) rfl;have e28:=bT hF 1 28 (by decide) rfl (by kernel_rfl) d1;have dn:F=F.setIfInBounds 5 undef:=by(have iY:x 3=undef:=bv;rw[<-iY,hF];exact eD (by decide) rfl)
    have gE:=aa dn;clear dn;clear hF bv d1;obtain⟨h1,h2,⟨y,h3,h4⟩,h5⟩:=az;have t:=ae h3 0;have f:=aD h3 0;simp at t;have H:=aa (And.intro h1 (And.intro h2 (And.intro h3 h5)));clear h1 h2 h3 h4 h5;have az:=trivial;have e7':=br e7;have e28':=br e28;have HD:=aa hD;have ap:=aa az;clear hD az;clear g1
    go_wp2_with fail
    refine aR.mk undef cD ?_ (congrArg (fun t=>Act.mk t _) gE.out);exact⟨H.out.1.setCell (p:=⟨w.heap.size+1+1,0,none⟩) (by dsimp only;omega) _,aI H.out.2.1 (by omega) _ _,⟨pe,by rw[aE H.out.2.2.1];rfl,fun _=>rfl⟩,aI H.out.2.2.2 (by omega) _ _⟩
  case tail=>
   intro x W D F aM hv az hF;have e6:F[6]?.getD undef=.pointer (some ⟨w.heap.size+1,0,none⟩):=by rw[hF];rfl
   have e7:F[7]?.getD undef=.pointer (some ⟨w.heap.size+1+1,0,none⟩):=by rw[hF];rfl
   obtain⟨h1,h2,⟨y,h3,h4⟩,h5⟩:=az;obtain rfl:=h4 (aM 3 (by omega));have H:=aa (And.intro h1 (And.intro h2 h3));clear h1 h2 h3 h4 h5 hF hv aM
   go_wp2_with fail
   refine fH (zd _ _ _ _ _ _ _ _ _ _ _ _ _ e6 e7 H.out.2.1 H.out.2.2) ?_;exact⟨_,_,_,_,_,_,rfl,fun h=>absurd h VU,fun _=>rfl,H.out.1⟩
 subst VU;obtain⟨n,r,gL⟩:=BH vU.out;have eM:=aa gL;clear gL;have hV:=db.out vU.out;have qQ:=hV w1 (cQ.refl _ _);obtain⟨L,hL⟩:∃ L,eC m inputs word=L:=⟨_,rfl⟩;rw[hL]at hV qQ;have HL:=aa hL;have FC:=aa hV;obtain⟨av',cv',ev,lv1,lv2,_⟩:=qQ.at;injection ev with e1 e2 e3
 subst e1 e2 e3;clear hV qQ hL db
 have qJ:Hid (∀ x∈L,x≠[]):=by
  have h:∀ x∈L,x≠[]:=fun x hx=>by
   obtain⟨k,hk,rfl⟩:=List.getElem_of_mem hx;have h1:=HL.out;subst h1;have h2:=(nA eM.out.good (word:=word) eM.out.il eM.out.ir k _ (List.getElem?_eq_getElem hk)).1;have h3:=eM.out.good.n1;intro e;rw[e]at h2;simp at h2;omega
  exact h
 go_wp2_with fail
 refine bw (fun W=>Below w1.heap.size w1 W/\W.heap[w1.heap.size]?=some (.cells #[.slice av L.length cv] 30)/\W.heap[w1.heap.size+1]?=some (.cells #[.int .i64 0] 42)) ⟨by go_grown,aq _ (ar _ _),aX _ _ _⟩ (fun W2 jD=>?_);have jf:=aa jD;have jg:=dD.size;have hsE:=aB jP.out;have dU:=aj dD jD.1;clear jD
 refine jZ 8 [29,30,31,32,33,34,10,4] [some (.slice pi inputs.length ci),
  none,
  some (.slice pw word.length cw),
  none,
  some (.slice av L.length cv),
  none,
  none,
  some (undef)] (C4 W2 (.slice av L.length cv) inputs word) (by kernel_rfl) rfl (by decide) rfl (by kernel_rfl) (fun _=>⟨(Below.refl _ _).drew,nofun,nofun,nofun,nofun,nofun⟩) ?step ?tail
 case step=>
  intro x W D i o s F hi ho hs hD bv al hv az hF;have bY:i=0\/i=1\/i=2\/i=3\/i=4\/i=5\/i=6\/i=7:=by omega
  rcases bY with rfl|rfl|rfl|rfl|rfl|rfl|rfl|rfl
  all_goals (obtain rfl:=cO ho.symm;obtain rfl:=cO hs.symm)
  ·clear al hi ho hs hv
   have e1:F.getD 1 undef=.slice pi inputs.length ci:=eJ hF (by decide) rfl;clear hF bv;have e1':=br e1;have HD:=aa hD;have ap:=aa az;clear hD az;refine gI (.tmp 1) rfl rfl ?_;refine aR.mk (F.getD 1 undef) (fun c hc=>e1.trans (cO hc)) ?_ rfl;exact⟨ap.out.b,ap.out.i,ap.out.j,ap.out.k,ap.out.t,ap.out.o⟩
  ·have g0:=al ⟨0,.data⟩ (by simp) rfl
   have d0:=hv 0 _ (by omega) g0 rfl;clear al hi ho hs hv;have e29:=bT hF 0 29 (by decide) rfl (by kernel_rfl) d0;clear hF bv d0;have e29':=br e29;have HD:=aa hD;have ap:=aa az;clear hD az;clear g0
   go_wp2_with fail
   refine(iL _ inputs W (HI.out.up up_int (aj dU ap.out.b)) (by have:=eM.out.il;have:=eM.out.good.n5;omega)).mono ?_;rintro e W' ⟨u,rfl,hu,hb⟩;have hu:=hu.base ap.out.b.size;have HU:=aa hu;have HB:=aa hb;obtain⟨au,cu,rfl⟩:=hu.slice;clear hu hb
   go_wp2_with fail
   refine aR.mk _ (fun c hc=>by cases hc) ?_ rfl;exact(fun h:C4 _ _ _ _ _ _ _=>⟨h.b,fun _=>HU.out,h.j,h.k,h.t,h.o⟩) (ap.out.grow HB.out)
  ·clear al hi ho hs hv
   have e2:F.getD 2 undef=.slice pw word.length cw:=eJ hF (by decide) rfl;clear hF bv;have e2':=br e2;have HD:=aa hD;have ap:=aa az;clear hD az;refine gI (.tmp 2) rfl rfl ?_;refine aR.mk (F.getD 2 undef) (fun c hc=>e2.trans (cO hc)) ?_ rfl;exact⟨ap.out.b,ap.out.i,ap.out.j,ap.out.k,ap.out.t,ap.out.o⟩
  ·have g2:=al ⟨2,.data⟩ (by simp) rfl
   have d2:=hv 2 _ (by omega) g2 rfl;have g1:=al ⟨1,.chain⟩ (by simp) rfl;clear al hi ho hs hv;have e31:=bT hF 2 31 (by decide) rfl (by kernel_rfl) d2;clear hF bv d2;have e31':=br e31;have HD:=aa hD;have ap:=aa az;clear hD az;clear g2;clear g1
   go_wp2_with fail
   refine(iN _ word W (HW.out.up up_round (aj dU ap.out.b)) (by have:=eM.out.wl;have:=eM.out.good.r6;omega)).mono ?_;rintro e W' ⟨u,rfl,hu,hb⟩;have hu:=hu.base ap.out.b.size;have HU:=aa hu;have HB:=aa hb;obtain⟨au,cu,rfl⟩:=hu.slice;clear hu hb
   go_wp2_with fail
   refine aR.mk _ (fun c hc=>by cases hc) ?_ rfl;exact(fun h:C4 _ _ _ _ _ _ _=>⟨h.b,h.i,fun _=>HU.out,h.k,h.t,h.o⟩) (ap.out.grow HB.out)
  ·clear al hi ho hs hv
   have e8:F.getD 8 undef=.pointer (some ⟨w1.heap.size,0,none⟩):=eJ hF (by decide) rfl;clear hF bv;have t:=ae (ak az.b jf.out.2.1) 0;simp at t;have e8':=br e8;have HD:=aa hD;have ap:=aa az;clear hD az
   go_wp2_with fail
   refine aR.mk _ cD ?_ rfl;exact⟨ap.out.b,ap.out.i,ap.out.j,ap.out.k,ap.out.t,ap.out.o⟩
  ·have g1:=al ⟨1,.data⟩ (by simp) rfl
   have g3:=al ⟨3,.data⟩ (by simp) rfl;have g4:=al ⟨4,.data⟩ (by simp) rfl;have d4:=hv 4 _ (by omega) g4 rfl;clear al hi ho hs hv;have e30:=bT hF 1 30 (by decide) rfl (by kernel_rfl) rfl;have e32:=bT hF 3 32 (by decide) rfl (by kernel_rfl) rfl;have e33:=bT hF 4 33 (by decide) rfl (by kernel_rfl) d4;clear hF bv d4;obtain⟨a1,c1,q1⟩:=(az.i g1).slice;obtain⟨a3,c3,q3⟩:=(az.j g3).slice;have HG:=aa (And.intro (az.i g1) (az.j g3));rw[q1]at e30 HG;rw[q3]at e32 HG;clear q1 q3;have e30':=br e30;have e32':=br e32;have e33':=br e33;have HD:=aa hD;have ap:=aa az;clear hD az;clear g1;clear g3;clear g4
   go_wp2_with fail
   refine aR.mk _ (fun c hc=>by cases hc) ?_ rfl;exact⟨ap.out.b,ap.out.i,ap.out.j,fun _=>⟨_,_,rfl,HG.out.1,HG.out.2⟩,ap.out.t,ap.out.o⟩
  ·clear al hi ho hs hv
   clear hF bv;have HD:=aa hD;have ap:=aa az;clear hD az
   go_wp2_with fail
   refine aR.mk _ (fun c hc=>by cases hc) ?_ rfl;have h:=ap.out.grow (W':=W.alloc (.cells zeroTr 65)) (by go_grown)
   have h7:D 7=false:=by
    cases h:D 7 with
    | false=>rfl
    | true=>exact absurd (ap.out.o h) (by rw[HD.out];decide)
   exact⟨h.b,h.i,h.j,h.k,fun _=>⟨W.heap.size,zeroTr,rfl,ap.out.b.size,ar _ _,fun _=>rfl,fun q=>absurd (h7.symm.trans q) (by decide)⟩,fun q=>absurd (h7.symm.trans q) (by decide)⟩
  ·have g6:=al ⟨6,.data⟩ (by simp) rfl
   have g5:=al ⟨5,.data⟩ (by simp) rfl;clear al hi ho hs hv;have e10:=bT hF 6 10 (by decide) rfl (by kernel_rfl) rfl;have e34:=bT hF 5 34 (by decide) rfl (by kernel_rfl) rfl;have dn:F=F.setIfInBounds 4 undef:=by(have iY:x 7=undef:=bv;rw[<-iY,hF];exact eD (by decide) rfl)
   have gE:=aa dn;clear dn;clear hF bv;obtain⟨g,cs,q6,hg,hc,hz,_⟩:=az.t g6;obtain rfl:=hz hD;obtain⟨a,b,q5,ha,hb⟩:=az.k g5;have Cp:=ha;have eS:=hb;obtain⟨pa,ca,rfl⟩:=Cp.slice;obtain⟨pb,cb,rfl⟩:=eS.slice;clear Cp eS;rw[q6]at e10;rw[q5]at e34;have t:=ae hc;have f:=aD hc;have HG:=aa (And.intro q6 (And.intro hg (And.intro hc (And.intro ha (And.intro hb (And.intro g6 q5))))));clear q6 q5 hg hc ha hb hz;have e10':=br e10;have e34':=br e34;have HD:=aa hD;have ap:=aa az;clear hD az;clear g6;clear g5
   go_wp2_with fail
   refine aR.mk undef cD ?_ (congrArg (fun t=>Act.mk t _) gE.out);obtain⟨q6,hg,hc,ha,hb,g6,q5⟩:=HG.out;obtain⟨p1,p2,p3,p4⟩:=AA hc rfl (.slice pa inputs.length ca) (.slice pb word.length cb) (.slice av L.length cv) (.slice none 0 0) (.slice none 0 0) (.slice none 0 0) _ rfl;have h:=ap.out;exact⟨p4 _ _ hg h.b,fun q=>(h.i q).p2 hc (by decide) p2,fun q=>(h.j q).p2 hc (by decide) p2,fun q=>⟨_,_,q5,ha.p2 hc (by decide) p2,hb.p2 hc (by decide) p2⟩,fun _=>⟨g,_,q6,hg,p1,fun q=>by simp[bB]at q,fun _=>⟨_,_,rfl,ha.p2 hc (by decide) p2,hb.p2 hc (by decide) p2⟩⟩,fun _=>g6⟩
 case tail=>
  intro x W3 D F aM hv az hF;obtain⟨Bt,cs,q6,hBt,CH,_,h7⟩:=az.t (aM 6 (by omega));obtain⟨a,b,rfl,ha,hb⟩:=h7 (aM 7 (by omega));have x0:x 0=.slice pi inputs.length ci:=hv 0 _ (by omega) rfl;have x2:x 2=.slice pw word.length cw:=hv 2 _ (by omega) rfl;have x4:x 4=.slice av L.length cv:=hv 4 _ (by omega) rfl;have x7:x 7=undef:=hv 7 _ (by omega) rfl;simp only[bg,bQ,List.setIfInBounds_toArray,List.set_cons_succ,List.set_cons_zero,Nat.reduceAdd]at hF;rw[x0,x2,x4,x7,q6]at hF;generalize x 1=y1 at hF;generalize x 3=y3 at hF;generalize x 5=y5 at hF;subst hF;have Cp:=ha;have eS:=hb;obtain⟨pa,ca,rfl⟩:=Cp.slice;obtain⟨pb,cb,rfl⟩:=eS.slice;have H3:=aa (And.intro az.b (And.intro hBt (And.intro CH (And.intro ha hb))));clear ha hb Cp eS hv aM q6 x0 x2 x4 x7 az h7 CH;have eT:=aj dU H3.out.1;have t1:=ae (ak H3.out.1 (ak jf.out.1 jz.out))
  go_wp2_with fail
  refine(BA _ _ _ _ _).mono ?_;rintro e w4 ⟨rfl,rfl⟩;clear t1
  go_wp2_with fail
  have z':m.n=(n:Int):=eM.out.good.hn;refine bw (fun W=>Below W3.heap.size W3 W/\W.heap[W3.heap.size]?=some (.cells #[.int .i64 (n:Int)] 3)/\W.heap[W3.heap.size+1]?=some (.cells #[.slice pw word.length cw] 37)) ⟨by go_grown,by rw[<-z'];exact aq _ (ar _ _),aX _ _ _⟩ (fun W5 qP=>?_);clear z';have H5:=aa qP;have Iy:=aj eT qP.1;have bP:=yU w _ word HW.out n eM.out.good.n5 W5 Iy (W3.heap.size+1) W3.heap.size (by simp[ae qP.2.2]) qP.2.1;clear qP;obtain⟨PL,OZ⟩:∃ PL,gd n word=PL:=⟨_,rfl⟩
  have wc:Hid (∀ x∈PL,x.1<r/\x.2.1<n/\x.2.2<n/\x.2.1≠x.2.2):=by
   have h:∀ x∈PL,x.1<r/\x.2.1<n/\x.2.2<n/\x.2.1≠x.2.2:=fun x hx=>by
    rw[<-OZ]at hx;have h1:=za hx;have h2:=Lx hx;have h3:=eM.out.wl;exact⟨by omega,h1.2.1,h1.2.2,h2⟩
   exact h
  have HPLL:Hid (PL.length<=150):=by
   have h:PL.length<=150:=by
    have h1:=zc n word;have h2:=eM.out.wl;have h3:=eM.out.good.r6;rw[OZ]at h1;omega
   exact h
  have HP:=aa OZ;rw[OZ]at bP;clear OZ;obtain⟨xs,Kz⟩:∃ xs,PL.map (oX m L)=xs:=⟨_,rfl⟩
  have zC:Hid (xs.length=PL.length):=by
   have h:xs.length=PL.length:=by rw[<-Kz,List.length_map]
   exact h
  have Vx:=aa Kz;clear Kz;have UX:w1.heap.size+1<W3.heap.size:=Nat.lt_of_lt_of_le (aB jf.out.2.2) H3.out.1.size;have hBt3:Bt<W3.heap.size:=aB H3.out.2.2.1;have hBe2:w1.heap.size+1<W2.heap.size:=aB jf.out.2.2;have hBt2:=H3.out.2.1;have hs5:=H5.out.1.size;have hw3s:=eT.size;obtain⟨i0,fZ,dp,du,eB⟩:=info_parts Tryz.infoMsg
  refine uP (gf:=114) (lb:=#[.pointer (some ⟨W3.heap.size+1,0,none⟩),.pointer (some ⟨W3.heap.size,0,none⟩)]) rfl (enters_of Tryz.func114 (by kernel_rfl) rfl) bP (Below.refl _ _) (fun k hk=>by rcases hk with hk|hk;omega;have:=aB H5.out.2.1;omega) (fun i args _ _ h=>by rw[h];rfl)
   (SI w W3 Bt (w1.heap.size+1) (.slice pa inputs.length ca) (.slice pb word.length cb) (.slice av L.length cv) xs) (fun _ _ _ _=>False)
   (fun i T T' A A' h hc hw=>h.next UX (by omega) hc hw) (fun _ _ _ _ _ _ h _ _=>h)
   ⟨Iy,fun k o hk _ _=>ak H5.out.1 hk,hs5,fun k hk=>by(rcases hk with hk|hk;omega;have:=aB H5.out.2.1;omega),fun h=>by(rcases h with h|h<;>omega),fun h=>by(rcases h with h|h<;>omega),_,ak H5.out.1 H3.out.2.2.1,aL.nil _ _ _ _,fun g hg=>by cases hg⟩ ?round ?done ?stop
  case round=>
   rintro l i T W args hi hl hlW hTl rfl hI;have Vl:i<xs.length:=by rw[zC.out];exact hi
   have hx:=wc.out PL[i] (List.getElem_mem hi);have wy:=aa (BC xs i Vl)
   have hgx:xs.getD i default=oX m L PL[i]:=by
    have h1:=Vx.out;subst h1;rw[aA default Vl,List.getElem_map]
   rw[hgx]at wy;rw[aA (0,0,0) hi];clear hgx Vl;generalize PL[i]=x at hx wy;obtain⟨k,p,q⟩:=x;dsimp only at hx;rw[show Qm (k,p,q)=#[.agg #[.int .i64 (k:Int),.int .i64 (p:Int),.int .i64 (q:Int),.string ⟨#[]⟩]] from rfl];obtain⟨kV,jM,xR,jQ⟩:=hx
   have We:k<L.length:=by
    have h1:=eM.out.rl;rw[HL.out]at h1;omega
   have km:=nA eM.out.good (word:=word) eM.out.il eM.out.ir k L[k] (by rw[HL.out];exact List.getElem?_eq_getElem We);obtain⟨I9,hfb⟩:=km;have hs:=hfb p jM;obtain⟨sN,C8⟩:∃ sN:Nat,L[k].getD p 0=sN:=⟨(L[k].getD p 0).toNat,by omega⟩;rw[C8]at hs
   have pY:sN<(((m.syms.getD k []).getD p []).getD q []).length:=by
    rw[eM.out.good.yq k p q kV jM xR,if_neg jQ];omega
   obtain⟨bs,dJ⟩:∃ bs,bytesOf (wP k p q (mY m k p q sN).toNat)=bs:=⟨_,rfl⟩
   have hms:(oX m L (k,p,q)).c=#[.int .i64 (k:Int),.int .i64 (p:Int),.int .i64 (q:Int),.string bs]:=by
    unfold oX;dsimp only;rw[aA [] We,C8,dJ]
   rw[hms]at wy;have HENC:=aa (fun W' (hb:Below w.heap.size w W')=>Lv m n r eM.out.good eM.out.chk _ _ _ _ k p q sN kV jM xR jQ pY W' (HF.out.up up_ints hb) (HY.out.up up_v3 hb) (HT.out.up up_step hb) (HO.out.up up_vecs hb));rw[dJ]at HENC;obtain⟨_,_,evv,_,_,elv⟩:=(FC.out w1 (cQ.refl _ _)).at;injection evv with ev1 ev2 ev3
   subst ev1 ev3;obtain⟨b1,o1,rfl,u,IR,hu⟩:=elv k We;obtain⟨au,cu,rfl,lu1,lu2,eu⟩:=hu.at;obtain⟨b2,o2,rfl,vX,zG⟩:=eu p (by omega);clear zG;rw[Nat.mul_one]at IR vX;rw[show L[k][p]=(sN:Int) by rw[<-C8,aA 0 (by omega)]]at vX;have Sx:=aa IR;have HCI:=aa vX;have jv:p<L[k].length:=by omega
   generalize Jd:L[k].length=nk at Sx jv lu1 lu2;have HI:=aa hI;have SO:=hI.size;have HTLT:=aa hI.lt;clear hI bP hms C8 hs pY I9 hfb dJ elv hu eu IR vX Jd ev2
   gi_wp2
   refine⟨Bod.of_below (fun k hk=>HI.out.lt k hk) (by go_grown),fun W'=>SI w W3 Bt (w1.heap.size+1) (.slice pa inputs.length ca) (.slice pb word.length cb) (.slice (some ⟨b1,o1,none⟩) L.length cv) xs i T W'/\W'.heap[W.heap.size]?=some (.cells #[.int .i64 (k:Int),.int .i64 (p:Int),.int .i64 (q:Int),.string ⟨#[]⟩] 165)/\∃ v,W'.heap[Bt]?=some (.cells (ee (.slice pa inputs.length ca) (.slice pb word.length cb) (.slice (some ⟨b1,o1,none⟩) L.length cv) v (.slice none 0 0) (.slice none 0 0)) 65)/\aL W' W3.heap.size 165 4 v i (kI (xs.take i))/\∀ g,v.ownBlock=some g->¬ T g/\g≠W.heap.size,fun A A' hc h=>⟨h.1.next UX (by omega) hc (mA.refl _ _ _),hc.ck _ _ h.2.1 rfl,(by obtain⟨v,r1,r2,r3⟩:=h.2.2;exact⟨v,hc.ck _ _ r1 rfl,r2.ck hc.ck,r3⟩)⟩,⟨HI.out.next UX (by omega) (Chg.of_below (B:=W5.heap.size) (by go_grown)) (mA.refl _ _ _),ar _ _,(by obtain⟨v,r1,r2,r3⟩:=HI.out.row;exact⟨v,aq _ r1,r2.up (by go_grown),fun g hg=>⟨r3 g hg,by have:=(r2.lt g hg).2;omega⟩⟩)⟩,fun W2b h2=>?_⟩
   intros
   obtain⟨fg,kb,je⟩:=h2;have CL:=aa je;clear je;have fA:=aa fg;have HBM2:=aa kb;have jO:=aa (fg.kept _ _ (ak H3.out.1 (ak jf.out.1 jz.out)) rfl (by omega));have gj:=aa (fg.kept _ _ (ak H3.out.1 jf.out.2.1) rfl (by omega));have mj:=aa (fg.kept _ _ (ak H3.out.1 jf.out.2.2) rfl (by omega))
   have hck2:∀ W',(∀ (j:Nat) (o:Obj),W2b.heap[j]?=some o->j≠W.heap.size->j≠w1.heap.size+1->W'.heap[j]?=some o)->CK w1 W':=fun W' FW j o hj ho=>by
    have:=aB hj;exact FW j o (fg.kept j o (ak H3.out.1 (ak jf.out.1 hj)) ho (by omega)) (by omega) (by omega)
   have jK:=aa hck2;clear fg kb hck2 HI
   gi_wp2
   refine yG 23 [41,42,43,44,45,46,47,48,49,50,51,52,53,54,55,56,57,40,58,59,60,4,5] [some (.agg (bX m (.slice pf m.first.length cf) (.slice py m.syms.length cy) (.slice pt m.steps.length ct) (.slice po m.out.length co))),
    some (.pointer (some ⟨W.heap.size,0,none⟩)),
    some (.int .i64 (k:Int)),
    some (.pointer (some ⟨W.heap.size,1,none⟩)),
    some (.int .i64 (p:Int)),
    some (.pointer (some ⟨W.heap.size,2,none⟩)),
    some (.int .i64 (q:Int)),
    some (.slice (some ⟨b1,o1,none⟩) L.length cv),
    some (.pointer (some ⟨W.heap.size,0,none⟩)),
    some (.int .i64 (k:Int)),
    some (.pointer (some ⟨b1,o1+k,none⟩)),
    some (.slice (some ⟨b2,o2,none⟩) nk cu),
    some (.pointer (some ⟨W.heap.size,1,none⟩)),
    some (.int .i64 (p:Int)),
    some (.pointer (some ⟨b2,o2+p,none⟩)),
    some (.int .i64 (sN:Int)),
    some (.tuple #[.string bs,.int .i64 0]),
    some (.tuple #[.string bs,.int .i64 0]),
    some (.string bs),
    some (.int .i64 0),
    some (.pointer (some ⟨W.heap.size,3,none⟩)),
    some (undef),
    some (undef)] (C7 w W2b W.heap.size (w1.heap.size+1) k p q bs) (by kernel_rfl) rfl (by decide) rfl (by kernel_rfl) (fun ⟨_,_,h⟩=>h) (by kernel_rfl) (fun _=>⟨fA.out.old.drew,Nat.le_refl _,fun _ _ h _ _=>h,mj.out,_,HBM2.out,nofun⟩) ?step ?tail
   case step=>
    intro x W' D i o s F hi ho hs hD bv al hv az hF;have bY:i=0\/i=1\/i=2\/i=3\/i=4\/i=5\/i=6\/i=7\/i=8\/i=9\/i=10\/i=11\/i=12\/i=13\/i=14\/i=15\/i=16\/i=17\/i=18\/i=19\/i=20\/i=21\/i=22:=by omega
    rcases bY with rfl|rfl|rfl|rfl|rfl|rfl|rfl|rfl|rfl|rfl|rfl|rfl|rfl|rfl|rfl|rfl|rfl|rfl|rfl|rfl|rfl|rfl|rfl
    all_goals (obtain rfl:=cO ho.symm;obtain rfl:=cO hs.symm)
    ·clear al hi ho hs hv
     have e3:F.getD 3 undef=.pointer (some ⟨w.heap.size,0,none⟩):=eJ hF (by decide) rfl;clear hF bv;have t:=ae (az.kept _ _ jO.out (by omega) (by omega));have e3':=br e3;have HD:=aa hD;have ap:=aa az;clear hD az
     go_wp2_with fail
     refine aR.mk _ cD ?_ rfl;exact⟨ap.out.old,ap.out.size,ap.out.kept,ap.out.be,ap.out.bm⟩
    ·clear al hi ho hs hv
     have e11:F.getD 11 undef=.pointer (some ⟨W.heap.size,0,none⟩):=eJ hF (by decide) rfl;clear hF bv;have e11':=br e11;have HD:=aa hD;have ap:=aa az;clear hD az
     go_wp2_with fail
     refine aR.mk _ cD ?_ rfl;exact⟨ap.out.old,ap.out.size,ap.out.kept,ap.out.be,ap.out.bm⟩
    ·have g1:=al ⟨1,.data⟩ (by simp) rfl
     have d1:=hv 1 _ (by omega) g1 rfl;clear al hi ho hs hv;have e42:=bT hF 1 42 (by decide) rfl (by kernel_rfl) d1;clear hF bv d1;obtain⟨sb,jN,_⟩:=az.bm;have t:=ae jN;clear jN;have e42':=br e42;have HD:=aa hD;have ap:=aa az;clear hD az;clear g1
     go_wp2_with fail
     refine aR.mk _ cD ?_ rfl;exact⟨ap.out.old,ap.out.size,ap.out.kept,ap.out.be,ap.out.bm⟩
    ·clear al hi ho hs hv
     have e11:F.getD 11 undef=.pointer (some ⟨W.heap.size,0,none⟩):=eJ hF (by decide) rfl;clear hF bv;have e11':=br e11;have HD:=aa hD;have ap:=aa az;clear hD az
     go_wp2_with fail
     refine aR.mk _ cD ?_ rfl;exact⟨ap.out.old,ap.out.size,ap.out.kept,ap.out.be,ap.out.bm⟩
    ·have g3:=al ⟨3,.data⟩ (by simp) rfl
     have d3:=hv 3 _ (by omega) g3 rfl;clear al hi ho hs hv;have e44:=bT hF 3 44 (by decide) rfl (by kernel_rfl) d3;clear hF bv d3;obtain⟨sb,jN,_⟩:=az.bm;have t:=ae jN;clear jN;have e44':=br e44;have HD:=aa hD;have ap:=aa az;clear hD az;clear g3
     go_wp2_with fail
     refine aR.mk _ cD ?_ rfl;exact⟨ap.out.old,ap.out.size,ap.out.kept,ap.out.be,ap.out.bm⟩
    ·clear al hi ho hs hv
     have e11:F.getD 11 undef=.pointer (some ⟨W.heap.size,0,none⟩):=eJ hF (by decide) rfl;clear hF bv;have e11':=br e11;have HD:=aa hD;have ap:=aa az;clear hD az
     go_wp2_with fail
     refine aR.mk _ cD ?_ rfl;exact⟨ap.out.old,ap.out.size,ap.out.kept,ap.out.be,ap.out.bm⟩
    ·have g5:=al ⟨5,.data⟩ (by simp) rfl
     have d5:=hv 5 _ (by omega) g5 rfl;clear al hi ho hs hv;have e46:=bT hF 5 46 (by decide) rfl (by kernel_rfl) d5;clear hF bv d5;obtain⟨sb,jN,_⟩:=az.bm;have t:=ae jN;clear jN;have e46':=br e46;have HD:=aa hD;have ap:=aa az;clear hD az;clear g5
     go_wp2_with fail
     refine aR.mk _ cD ?_ rfl;exact⟨ap.out.old,ap.out.size,ap.out.kept,ap.out.be,ap.out.bm⟩
    ·clear al hi ho hs hv
     have e8:F.getD 8 undef=.pointer (some ⟨w1.heap.size,0,none⟩):=eJ hF (by decide) rfl;clear hF bv;have t:=ae (az.kept _ _ gj.out (by omega) (by omega)) 0;simp at t;have e8':=br e8;have HD:=aa hD;have ap:=aa az;clear hD az
     go_wp2_with fail
     refine aR.mk _ cD ?_ rfl;exact⟨ap.out.old,ap.out.size,ap.out.kept,ap.out.be,ap.out.bm⟩
    ·clear al hi ho hs hv
     have e11:F.getD 11 undef=.pointer (some ⟨W.heap.size,0,none⟩):=eJ hF (by decide) rfl;clear hF bv;have e11':=br e11;have HD:=aa hD;have ap:=aa az;clear hD az
     go_wp2_with fail
     refine aR.mk _ cD ?_ rfl;exact⟨ap.out.old,ap.out.size,ap.out.kept,ap.out.be,ap.out.bm⟩
    ·have g8:=al ⟨8,.data⟩ (by simp) rfl
     have d8:=hv 8 _ (by omega) g8 rfl;clear al hi ho hs hv;have e49:=bT hF 8 49 (by decide) rfl (by kernel_rfl) d8;clear hF bv d8;obtain⟨sb,jN,_⟩:=az.bm;have t:=ae jN;clear jN;have e49':=br e49;have HD:=aa hD;have ap:=aa az;clear hD az;clear g8
     go_wp2_with fail
     refine aR.mk _ cD ?_ rfl;exact⟨ap.out.old,ap.out.size,ap.out.kept,ap.out.be,ap.out.bm⟩
    ·have g7:=al ⟨7,.data⟩ (by simp) rfl
     have d7:=hv 7 _ (by omega) g7 rfl;have g9:=al ⟨9,.data⟩ (by simp) rfl;have d9:=hv 9 _ (by omega) g9 rfl;clear al hi ho hs hv;have e48:=bT hF 7 48 (by decide) rfl (by kernel_rfl) d7;have e50:=bT hF 9 50 (by decide) rfl (by kernel_rfl) d9;clear hF bv d7 d9;have e48':=br e48;have e50':=br e50;have HD:=aa hD;have ap:=aa az;clear hD az;clear g7;clear g9
     go_wp2_with fail
     refine aR.mk _ cD ?_ rfl;exact⟨ap.out.old,ap.out.size,ap.out.kept,ap.out.be,ap.out.bm⟩
    ·have g10:=al ⟨10,.data⟩ (by simp) rfl
     have d10:=hv 10 _ (by omega) g10 rfl;clear al hi ho hs hv;have e51:=bT hF 10 51 (by decide) rfl (by kernel_rfl) d10;clear hF bv d10;have t:=(jK.out W' az.kept).cell Sx.out;have e51':=br e51;have HD:=aa hD;have ap:=aa az;clear hD az;clear g10
     go_wp2_with fail
     refine aR.mk _ cD ?_ rfl;exact⟨ap.out.old,ap.out.size,ap.out.kept,ap.out.be,ap.out.bm⟩
    ·clear al hi ho hs hv
     have e11:F.getD 11 undef=.pointer (some ⟨W.heap.size,0,none⟩):=eJ hF (by decide) rfl;clear hF bv;have e11':=br e11;have HD:=aa hD;have ap:=aa az;clear hD az
     go_wp2_with fail
     refine aR.mk _ cD ?_ rfl;exact⟨ap.out.old,ap.out.size,ap.out.kept,ap.out.be,ap.out.bm⟩
    ·have g12:=al ⟨12,.data⟩ (by simp) rfl
     have d12:=hv 12 _ (by omega) g12 rfl;clear al hi ho hs hv;have e53:=bT hF 12 53 (by decide) rfl (by kernel_rfl) d12;clear hF bv d12;obtain⟨sb,jN,_⟩:=az.bm;have t:=ae jN;clear jN;have e53':=br e53;have HD:=aa hD;have ap:=aa az;clear hD az;clear g12
     go_wp2_with fail
     refine aR.mk _ cD ?_ rfl;exact⟨ap.out.old,ap.out.size,ap.out.kept,ap.out.be,ap.out.bm⟩
    ·have g11:=al ⟨11,.data⟩ (by simp) rfl
     have d11:=hv 11 _ (by omega) g11 rfl;have g13:=al ⟨13,.data⟩ (by simp) rfl;have d13:=hv 13 _ (by omega) g13 rfl;clear al hi ho hs hv;have e52:=bT hF 11 52 (by decide) rfl (by kernel_rfl) d11;have e54:=bT hF 13 54 (by decide) rfl (by kernel_rfl) d13;clear hF bv d11 d13;have e52':=br e52;have e54':=br e54;have HD:=aa hD;have ap:=aa az;clear hD az;clear g11;clear g13
     go_wp2_with fail
     refine aR.mk _ cD ?_ rfl;exact⟨ap.out.old,ap.out.size,ap.out.kept,ap.out.be,ap.out.bm⟩
    ·have g14:=al ⟨14,.data⟩ (by simp) rfl
     have d14:=hv 14 _ (by omega) g14 rfl;clear al hi ho hs hv;have e55:=bT hF 14 55 (by decide) rfl (by kernel_rfl) d14;clear hF bv d14;have t:=(jK.out W' az.kept).cell HCI.out;have e55':=br e55;have HD:=aa hD;have ap:=aa az;clear hD az;clear g14
     go_wp2_with fail
     refine aR.mk _ cD ?_ rfl;exact⟨ap.out.old,ap.out.size,ap.out.kept,ap.out.be,ap.out.bm⟩
    ·have g0:=al ⟨0,.data⟩ (by simp) rfl
     have d0:=hv 0 _ (by omega) g0 rfl;have g2:=al ⟨2,.data⟩ (by simp) rfl;have d2:=hv 2 _ (by omega) g2 rfl;have g4:=al ⟨4,.data⟩ (by simp) rfl;have d4:=hv 4 _ (by omega) g4 rfl;have g6:=al ⟨6,.data⟩ (by simp) rfl;have d6:=hv 6 _ (by omega) g6 rfl;have g15:=al ⟨15,.data⟩ (by simp) rfl;have d15:=hv 15 _ (by omega) g15 rfl;clear al hi ho hs hv;have e41:=bT hF 0 41 (by decide) rfl (by kernel_rfl) d0;have e43:=bT hF 2 43 (by decide) rfl (by kernel_rfl) d2;have e45:=bT hF 4 45 (by decide) rfl (by kernel_rfl) d4;have e47:=bT hF 6 47 (by decide) rfl (by kernel_rfl) d6;have e56:=bT hF 15 56 (by decide) rfl (by kernel_rfl) d15;clear hF bv d0 d2 d4 d6 d15;have e41':=br e41;have e43':=br e43;have e45':=br e45;have e47':=br e47;have e56':=br e56;have HD:=aa hD;have ap:=aa az;clear hD az;clear g0;clear g2;clear g4;clear g6;clear g15
     go_wp2_with fail
     refine(HENC.out W' ap.out.old).mono ?_;rintro e W'' ⟨rfl,hb⟩
     go_wp2_with fail
     refine aR.mk _ cD ?_ rfl;exact(fun h:C7 _ _ _ _ _ _ _ _ _ _ _=>⟨h.old,h.size,h.kept,h.be,h.bm⟩) (ap.out.grow hb)
    ·have g16:=al ⟨16,.data⟩ (by simp) rfl
     have d16:=hv 16 _ (by omega) g16 rfl;clear al hi ho hs hv;have e57:=bT hF 16 57 (by decide) rfl (by kernel_rfl) d16;clear hF bv d16;have e57':=br e57;have HD:=aa hD;have ap:=aa az;clear hD az;clear g16;refine gI (.tmp 57) rfl rfl ?_;refine aR.mk (F.getD 57 undef) (fun c hc=>e57.trans (cO hc)) ?_ rfl;exact⟨ap.out.old,ap.out.size,ap.out.kept,ap.out.be,ap.out.bm⟩
    ·have g17:=al ⟨17,.data⟩ (by simp) rfl
     have d17:=hv 17 _ (by omega) g17 rfl;clear al hi ho hs hv;have e40:=bT hF 17 40 (by decide) rfl (by kernel_rfl) d17;clear hF bv d17;have e40':=br e40;have HD:=aa hD;have ap:=aa az;clear hD az;clear g17
     go_wp2_with fail
     refine aR.mk _ cD ?_ rfl;exact⟨ap.out.old,ap.out.size,ap.out.kept,ap.out.be,ap.out.bm⟩
    ·have g17:=al ⟨17,.data⟩ (by simp) rfl
     have d17:=hv 17 _ (by omega) g17 rfl;clear al hi ho hs hv;have e40:=bT hF 17 40 (by decide) rfl (by kernel_rfl) d17;clear hF bv d17;have e40':=br e40;have HD:=aa hD;have ap:=aa az;clear hD az;clear g17
     go_wp2_with fail
     refine aR.mk _ cD ?_ rfl;exact⟨ap.out.old,ap.out.size,ap.out.kept,ap.out.be,ap.out.bm⟩
    ·clear al hi ho hs hv
     have e11:F.getD 11 undef=.pointer (some ⟨W.heap.size,0,none⟩):=eJ hF (by decide) rfl;clear hF bv;have e11':=br e11;have HD:=aa hD;have ap:=aa az;clear hD az
     go_wp2_with fail
     refine aR.mk _ cD ?_ rfl;exact⟨ap.out.old,ap.out.size,ap.out.kept,ap.out.be,ap.out.bm⟩
    ·have g20:=al ⟨20,.data⟩ (by simp) rfl
     have d20:=hv 20 _ (by omega) g20 rfl;have g18:=al ⟨18,.data⟩ (by simp) rfl;have d18:=hv 18 _ (by omega) g18 rfl;clear al hi ho hs hv;have e60:=bT hF 20 60 (by decide) rfl (by kernel_rfl) d20;have e58:=bT hF 18 58 (by decide) rfl (by kernel_rfl) d18;have dn:F=F.setIfInBounds 4 undef:=by(have iY:x 21=undef:=bv;rw[<-iY,hF];exact eD (by decide) rfl)
     have gE:=aa dn;clear dn;clear hF bv d20 d18;obtain⟨sb,jN,_⟩:=az.bm;have t:=ae jN;have f:=aD jN;have Vb:=aa jN;clear jN;have e60':=br e60;have e58':=br e58;have HD:=aa hD;have ap:=aa az;clear hD az;clear g20;clear g18
     go_wp2_with fail
     refine aR.mk undef cD ?_ (congrArg (fun t=>Act.mk t _) gE.out);have h:=ap.out;exact⟨h.old.setCell (p:=⟨W.heap.size,3,none⟩) (by dsimp only;omega) _,by simp;exact h.size,fun j o hj h1 h2=>(Below.heap_setCell _ _ _ _ h1).trans (h.kept j o hj h1 h2),aI h.be (by omega) _ _,bs,by rw[aE Vb.out];rfl,fun _=>rfl⟩
    ·have g19:=al ⟨19,.data⟩ (by simp) rfl
     have d19:=hv 19 _ (by omega) g19 rfl;clear al hi ho hs hv;have e9:F.getD 9 undef=.pointer (some ⟨w1.heap.size+1,0,none⟩):=eJ hF (by decide) rfl;have e59:=bT hF 19 59 (by decide) rfl (by kernel_rfl) d19;have dn:F=F.setIfInBounds 5 undef:=by(have iY:x 22=undef:=bv;rw[<-iY,hF];exact eD (by decide) rfl)
     have gE:=aa dn;clear dn;clear hF bv d19;have t:=ae az.be 0;have f:=aD az.be 0;simp at t;have e9':=br e9;have e59':=br e59;have HD:=aa hD;have ap:=aa az;clear hD az;clear g19
     go_wp2_with fail
     refine aR.mk undef cD ?_ (congrArg (fun t=>Act.mk t _) gE.out);have h:=ap.out;obtain⟨sb,h1,h2⟩:=h.bm;exact⟨h.old.setCell (p:=⟨w1.heap.size+1,0,none⟩) (by dsimp only;omega) _,by simp;exact h.size,fun j o hj h1 h2=>(Below.heap_setCell _ _ _ _ h2).trans (h.kept j o hj h1 h2),by rw[aE h.be];rfl,sb,aI h1 (by omega) _ _,h2⟩
   case tail=>
    intro x W' D F aM hv az hF;have x0:=hv 0 _ (by omega) rfl;have x1:=hv 1 _ (by omega) rfl;have x2:=hv 2 _ (by omega) rfl;have x3:=hv 3 _ (by omega) rfl;have x4:=hv 4 _ (by omega) rfl;have x5:=hv 5 _ (by omega) rfl;have x6:=hv 6 _ (by omega) rfl;have x7:=hv 7 _ (by omega) rfl;have x8:=hv 8 _ (by omega) rfl;have x9:=hv 9 _ (by omega) rfl;have x10:=hv 10 _ (by omega) rfl;have x11:=hv 11 _ (by omega) rfl;have x12:=hv 12 _ (by omega) rfl;have x13:=hv 13 _ (by omega) rfl;have x14:=hv 14 _ (by omega) rfl;have x15:=hv 15 _ (by omega) rfl;have x16:=hv 16 _ (by omega) rfl;have x17:=hv 17 _ (by omega) rfl;have x18:=hv 18 _ (by omega) rfl;have x19:=hv 19 _ (by omega) rfl;have x20:=hv 20 _ (by omega) rfl;have x21:=hv 21 _ (by omega) rfl;have x22:=hv 22 _ (by omega) rfl;simp only[bg,bQ,List.setIfInBounds_toArray,List.set_cons_succ,List.set_cons_zero,Nat.reduceAdd,x0,x1,x2,x3,x4,x5,x6,x7,x8,x9,x10,x11,x12,x13,x14,x15,x16,x17,x18,x19,x20,x21,x22]at hF;subst hF;clear hv x0 x1 x2 x3 x4 x5 x6 x7 x8 x9 x10 x11 x12 x13 x14 x15 x16 x17 x18 x19 x20 x21 x22;obtain⟨sb,jN,lN⟩:=az.bm;obtain rfl:=lN (aM 21 (by omega));obtain⟨v,hv,aW,C5⟩:=CL.out;have oA:=az.kept _ _ hv (by omega) (by omega);have GE:aL W' W3.heap.size 165 4 v i (kI (xs.take i)):=aW.keep fun g o hg ho=>az.kept g o ho (C5 g hg).2 (by have:=(aW.lt g hg).1;omega)
    have ap:=aa az;have Vb:=aa jN;clear aM az lN hv aW jN;have te:=ae ap.out.be 0;simp at te;have c1:=ae oA;have f1:=aD oA;have t1:=ae Vb.out;have hA:Below W'.heap.size W' (W'.alloc (.cells #[.int .i64 (k:Int),.int .i64 (p:Int),.int .i64 (q:Int),.string sb] 165)):=by go_grown
    have da:=aa (GE.up hA)
    have bj:∀ j u',[Value.int .i64 (k:Int),.int .i64 (p:Int),.int .i64 (q:Int),.string sb][j]?=some u'->(W'.alloc (.cells #[.int .i64 (k:Int),.int .i64 (p:Int),.int .i64 (q:Int),.string sb] 165)).cell? (Addr.add ⟨W'.heap.size,0,none⟩ j)=some u':=fun j u' hj=>by
     have e1:(Addr.add ⟨W'.heap.size,0,none⟩ j)=⟨W'.heap.size,j,none⟩:=by unfold Addr.add;split<;>simp_all
     rw[e1,ae (ar W' _)];simpa using hj
    have bZ:=aa bj;have HV:=aa oA;have FH:=aa C5;obtain⟨avm,cvm,rfl⟩:=GE.slice;have bH:∀ g,(Value.slice avm i cvm).ownBlock=some g->g≠Bt:=GE.ne oA (by decide);have Iz:=aa bH;have hs':=ap.out.size;have iu:=fA.out.size;have hiP:=hi;have hP150:=HPLL.out;clear oA GE bj C5 bH
    gi_wp2_with (gi_at_builtin;(refine mm _ rfl (.tmp 66) (.tmp 68) 63 rfl W3.heap.size 165 i0 _ 4 40 Tryz.underlying63 fZ dp du eB rfl (by decide) _ i _ rfl da.out ⟨W'.heap.size,0,none⟩ 1 1 [.int .i64 (k:Int),.int .i64 (p:Int),.int .i64 (q:Int),.string sb] rfl rfl bZ.out (by simp[Value.oneCell']) (by unfold maxLen;omega) (by omega) (by simp;omega) ?_;intro v' w3 dE cP lG;obtain⟨av',cv',rfl⟩:=dE.slice;have gQ:=(cP.block _ (aB (aq _ HV.out)) (fun e=>Iz.out _ e.symm rfl)).trans (aq _ HV.out);have c3:=ae gQ;have f3:=aD gQ))
    clear c3 f3 c1 f1 t1 te;have hg3s:=cP.size;simp only[World.size_alloc]at hg3s;have hown0:∀ g,(Value.slice avm i cvm).ownBlock=some g->W3.heap.size<=g:=fun g hg=>(da.out.lt g hg).1
    have I5:W'.heap[w1.heap.size+1]?=W3.heap[w1.heap.size+1]?:=ap.out.be.trans (ak H3.out.1 jf.out.2.2).symm
    have MD:∀ (j:Nat) (o:Obj),W'.heap[j]?=some o->j≠Bt->(Value.slice avm i cvm).ownBlock≠some j->(w3.setCell ⟨Bt,3,none⟩ (.slice av' (i+1) cv')).heap[j]?=some o:=fun j o hj h1 h2=>by
     rw[Below.heap_setCell _ ⟨Bt,3,none⟩ _ _ h1];exact(cP.block j (by have:=aB hj;simp;omega) (fun e=>h2 e.symm)).trans (aq _ hj)
    refine⟨⟨by simp;omega,fun j hj=>?_,fun j o hB hj ho=>?_⟩,⟨?_,fun j o hj ho hjb=>?_,by simp;omega,fun j hj=>?_,fA.out.notB,fA.out.notE,?_⟩⟩
    ·have qf:=HTLT.out j hj
     obtain⟨o,ho⟩:∃ o,W2b.heap[j]?=some o:=⟨_,Array.getElem?_eq_getElem (fA.out.lt j hj)⟩;rw[ho];exact MD j o (ap.out.kept j o ho (by omega) (fun e=>fA.out.notE (e ▸ hj))) (fun e=>fA.out.notB (e ▸ hj)) (fun e=>(FH.out j e).1 hj)
    ·refine MD j o (ap.out.kept j o hj (fun e=>?_) (by omega)) (by omega) (fun e=>?_)
     ·subst e
      have:=HBM2.out;rw[hj]at this;cases this;cases ho
     ·obtain⟨v0,r1,r2,r3⟩:=CL.out
      have h1:=ap.out.kept _ _ r1 (by omega) (by omega);have h2:=HV.out;rw[h1]at h2;cases h2;exact r2.isCells hj ho e.symm
    ·exact(Below.grown (ap.out.old.alloc ap.out.old.size _) cP (by simp;have:=ap.out.old.size;omega) (fun g hg=>by have:=hown0 g hg;omega)).setCell (p:=⟨Bt,3,none⟩) (by dsimp only;omega) _
    ·have sM:=aB hj
     refine MD j o ?_ hjb (fun e=>by have:=hown0 j e;omega);by_cases he:j=w1.heap.size+1
     ·subst he
      rw[I5];exact hj
     ·exact ap.out.kept j o (fA.out.kept j o hj ho hjb) (by omega) he
    ·have:=fA.out.lt j hj
     simp;omega
    ·refine⟨_,by rw[aE gQ];rfl,?_,?_⟩
     ·rw[wy.out]
      exact dE.put (dE.ne gQ (by decide)) _ _
     ·intro g hg FG
      rcases lG with h1|h1
      ·exact(FH.out g (h1 ▸ hg)).1 FG
      ·have:=fA.out.lt g FG
       rw[h1]at hg;simp at hg;omega
  case done=>
   intro D T Wd hD hI hK;obtain⟨vm,hvm,Ml,_⟩:=hI.row;have CU:=aa (And.intro hI.old (And.intro hI.kept hI.size));have KC:=aa (And.intro hvm Ml);have HK:=aa hK;obtain⟨am,cm,rfl⟩:=Ml.slice;have HMd:=aa (hI.kept _ _ (ak H3.out.1 (ak jf.out.1 jz.out)) rfl (by omega));have HSd:=aa (hI.kept _ _ (ak H3.out.1 jf.out.2.1) rfl (by omega));have Vj:=aa (hI.kept _ _ (ak H3.out.1 jf.out.2.2) rfl (by omega));have hszd:=hI.size;clear hI bP hvm Ml hK;obtain⟨ds,hds⟩:∃ ds,(List.range n).map (uJ m L)=ds:=⟨_,rfl⟩;obtain⟨ts,Tb⟩:∃ ts,(List.range n).map (mM m L)=ts:=⟨_,rfl⟩;have zY:=aa (And.intro hds Tb);clear hds Tb;have t1:=ae HMd.out
   go_wp2_with fail
   clear t1
   go_loopw [73] (fun i wr=>∃ p:Nat,p<=n/\i=.int .i64 p/\DI w Wd Bt (.slice pa inputs.length ca) (.slice pb word.length cb) (.slice av L.length cv) (.slice am PL.length cm) ds ts p wr) (fun i _=>n - (intOf i).toNat)
   case atStart=>exact⟨0,by omega,rfl,CU.out.1,Nat.le_refl _,fun _ _ h _=>h,_,_,KC.out.1,aL.nil _ _ _ _,aL.nil _ _ _ _,fun g hg=>by cases hg⟩
   case round=>
    obtain⟨p,hp,rfl,Fl⟩:=hrel;have xV:=aa Fl;clear Fl;by_cases jM:p<n
    ·have hpn':(p:Int)<m.n:=by rw[eM.out.good.hn];omega
     have t8:=ae (xV.out.kept _ _ HSd.out (by omega)) 0;simp at t8
     go_wp2_with fail
     clear t8
     go_loopw [13,14,78] (fun d t i wr'=>Below wr.heap.size wr wr'/\d=.int .i64 (-1)/\t=.int .i64 (-1)/\∃ q:Nat,q<=L.length/\i=.int .i64 q/\∀ j,j<q->oW m j p ((L.getD j []).getD p 0)=-1) (fun _ _ i _=>L.length - (intOf i).toNat)
     case atStart=>exact⟨Below.refl _ _,rfl,rfl,0,by omega,rfl,by simp⟩
     case round=>
      obtain⟨aJ,rfl,rfl,q,hq,rfl,aO⟩:=hrel;have dB:=aa aO;have Co:=aa (xV.out.drew aJ);clear aO;by_cases O':q<L.length
      ·have UF:q<r+1:=by
        have h1:=eM.out.rl;rw[HL.out]at h1;omega
       have km:=eM.out.fits UF jM;have xT:=(nA eM.out.good (word:=word) eM.out.il eM.out.ir q L[q] (by rw[HL.out];exact List.getElem?_eq_getElem O')).1;rw[HL.out,aA [] O',aA 0 (show p<L[q].length by omega)]at km;have hol:=eM.out.good.ol;have gL:=eM.out.good.ok q UF;have Wb:q<m.out.length:=by omega
       rw[aA [] Wb]at gL km;have Jq:p<m.out[q].length:=by omega
       rw[aA [] Jq]at km;have jQ:p<L[q].length:=by omega
       obtain⟨sN,C8⟩:∃ sN:Nat,L[q][p]=sN:=⟨(L[q][p]).toNat,by omega⟩;rw[C8]at km;have K3:sN<m.out[q][p].length:=by omega
       have K4:Hid (oW m q p ((L.getD q []).getD p 0)=m.out[q][p][sN]):=by
        have h:oW m q p ((L.getD q []).getD p 0)=m.out[q][p][sN]:=by
         unfold oW;rw[aA [] O',aA 0 jQ,C8,aA [] Wb,aA [] Jq,Int.toNat_natCast,aA 0 K3]
        exact h
       obtain⟨_,_,eo,_,_,elo⟩:=HO.out.at;injection eo with eo1 eo2 eo3
       subst eo1 eo3;obtain⟨b3,o3,rfl,uo,UJ,huo⟩:=elo q Wb;obtain⟨a4,c4,rfl,l41,l42,e4⟩:=huo.at;obtain⟨b4,o4,rfl,up,Db,fY⟩:=e4 p Jq;obtain⟨a5,c5,rfl,l51,l52,e5⟩:=fY.at;obtain⟨b5,o5,rfl,sC,hir5⟩:=e5 sN K3;obtain⟨_,_,evv,_,_,elv⟩:=(FC.out w1 (cQ.refl _ _)).at;injection evv with ev1 ev2 ev3
       subst ev1 ev3;obtain⟨b1,o1,rfl,u,IR,hu⟩:=elv q O';obtain⟨au,cu,rfl,lu1,lu2,eu⟩:=hu.at;obtain⟨b2,o2,rfl,vX,zG⟩:=eu p jQ;rw[C8]at vX;rw[Nat.mul_one]at UJ Db sC IR vX
       have fM:CK w1 wr:=fun j o hj ho=>by
        have:=aB hj;exact Co.out.kept j o (CU.out.2.1 j o (ak H3.out.1 (ak jf.out.1 hj)) ho (by omega)) (by omega)
       have k3:=aa (fM.cell (ay dD UJ));have k4:=aa (fM.cell (ay dD Db));have k5:=aa (fM.cell (ay dD sC));have k1:=fM.cell IR;have K1:=aa k1;have k2:=aa (fM.cell vX);have hoy:=eM.out.out UF jM;rw[HL.out,K4.out]at hoy;clear zG hir5 vX IR sC Db UJ e5 e4 eu hu fY huo elv elo km C8 xT gL hol fM ev2 eo2;generalize m.out[q][p][sN]=yv at K4 k5 hoy;generalize m.out[q][p].length=n5 at k4 K3 l51 l52;generalize m.out[q].length=n4 at k3 Jq l41 l42;generalize L[q].length=n2 at k1 K1 jQ lu1 lu2;have HMr:=aa (Co.out.kept _ _ HMd.out (by omega))
       go_wp2_with fail
       clear k1;have q0:∀ y:ExtW wr,∀ o,y.val.cell? ⟨w.heap.size,o,none⟩=_:=fun y=>ae (ak y.ext HMr.out)
       have q3:∀ y:ExtW wr,y.val.cell? ⟨b3,o3+q,none⟩=_:=fun y=>y.cell k3.out
       have q4:∀ y:ExtW wr,y.val.cell? ⟨b4,o4+p,none⟩=_:=fun y=>y.cell k4.out
       have q5:∀ y:ExtW wr,y.val.cell? ⟨b5,o5+sN,none⟩=_:=fun y=>y.cell k5.out
       have q2:∀ y:ExtW wr,y.val.cell? ⟨b2,o2+p,none⟩=_:=fun y=>y.cell k2.out
       refine aK (by kernel_rfl) (by kernel_rfl) ?_
       repeat (go_big_quiet_step (fail))
       refine wpQuiet_nil ?_;intro _ bV;obtain⟨xq,bC⟩:=bV;subst bC;clear q0 q2 q3 q4 q5;by_cases hy:yv=-1
       ·subst hy
        go_wp2_with fail
        go_roundw
        case rel=>exact⟨aj aJ xq.ext,rfl,rfl,q+1,by omega,by go_num,aQ dB.out K4.out⟩
        case measure=>simp[intOf];omega
       ·have hy':(yv != -1)=true:=by simpa using hy
        go_wp2_with fail
        have CZ:=aa (xV.out.drew ((aj aJ xq.ext).drew));obtain⟨vd,vtt,bL,hd,ht,CM⟩:=CZ.out.row;have lP:=aa bL;have qL:=aa (And.intro hd (And.intro ht CM));obtain⟨ad,cd,rfl⟩:=hd.slice;obtain⟨at',ct',rfl⟩:=ht.slice;clear bL hd ht CM;have RU:Wd.heap.size<=xq.val.heap.size:=CZ.out.size;have uy:w.heap.size<=Wd.heap.size:=CU.out.1.size;have xG:w.heap.size<=Bt:=by omega
        have kr:=eM.out.good.n5;have sI:=aa (Ty O' dB.out K4.out hy);obtain⟨i1,rU,mG,oF,sM⟩:=info_parts Tryz.infoInt;obtain⟨dl,lH⟩:∃ dl,(ds.take p).map (Value.int .i64)=dl:=⟨_,rfl⟩;obtain⟨tl,pZ⟩:∃ tl,(ts.take p).map (Value.int .i64)=tl:=⟨_,rfl⟩;rw[lH,pZ]at qL;have Js:=aa (And.intro lH pZ);clear lH pZ
        refine jZ 14 [102,103,104,105,106,107,108,109,110,111,112,4,113,5] [some (.pointer (some ⟨Bt,4,none⟩)),
         some (.slice ad p cd),
         some (.int .i64 yv),
         none,
         none,
         some (.pointer (some ⟨Bt,5,none⟩)),
         some (.slice at' p ct'),
         some (.int .i64 q),
         none,
         none,
         some (.pointer (some ⟨Bt,4,none⟩)),
         some (undef),
         some (.pointer (some ⟨Bt,5,none⟩)),
         some (undef)] (C22 w Wd xq.val Bt (.slice pa inputs.length ca) (.slice pb word.length cb) (.slice (some ⟨b1,o1,none⟩) L.length cv) (.slice am PL.length cm) (.slice ad p cd) (.slice at' p ct') p dl tl (.int .i64 yv) (.int .i64 q)) (by kernel_rfl) rfl (by decide) rfl (by kernel_rfl) (fun _=>⟨CZ.out.old,Nat.le_refl _,fun _ _ h _ _ _=>h,qL.out.1,qL.out.2.1,qL.out.2.2,lP.out,nofun,nofun,nofun,nofun⟩) ?step ?tail
        case step=>
         intro x W D i o s F hi ho hs hD bv al hv az hF;have bY:i=0\/i=1\/i=2\/i=3\/i=4\/i=5\/i=6\/i=7\/i=8\/i=9\/i=10\/i=11\/i=12\/i=13:=by omega
         rcases bY with rfl|rfl|rfl|rfl|rfl|rfl|rfl|rfl|rfl|rfl|rfl|rfl|rfl|rfl
         all_goals (obtain rfl:=cO ho.symm;obtain rfl:=cO hs.symm)
         ·clear al hi ho hs hv
          have e10:F.getD 10 undef=.pointer (some ⟨Bt,0,none⟩):=eJ hF (by decide) rfl;clear hF bv;have e10':=br e10;have HD:=aa hD;have ap:=aa az;clear hD az
          go_wp2_with fail
          refine aR.mk _ cD ?_ rfl;exact⟨ap.out.old,ap.out.size,ap.out.kept,ap.out.rd,ap.out.rt,ap.out.ne,ap.out.box,ap.out.s3,ap.out.s8,ap.out.o11,ap.out.o13⟩
         ·have g0:=al ⟨0,.data⟩ (by simp) rfl
          have d0:=hv 0 _ (by omega) g0 rfl;clear al hi ho hs hv;have e102:=bT hF 0 102 (by decide) rfl (by kernel_rfl) d0;clear hF bv d0
          have kU:D 11=false:=by
           cases h:D 11 with
           | false=>rfl
           | true=>exact absurd (az.o11 h).1 (by rw[hD];decide)
          have ij:D 13=false:=by
           cases h:D 13 with
           | false=>rfl
           | true=>exact absurd (az.o13 h) (by rw[kU];decide)
          have cJ:W.heap[Bt]?=some (.cells (ee (.slice pa inputs.length ca) (.slice pb word.length cb) (.slice (some ⟨b1,o1,none⟩) L.length cv) (.slice am PL.length cm) (.slice ad p cd) (.slice at' p ct')) 65):=by
           have h:=az.box;rw[kU,ij]at h;exact h
          have t:=ae cJ;have f:=aD cJ;clear cJ;clear kU ij f;have e102':=br e102;have HD:=aa hD;have ap:=aa az;clear hD az;clear g0
          go_wp2_with fail
          refine aR.mk _ cD ?_ rfl;exact⟨ap.out.old,ap.out.size,ap.out.kept,ap.out.rd,ap.out.rt,ap.out.ne,ap.out.box,ap.out.s3,ap.out.s8,fun e=>⟨rfl,(ap.out.o11 e).2⟩,ap.out.o13⟩
         ·clear al hi ho hs hv
          have e13:F.getD 13 undef=.int .i64 yv:=eJ hF (by decide) rfl;clear hF bv;have e13':=br e13;have HD:=aa hD;have ap:=aa az;clear hD az;refine gI (.tmp 13) rfl rfl ?_;refine aR.mk (F.getD 13 undef) (fun c hc=>e13.trans (cO hc)) ?_ rfl;exact⟨ap.out.old,ap.out.size,ap.out.kept,ap.out.rd,ap.out.rt,ap.out.ne,ap.out.box,ap.out.s3,ap.out.s8,ap.out.o11,ap.out.o13⟩
         ·have g2:=al ⟨2,.data⟩ (by simp) rfl
          have d2:=hv 2 _ (by omega) g2 rfl;clear al hi ho hs hv;have e104:=bT hF 2 104 (by decide) rfl (by kernel_rfl) d2;clear hF bv d2;have e104':=br e104;have HD:=aa hD;have ap:=aa az;clear hD az;clear g2
          go_wp2_with fail
          refine aR.mk _ (fun c hc=>by cases hc) ?_ rfl;exact ap.out.build3
         ·have g1:=al ⟨1,.data⟩ (by simp) rfl
          have d1:=hv 1 _ (by omega) g1 rfl;have g3:=al ⟨3,.data⟩ (by simp) rfl;clear al hi ho hs hv;have e103:=bT hF 1 103 (by decide) rfl (by kernel_rfl) d1;have e105:=bT hF 3 105 (by decide) rfl (by kernel_rfl) rfl;clear hF bv d1;obtain⟨gb,qx,iK,_⟩:=az.s3 g3 hD;rw[qx]at e105;have bL:=az.rd;rw[hD]at bL;have lZ:Hid (aL W Wd.heap.size 3 1 (.slice ad p cd) p _):=aa bL
          have bj:∀ j u',[Value.int .i64 yv][j]?=some u'->W.cell? (Addr.add ⟨gb,0,none⟩ j)=some u':=fun j u' hj=>by
           have e1:(Addr.add ⟨gb,0,none⟩ j)=⟨gb,j,none⟩:=by unfold Addr.add;split<;>simp_all
           rw[e1,ae iK];simpa using hj
          have bZ:=aa bj;have dJ:=az.size;clear bj bL iK qx;have e103':=br e103;have e105':=br e105;have HD:=aa hD;have ap:=aa az;clear hD az;clear g1;clear g3;refine bO W rfl (.tmp 103) (.tmp 105) 36 rfl Wd.heap.size 3 i1 _ 1 8 Tryz.underlying36 rU mG oF sM rfl (by decide) _ p _ e103 lZ.out ⟨gb,0,none⟩ 1 1 [.int .i64 yv] e105 rfl bZ.out (by simp[Value.oneCell']) (by unfold maxLen;omega) (by omega) (by omega) ?_;intro v' w3 dE cP lG;refine aR.mk v' (fun c hc=>by cases hc) ?_ rfl;exact ap.out.app4 HD.out dE cP lG uy
         ·clear al hi ho hs hv
          have e10:F.getD 10 undef=.pointer (some ⟨Bt,0,none⟩):=eJ hF (by decide) rfl;clear hF bv;have e10':=br e10;have HD:=aa hD;have ap:=aa az;clear hD az
          go_wp2_with fail
          refine aR.mk _ cD ?_ rfl;exact⟨ap.out.old,ap.out.size,ap.out.kept,ap.out.rd,ap.out.rt,ap.out.ne,ap.out.box,ap.out.s3,ap.out.s8,ap.out.o11,ap.out.o13⟩
         ·have g5:=al ⟨5,.data⟩ (by simp) rfl
          have d5:=hv 5 _ (by omega) g5 rfl;clear al hi ho hs hv;have e107:=bT hF 5 107 (by decide) rfl (by kernel_rfl) d5;clear hF bv d5
          have kU:D 11=false:=by
           cases h:D 11 with
           | false=>rfl
           | true=>exact absurd (az.o11 h).2.2.1 (by rw[hD];decide)
          have ij:D 13=false:=by
           cases h:D 13 with
           | false=>rfl
           | true=>exact absurd (az.o13 h) (by rw[kU];decide)
          have cJ:W.heap[Bt]?=some (.cells (ee (.slice pa inputs.length ca) (.slice pb word.length cb) (.slice (some ⟨b1,o1,none⟩) L.length cv) (.slice am PL.length cm) (.slice ad p cd) (.slice at' p ct')) 65):=by
           have h:=az.box;rw[kU,ij]at h;exact h
          have t:=ae cJ;have f:=aD cJ;clear cJ;clear kU ij f;have e107':=br e107;have HD:=aa hD;have ap:=aa az;clear hD az;clear g5
          go_wp2_with fail
          refine aR.mk _ cD ?_ rfl;exact⟨ap.out.old,ap.out.size,ap.out.kept,ap.out.rd,ap.out.rt,ap.out.ne,ap.out.box,ap.out.s3,ap.out.s8,fun e=>⟨(ap.out.o11 e).1,(ap.out.o11 e).2.1,rfl,(ap.out.o11 e).2.2.2⟩,ap.out.o13⟩
         ·clear al hi ho hs hv
          have e14:F.getD 14 undef=.int .i64 q:=eJ hF (by decide) rfl;clear hF bv;have e14':=br e14;have HD:=aa hD;have ap:=aa az;clear hD az;refine gI (.tmp 14) rfl rfl ?_;refine aR.mk (F.getD 14 undef) (fun c hc=>e14.trans (cO hc)) ?_ rfl;exact⟨ap.out.old,ap.out.size,ap.out.kept,ap.out.rd,ap.out.rt,ap.out.ne,ap.out.box,ap.out.s3,ap.out.s8,ap.out.o11,ap.out.o13⟩
         ·have g7:=al ⟨7,.data⟩ (by simp) rfl
          have d7:=hv 7 _ (by omega) g7 rfl;clear al hi ho hs hv;have e109:=bT hF 7 109 (by decide) rfl (by kernel_rfl) d7;clear hF bv d7;have e109':=br e109;have HD:=aa hD;have ap:=aa az;clear hD az;clear g7
          go_wp2_with fail
          refine aR.mk _ (fun c hc=>by cases hc) ?_ rfl;exact ap.out.build8
         ·have g6:=al ⟨6,.data⟩ (by simp) rfl
          have d6:=hv 6 _ (by omega) g6 rfl;have g8:=al ⟨8,.data⟩ (by simp) rfl;have g4:=al ⟨4,.chain⟩ (by simp) rfl;clear al hi ho hs hv;have e108:=bT hF 6 108 (by decide) rfl (by kernel_rfl) d6;have e110:=bT hF 8 110 (by decide) rfl (by kernel_rfl) rfl;clear hF bv d6;obtain⟨gb,qx,iK,_⟩:=az.s8 g8 hD;rw[qx]at e110;have bL:=az.rt;rw[hD]at bL;have lZ:Hid (aL W Wd.heap.size 3 1 (.slice at' p ct') p _):=aa bL
          have bj:∀ j u',[Value.int .i64 q][j]?=some u'->W.cell? (Addr.add ⟨gb,0,none⟩ j)=some u':=fun j u' hj=>by
           have e1:(Addr.add ⟨gb,0,none⟩ j)=⟨gb,j,none⟩:=by unfold Addr.add;split<;>simp_all
           rw[e1,ae iK];simpa using hj
          have bZ:=aa bj;have dJ:=az.size;clear bj bL iK qx;have OY:=aa g4;have e108':=br e108;have e110':=br e110;have HD:=aa hD;have ap:=aa az;clear hD az;clear g6;clear g8;clear g4;refine bO W rfl (.tmp 108) (.tmp 110) 36 rfl Wd.heap.size 3 i1 _ 1 8 Tryz.underlying36 rU mG oF sM rfl (by decide) _ p _ e108 lZ.out ⟨gb,0,none⟩ 1 1 [.int .i64 q] e110 rfl bZ.out (by simp[Value.oneCell']) (by unfold maxLen;omega) (by omega) (by omega) ?_;intro v' w3 dE cP lG;refine aR.mk v' (fun c hc=>by cases hc) ?_ rfl;exact ap.out.app9 OY.out HD.out dE cP lG uy
         ·clear al hi ho hs hv
          have e10:F.getD 10 undef=.pointer (some ⟨Bt,0,none⟩):=eJ hF (by decide) rfl;clear hF bv;have e10':=br e10;have HD:=aa hD;have ap:=aa az;clear hD az
          go_wp2_with fail
          refine aR.mk _ cD ?_ rfl;exact⟨ap.out.old,ap.out.size,ap.out.kept,ap.out.rd,ap.out.rt,ap.out.ne,ap.out.box,ap.out.s3,ap.out.s8,ap.out.o11,ap.out.o13⟩
         ·have g10:=al ⟨10,.data⟩ (by simp) rfl
          have d10:=hv 10 _ (by omega) g10 rfl;have g4:=al ⟨4,.data⟩ (by simp) rfl;have g9:=al ⟨9,.chain⟩ (by simp) rfl;have g1:=al ⟨1,.phase⟩ (by simp) rfl;have g6:=al ⟨6,.phase⟩ (by simp) rfl;clear al hi ho hs hv;have e112:=bT hF 10 112 (by decide) rfl (by kernel_rfl) d10;have e106:=bT hF 4 106 (by decide) rfl (by kernel_rfl) rfl;have dn:F=F.setIfInBounds 4 undef:=by(have iY:x 11=undef:=bv;rw[<-iY,hF];exact eD (by decide) rfl)
          have gE:=aa dn;clear dn;clear hF bv d10;have l9:=az.rd;rw[g4]at l9;obtain⟨ax,cx,qx⟩:=l9.slice;have qx':x 4=.slice ax (p+1) cx:=qx;rw[qx']at e106
          have ij:D 13=false:=by
           cases h:D 13 with
           | false=>rfl
           | true=>exact absurd (az.o13 h) (by rw[hD];decide)
          have cJ:W.heap[Bt]?=some (.cells (ee (.slice pa inputs.length ca) (.slice pb word.length cb) (.slice (some ⟨b1,o1,none⟩) L.length cv) (.slice am PL.length cm) (.slice ad p cd) (.slice at' p ct')) 65):=by
           have h:=az.box;rw[hD,ij]at h;exact h
          have t:=ae cJ;have f:=aD cJ;clear cJ;have HG:=aa (And.intro qx' (And.intro g4 (And.intro g9 (And.intro g1 (And.intro g6 ij)))));clear l9 qx qx' ij;have e112':=br e112;have e106':=br e106;have HD:=aa hD;have ap:=aa az;clear hD az;clear g10;clear g4;clear g9;clear g1;clear g6
          go_wp2_with fail
          refine aR.mk undef cD ?_ (congrArg (fun t=>Act.mk t _) gE.out);obtain⟨qx,k4,k9,k1,k6,ij⟩:=HG.out;exact ap.out.put (D':=bB D 11) (x':=cF x 11 undef) k4 k9 xG (fun j h1 _=>if_neg h1) rfl rfl 4 (.slice ax (p+1) cx) (by rw[<-qx,HD.out,ij,show bB D 11 13=false from ij];rfl) k1 k6 (fun _=>rfl)
         ·clear al hi ho hs hv
          have e10:F.getD 10 undef=.pointer (some ⟨Bt,0,none⟩):=eJ hF (by decide) rfl;clear hF bv;have e10':=br e10;have HD:=aa hD;have ap:=aa az;clear hD az
          go_wp2_with fail
          refine aR.mk _ cD ?_ rfl;exact⟨ap.out.old,ap.out.size,ap.out.kept,ap.out.rd,ap.out.rt,ap.out.ne,ap.out.box,ap.out.s3,ap.out.s8,ap.out.o11,ap.out.o13⟩
         ·have g12:=al ⟨12,.data⟩ (by simp) rfl
          have d12:=hv 12 _ (by omega) g12 rfl;have g9:=al ⟨9,.data⟩ (by simp) rfl;have g11:=al ⟨11,.chain⟩ (by simp) rfl;have g1:=al ⟨1,.phase⟩ (by simp) rfl;have g6:=al ⟨6,.phase⟩ (by simp) rfl;have g4:=al ⟨4,.phase⟩ (by simp) rfl;clear al hi ho hs hv;have e113:=bT hF 12 113 (by decide) rfl (by kernel_rfl) d12;have e111:=bT hF 9 111 (by decide) rfl (by kernel_rfl) rfl;have dn:F=F.setIfInBounds 5 undef:=by(have iY:x 13=undef:=bv;rw[<-iY,hF];exact eD (by decide) rfl)
          have gE:=aa dn;clear dn;clear hF bv d12;have qI:=az.rt;rw[g9]at qI;obtain⟨ax,cx,qx⟩:=qI.slice;have qx':x 9=.slice ax (p+1) cx:=qx;rw[qx']at e111
          have cJ:W.heap[Bt]?=some (.cells (ee (.slice pa inputs.length ca) (.slice pb word.length cb) (.slice (some ⟨b1,o1,none⟩) L.length cv) (.slice am PL.length cm) (x 4) (.slice at' p ct')) 65):=by
           have h:=az.box;rw[g11,hD]at h;exact h
          have t:=ae cJ;have f:=aD cJ;clear cJ;have HG:=aa (And.intro qx' (And.intro g4 (And.intro g9 (And.intro g1 (And.intro g6 g11)))));clear qI qx qx';have e113':=br e113;have e111':=br e111;have HD:=aa hD;have ap:=aa az;clear hD az;clear g12;clear g9;clear g11;clear g1;clear g6;clear g4
          go_wp2_with fail
          refine aR.mk undef cD ?_ (congrArg (fun t=>Act.mk t _) gE.out);obtain⟨qx,k4,k9,k1,k6,k11⟩:=HG.out;exact ap.out.put (D':=bB D 13) (x':=cF x 13 undef) k4 k9 xG (fun j _ h2=>if_neg h2) rfl rfl 5 (.slice ax (p+1) cx) (by rw[<-qx,HD.out,k11,show bB D 13 11=true from k11];rfl) k1 k6 (fun _=>k11)
        case tail=>
         intro x W' D F aM hv az hF;have x0:=hv 0 _ (by omega) rfl;have x1:=hv 1 _ (by omega) rfl;have x2:=hv 2 _ (by omega) rfl;have x5:=hv 5 _ (by omega) rfl;have x6:=hv 6 _ (by omega) rfl;have x7:=hv 7 _ (by omega) rfl;have x10:=hv 10 _ (by omega) rfl;have x11:=hv 11 _ (by omega) rfl;have x12:=hv 12 _ (by omega) rfl;have x13:=hv 13 _ (by omega) rfl;have l9:=az.rd;have qI:=az.rt;have bH:=az.ne;have vp:=az.box;rw[aM 4 (by omega)]at l9 bH;rw[aM 9 (by omega)]at qI bH;rw[aM 11 (by omega),aM 13 (by omega)]at vp;have Fl:DI w Wd Bt (.slice pa inputs.length ca) (.slice pb word.length cb) (.slice (some ⟨b1,o1,none⟩) L.length cv) (.slice am PL.length cm) ds ts (p+1) W':=⟨az.old,Nat.le_trans RU az.size,fun k o hk hb=>az.kept k o (CZ.out.kept k o hk hb) hb (fun e=>by have h1:=(qL.out.1.lt k e).1;have h2:=aB hk;omega) (fun e=>by have h1:=(qL.out.2.1.lt k e).1;have h2:=aB hk;omega),x 4,x 9,vp,by rw[yy zY.out.1 jM sI.out.2,Js.out.1];exact l9,by rw[yy zY.out.2 jM sI.out.1,Js.out.2];exact qI,bH⟩;have RO:=aa Fl;simp only[bg,bQ,List.setIfInBounds_toArray,List.set_cons_succ,List.set_cons_zero,Nat.reduceAdd,x0,x1,x2,x5,x6,x7,x10,x11,x12,x13]at hF;generalize x 3=y3 at hF;generalize x 4=y4 at hF;generalize x 8=y8 at hF;generalize x 9=y9 at hF;subst hF;clear hv aM az l9 qI bH vp Fl x0 x1 x2 x5 x6 x7 x10 x11 x12 x13
         go_wp2_with fail
         go_roundw
         case rel=>exact⟨p+1,by omega,by go_num,RO.out⟩
         case measure=>simp[intOf];omega
      ·go_wp2_with fail
       have CZ:=aa (xV.out.drew (aJ.drew));obtain⟨vd,vtt,bL,hd,ht,CM⟩:=CZ.out.row;have lP:=aa bL;have qL:=aa (And.intro hd (And.intro ht CM));obtain⟨ad,cd,rfl⟩:=hd.slice;obtain⟨at',ct',rfl⟩:=ht.slice;clear bL hd ht CM;have RU:Wd.heap.size<=wr.heap.size:=CZ.out.size;have uy:w.heap.size<=Wd.heap.size:=CU.out.1.size;have xG:w.heap.size<=Bt:=by omega
       have kr:=eM.out.good.n5;have sI:=aa (Nv (m:=m) (L:=L) (p:=p) (fun j hj=>dB.out j (by omega)));obtain⟨i1,rU,mG,oF,sM⟩:=info_parts Tryz.infoInt;obtain⟨dl,lH⟩:∃ dl,(ds.take p).map (Value.int .i64)=dl:=⟨_,rfl⟩;obtain⟨tl,pZ⟩:∃ tl,(ts.take p).map (Value.int .i64)=tl:=⟨_,rfl⟩;rw[lH,pZ]at qL;have Js:=aa (And.intro lH pZ);clear lH pZ
       refine jZ 14 [102,103,104,105,106,107,108,109,110,111,112,4,113,5] [some (.pointer (some ⟨Bt,4,none⟩)),
        some (.slice ad p cd),
        some (.int .i64 (-1)),
        none,
        none,
        some (.pointer (some ⟨Bt,5,none⟩)),
        some (.slice at' p ct'),
        some (.int .i64 (-1)),
        none,
        none,
        some (.pointer (some ⟨Bt,4,none⟩)),
        some (undef),
        some (.pointer (some ⟨Bt,5,none⟩)),
        some (undef)] (C22 w Wd wr Bt (.slice pa inputs.length ca) (.slice pb word.length cb) (.slice av L.length cv) (.slice am PL.length cm) (.slice ad p cd) (.slice at' p ct') p dl tl (.int .i64 (-1)) (.int .i64 (-1))) (by kernel_rfl) rfl (by decide) rfl (by kernel_rfl) (fun _=>⟨CZ.out.old,Nat.le_refl _,fun _ _ h _ _ _=>h,qL.out.1,qL.out.2.1,qL.out.2.2,lP.out,nofun,nofun,nofun,nofun⟩) ?step ?tail
       case step=>
        intro x W D i o s F hi ho hs hD bv al hv az hF;have bY:i=0\/i=1\/i=2\/i=3\/i=4\/i=5\/i=6\/i=7\/i=8\/i=9\/i=10\/i=11\/i=12\/i=13:=by omega
        rcases bY with rfl|rfl|rfl|rfl|rfl|rfl|rfl|rfl|rfl|rfl|rfl|rfl|rfl|rfl
        all_goals (obtain rfl:=cO ho.symm;obtain rfl:=cO hs.symm)
        ·clear al hi ho hs hv
         have e10:F.getD 10 undef=.pointer (some ⟨Bt,0,none⟩):=eJ hF (by decide) rfl;clear hF bv;have e10':=br e10;have HD:=aa hD;have ap:=aa az;clear hD az
         go_wp2_with fail
         refine aR.mk _ cD ?_ rfl;exact⟨ap.out.old,ap.out.size,ap.out.kept,ap.out.rd,ap.out.rt,ap.out.ne,ap.out.box,ap.out.s3,ap.out.s8,ap.out.o11,ap.out.o13⟩
        ·have g0:=al ⟨0,.data⟩ (by simp) rfl
         have d0:=hv 0 _ (by omega) g0 rfl;clear al hi ho hs hv;have e102:=bT hF 0 102 (by decide) rfl (by kernel_rfl) d0;clear hF bv d0
         have kU:D 11=false:=by
          cases h:D 11 with
          | false=>rfl
          | true=>exact absurd (az.o11 h).1 (by rw[hD];decide)
         have ij:D 13=false:=by
          cases h:D 13 with
          | false=>rfl
          | true=>exact absurd (az.o13 h) (by rw[kU];decide)
         have cJ:W.heap[Bt]?=some (.cells (ee (.slice pa inputs.length ca) (.slice pb word.length cb) (.slice av L.length cv) (.slice am PL.length cm) (.slice ad p cd) (.slice at' p ct')) 65):=by
          have h:=az.box;rw[kU,ij]at h;exact h
         have t:=ae cJ;have f:=aD cJ;clear cJ;clear kU ij f;have e102':=br e102;have HD:=aa hD;have ap:=aa az;clear hD az;clear g0
         go_wp2_with fail
         refine aR.mk _ cD ?_ rfl;exact⟨ap.out.old,ap.out.size,ap.out.kept,ap.out.rd,ap.out.rt,ap.out.ne,ap.out.box,ap.out.s3,ap.out.s8,fun e=>⟨rfl,(ap.out.o11 e).2⟩,ap.out.o13⟩
        ·clear al hi ho hs hv
         have e13:F.getD 13 undef=.int .i64 (-1):=eJ hF (by decide) rfl;clear hF bv;have e13':=br e13;have HD:=aa hD;have ap:=aa az;clear hD az;refine gI (.tmp 13) rfl rfl ?_;refine aR.mk (F.getD 13 undef) (fun c hc=>e13.trans (cO hc)) ?_ rfl;exact⟨ap.out.old,ap.out.size,ap.out.kept,ap.out.rd,ap.out.rt,ap.out.ne,ap.out.box,ap.out.s3,ap.out.s8,ap.out.o11,ap.out.o13⟩
        ·have g2:=al ⟨2,.data⟩ (by simp) rfl
         have d2:=hv 2 _ (by omega) g2 rfl;clear al hi ho hs hv;have e104:=bT hF 2 104 (by decide) rfl (by kernel_rfl) d2;clear hF bv d2;have e104':=br e104;have HD:=aa hD;have ap:=aa az;clear hD az;clear g2
         go_wp2_with fail
         refine aR.mk _ (fun c hc=>by cases hc) ?_ rfl;exact ap.out.build3
        ·have g1:=al ⟨1,.data⟩ (by simp) rfl
         have d1:=hv 1 _ (by omega) g1 rfl;have g3:=al ⟨3,.data⟩ (by simp) rfl;clear al hi ho hs hv;have e103:=bT hF 1 103 (by decide) rfl (by kernel_rfl) d1;have e105:=bT hF 3 105 (by decide) rfl (by kernel_rfl) rfl;clear hF bv d1;obtain⟨gb,qx,iK,_⟩:=az.s3 g3 hD;rw[qx]at e105;have bL:=az.rd;rw[hD]at bL;have lZ:Hid (aL W Wd.heap.size 3 1 (.slice ad p cd) p _):=aa bL
         have bj:∀ j u',[Value.int .i64 (-1)][j]?=some u'->W.cell? (Addr.add ⟨gb,0,none⟩ j)=some u':=fun j u' hj=>by
          have e1:(Addr.add ⟨gb,0,none⟩ j)=⟨gb,j,none⟩:=by unfold Addr.add;split<;>simp_all
          rw[e1,ae iK];simpa using hj
         have bZ:=aa bj;have dJ:=az.size;clear bj bL iK qx;have e103':=br e103;have e105':=br e105;have HD:=aa hD;have ap:=aa az;clear hD az;clear g1;clear g3;refine bO W rfl (.tmp 103) (.tmp 105) 36 rfl Wd.heap.size 3 i1 _ 1 8 Tryz.underlying36 rU mG oF sM rfl (by decide) _ p _ e103 lZ.out ⟨gb,0,none⟩ 1 1 [.int .i64 (-1)] e105 rfl bZ.out (by simp[Value.oneCell']) (by unfold maxLen;omega) (by omega) (by omega) ?_;intro v' w3 dE cP lG;refine aR.mk v' (fun c hc=>by cases hc) ?_ rfl;exact ap.out.app4 HD.out dE cP lG uy
        ·clear al hi ho hs hv
         have e10:F.getD 10 undef=.pointer (some ⟨Bt,0,none⟩):=eJ hF (by decide) rfl;clear hF bv;have e10':=br e10;have HD:=aa hD;have ap:=aa az;clear hD az
         go_wp2_with fail
         refine aR.mk _ cD ?_ rfl;exact⟨ap.out.old,ap.out.size,ap.out.kept,ap.out.rd,ap.out.rt,ap.out.ne,ap.out.box,ap.out.s3,ap.out.s8,ap.out.o11,ap.out.o13⟩
        ·have g5:=al ⟨5,.data⟩ (by simp) rfl
         have d5:=hv 5 _ (by omega) g5 rfl;clear al hi ho hs hv;have e107:=bT hF 5 107 (by decide) rfl (by kernel_rfl) d5;clear hF bv d5
         have kU:D 11=false:=by
          cases h:D 11 with
          | false=>rfl
          | true=>exact absurd (az.o11 h).2.2.1 (by rw[hD];decide)
         have ij:D 13=false:=by
          cases h:D 13 with
          | false=>rfl
          | true=>exact absurd (az.o13 h) (by rw[kU];decide)
         have cJ:W.heap[Bt]?=some (.cells (ee (.slice pa inputs.length ca) (.slice pb word.length cb) (.slice av L.length cv) (.slice am PL.length cm) (.slice ad p cd) (.slice at' p ct')) 65):=by
          have h:=az.box;rw[kU,ij]at h;exact h
         have t:=ae cJ;have f:=aD cJ;clear cJ;clear kU ij f;have e107':=br e107;have HD:=aa hD;have ap:=aa az;clear hD az;clear g5
         go_wp2_with fail
         refine aR.mk _ cD ?_ rfl;exact⟨ap.out.old,ap.out.size,ap.out.kept,ap.out.rd,ap.out.rt,ap.out.ne,ap.out.box,ap.out.s3,ap.out.s8,fun e=>⟨(ap.out.o11 e).1,(ap.out.o11 e).2.1,rfl,(ap.out.o11 e).2.2.2⟩,ap.out.o13⟩
        ·clear al hi ho hs hv
         have e14:F.getD 14 undef=.int .i64 (-1):=eJ hF (by decide) rfl;clear hF bv;have e14':=br e14;have HD:=aa hD;have ap:=aa az;clear hD az;refine gI (.tmp 14) rfl rfl ?_;refine aR.mk (F.getD 14 undef) (fun c hc=>e14.trans (cO hc)) ?_ rfl;exact⟨ap.out.old,ap.out.size,ap.out.kept,ap.out.rd,ap.out.rt,ap.out.ne,ap.out.box,ap.out.s3,ap.out.s8,ap.out.o11,ap.out.o13⟩
        ·have g7:=al ⟨7,.data⟩ (by simp) rfl
         have d7:=hv 7 _ (by omega) g7 rfl;clear al hi ho hs hv;have e109:=bT hF 7 109 (by decide) rfl (by kernel_rfl) d7;clear hF bv d7;have e109':=br e109;have HD:=aa hD;have ap:=aa az;clear hD az;clear g7
         go_wp2_with fail
         refine aR.mk _ (fun c hc=>by cases hc) ?_ rfl;exact ap.out.build8
        ·have g6:=al ⟨6,.data⟩ (by simp) rfl
         have d6:=hv 6 _ (by omega) g6 rfl;have g8:=al ⟨8,.data⟩ (by simp) rfl;have g4:=al ⟨4,.chain⟩ (by simp) rfl;clear al hi ho hs hv;have e108:=bT hF 6 108 (by decide) rfl (by kernel_rfl) d6;have e110:=bT hF 8 110 (by decide) rfl (by kernel_rfl) rfl;clear hF bv d6;obtain⟨gb,qx,iK,_⟩:=az.s8 g8 hD;rw[qx]at e110;have bL:=az.rt;rw[hD]at bL;have lZ:Hid (aL W Wd.heap.size 3 1 (.slice at' p ct') p _):=aa bL
         have bj:∀ j u',[Value.int .i64 (-1)][j]?=some u'->W.cell? (Addr.add ⟨gb,0,none⟩ j)=some u':=fun j u' hj=>by
          have e1:(Addr.add ⟨gb,0,none⟩ j)=⟨gb,j,none⟩:=by unfold Addr.add;split<;>simp_all
          rw[e1,ae iK];simpa using hj
         have bZ:=aa bj;have dJ:=az.size;clear bj bL iK qx;have OY:=aa g4;have e108':=br e108;have e110':=br e110;have HD:=aa hD;have ap:=aa az;clear hD az;clear g6;clear g8;clear g4;refine bO W rfl (.tmp 108) (.tmp 110) 36 rfl Wd.heap.size 3 i1 _ 1 8 Tryz.underlying36 rU mG oF sM rfl (by decide) _ p _ e108 lZ.out ⟨gb,0,none⟩ 1 1 [.int .i64 (-1)] e110 rfl bZ.out (by simp[Value.oneCell']) (by unfold maxLen;omega) (by omega) (by omega) ?_;intro v' w3 dE cP lG;refine aR.mk v' (fun c hc=>by cases hc) ?_ rfl;exact ap.out.app9 OY.out HD.out dE cP lG uy
        ·clear al hi ho hs hv
         have e10:F.getD 10 undef=.pointer (some ⟨Bt,0,none⟩):=eJ hF (by decide) rfl;clear hF bv;have e10':=br e10;have HD:=aa hD;have ap:=aa az;clear hD az
         go_wp2_with fail
         refine aR.mk _ cD ?_ rfl;exact⟨ap.out.old,ap.out.size,ap.out.kept,ap.out.rd,ap.out.rt,ap.out.ne,ap.out.box,ap.out.s3,ap.out.s8,ap.out.o11,ap.out.o13⟩
        ·have g10:=al ⟨10,.data⟩ (by simp) rfl
         have d10:=hv 10 _ (by omega) g10 rfl;have g4:=al ⟨4,.data⟩ (by simp) rfl;have g9:=al ⟨9,.chain⟩ (by simp) rfl;have g1:=al ⟨1,.phase⟩ (by simp) rfl;have g6:=al ⟨6,.phase⟩ (by simp) rfl;clear al hi ho hs hv;have e112:=bT hF 10 112 (by decide) rfl (by kernel_rfl) d10;have e106:=bT hF 4 106 (by decide) rfl (by kernel_rfl) rfl;have dn:F=F.setIfInBounds 4 undef:=by(have iY:x 11=undef:=bv;rw[<-iY,hF];exact eD (by decide) rfl)
         have gE:=aa dn;clear dn;clear hF bv d10;have l9:=az.rd;rw[g4]at l9;obtain⟨ax,cx,qx⟩:=l9.slice;have qx':x 4=.slice ax (p+1) cx:=qx;rw[qx']at e106
         have ij:D 13=false:=by
          cases h:D 13 with
          | false=>rfl
          | true=>exact absurd (az.o13 h) (by rw[hD];decide)
         have cJ:W.heap[Bt]?=some (.cells (ee (.slice pa inputs.length ca) (.slice pb word.length cb) (.slice av L.length cv) (.slice am PL.length cm) (.slice ad p cd) (.slice at' p ct')) 65):=by
          have h:=az.box;rw[hD,ij]at h;exact h
         have t:=ae cJ;have f:=aD cJ;clear cJ;have HG:=aa (And.intro qx' (And.intro g4 (And.intro g9 (And.intro g1 (And.intro g6 ij)))));clear l9 qx qx' ij;have e112':=br e112;have e106':=br e106;have HD:=aa hD;have ap:=aa az;clear hD az;clear g10;clear g4;clear g9;clear g1;clear g6
         go_wp2_with fail
         refine aR.mk undef cD ?_ (congrArg (fun t=>Act.mk t _) gE.out);obtain⟨qx,k4,k9,k1,k6,ij⟩:=HG.out;exact ap.out.put (D':=bB D 11) (x':=cF x 11 undef) k4 k9 xG (fun j h1 _=>if_neg h1) rfl rfl 4 (.slice ax (p+1) cx) (by rw[<-qx,HD.out,ij,show bB D 11 13=false from ij];rfl) k1 k6 (fun _=>rfl)
        ·clear al hi ho hs hv
         have e10:F.getD 10 undef=.pointer (some ⟨Bt,0,none⟩):=eJ hF (by decide) rfl;clear hF bv;have e10':=br e10;have HD:=aa hD;have ap:=aa az;clear hD az
         go_wp2_with fail
         refine aR.mk _ cD ?_ rfl;exact⟨ap.out.old,ap.out.size,ap.out.kept,ap.out.rd,ap.out.rt,ap.out.ne,ap.out.box,ap.out.s3,ap.out.s8,ap.out.o11,ap.out.o13⟩
        ·have g12:=al ⟨12,.data⟩ (by simp) rfl
         have d12:=hv 12 _ (by omega) g12 rfl;have g9:=al ⟨9,.data⟩ (by simp) rfl;have g11:=al ⟨11,.chain⟩ (by simp) rfl;have g1:=al ⟨1,.phase⟩ (by simp) rfl;have g6:=al ⟨6,.phase⟩ (by simp) rfl;have g4:=al ⟨4,.phase⟩ (by simp) rfl;clear al hi ho hs hv;have e113:=bT hF 12 113 (by decide) rfl (by kernel_rfl) d12;have e111:=bT hF 9 111 (by decide) rfl (by kernel_rfl) rfl;have dn:F=F.setIfInBounds 5 undef:=by(have iY:x 13=undef:=bv;rw[<-iY,hF];exact eD (by decide) rfl)
         have gE:=aa dn;clear dn;clear hF bv d12;have qI:=az.rt;rw[g9]at qI;obtain⟨ax,cx,qx⟩:=qI.slice;have qx':x 9=.slice ax (p+1) cx:=qx;rw[qx']at e111
         have cJ:W.heap[Bt]?=some (.cells (ee (.slice pa inputs.length ca) (.slice pb word.length cb) (.slice av L.length cv) (.slice am PL.length cm) (x 4) (.slice at' p ct')) 65):=by
          have h:=az.box;rw[g11,hD]at h;exact h
         have t:=ae cJ;have f:=aD cJ;clear cJ;have HG:=aa (And.intro qx' (And.intro g4 (And.intro g9 (And.intro g1 (And.intro g6 g11)))));clear qI qx qx';have e113':=br e113;have e111':=br e111;have HD:=aa hD;have ap:=aa az;clear hD az;clear g12;clear g9;clear g11;clear g1;clear g6;clear g4
         go_wp2_with fail
         refine aR.mk undef cD ?_ (congrArg (fun t=>Act.mk t _) gE.out);obtain⟨qx,k4,k9,k1,k6,k11⟩:=HG.out;exact ap.out.put (D':=bB D 13) (x':=cF x 13 undef) k4 k9 xG (fun j _ h2=>if_neg h2) rfl rfl 5 (.slice ax (p+1) cx) (by rw[<-qx,HD.out,k11,show bB D 13 11=true from k11];rfl) k1 k6 (fun _=>k11)
       case tail=>
        intro x W' D F aM hv az hF;have x0:=hv 0 _ (by omega) rfl;have x1:=hv 1 _ (by omega) rfl;have x2:=hv 2 _ (by omega) rfl;have x5:=hv 5 _ (by omega) rfl;have x6:=hv 6 _ (by omega) rfl;have x7:=hv 7 _ (by omega) rfl;have x10:=hv 10 _ (by omega) rfl;have x11:=hv 11 _ (by omega) rfl;have x12:=hv 12 _ (by omega) rfl;have x13:=hv 13 _ (by omega) rfl;have l9:=az.rd;have qI:=az.rt;have bH:=az.ne;have vp:=az.box;rw[aM 4 (by omega)]at l9 bH;rw[aM 9 (by omega)]at qI bH;rw[aM 11 (by omega),aM 13 (by omega)]at vp;have Fl:DI w Wd Bt (.slice pa inputs.length ca) (.slice pb word.length cb) (.slice av L.length cv) (.slice am PL.length cm) ds ts (p+1) W':=⟨az.old,Nat.le_trans RU az.size,fun k o hk hb=>az.kept k o (CZ.out.kept k o hk hb) hb (fun e=>by have h1:=(qL.out.1.lt k e).1;have h2:=aB hk;omega) (fun e=>by have h1:=(qL.out.2.1.lt k e).1;have h2:=aB hk;omega),x 4,x 9,vp,by rw[yy zY.out.1 jM sI.out.2,Js.out.1];exact l9,by rw[yy zY.out.2 jM sI.out.1,Js.out.2];exact qI,bH⟩;have RO:=aa Fl;simp only[bg,bQ,List.setIfInBounds_toArray,List.set_cons_succ,List.set_cons_zero,Nat.reduceAdd,x0,x1,x2,x5,x6,x7,x10,x11,x12,x13]at hF;generalize x 3=y3 at hF;generalize x 4=y4 at hF;generalize x 8=y8 at hF;generalize x 9=y9 at hF;subst hF;clear hv aM az l9 qI bH vp Fl x0 x1 x2 x5 x6 x7 x10 x11 x12 x13
        go_wp2_with fail
        go_roundw
        case rel=>exact⟨p+1,by omega,by go_num,RO.out⟩
        case measure=>simp[intOf];omega
    ·have hpn':¬ (p:Int)<m.n:=by rw[eM.out.good.hn];omega
     obtain rfl:p=n:=by omega
     obtain⟨vd,vtt,bL,hd,ht,_⟩:=xV.out.row;have lP:=aa bL;have qL:=aa (And.intro hd ht);obtain⟨ad,cd,rfl⟩:=hd.slice;obtain⟨at',ct',rfl⟩:=ht.slice;have t1:=ae bL;have hR:=xV.out.kept _ _ (CU.out.2.1 _ _ (ak H3.out.1 (ak jf.out.1 jx.out)) rfl (by omega)) (by omega);have hE:=xV.out.kept _ _ (CU.out.2.1 _ _ (ak H3.out.1 (ak jf.out.1 jP.out)) rfl (by omega)) (by omega);have t2:=ae hR;have f2:=aD hR;have t3:=ae hE;have f3:=aD hE;have nC:=aa (And.intro hR hE);have hdB:D≠Bt:=by omega
     have hK0:=xV.out.kept _ _ HK.out hdB;have HK0:=aa hK0;clear hR hE bL hd ht hK0
     go_wp2_with fail
     clear t1 t2 t3 f2 f3;obtain⟨p1,p2,p3,p4⟩:=AA nC.out.1 rfl (.slice pa inputs.length ca) (.slice pb word.length cb) (.slice av L.length cv) (.slice am PL.length cm) (.slice ad p cd) (.slice at' p ct') _ rfl;have hE6:=(p2 _ (show w.heap.size+1+1≠w.heap.size+1 by omega)).trans nC.out.2;have hD1:D≠w.heap.size+1:=by omega
     have hD2:D≠w.heap.size+1+1:=by omega
     have hK6:=(p2 _ hD1).trans HK0.out;refine dH (aI (B:=w.heap.size+1+1) hK6 hD2 _ _) (zd _ (w.heap.size+1) (w.heap.size+1+1) _ _ _ _ _ _ _ 0 _ _ rfl rfl ((World.putObj_heap_other (by omega)).trans (aI (B:=w.heap.size+1+1) p1 (by omega) _ _)) ((World.putObj_heap_other (by omega)).trans (by rw[aE hE6];rfl))) ?_;have gD:w1.heap.size<=W2.heap.size:=jf.out.1.size;refine⟨_,_,_,_,_,_,rfl,?_,cT (by omega) ((p4 _ _ (by omega) xV.out.old).setCell (p:=⟨w.heap.size+1+1,0,none⟩) (by dsimp only;omega) _)⟩;intro W' Jt;have KV:∀ g o,w.heap.size+1+1<g->wr.heap[g]?=some o->o.isCells=true->W'.heap[g]?=some o:=fun g o hg ho hc=>Jt g o (by omega) ((World.putObj_heap_other (fun e=>by subst e;rw[HK0.out]at ho;cases ho;cases hc)).trans ((Below.heap_setCell _ ⟨w.heap.size+1+1,0,none⟩ _ _ (show g≠w.heap.size+1+1 by omega)).trans ((p2 g (by omega)).trans ho))) hc
     have hbwE:=aB jP.out;have U':∀ g o,W3.heap[g]?=some o->o.isCells=true->g≠Bt->wr.heap[g]?=some o:=fun g o ho hc e=>xV.out.kept g o (CU.out.2.1 g o ho hc e) e
     have hdw:=aB HK.out;have ks:=H3.out.1.size;have hs0:=aB H0.out.2.2;have jg:=aG.size
     have IC:eQ m inputs word=⟨inputs,word,L,xs,ds,ts⟩:=by
      unfold eQ;dsimp only;rw[HL.out,show m.n.toNat=p by(rw[eM.out.good.hn];simp),HP.out,Vx.out,zY.out.1,zY.out.2]
     rw[IC];have ed:ds.length=p:=by rw[<-zY.out.1];simp
     have et:ts.length=p:=by rw[<-zY.out.2];simp
     have kr:=eM.out.good.n5;refine⟨?_,?_,?_,?_,?_,?_⟩
     ·exact lA ((H3.out.2.2.2.1.ck_ne H3.out.2.2.1 (by decide) U').cells_keep (fun g o hg=>KV g o (by omega))) (na HI.out) (by have:=eM.out.il;omega)
     ·exact lw ((H3.out.2.2.2.2.ck_ne H3.out.2.2.1 (by decide) U').cells_keep (fun g o hg=>KV g o (by omega))) (G' HW.out) (by have:=eM.out.wl;have:=eM.out.good.r6;omega)
     ·exact FC.out W' fun k o hk ho hc=>KV k o (by omega) (U' k o (ak H3.out.1 (ak jf.out.1 ho)) hc (by have:=aB ho;omega)) hc
     ·have h1:aL wr W3.heap.size 165 4 (.slice am PL.length cm) PL.length (kI (xs.take PL.length)):=KC.out.2.keep fun g o hg ho=>xV.out.kept g o ho (KC.out.2.ne KC.out.1 (by decide) g hg)
      rw[List.take_of_length_le (by rw[zC.out];omega)]at h1;have h3:aL wr W3.heap.size 165 4 (.slice am PL.length cm) xs.length (kI xs):=by rw[zC.out];exact h1
      exact G8 (h3.cells_keep (fun g o hg=>KV g o (by omega))) (fun x hx=>by
       rw[<-Vx.out]at hx;obtain⟨y,hy,rfl⟩:=List.mem_map.1 hx;have h5:=wc.out y hy;rw[<-HL.out]
       exact eM.out.msg h5.1 h5.2.1 h5.2.2.1 h5.2.2.2) (by rw[zC.out];have:=HPLL.out;omega)
     ·have h1:=qL.out.1
      rw[List.take_of_length_le (by omega)]at h1;have h2:aL wr Wd.heap.size 3 1 (.slice ad p cd) ds.length (ds.map (Value.int .i64)):=by rw[ed];exact h1
      exact lA (h2.cells_keep (fun g o hg=>KV g o (by omega))) (fun x hx=>by
       rw[<-zY.out.1]at hx;obtain⟨j,hj,rfl⟩:=List.mem_map.1 hx;rw[List.mem_range]at hj;have h5:=eM.out.dec hj;rw[HL.out]at h5;unfold bK
       omega) (show ds.length<=_ by omega)
     ·have h1:=qL.out.2
      rw[List.take_of_length_le (by omega)]at h1;have h2:aL wr Wd.heap.size 3 1 (.slice at' p ct') ts.length (ts.map (Value.int .i64)):=by rw[et];exact h1
      exact lA (h2.cells_keep (fun g o hg=>KV g o (by omega))) (fun x hx=>by
       rw[<-zY.out.2]at hx;obtain⟨j,hj,rfl⟩:=List.mem_map.1 hx;have h5:=eM.out.when j;have h6:=eM.out.good.r6;rw[HL.out]at h5;unfold bK
       omega) (show ts.length<=_ by omega)
  case stop=>
   intro D c i T W _ _ h;exact h.elim
theorem Ly(m:Mac) (vf vy vt vo vi vw:Value) (inputs:List Int) (word:List Rd) (w:World) (hf:bF w vf m.first) (hy:eZ w vy m.syms) (ht:dh w vt m.steps) (ho:fj w vo m.out) (hi:aU w vi inputs) (hw:bN w vw word) :
  Calls Tryz.prog 38 #[.agg (bX m vf vy vt vo),vi,vw] w fun e w'=>∃ ui uw us um ud ut,e=.returned (.tuple #[.agg (ee ui uw us um ud ut),.int .i64 (playE m inputs word)])/\(playE m inputs word=0->IsTr w' (eQ m inputs word) ui uw us um ud ut)/\(playE m inputs word≠0->ee ui uw us um ud ut=zeroTr)/\Below w.heap.size w w':=by
 refine(sS m vf vy vt vo vi vw inputs word w hf hy ht ho hi hw).mono ?_;rintro e w' ⟨ui,uw,us,um,ud,ut,rfl,h1,h2,hb⟩;exact⟨ui,uw,us,um,ud,ut,rfl,fun h=>h1 h w' (cQ.refl _ _),h2,hb⟩
end Go.Proofs.YtkfgpnbpcpdclaaGreat
namespace Go.Proofs.YtkfgpnbpcpdclaaGreat
open Go.RowKit Go Go.Shelf
theorem xb(t:Tr) (vi vw vs vm vd vt:Value) (w:World) (ht:IsTr w t vi vw vs vm vd vt) :
  Calls Tryz.prog 136 #[.agg (ee vi vw vs vm vd vt)] w fun e w'=>e=.returned (.int .i64 (decisionsE t))/\Below w.heap.size w w':=by
 obtain⟨hi,hw,hs,hm,hd,xY⟩:=ht;obtain⟨pi,ci,rfl,li1,li2,_⟩:=hi.at;obtain⟨pw,cw,rfl,lw1,lw2,_⟩:=hw.at;obtain⟨ps,cs,rfl,ls1,ls2,_⟩:=hs.at;obtain⟨pm,cm,rfl,_⟩:=hm.at;obtain⟨pd,cd,rfl,ld1,ld2,ed⟩:=hd.at;obtain⟨pt,ct,rfl,lt1,lt2,et⟩:=xY.at;clear hi hw hs hm hd xY;have ED:=aa ed;have ET:=aa et;clear ed et;have HV:Hid (decisionsE t=if t.dec.length≠t.inp.length\/t.times.length≠t.inp.length then 15 else aP t.dec.length (gm t)):=by exact rfl
 by_cases h1:t.dec.length=t.inp.length
 case neg=>
  have d1:((t.dec.length:Int) != (t.inp.length:Int))=true:=by simp;omega
  have db:Hid (decisionsE t=15):=by(have h:decisionsE t=15:=by(rw[HV.out,if_pos (Or.inl h1)]));exact h
  clear h1
  go_enter Tryz.func136,Tryz.ntmps136
  go_wp2_with fail
  go_ret
  exact⟨aC db.out.symm,by go_grown⟩
 have d1:((t.dec.length:Int) != (t.inp.length:Int))=false:=by simp;omega
 by_cases h2:t.times.length=t.inp.length
 case neg=>
  have d2:((t.times.length:Int) != (t.inp.length:Int))=true:=by simp;omega
  have db:Hid (decisionsE t=15):=by(have h:decisionsE t=15:=by(rw[HV.out,if_pos (Or.inr h2)]));exact h
  clear h1 h2
  go_enter Tryz.func136,Tryz.ntmps136
  go_wp2_with fail
  go_ret
  exact⟨aC db.out.symm,by go_grown⟩
 have d2:((t.times.length:Int) != (t.inp.length:Int))=false:=by simp;omega
 have db:Hid (decisionsE t=aP t.dec.length (gm t)):=by(have h:decisionsE t=aP t.dec.length (gm t):=by(rw[HV.out,if_neg (by omega)]));exact h
 have H12:Hid (t.dec.length=t.times.length):=by(have h:t.dec.length=t.times.length:=by omega);exact h
 clear h1 h2 HV
 go_enter Tryz.func136,Tryz.ntmps136
 go_wp2_with fail
 clear d1 d2;refine bw (fun W=>Below w.heap.size w W/\W.heap[w.heap.size]?=some (.cells (ee (.slice pi t.inp.length ci) (.slice pw t.word.length cw) (.slice ps t.states.length cs) (.slice pm t.msgs.length cm) (.slice pd t.dec.length cd) (.slice pt t.times.length ct)) 65)) ⟨by go_grown,ar _ _⟩ (fun W0 bd=>?_);obtain⟨aH,ow⟩:=bd;have v8:=aa ow;clear ow
 go_loopw [24] (fun i wr=>Below W0.heap.size W0 wr/\∃ k:Nat,k<=t.dec.length/\i=.int .i64 k/\∀ j,j<k->gm t j=0) (fun i _=>t.dec.length - (intOf i).toNat)
 case atStart=>exact⟨Below.refl _ _,0,by omega,rfl,by simp⟩
 case round=>
  obtain⟨aJ,k,hk,rfl,aO⟩:=hrel;have H:=aa aO;clear aO;have bS:=aj aH aJ;by_cases aF:k<t.dec.length
  ·have gD:k<t.times.length:=by have:=H12.out;omega
   obtain⟨b1,o1,rfl,h3⟩:=ED.out k aF;obtain⟨b2,o2,rfl,h4⟩:=ET.out k gD;rw[Nat.mul_one]at h3 h4;have c3:=ay bS h3.1;have c4:=ay bS h4.1;have Fs:=aa h4.1
   have HE:Hid (gm t k=if !inB t.times[k] (-1) t.word.length || !inB t.dec[k] (-1) 7 then 2 else if decide (t.dec[k]=-1) != decide (t.times[k]=-1) then 3 else 0):=by
    (have h:gm t k=if !inB t.times[k] (-1) t.word.length || !inB t.dec[k] (-1) 7 then 2 else if decide (t.dec[k]=-1) != decide (t.times[k]=-1) then 3 else 0:=by(unfold gm;rw[aA 0 aF,aA 0 gD]));exact h
   clear h3 h4;generalize t.dec[k]=dk at c3 HE;generalize t.times[k]=tk at c4 Fs HE
   go_wp2_with fail
   clear c3 c4;have hs0:=bS.size;cases hq:inB tk (-1) t.word.length
   ·have HQ:=aa hq;clear hq
    have mj:Hid (gm t k=2):=by(have h:gm t k=2:=by(rw[HE.out,HQ.out];rfl));exact h
    refine kN 16 [30,31,32,33,34,35,36,37,38,39,40,41,42,43,44,29] [MP.eq (.pointer (some ⟨w.heap.size,1,none⟩)),
     MP.eq (.slice pw t.word.length cw),
     MP.eq (.int .i64 t.word.length),
     MP.outF (-1) t.word.length,
     MP.eq (.pointer (some ⟨w.heap.size,5,none⟩)),
     MP.eq (.slice (some ⟨b2,o2,none⟩) t.times.length ct),
     MP.eq (.int .i64 k),
     MP.eq (.pointer (some ⟨b2,o2+k,none⟩)),
     MP.eq (.int .i64 tk),
     MP.eq (.bool true),
     MP.eq (.bool true),
     MP.any,
     MP.any,
     MP.any,
     MP.eq (.bool true),
     MP.eq (.bool true)] (by kernel_rfl) rfl (by decide) rfl (by kernel_rfl) ?step ?tail
    case step=>
     intro x W i o s F hi ho hs hB al hF;have bY:i=0\/i=1\/i=2\/i=3\/i=4\/i=5\/i=6\/i=7\/i=8\/i=9\/i=10\/i=11\/i=12\/i=13\/i=14\/i=15:=by omega
     rcases bY with rfl|rfl|rfl|rfl|rfl|rfl|rfl|rfl|rfl|rfl|rfl|rfl|rfl|rfl|rfl|rfl
     all_goals (obtain rfl:=cO ho.symm;obtain rfl:=cO hs.symm;simp only[bg,bQ,List.setIfInBounds_toArray,List.set_cons_succ,List.set_cons_zero,Nat.reduceAdd]at hF)
     ·clear al hi ho hs
      subst hF
      go_wp2_with fail
      exact bG _ (Below.refl _ _) rfl
     ·have d0:=bz (al ⟨0,.data⟩ (by simp) rfl)
      clear al hi ho hs;have t1:=ae (ak (aj aJ hB) v8.out);simp only[d0]at hF;subst hF
      go_wp2_with fail
      exact bG _ (Below.refl _ _) rfl
     ·have d1:=bz (al ⟨1,.data⟩ (by simp) rfl)
      clear al hi ho hs;simp only[d1]at hF;subst hF
      go_wp2_with fail
      exact bG _ (Below.refl _ _) rfl
     ·have d2:=bz (al ⟨2,.data⟩ (by simp) rfl)
      clear al hi ho hs;simp only[d2]at hF;subst hF
      go_wp2_with fail
      refine(mz _ _ _).mono ?_;rintro e w9 ⟨v,rfl,ug,eA⟩;have CJ:=aa ug;obtain⟨_,_,rfl,_⟩:=ug
      go_wp2_with fail
      exact bG _ eA CJ.out
     ·clear al hi ho hs
      subst hF
      go_wp2_with fail
      exact bG _ (Below.refl _ _) rfl
     ·have d4:=bz (al ⟨4,.data⟩ (by simp) rfl)
      clear al hi ho hs;have t1:=ae (ak (aj aJ hB) v8.out);simp only[d4]at hF;subst hF
      go_wp2_with fail
      exact bG _ (Below.refl _ _) rfl
     ·clear al hi ho hs
      subst hF
      go_wp2_with fail
      exact bG _ (Below.refl _ _) rfl
     ·have d5:=bz (al ⟨5,.data⟩ (by simp) rfl)
      have d6:=bz (al ⟨6,.data⟩ (by simp) rfl);clear al hi ho hs;simp only[d5,d6]at hF;subst hF
      go_wp2_with fail
      exact bG _ (Below.refl _ _) rfl
     ·have d7:=bz (al ⟨7,.data⟩ (by simp) rfl)
      clear al hi ho hs;have c4:=ay (aj bS hB) Fs.out;simp only[d7]at hF;subst hF
      go_wp2_with fail
      exact bG _ (Below.refl _ _) rfl
     ·have d3:=al ⟨3,.data⟩ (by simp) rfl
      have d8:=bz (al ⟨8,.data⟩ (by simp) rfl);clear al hi ho hs;obtain⟨b9,c9,e9,f9,g9⟩:=d3;have iU:=aa (nP tk _ _ b9 c9 W f9 g9);rw[HQ.out]at iU;simp only[d8,e9]at hF;subst hF
      go_wp2_with fail
      refine iU.out.mono ?_;rintro e w9 ⟨rfl,rfl⟩
      go_wp2_with fail
      exact bG _ (Below.refl _ _) rfl
     ·have d9:=bz (al ⟨9,.data⟩ (by simp) rfl)
      clear al hi ho hs;simp only[d9]at hF;subst hF
      go_wp2_with fail
      exact bG _ (Below.refl _ _) rfl
     ·have d10:=bz (al ⟨10,.guard⟩ (by simp) rfl)
      clear al hi ho hs;simp only[d10]at hF;subst hF
      go_wp2_with fail
      exact bG undef (Below.refl _ _) trivial
     ·have d10:=bz (al ⟨10,.guard⟩ (by simp) rfl)
      clear al hi ho hs;simp only[d10]at hF;subst hF
      go_wp2_with fail
      exact bG undef (Below.refl _ _) trivial
     ·have d10:=bz (al ⟨10,.guard⟩ (by simp) rfl)
      clear al hi ho hs;simp only[d10]at hF;subst hF
      go_wp2_with fail
      exact bG undef (Below.refl _ _) trivial
     ·have d10:=bz (al ⟨10,.data⟩ (by simp) rfl)
      clear al hi ho hs;simp only[d10]at hF;subst hF
      go_wp2_with fail
      exact bG _ (Below.refl _ _) rfl
     ·have d14:=bz (al ⟨14,.data⟩ (by simp) rfl)
      clear al hi ho hs;simp only[d14]at hF;subst hF
      go_wp2_with fail
      exact bG _ (Below.refl _ _) rfl
    case tail=>
     intro x W F hB aM hF;have e15:x 15=.bool true:=aM 15 (by omega);clear aM;simp only[bg,bQ,List.setIfInBounds_toArray,List.set_cons_succ,List.set_cons_zero,Nat.reduceAdd]at hF;simp only[e15]at hF;subst hF
     go_wp2_with fail
     go_ret
     exact⟨aC (by rw[db.out,<-bh k 2 aF H.out mj.out (by decide)]),aj bS hB⟩
   ·have HQ:=aa hq;clear hq
    have mj:Hid (gm t k=if !inB dk (-1) 7 then 2 else if decide (dk=-1) != decide (tk=-1) then 3 else 0):=by(have h:gm t k=if !inB dk (-1) 7 then 2 else if decide (dk=-1) != decide (tk=-1) then 3 else 0:=by(rw[HE.out,HQ.out];rfl));exact h
    clear HE
    refine kN 16 [30,31,32,33,34,35,36,37,38,39,40,41,42,43,44,29] [MP.eq (.pointer (some ⟨w.heap.size,1,none⟩)),
     MP.eq (.slice pw t.word.length cw),
     MP.eq (.int .i64 t.word.length),
     MP.outF (-1) t.word.length,
     MP.eq (.pointer (some ⟨w.heap.size,5,none⟩)),
     MP.eq (.slice (some ⟨b2,o2,none⟩) t.times.length ct),
     MP.eq (.int .i64 k),
     MP.eq (.pointer (some ⟨b2,o2+k,none⟩)),
     MP.eq (.int .i64 tk),
     MP.eq (.bool false),
     MP.eq (.bool false),
     MP.outF (-1) 7,
     MP.eq (.int .i64 dk),
     MP.eq (.bool (!inB dk (-1) 7)),
     MP.eq (.bool (!inB dk (-1) 7)),
     MP.eq (.bool (!inB dk (-1) 7))] (by kernel_rfl) rfl (by decide) rfl (by kernel_rfl) ?step ?tail
    case step=>
     intro x W i o s F hi ho hs hB al hF;have bY:i=0\/i=1\/i=2\/i=3\/i=4\/i=5\/i=6\/i=7\/i=8\/i=9\/i=10\/i=11\/i=12\/i=13\/i=14\/i=15:=by omega
     rcases bY with rfl|rfl|rfl|rfl|rfl|rfl|rfl|rfl|rfl|rfl|rfl|rfl|rfl|rfl|rfl|rfl
     all_goals (obtain rfl:=cO ho.symm;obtain rfl:=cO hs.symm;simp only[bg,bQ,List.setIfInBounds_toArray,List.set_cons_succ,List.set_cons_zero,Nat.reduceAdd]at hF)
     ·clear al hi ho hs
      subst hF
      go_wp2_with fail
      exact bG _ (Below.refl _ _) rfl
     ·have d0:=bz (al ⟨0,.data⟩ (by simp) rfl)
      clear al hi ho hs;have t1:=ae (ak (aj aJ hB) v8.out);simp only[d0]at hF;subst hF
      go_wp2_with fail
      exact bG _ (Below.refl _ _) rfl
     ·have d1:=bz (al ⟨1,.data⟩ (by simp) rfl)
      clear al hi ho hs;simp only[d1]at hF;subst hF
      go_wp2_with fail
      exact bG _ (Below.refl _ _) rfl
     ·have d2:=bz (al ⟨2,.data⟩ (by simp) rfl)
      clear al hi ho hs;simp only[d2]at hF;subst hF
      go_wp2_with fail
      refine(mz _ _ _).mono ?_;rintro e w9 ⟨v,rfl,ug,eA⟩;have CJ:=aa ug;obtain⟨_,_,rfl,_⟩:=ug
      go_wp2_with fail
      exact bG _ eA CJ.out
     ·clear al hi ho hs
      subst hF
      go_wp2_with fail
      exact bG _ (Below.refl _ _) rfl
     ·have d4:=bz (al ⟨4,.data⟩ (by simp) rfl)
      clear al hi ho hs;have t1:=ae (ak (aj aJ hB) v8.out);simp only[d4]at hF;subst hF
      go_wp2_with fail
      exact bG _ (Below.refl _ _) rfl
     ·clear al hi ho hs
      subst hF
      go_wp2_with fail
      exact bG _ (Below.refl _ _) rfl
     ·have d5:=bz (al ⟨5,.data⟩ (by simp) rfl)
      have d6:=bz (al ⟨6,.data⟩ (by simp) rfl);clear al hi ho hs;simp only[d5,d6]at hF;subst hF
      go_wp2_with fail
      exact bG _ (Below.refl _ _) rfl
     ·have d7:=bz (al ⟨7,.data⟩ (by simp) rfl)
      clear al hi ho hs;have c4:=ay (aj bS hB) Fs.out;simp only[d7]at hF;subst hF
      go_wp2_with fail
      exact bG _ (Below.refl _ _) rfl
     ·have d3:=al ⟨3,.data⟩ (by simp) rfl
      have d8:=bz (al ⟨8,.data⟩ (by simp) rfl);clear al hi ho hs;obtain⟨b9,c9,e9,f9,g9⟩:=d3;have iU:=aa (nP tk _ _ b9 c9 W f9 g9);rw[HQ.out]at iU;simp only[d8,e9]at hF;subst hF
      go_wp2_with fail
      refine iU.out.mono ?_;rintro e w9 ⟨rfl,rfl⟩
      go_wp2_with fail
      exact bG _ (Below.refl _ _) rfl
     ·have d9:=bz (al ⟨9,.data⟩ (by simp) rfl)
      clear al hi ho hs;simp only[d9]at hF;subst hF
      go_wp2_with fail
      exact bG _ (Below.refl _ _) rfl
     ·have d10:=bz (al ⟨10,.guard⟩ (by simp) rfl)
      clear al hi ho hs;simp only[d10]at hF;subst hF
      go_wp2_with fail
      refine(mz _ _ _).mono ?_;rintro e w9 ⟨v,rfl,ug,eA⟩;have CJ:=aa ug;obtain⟨_,_,rfl,_⟩:=ug
      go_wp2_with fail
      exact bG _ eA CJ.out
     ·have d10:=bz (al ⟨10,.guard⟩ (by simp) rfl)
      clear al hi ho hs;simp only[d10]at hF;subst hF
      go_wp2_with fail
      exact bG _ (Below.refl _ _) rfl
     ·have d11:=al ⟨11,.data⟩ (by simp) rfl
      have d12:=bz (al ⟨12,.data⟩ (by simp) rfl);have d10:=bz (al ⟨10,.guard⟩ (by simp) rfl);clear al hi ho hs;obtain⟨b9,c9,e9,f9,g9⟩:=d11;have iU:=aa (nP dk _ _ b9 c9 W f9 g9);simp only[d12,d10,e9]at hF;subst hF
      go_wp2_with fail
      refine iU.out.mono ?_;rintro e w9 ⟨rfl,rfl⟩
      go_wp2_with fail
      exact bG _ (Below.refl _ _) rfl
     ·have d10:=bz (al ⟨10,.data⟩ (by simp) rfl)
      have d13:=bz (al ⟨13,.data⟩ (by simp) rfl);clear al hi ho hs;simp only[d10,d13]at hF;subst hF
      go_wp2_with fail
      exact bG _ (Below.refl _ _) rfl
     ·have d14:=bz (al ⟨14,.data⟩ (by simp) rfl)
      clear al hi ho hs;simp only[d14]at hF;subst hF
      go_wp2_with fail
      exact bG _ (Below.refl _ _) rfl
    case tail=>
     intro x W F hB aM hF;have e15:x 15=.bool (!inB dk (-1) 7):=aM 15 (by omega);clear aM;simp only[bg,bQ,List.setIfInBounds_toArray,List.set_cons_succ,List.set_cons_zero,Nat.reduceAdd]at hF;simp only[e15]at hF;subst hF;have ma:=aj bS hB;cases hq:inB dk (-1) 7
     ·have Fh:Hid (gm t k=2):=by(have h:gm t k=2:=by(rw[mj.out,hq];rfl));exact h
      clear hq
      go_wp2_with fail
      go_ret
      exact⟨aC (by rw[db.out,<-bh k 2 aF H.out Fh.out (by decide)]),ma⟩
     ·have Fh:Hid (gm t k=if decide (dk=-1) != decide (tk=-1) then 3 else 0):=by(have h:gm t k=if decide (dk=-1) != decide (tk=-1) then 3 else 0:=by(rw[mj.out,hq];rfl));exact h
      clear hq;have t1:=ae (ak (aj aJ hB) v8.out);have c4:=ay ma Fs.out;by_cases ha:dk=-1<;>by_cases hb:tk=-1
      ·have IV:Hid (gm t k=0):=by(have h:gm t k=0:=by(rw[Fh.out,ha,hb];rfl));exact h
       subst ha hb
       go_wp2_with fail
       go_roundw
       case rel=>exact⟨aj aJ hB,k+1,by omega,by go_num,aQ H.out IV.out⟩
       case measure=>simp[intOf];omega
      ·have IV:Hid (gm t k=3):=by(have h:gm t k=3:=by(rw[Fh.out];simp[ha,hb]));exact h
       have aS:(tk == -1)=false:=by simpa using hb
       have bA:decide (tk=-1)=false:=by simpa using hb
       subst ha
       go_wp2_with fail
       go_ret
       exact⟨aC (by rw[db.out,<-bh k 3 aF H.out IV.out (by decide)]),ma⟩
      ·have IV:Hid (gm t k=3):=by(have h:gm t k=3:=by(rw[Fh.out];simp[ha,hb]));exact h
       have ha2:(dk == -1)=false:=by simpa using ha
       have ha3:decide (dk=-1)=false:=by simpa using ha
       subst hb
       go_wp2_with fail
       go_ret
       exact⟨aC (by rw[db.out,<-bh k 3 aF H.out IV.out (by decide)]),ma⟩
      ·have IV:Hid (gm t k=0):=by(have h:gm t k=0:=by(rw[Fh.out];simp[ha,hb]));exact h
       have ha2:(dk == -1)=false:=by simpa using ha
       have ha3:decide (dk=-1)=false:=by simpa using ha
       have aS:(tk == -1)=false:=by simpa using hb
       have bA:decide (tk=-1)=false:=by simpa using hb
       go_wp2_with fail
       go_roundw
       case rel=>exact⟨aj aJ hB,k+1,by omega,by go_num,aQ H.out IV.out⟩
       case measure=>simp[intOf];omega
  ·go_wp2_with fail
   go_ret
   exact⟨aC (by rw[db.out,cp];intro j hj;exact H.out j (by omega)),bS⟩
theorem JO(t:Tk) (vc:Value) (i f:Int) (w:World) (hv:bJ w vc t.cases) :
  Calls Tryz.prog 201 #[.agg #[.int .i64 t.n,.int .i64 t.ins,.int .i64 t.outs,vc],.int .i64 i,.int .i64 f] w fun e w'=>∃ u,e=.returned (.tuple #[u,.int .i64 (jm t i f)])/\gJ w' w.heap.size u (bI t i f)/\Below w.heap.size w w':=by
 have G:=aa hv;obtain⟨pc,cc,rfl,l1,m1,e1⟩:=hv.at;clear hv;have E:=aa e1;clear e1
 go_enter Tryz.func201,Tryz.ntmps201
 go_wp2_with fail
 refine aT (fun W=>Below w.heap.size w W/\W.heap[w.heap.size]?=some (.cells #[.int .i64 t.n,.int .i64 t.ins,.int .i64 t.outs,.slice pc t.cases.length cc] 24)) ⟨by go_grown,ar _ _⟩ (fun W0 bd=>?_);obtain⟨aH,bD⟩:=bd;refine(No t _ i f W0 (G.out.up up_case aH)).mono ?_;rintro e w1 ⟨rfl,aG⟩;have bU:=aj aH aG;have t1:=ae (ak aG bD);clear bD;by_cases hp:jm t i f=0
 case neg=>
  have HV:Hid (bI t i f=[]):=by(have h:bI t i f=[]:=by(unfold bI;rw[if_pos hp]));exact h
  generalize hE:jm t i f=et at hp;have HE:=aa hE;clear hE;have D7:(et != 0)=true:=by simpa using hp
  go_wp2_with fail
  go_ret2
  refine⟨.slice none 0 0,by rw[HE.out];rfl,?_,bU⟩;rw[HV.out];exact⟨[],by simpa using World.ownsRow_nil _ _ _ _,fun i hi=>by simp at hi⟩
 obtain⟨ht,fZ,uA⟩:=El hp;have HV:Hid (bI t i f=i9 (t.cases.getD i.toNat default) f):=by(have h:bI t i f=i9 (t.cases.getD i.toNat default) f:=by(unfold bI;rw[if_neg (by simpa using hp)]));exact h
 rw[hp];have HE:=aa hp;clear hp;obtain⟨k,rfl⟩:∃ k:Nat,i=k:=⟨i.toNat,by omega⟩;simp only[Int.toNat_natCast]at uA HV;have eM:=aa (Ki ((dY ht).2.2.2.2 t.cases[k] (List.getElem_mem uA)) f);have HN:=aa (dY ht).1;clear ht fZ;have FC:Hid (bI t k f=i9 t.cases[k] f):=by(have h:bI t k f=i9 t.cases[k] f:=by(rw[HV.out,aA default uA]));exact h
 clear HV;obtain⟨b1,o1,rfl,⟨x0,cx0,gi⟩,⟨x1,cx1,dV⟩,⟨x2,cx2,fF⟩⟩:=E.out k uA;have d0:=ay bU cx0;have d1:=ay bU cx1;have d2:=ay bU cx2;have gk:=aa (dV.up up_ints bU);have mJ:=aa (fF.up up_ints bU);obtain⟨p0,q0,rfl,_⟩:=gi;obtain⟨p1,q1,rfl,_⟩:=dV;obtain⟨p2,q2,rfl,_⟩:=fF;clear cx0 cx1 cx2
 go_wp2_with fail
 refine(GX _ _ _ t.cases[k] f w1 gk.out mJ.out).mono ?_;rintro e w2 ⟨u,rfl,hu,aS⟩;have HU:=aa hu;obtain⟨pu,qu,rfl,_⟩:=hu;clear t1 d0 d1 d2
 go_wp2_with fail
 refine(Ls _ _ w2 HU.out (Nat.le_trans eM.out.1 (by omega)) (fun x hx=>by have h1:=eM.out.2 x hx;have h2:=HN.out;omega)).mono ?_;rintro e w3 ⟨u3,rfl,Pr,bA⟩;have fy:=aj bU aS
 go_wp2_with fail
 go_ret2
 refine⟨u3,by rw[HE.out];rfl,?_,aj fy bA⟩;rw[FC.out];obtain⟨xs,h1,h2⟩:=Pr;exact⟨xs,lr h1 fy.size,fun i hi hx=>lr (h2 i hi hx) fy.size⟩
def hZ(w:World) (b:Nat) (f:List (Rd × Int)):Prop:=
 ∃ es clock,w.heap[b]?=some (.map es clock)/\es.toList.map (fun e=>(e.key,e.val))=f.map (fun p=>(p.1.v,Value.int .i64 p.2))
def gA(f:List (Rd × Int)) (r:Rd):Option Int:=(f.find? fun p=>decide (r=p.1)).map (·.2)
theorem sU(em:Bool) (r:Rd) (w:World):(Instr.checkKey em 10000 52 r.v).run Tryz.prog w=.ok () w:=by kernel_rfl
theorem AC(a b:Rd) (w:World):(Op.equal 52 a.v b.v).run Tryz.prog w=.ok (decide (a=b)) w:=lT 9996 a b w
theorem vK(r:Rd) (w:World):∀ (f:List (Rd × Int)) (es:List MapEntry) (i:Nat),es.map (fun e=>(e.key,e.val))=f.map (fun p=>(p.1.v,Value.int .i64 p.2)) →
  (gA f r=none->(Instr.findAsking 52 r.v es i).run Tryz.prog w=.ok none w)/\(∀ x,gA f r=some x->∃ j,(Instr.findAsking 52 r.v es i).run Tryz.prog w=.ok (some (j,.int .i64 x)) w)
 | [],es,i,h=>by
  obtain rfl:es=[]:=by simpa using h
  exact⟨fun _=>rfl,fun x hx=>by simp[gA]at hx⟩
 | p :: f,es,i,h=>by
  cases es with
  | nil=>simp at h
  | cons e es=>
   simp only[List.map_cons,List.cons.injEq,Prod.mk.injEq]at h;obtain⟨⟨hk,hv⟩,h⟩:=h;have ih:=vK r w f es (i+1) h;unfold Instr.findAsking;by_cases hr:r=p.1
   ·subst hr
    refine⟨fun hn=>by simp[gA]at hn,fun x hx=>?_⟩;have rS:p.2=x:=by simpa[gA] using hx
    refine⟨i,?_⟩;simp[Sem.run_bind,hk,AC,hv,rS]
   ·have e1:gA (p :: f) r=gA f r:=by simp[gA,hr]
    rw[e1];refine⟨fun hn=>?_,fun x hx=>?_⟩
    ·simp[Sem.run_bind,hk,AC,hr,ih.1 hn]
    ·obtain⟨j,hj⟩:=ih.2 x hx
     exact⟨j,by simp[Sem.run_bind,hk,AC,hr,hj]⟩
theorem BJ(r:Rd) (w:World) (f:List (Rd × Int)) (es:List MapEntry) (h:es.map (fun e=>(e.key,e.val))=f.map (fun p=>(p.1.v,Value.int .i64 p.2))) :
  (gA f r=none->(Instr.findKey 52 r.v es).run Tryz.prog w=.ok none w)/\(∀ x,gA f r=some x->∃ j,(Instr.findKey 52 r.v es).run Tryz.prog w=.ok (some (j,.int .i64 x)) w):=by
 have hA:=vK r w f es 0 h;unfold Instr.findKey;cases es with
 | nil=>
  obtain rfl:f=[]:=by simpa using h.symm
  refine⟨fun _=>?_,fun x hx=>by simp[gA]at hx⟩;simp[run_underlying Tryz.underlying52,Instr.findNow]
 | cons e es=>
  cases f with
  | nil=>simp at h
  | cons p f=>
   have hk:e.key=p.1.v:=by simp only[List.map_cons,List.cons.injEq,Prod.mk.injEq]at h;exact h.1.1
   have hn:∀ fs,Instr.findNow (.struct fs) r.v (e :: es) 0=none:=fun fs=>by simp[Instr.findNow,Instr.sameNow]
   simp only[Sem.run_bind,run_underlying Tryz.underlying52,Result.andThen_ok,hn];exact hA
theorem Ep{w:World} {b:Nat} {f:List (Rd × Int)} (h:hZ w b f) (r:Rd) :
  (gA f r=none->(Instr.lookup 136 (.map (some b)) r.v true).run Tryz.prog w=.ok (.tuple #[.int .i64 0,.bool false]) w) ∧
  (∀ x,gA f r=some x->(Instr.lookup 136 (.map (some b)) r.v true).run Tryz.prog w=.ok (.tuple #[.int .i64 x,.bool true]) w):=by
 obtain⟨es,clock,hb,mg⟩:=h;have hF:=BJ r w f es.toList mg;have hz:(zeroValue 3).run Tryz.prog w=.ok (.int .i64 0) w:=by kernel_rfl
 have hg:(getObj b).run Tryz.prog w=.ok (.map es clock) w:=by simp[getObj,Sem.run,hb]
 unfold Instr.lookup;refine⟨fun hn=>?_,fun x hx=>?_⟩
 ·simp[Sem.run_bind,run_underlying Tryz.underlying136,hg,sU,hF.1 hn,hz]
 ·obtain⟨j,hj⟩:=hF.2 x hx
  simp[run_underlying Tryz.underlying136,hg,sU,hj]
theorem Nw{w:World} {b:Nat} {f:List (Rd × Int)} (h:hZ w b f) (r:Rd) (x:Int) (hn:gA f r=none) :
  ∃ o,(Instr.mapUpdate 136 (.map (some b)) r.v (.int .i64 x)).run Tryz.prog w=.ok () (w.putObj b o)/\hZ (w.putObj b o) b (f++[(r,x)]):=by
 obtain⟨es,clock,hb,mg⟩:=h;have hF:=BJ r w f es.toList mg;have hg:(getObj b).run Tryz.prog w=.ok (.map es clock) w:=by simp[getObj,Sem.run,hb]
 have hs:∀ o,(setObj b o).run Tryz.prog w=.ok () (w.putObj b o):=fun o=>by simp[setObj,Sem.run,hb,World.putObj]
 refine⟨_,?_,es.push { key:=r.v,val:=.int .i64 x,born:=clock },clock+1,World.putObj_heap_same (aB hb),?_⟩
 ·unfold Instr.mapUpdate
  simp[run_underlying Tryz.underlying136,hg,sU,hF.1 hn,hs]
 ·simp[mg]
end Go.Proofs.YtkfgpnbpcpdclaaGreat
namespace Go.Proofs.YtkfgpnbpcpdclaaGreat
open Go.RowKit Go Go.Shelf
attribute [local go_sem] Oper.semAt_some
def eF(M n s:Nat):Array Value:=((List.range n).map fun j=>if j<s then Value.map (some (M+j)) else Value.map none).toArray
theorem qn(M n s:Nat):(eF M n s).size=n:=by simp[eF]
theorem lB(M n s j:Nat) (hj:j<n):(eF M n s)[j]?=some (if j<s then Value.map (some (M+j)) else Value.map none):=by simp[eF,hj]
theorem Ha(M n s:Nat) (hs:s<n):(eF M n s).setIfInBounds s (.map (some (M+s)))=eF M n (s+1):=by
 apply Array.ext_getElem?;intro j;rw[Array.getElem?_setIfInBounds];by_cases hj:j<n
 ·rw[lB _ _ _ _ hj,lB _ _ _ _ hj]
  by_cases e:s=j
  ·subst e;simp[qn,hj]
  ·rw[if_neg e]
   by_cases h:j<s
   ·rw[if_pos h,if_pos (by omega)]
   ·rw[if_neg h,if_neg (by omega)]
 ·have h1:(eF M n s)[j]?=none:=by rw[Array.getElem?_eq_none];rw[qn];omega
  have h2:(eF M n (s+1))[j]?=none:=by rw[Array.getElem?_eq_none];rw[qn];omega
  rw[h1,h2,if_neg (by omega)]
theorem F5(M N n:Nat):eF M n 0=eF N n 0:=by simp[eF]
theorem DC(n:Nat):madeCells (Value.map none).cells n=eF 0 n 0:=by
 apply Array.ext
 ·simp[madeCells,eF]
 ·intro i h1 h2
  simp[madeCells,eF,Value.cells,Nat.mod_one]
theorem Lz(n:Nat) (hn:n<=256) (w:World):(Instr.makeSlice 134 (.int .i64 (n:Int)) (.int .i64 (n:Int))).run Tryz.prog w=.ok (.slice (some ⟨w.heap.size,0,none⟩) n n) (w.alloc (.cells (eF 0 n 0) 136)):=by
 have My:(Tryz.prog.info? 136).map (fun i=>(i.zero,i.size,i.bytes))=some (some (.map none),1,8):=by kernel_rfl
 obtain⟨i,hi,dp,du,eB⟩:=info_parts My;have:=run_make (P:=Tryz.prog) w 134 136 i (.map none) Tryz.underlying134 hi dp .i64 .i64 (n:Int) (n:Int) (by omega) (by omega) (by rw[eB];omega) (by omega);rw[this,du,Nat.mul_one];simp only[Int.toNat_natCast,DC]
def jT(l:List (List Mv)) (i s:Nat):List (Rd × Int):=((l.getD s []).take (i - cnt l s)).map fun m=>(m.r,m.to)
theorem Hb(l:List (List Mv)) {s t:Nat} (h:s<=t):cnt l s<=cnt l t:=by
 induction t with
 | zero=>obtain rfl:s=0:=by omega
         exact Nat.le_refl _
 | succ t ih=>
  by_cases e:s=t+1
  ·subst e;exact Nat.le_refl _
  ·have h1:=ih (by omega)
   by_cases ht:t<l.length
   ·rw[kD l t ht];omega
   ·rw[oR l t (by omega)]at h1;rw[oR l (t+1) (by omega)];exact h1
theorem LA(l:List (List Mv)) (s:Nat):jT l 0 s=[]:=by simp[jT]
theorem AD(l:List (List Mv)) (s j:Nat) (hs:s<l.length):jT l (cnt l s+j) s=(l[s].take j).map fun m=>(m.r,m.to):=by
 simp[jT,hs]
theorem LB(l:List (List Mv)) (s j:Nat) (hs:s<l.length) (hj:j<l[s].length):jT l (cnt l s+j+1) s=jT l (cnt l s+j) s++[(l[s][j].r,l[s][j].to)]:=by
 rw[Nat.add_assoc,AD l s (j+1) hs,AD l s j hs,List.take_succ_eq_append_getElem hj];simp only[List.map_append,List.map_cons,List.map_nil]
theorem JP(l:List (List Mv)) (s j t:Nat) (hs:s<l.length) (hj:j<l[s].length) (ht:t<l.length) (bH:t≠s):jT l (cnt l s+j+1) t=jT l (cnt l s+j) t:=by
 unfold jT;rw[aA [] ht];rcases Nat.lt_or_gt_of_ne bH with h|h
 ·have h1:=Hb l (show t+1<=s by omega)
  rw[kD l t ht]at h1;rw[List.take_of_length_le (by omega),List.take_of_length_le (by omega)]
 ·have h1:=Hb l (show s+1<=t by omega)
  rw[kD l s hs]at h1;have e1:cnt l s+j+1 - cnt l t=0:=by omega
  have e2:cnt l s+j - cnt l t=0:=by omega
  rw[e1,e2]
theorem Nx(l:List (List Mv)) (s:Nat) (hs:s<l.length):jT l (movesN l) s=l[s].map fun m=>(m.r,m.to):=by
 unfold jT;rw[aA [] hs,List.take_of_length_le];have:=A3 l s hs;omega
theorem LC{f:List (Rd × Int)} {r:Rd} (h:∀ p∈f,p.1≠r):gA f r=none:=by
 simp only[gA,Option.map_eq_none_iff,List.find?_eq_none];intro p hp;simpa using fun e=>h p hp e.symm
theorem LD{l:List Mv} {j:Nat} (hj:j<l.length) (h:∀ i (hi:i<j),l[i].r≠l[j].r):∀ p∈(l.take j).map (fun m=>(m.r,m.to)),p.1≠l[j].r:=by
 intro p hp e;obtain⟨m,hm,rfl⟩:=List.mem_map.1 hp;obtain⟨q,hq,SV⟩:=List.mem_take_iff_getElem.1 hm;dsimp only at e;exact h q (by omega) (by rw[SV];exact e)
theorem hZ.lt{w:World} {b:Nat} {f:List (Rd × Int)} (h:hZ w b f):b<w.heap.size:=by
 obtain⟨_,_,he,_⟩:=h;exact aB he
theorem hZ.chg{B:Nat} {A A':World} {b:Nat} {f:List (Rd × Int)} (c:Chg B A A') (hb:b<B) (h:hZ A b f):hZ A' b f:=by
 obtain⟨es,clock,he,hf⟩:=h;exact⟨es,clock,c.same _ _ he (.inl hb),hf⟩
theorem hZ.kept{A A':World} {b:Nat} {f:List (Rd × Int)} (h:hZ A b f) (he:A'.heap[b]?=A.heap[b]?):hZ A' b f:=by
 obtain⟨es,clock,h1,hf⟩:=h;exact⟨es,clock,he.trans h1,hf⟩
def TA(w:World) (v:Value) (l:List (List Mv)):Prop:=
 ∃ B,v=.slice (some ⟨B,0,none⟩) l.length l.length/\∀ s (hs:s<l.length),∃ b,w.cell? ⟨B,s,none⟩=some (.map (some b))/\hZ w b (l[s].map fun m=>(m.r,m.to))
theorem Ny(a:Adv) (v:Value) (w:World) (hv:bn w v a.states) (h1:1<=a.states.length) (h2:a.states.length<=256) (hd:∀ s (hs:s<a.states.length) j (hj:j<a.states[s].length) i (hi:i<j),a.states[s][i].r≠a.states[s][j].r) :
  Calls Tryz.prog 53 #[.agg #[.int .i64 a.n,v]] w fun e w'=>∃ u,e=.returned u/\TA w' u a.states/\Below w.heap.size w w':=by
 have G:=aa hv;obtain⟨pa,ca,rfl,la1,la2,_⟩:=hv.at;clear hv;have HD:=aa hd;clear hd;have me:=Lz a.states.length h2;refine eI Tryz.func53 rfl ?_;simp only[Tryz.ntmps53,List.size_toArray,List.length_cons,List.length_nil,Nat.reduceAdd,Nat.reduceSub,Array.replicate_succ,Array.replicate_zero,List.push_toArray,List.append_toArray,List.nil_append,List.cons_append]
 go_wp2_with fail
 clear me
 refine bw (fun W=>W.heap.size=w.heap.size+3/\Below w.heap.size w W/\W.heap[w.heap.size]?=some (.cells #[.int .i64 a.n,.slice pa a.states.length ca] 27)/\W.heap[w.heap.size+1]?=some (.cells (eF (w.heap.size+3) a.states.length 0) 136)/\W.heap[w.heap.size+1+1]?=some (.cells #[.slice (some ⟨w.heap.size+1,0,none⟩) a.states.length a.states.length] 134))
  ⟨by simp,by go_grown,aq _ (aq _ (ar _ _)),by rw[F5 _ 0];exact aq _ (aX _ _ _),cV _ _ _ _⟩ (fun W0 bd=>?_)
 obtain⟨dp,aH,bD,Dd,ow⟩:=bd;have Fg:=aa (And.intro dp (And.intro aH (And.intro bD (And.intro Dd ow))));clear dp aH bD Dd ow
 go_loopw [13] (fun i wr=>∃ s:Nat,s<=a.states.length/\i=.int .i64 s/\wr.heap.size=w.heap.size+3+s/\Below w.heap.size w wr/\wr.heap[w.heap.size]?=some (.cells #[.int .i64 a.n,.slice pa a.states.length ca] 27)/\wr.heap[w.heap.size+1]?=some (.cells (eF (w.heap.size+3) a.states.length s) 136)/\wr.heap[w.heap.size+1+1]?=some (.cells #[.slice (some ⟨w.heap.size+1,0,none⟩) a.states.length a.states.length] 134)/\∀ j,j<s->hZ wr (w.heap.size+3+j) []) (fun i _=>a.states.length - (intOf i).toNat)
 case atStart=>exact⟨0,by omega,rfl,by simpa using Fg.out.1,Fg.out.2.1,Fg.out.2.2.1,Fg.out.2.2.2.1,Fg.out.2.2.2.2,by simp⟩
 case round=>
  obtain⟨s,hs,rfl,hz,hb,hA,hC,hT,hM⟩:=hrel;have tT:=ae hT;by_cases aF:s<a.states.length
  ·have cC:=ae hC s
   rw[lB _ _ _ _ aF,if_neg (by omega)]at cC;have fC:=aD hC s;have kd:=aB hC;have l8:=aB hT;have HH:=aa (And.intro hz (And.intro hb (And.intro hA (And.intro hC (And.intro hT hM)))));clear hz hb hA hC hT hM;have Cz:=@run_makeMap Tryz.prog
   go_wp2_with fail
   obtain⟨hz,hb,hA,hC,hT,hM⟩:=HH.out
   go_roundw
   case rel=>
    go_light
    refine⟨s+1,by omega,by go_num,by simp[hz];omega,(hb.setCell (p:=⟨w.heap.size+1,s,none⟩) (by dsimp only;omega) _).alloc (by simp only[World.size_setCell];omega) _,aq _ (aI hA (by omega) _ _),?_,aq _ (aI hT (by omega) _ _),?_⟩
    ·refine aq _ ?_
     rw[aE hC,hz,Ha _ _ _ aF]
    ·intro j hj
     by_cases e:j<s
     ·obtain⟨es,clock,he,hf⟩:=hM j e
      exact⟨es,clock,aq _ (aI he (by omega) _ _),hf⟩
     ·obtain rfl:j=s:=by omega
      refine⟨#[],0,?_,rfl⟩;have:=ar (wr.setCell ⟨w.heap.size+1,j,none⟩ (.map (some wr.heap.size))) (.map #[] 0);rw[World.size_setCell,hz]at this;rw[hz];exact this
   case measure=>simp[intOf];omega
  ·obtain rfl:s=a.states.length:=by omega
   have tA:=ae hA;have kd:=aB hC;have l8:=aB hT;have HH:=aa (And.intro hz (And.intro hb (And.intro hA (And.intro hC (And.intro hT hM)))));clear hz hb hA hC hT hM
   go_wp2_with fail
   refine(sa _ _ _ _ _).mono ?_;rintro e w2 ⟨rfl,rfl⟩;clear tA tT
   go_wp2_with fail
   refine bw (fun W=>W.heap.size=w.heap.size+3+a.states.length+1/\Below w.heap.size w W/\W.heap[w.heap.size+1]?=some (.cells (eF (w.heap.size+3) a.states.length a.states.length) 136)/\W.heap[w.heap.size+1+1]?=some (.cells #[.slice (some ⟨w.heap.size+1,0,none⟩) a.states.length a.states.length] 134)/\W.heap[wr.heap.size]?=some (.cells #[.int .i64 a.n,.slice pa a.states.length ca] 27)/\∀ j,j<a.states.length->hZ W (w.heap.size+3+j) [])
    ⟨by simp[HH.out.1],HH.out.2.1.alloc HH.out.2.1.size _,aq _ HH.out.2.2.2.1,aq _ HH.out.2.2.2.2.1,ar _ _,fun j hj=>(HH.out.2.2.2.2.2 j hj).kept (Below.heap_alloc _ _ _ (by rw[HH.out.1];omega))⟩ (fun W0 bd=>?_)
   obtain⟨dp,aH,Dd,ow,it,iw⟩:=bd;have bP:=qU w _ a.states G.out W0 aH wr.heap.size (by simp[ae it]);have KB:=aa dp;clear dp
   refine kG (gf:=125) (lb:=#[.pointer (some ⟨wr.heap.size,0,none⟩)]) rfl (enters_of Tryz.func125 (by kernel_rfl) rfl) bP (Below.refl _ _) (fun k hk=>Nat.lt_of_lt_of_le hk aH.size) (fun i=>rfl)
    (fun i W=>Below w.heap.size w W/\W.heap[w.heap.size+1]?=some (.cells (eF (w.heap.size+3) a.states.length a.states.length) 136)/\W.heap[w.heap.size+1+1]?=some (.cells #[.slice (some ⟨w.heap.size+1,0,none⟩) a.states.length a.states.length] 134)/\∀ s,s<a.states.length->hZ W (w.heap.size+3+s) (jT a.states i s))
    (fun _ _ _=>False)
    (fun i=>(bR.below aH.size).and (bR.cells.and (bR.cells.and (fun A A' c x s hs=>(x s hs).chg c (by rw[KB.out];omega))))) (fun c i=>bR.pure) ⟨aH,Dd,ow,fun s hs=>by rw[LA];exact iw s hs⟩ ?round ?done ?stop
   case round=>
    intro yl i W hi hl hI;unfold Dv;obtain⟨s,j,hs,hj,rfl⟩:=Do a.states i hi;rw[tH a.states s j hs hj]
    have HNONE:Hid (gA (jT a.states (cnt a.states s+j) s) a.states[s][j].r=none):=by
     have h:gA (jT a.states (cnt a.states s+j) s) a.states[s][j].r=none:=by rw[AD _ _ _ hs];exact LC (LD hj (HD.out s hs j hj))
     exact h
    have HSAME:=aa (LB a.states s j hs hj);generalize a.states[s][j]=m at HNONE HSAME;dsimp only;have HI:=aa hI;clear hI;have xH:=HI.out.1.size
    gi_wp2
    refine⟨Bod.of_below (fun k hk=>Nat.lt_of_lt_of_le hk xH) (by go_grown),(fun W'=>Below w.heap.size w W'/\W'.heap[w.heap.size+1]?=some (.cells (eF (w.heap.size+3) a.states.length a.states.length) 136)/\W'.heap[w.heap.size+1+1]?=some (.cells #[.slice (some ⟨w.heap.size+1,0,none⟩) a.states.length a.states.length] 134)/\W'.heap[W.heap.size]?=some (.cells #[.int .i64 m.r.g.n,.int .i64 m.r.g.h0,.int .i64 m.r.g.h1,.int .i64 m.r.g.h2,.int .i64 m.r.g.h3,.int .i64 m.r.g.h4,.int .i64 m.r.f,.int .i64 m.to] 98)/\∀ t,t<a.states.length->hZ W' (w.heap.size+3+t) (jT a.states (cnt a.states s+j) t)),
     (bR.below aH.size).and (bR.cells.and (bR.cells.and (bR.cells.and (fun A A' c x s hs=>(x s hs).chg c (by rw[KB.out];omega))))),⟨HI.out.1.alloc xH _,aq _ HI.out.2.1,aq _ HI.out.2.2.1,ar _ _,fun t ht=>(HI.out.2.2.2 t ht).kept (Below.heap_alloc _ _ _ (HI.out.2.2.2 t ht).lt)⟩,fun W2 h2 _=>?_⟩
    obtain⟨g1,g2,g3,g4,g5⟩:=h2;have t3:=ae g3;have tM:=ae g4;have tC:=ae g2 s;rw[lB _ _ _ _ hs,if_pos hs]at tC;have fY:=Nw (w:=W2.drew) (b:=w.heap.size+3+s) (f:=jT a.states (cnt a.states s+j) s) (g5 s hs) m.r m.to HNONE.out;obtain⟨o,hup1,hup2⟩:=fY;have HG:=aa (And.intro g1 (And.intro g2 (And.intro g3 (And.intro g4 g5))));have HUP2:=aa hup2;clear g1 g2 g3 g4 g5 hup2 bP Dd ow it iw
    gi_wp2
    refine pS 8 (fun ⟨_,_,h⟩=>h) (by kernel_rfl) (by kernel_rfl) (by kernel_rfl) (fun ops Lq hops hLq=>?_);simp only[List.take_succ_cons,List.take_zero,List.drop_succ_cons,List.drop_zero]at hLq ⊢;have SR:=aa hLq;clear hLq;have HOPS:=aa hops;clear hops
    repeat still_step
    refine wpStill_nil ?_;refine SR.out _ ?_
    go_wp2_with fail
    obtain⟨g1,g2,g3,g4,g5⟩:=HG.out;have hz:=KB.out;refine⟨⟨by simp,fun k hk=>World.putObj_heap_other (by omega),fun k x hk hx _=>(World.putObj_heap_other (by omega)).trans hx⟩,cT (by omega) g1.drew,(World.putObj_heap_other (by omega)).trans g2,(World.putObj_heap_other (by omega)).trans g3,fun t ht=>?_⟩;by_cases e:t=s
    ·subst e
     rw[HSAME.out];exact HUP2.out
    ·rw[JP a.states s j t hs hj ht e]
     exact(g5 t ht).kept (World.putObj_heap_other (by omega))
   case done=>
    intro D W hD hI hK;obtain⟨g1,g2,g3,g4⟩:=hI;have HG:=aa (And.intro g1 (And.intro g2 (And.intro g3 g4)));have t3:=ae g3;clear g1 g2 g3 g4 bP Dd ow it iw
    go_wp2_with fail
    refine dH hK (results_tmp rfl _ _ _) ?_;obtain⟨g1,g2,g3,g4⟩:=HG.out;have hz:=KB.out;refine⟨_,rfl,⟨w.heap.size+1,rfl,fun s hs=>⟨w.heap.size+3+s,?_,?_⟩⟩,cT (by omega) g1⟩
    ·rw[ae ((World.putObj_heap_other (by omega)).trans g2),lB _ _ _ _ hs,if_pos hs]
    ·have h4:=g4 s hs
     rw[Nx _ _ hs]at h4;exact h4.kept (World.putObj_heap_other (by omega))
   case stop=>
    intro D c i W _ _ h;exact h.elim
end Go.Proofs.YtkfgpnbpcpdclaaGreat
