/-
  A part of the proof: lemmas and contracts that the parts behind it use. Each one's conditions are its own premises.
-/
import Derived.Test.YtmeaoneaephjeaaGreatDoorRows
import Derived.Test.YtmeaoneaephjeaaGreatDoorTie
import Derived.Test.YtmeaoneaephjeaaGreatDoorCards
import Derived.ProofKit
import Derived.LaidMore
import Derived.OpenShut
import Derived.Stop.Joined
import Derived.SevenTiedAt
import Derived.Test.YtmeaoneaephjeaaGreatDoorL8
set_option maxRecDepth 100000
set_option maxHeartbeats 8000000
set_option linter.unusedVariables false
set_option linter.unusedSimpArgs false
namespace Go.Proofs.YtmeaoneaephjeaaGreatDoor
open Go.RowKit Go Go.Shelf
attribute [local go_sem] Oper.semAt_some
theorem Lv(s:Sys) (hv:verifyE s=0) (vc vs vt ve vl:Value) (l:List Lk) (w:World) (hs:IsSys w s vc vs vt ve) (hN:movesN s.prob.a.states<1099511627776) (hl:bh w vl l) :
  Calls Tryz.prog 95 #[.agg (bL s.prob vc vs s.n vt ve),vl] w fun e w'=>e=.returned (.int .i64 (walkE s l))/\Below w.heap.size w w':=by
 have HS:=aa hs;have HL:=aa hl;obtain⟨⟨pc,cc,rfl⟩,⟨ps,cs,rfl⟩,⟨pt,ct,rfl⟩,⟨pe,ce,rfl⟩⟩:=bB hs;obtain⟨pl,cl,rfl,lt1,lt2,el⟩:=hl.at;have EL:=aa el;clear hs hl el;have HC:=aa (fun W (hb:Below w.heap.size w W)=>Fy s _ _ _ _ W (HS.o.up hb) hN);have dA:=aa (jh hv);have HV:=aa hv;have gK:=dA.o.n.2.1;have iU:am (l.length=0->walkE s l=16):=aa fun h=>by unfold walkE;rw[if_pos h]
 have fx:am (0<l.length->4096<l.length->walkE s l=5):=aa fun h h1=>by unfold walkE;rw[if_neg (by omega),if_pos h1]
 have cS:am (0<l.length->l.length<=4096->walkE s l=bg l.length (gF s l)):=aa fun h h1=>by unfold walkE;rw[if_neg (by omega),if_neg (by omega)]
 have yV:am (∀ k,k<l.length->gF s l k=if (l.getD k default).x<0\/(eS s:Int)<=(l.getD k default).x then 6 else if k=0 then(if (l.getD k default).p≠-1 then 3 else 0) else if (l.getD k default).p<0\/(nS s:Int)<=(l.getD k default).p then 2 else if linkB s (l.getD k default).p.toNat (l.getD (k - 1) default).x.toNat (l.getD k default).x.toNat then 0 else 18):=aa fun k _=>rfl
 have HOKX:am (∀ k,gF s l k=0->0<=(l.getD k default).x/\(l.getD k default).x.toNat<eS s):=aa fun k h=>⟨((xB s l k).1 h).1,((xB s l k).1 h).2.1⟩
 clear hv
 go_enter Tryz.func95,Tryz.ntmps95
 go_wp2_with fail
 refine aN (fun W=>Below w.heap.size w W) (by go_grown) (fun W0 aI=>?_);refine(HC.o W0 aI).mono ?_;rintro e w1 ⟨v,rfl,aJ,_,h2⟩;obtain⟨B,rfl,hF,-⟩:=h2 HV.o;rw[HV.o];have cZ:=ae aI aJ;have eh:=aa cZ;have HF:=aa hF;clear aI aJ h2 hF cZ HC;by_cases h0:l.length=0
 ·have HR:=aa (iU.o h0);have hd:(((l.length:Nat):Int) == 0)=true:=by simp[h0]
  clear h0
  go_wp2_with fail
  go_ret
  exact⟨aG (by rw[HR.o]),eh.o⟩
 have hd:(((l.length:Nat):Int) == 0)=false:=beq_eq_false_iff_ne.2 (by omega);have KR:0<l.length:=by omega
 clear h0;by_cases h1:4096<l.length
 ·have HR:=aa (fx.o KR h1)
  go_wp2_with fail
  go_ret
  exact⟨aG (by rw[HR.o]),eh.o⟩
 have da:=aa (cS.o KR (by omega))
 go_wp2_with fail
 clear hd h1 KR iU fx cS
 go_loopw [28] (fun i wr=>∃ k:Nat,k<=l.length/\i=.int .i64 k/\Below w.heap.size w wr/\FinAt wr B s/\∀ j,j<k->gF s l j=0) (fun i _=>l.length - (intOf i).toNat)
 ·exact⟨0,by omega,rfl,eh.o,HF.o,fun j hj=>by omega⟩
 ·
  clear eh HF;obtain⟨k,hk,rfl,az,hF,hz⟩:=hrel;have aP:=aa az;have HF:=aa hF;have HZ:=aa hz;clear hF hz;by_cases aB:k<l.length
  ·obtain⟨b1,o1,rfl,h1⟩:=EL.o k aB;have c1:=ak az h1.1.1;have c2:=ak az h1.2.1;have HE:=aa (yV.o k aB);have J7:am (∀ v:Int,gF s l k=v->v≠0->walkE s l=v):=aa fun v h1 h2=>by rw[da.o];exact(bV k v aB HZ.o h1 h2).symm
   have hr:l.getD k default=l[k]:=aA default aB;rw[hr]at HE;clear hr;generalize l[k]=y at c1 c2 HE h1;obtain⟨x,p⟩:=y;dsimp only at c1 c2 HE;clear h1 az
   go_wp2_with fail
   clear c1 c2;refine aN (fun W=>Below w.heap.size w W/\FinAt W B s/\W.heap[wr.heap.size]?=some (.cells #[.int .i64 x,.int .i64 p] 75)) ⟨aP.o.alloc aP.o.size _,HF.o.up (by go_grown),aq _ _⟩ (fun W2 eY=>?_);obtain⟨a8,Zr,hX2⟩:=eY;refine(DD s B x W2 Zr).mono ?_;rintro e w3 ⟨rfl,bH⟩;have ef:=aa (ae a8 bH);have Kw:=aa (Zr.up bH);have gN:=aa (af bH hX2);generalize wr.heap.size=g at gN;have tb:=ab gN.o;clear a8 Zr hX2 bH;by_cases hx:0<=x/\x<(eS s:Int)
   ·have hd:(decide (0<=x)&&decide (x<(eS s:Int)))=true:=by simp[hx]
    rw[hd];clear hd;by_cases fg:k=0
    ·subst fg;by_cases hp:p=-1
     ·subst hp;have eO:am (gF s l 0=0):=aa (by rw[HE.o,if_neg (by omega)];simp);clear hx
      go_wp2_with fail
      go_roundw
      ·exact⟨1,by omega,by go_num,ef.o,Kw.o,aV HZ.o eO.o⟩
      ·simp[intOf];omega
     ·have RQ:(p != -1)=true:=by simpa using hp
      have HR:=aa (J7.o 3 (by rw[HE.o,if_neg (by omega),if_pos rfl,if_pos hp]) (by decide));clear hx hp
      go_wp2_with fail
      go_ret
      exact⟨aG (by rw[HR.o]),ef.o⟩
    ·obtain⟨j,hj⟩:∃ j,k=j+1:=⟨k - 1,by omega⟩;have fS:j<l.length:=by omega
     have mm:((k:Int) == 0)=false:=by simp;omega
     have hX:=HOKX.o j (HZ.o j (by omega));have nU:am (gF s l k=if p<0\/(nS s:Int)<=p then 2 else if linkB s p.toNat (l.getD j default).x.toNat x.toNat then 0 else 18):=aa (by rw[HE.o,if_neg (by omega),if_neg fg,show k - 1=j by omega]);have jc:IntKind.i64.wrap ((k:Int) - 1)=(j:Int):=by rw[hj,IntWalk.i64_in _ (by omega)];omega
     obtain⟨b2,o2,e2,h2⟩:=EL.o j fS;cases e2;have d1:=ak ef.o h2.1.1;rw[<-aA default fS]at d1;obtain⟨e,he⟩:∃ e:Nat,(l.getD j default).x=e:=⟨(l.getD j default).x.toNat,by omega⟩;rw[he]at d1 nU hX;obtain⟨f,hf⟩:∃ f:Nat,x=f:=⟨x.toNat,by omega⟩;subst hf;simp only[Int.toNat_natCast]at nU hX;have hfe:f<eS s:=by omega
     clear he h2 fg hj HE;by_cases wP:p<0
     ·have hpd:decide (p<0)=true:=decide_eq_true wP;have HR:=aa (J7.o 2 (by rw[nU.o,if_pos (.inl wP)]) (by decide));clear hx hX d1 jc wP;have tb1:∀ z:ExtW w3,∀ o,z.val.cell? ⟨g,o,none⟩=_:=fun z=>ab (af z.ext gN.o)
      go_wp2_with fail
      refine aD (by kernel_rfl) (by kernel_rfl) ?_
      repeat (go_big_quiet_step (fail))
      refine wpQuiet_nil ?_;rintro _ ⟨xq,rfl⟩;clear tb tb1
      go_wp2_with fail
      go_ret
      exact⟨aG (by rw[HR.o]),ae ef.o xq.ext⟩
     have hpd:decide (p<0)=false:=decide_eq_false wP;obtain⟨q,rfl⟩:∃ q:Nat,p=q:=⟨p.toNat,by omega⟩;simp only[Int.toNat_natCast]at nU;obtain⟨pl2,cl2,hB,_⟩:=Kw.o.open;have tb1:∀ z:ExtW w3,∀ o,z.val.cell? ⟨g,o,none⟩=_:=fun z=>ab (af z.ext gN.o)
     have tb2:∀ z:ExtW w3,z.val.cell? ⟨B,0,none⟩=some (.int .i64 (nS s)):=fun z=>(ab (af z.ext hB) 0).trans rfl
     clear hB;by_cases hq:nS s<=q
     ·have hqd:decide ((nS s:Int)<=(q:Int))=true:=decide_eq_true (by omega);have wX:decide (nS s<=q)=true:=decide_eq_true hq;have HR:=aa (J7.o 2 (by rw[nU.o,if_pos (.inr (by omega))]) (by decide));clear hx hX d1 jc wP hq
      go_wp2_with fail
      refine aD (by kernel_rfl) (by kernel_rfl) ?_
      repeat (go_big_quiet_step (fail))
      refine wpQuiet_nil ?_;rintro _ ⟨xq,rfl⟩;clear tb tb1 tb2
      go_wp2_with fail
      go_ret
      exact⟨aG (by rw[HR.o]),ae ef.o xq.ext⟩
     have hqd:decide ((nS s:Int)<=(q:Int))=false:=decide_eq_false (by omega);have wX:decide (nS s<=q)=false:=decide_eq_false hq;have Et:am (gF s l k=if linkB s q e f then 0 else 18):=aa (by rw[nU.o,if_neg (by omega)]);obtain⟨set,lW⟩:∃ set,maskN (fun p=>linkB s p e f) (nS s)=set:=⟨_,rfl⟩;have gP:hasB (set:Int) q=linkB s q e f:=by rw[<-lW,jz,decide_eq_true (by omega),Bool.true_and]
     have my:=tY (set:Int) q;rw[gP]at my;clear gP;have hq30:q<=30:=by omega
     clear hx wP hq
     go_wp2_with fail
     refine aD (by kernel_rfl) (by kernel_rfl) ?_
     repeat (go_big_quiet_step (fail))
     refine wpQuiet_nil ?_;rintro _ ⟨xq,rfl⟩;have eo:=aa (ae ef.o xq.ext);have Aa:=aa (Kw.o.up xq.ext);have HXQ:=aa (af xq.ext gN.o);have d2:∀ z:ExtW xq.val,z.val.cell? ⟨b1,o1+j * 2,none⟩=_:=fun z=>ak (ae xq.ext z.ext) d1
     have tq1:∀ z:ExtW xq.val,∀ o,z.val.cell? ⟨g,o,none⟩=_:=fun z=>ab (af z.ext HXQ.o)
     have bW:=aa (show ∀ y:ExtW xq.val,Calls Tryz.prog 146 #[.pointer (some ⟨B,0,none⟩),.int .i64 (e:Int),.int .i64 (f:Int)] y.val fun r w''=>r=.returned (.int .i64 (set:Nat))/\∃ z:ExtW xq.val,w''=z.val from fun y=>Calls.ext_of ((BA s dA.o B e f hX.2 hfe y.val (Aa.o.up y.ext)).mono fun r w'' ⟨h1,h2⟩=>⟨by rw[h1,lW],h2 ▸ Below.refl _ _⟩));clear tb tb1 tb2 d1 lW;cases hb:linkB s q e f with
     | true=>
      have eO:am (gF s l k=0):=aa (by rw[Et.o,hb];rfl);rw[hb]at my;clear hb
      go_wp2_with fail
      refine aD (by kernel_rfl) (by kernel_rfl) ?_
      repeat (go_big_quiet_step ((go_at_call 146;with_reducible exact bW.o _)))
      refine wpQuiet_nil ?_;rintro _ ⟨x2,rfl⟩;clear d2 tq1 my jc
      go_wp2_with fail
      go_roundw
      ·exact⟨k+1,by omega,by go_num,ae eo.o x2.ext,Aa.o.up x2.ext,aV HZ.o eO.o⟩
      ·simp[intOf];omega
     | false=>
      have HR:=aa (J7.o 18 (by rw[Et.o,hb];rfl) (by decide));rw[hb]at my;clear hb
      go_wp2_with fail
      refine aD (by kernel_rfl) (by kernel_rfl) ?_
      repeat (go_big_quiet_step ((go_at_call 146;with_reducible exact bW.o _)))
      refine wpQuiet_nil ?_;rintro _ ⟨x2,rfl⟩;clear d2 tq1 my jc
      go_wp2_with fail
      go_ret
      exact⟨aG (by rw[HR.o]),ae eo.o x2.ext⟩
   ·have hd:(decide (0<=x)&&decide (x<(eS s:Int)))=false:=by
     rw[Bool.and_eq_false_iff];simp only[decide_eq_false_iff_not];omega
    rw[hd];have HR:=aa (J7.o 6 (by rw[HE.o,if_pos (by omega)]) (by decide));clear hx hd
    go_wp2_with fail
    go_ret
    exact⟨aG (by rw[HR.o]),ef.o⟩
  ·have HR:am (walkE s l=0):=aa (by rw[da.o];exact cV _ _ fun j hj=>HZ.o j (by omega))
   go_wp2_with fail
   go_ret
   exact⟨aG (by rw[HR.o]),az⟩
def S9(s:Sys) (r:Ending):Prop:=∃ b,r=.returned (.bool b)/\(b=true->fewPB s.prob=true/\eS s<=70/\s.tab.length<=600)
theorem Lw(s:Sys) (vc vs vt ve:Value) (w:World) (cH:IsSys w s vc vs vt ve) :
  Calls Tryz.prog 9 #[.agg (bL s.prob vc vs s.n vt ve)] w fun r w'=>S9 s r/\Below w.heap.size w w':=by
 have HS:=aa cH;obtain⟨⟨qc,kc,rfl⟩,⟨qs,ks,rfl⟩,⟨qt,kt,rfl⟩,_⟩:=bB cH;obtain⟨qe,ke,rfl,le1,le2,ee⟩:=cH.ex.at;have EE:=aa ee;have HF:=aa (fun W (hb:Below w.heap.size w W)=>Jg s.prob _ _ W (HS.o.cases.up up_case hb) (HS.o.states.up up_moves hb));have fi:am (S9 s (.returned (.bool false))):=aa ⟨false,rfl,fun h=>by cases h⟩;have jN:am (fewPB s.prob=true->¬ 600<s.tab.length->¬ 70<s.ex.length->S9 s (.returned (.bool true))):=aa fun h1 h0 h2=>⟨true,rfl,fun _=>⟨h1,by unfold eS;omega,by omega⟩⟩
 obtain⟨ne,bM⟩:∃ ne,s.ex.length=ne:=⟨_,rfl⟩;have hH:=aa bM;rw[bM]at le1 le2 jN ⊢;generalize fewPB s.prob=fb at HF jN;clear cH ee bM;generalize s.prob.t.cases.length=nc,s.prob.a.states.length=ns,s.tab.length=nt at HF jN ⊢
 go_enter Tryz.func9,Tryz.ntmps9
 go_wp2_with fail
 refine aN (fun W=>Below w.heap.size w W/\∃ c,W.heap[w.heap.size]?=some (.cells c 35)/\c=bL s.prob (.slice qc nc kc) (.slice qs ns ks) s.n (.slice qt nt kt) (.slice qe ne ke)) ⟨by go_grown,_,aq _ _,rfl⟩ (fun W0 aZ=>?_);obtain⟨aI,_,bI,rfl⟩:=aZ;refine(HF.o W0 aI).mono ?_;rintro r w1 ⟨rfl,aJ⟩;have bK:=aa (ae aI aJ);have eK:=af aJ bI;have db:=aa eK;have tA:=ab eK;clear aI bI aJ HF eK;cases fb with
 | false=>
  go_wp2_with fail
  go_ret
  exact⟨fi.o,bK.o⟩
 | true=>
  have HY:=aa (jN.o rfl);clear jN;by_cases h6:600<nt
  ·have hd:decide ((600:Int)<(nt:Int))=true:=decide_eq_true (by omega)
   go_wp2_with fail
   go_ret
   exact⟨fi.o,bK.o⟩
  have hd6:decide ((600:Int)<(nt:Int))=false:=decide_eq_false (by omega);by_cases h7:70<ne
  ·have hd:decide ((70:Int)<(ne:Int))=true:=decide_eq_true (by omega)
   go_wp2_with fail
   go_ret
   exact⟨fi.o,bK.o⟩
  have hd7:decide ((70:Int)<(ne:Int))=false:=decide_eq_false (by omega);have HYY:=aa (HY.o h6 h7)
  go_wp2_with fail
  clear tA
  go_loopw [3] (fun i wr=>Below w1.heap.size w1 wr/\∃ k:Nat,k<=ne/\i=.int .i64 k) (fun i _=>ne - (intOf i).toNat)
  ·exact⟨Below.refl _ _,0,by omega,rfl⟩
  ·
   obtain⟨az,k,hk,rfl⟩:=hrel;have aP:=aa az;have tA:=ab (af az db.o);clear az;by_cases aB:k<ne
   ·obtain⟨b1,o1,rfl,⟨c0,_⟩,⟨vw,c1,sG⟩,⟨vv,c2,Yw⟩⟩:=EE.o k (by rw[hH.o];exact aB);have cZ:=ae bK.o aP.o;obtain⟨pw,cw,rfl,_⟩:=sG.at;obtain⟨pv,cv,rfl,lv1,lv2,ev⟩:=Yw.at;have EV:=aa ev;have c0:=ak cZ c0;have c1:=ak cZ c1;have c2:=ak cZ c2;have eh:=aa cZ;generalize (s.ex[k]'(by rw[hH.o];exact aB))=x at c0 c1 c2 sG Yw ev EV lv1 lv2;obtain⟨nv,KP⟩:∃ nv,x.views.length=nv:=⟨_,rfl⟩;have MT:=aa KP;rw[KP]at c2 lv1 lv2;generalize x.word.length=lw at c1;obtain⟨wrA,kw⟩:∃ x,x=wr:=⟨_,rfl⟩;subst kw;clear cZ sG Yw ev KP;generalize x.c=xc at c0;have HG:=aa (ae bK.o (show Below w1.heap.size w1 (wrA.alloc (.cells #[.int .i64 xc,.slice pw lw cw,.slice pv nv cv] 89)) from aP.o.alloc aP.o.size _));have te:=ab (aq wrA (.cells #[.int .i64 xc,.slice pw lw cw,.slice pv nv cv] 89));by_cases hw10:10<lw
    ·have hd:decide ((10:Int)<(lw:Int))=true:=decide_eq_true (by omega)
     go_wp2_with fail
     go_ret
     exact⟨fi.o,HG.o⟩
    have hdw:decide ((10:Int)<(lw:Int))=false:=decide_eq_false (by omega);by_cases hv10:10<nv
    ·have hd:decide ((10:Int)<(nv:Int))=true:=decide_eq_true (by omega)
     go_wp2_with fail
     go_ret
     exact⟨fi.o,HG.o⟩
    have Rz:decide ((10:Int)<(nv:Int))=false:=decide_eq_false (by omega)
    go_wp2_with fail
    refine bu (fun W=>Below wrA.heap.size wrA W/\W.heap[wrA.heap.size]?=some (.cells #[.int .i64 xc,.slice pw lw cw,.slice pv nv cv] 89)) ⟨by go_grown,aq _ _⟩ (fun W2 eY=>?_);have cQ:=aa eY.1;have fG:=aa eY.2;clear eY te tA c0 c1 c2 hdw Rz
    go_loopw [5] (fun i wr=>Below W2.heap.size W2 wr/\∃ q:Nat,q<=nv/\i=.int .i64 q) (fun i _=>nv - (intOf i).toNat)
    ·exact⟨Below.refl _ _,0,by omega,rfl⟩
    ·
     obtain⟨jn,q,hq,rfl⟩:=hrel;have eo:=aa (ae cQ.o jn);have HBR2:=aa jn;have tX:=ab (af jn fG.o);clear jn;by_cases wX:q<nv
     ·obtain⟨b3,o3,rfl,⟨vr,c3,Vp⟩⟩:=EV.o q (by rw[MT.o];exact wX);obtain⟨pr,cr,rfl,_⟩:=Vp.at;have c3:=ak (ae eh.o eo.o) c3;rw[Nat.mul_one]at c3;generalize (x.views[q]'(by rw[MT.o];exact wX)).length=lr at c3;clear Vp;by_cases hr10:10<lr
      ·have hd:decide ((10:Int)<(lr:Int))=true:=decide_eq_true (by omega)
       go_wp2_with fail
       go_ret
       exact⟨fi.o,ae bK.o (ae aP.o eo.o)⟩
      have hd:decide ((10:Int)<(lr:Int))=false:=decide_eq_false (by omega)
      go_wp2_with fail
      go_roundw
      ·exact⟨HBR2.o,q+1,by omega,by go_num⟩
      ·simp[intOf];omega
     ·obtain rfl:q=nv:=by omega
      go_wp2_with fail
      go_roundw
      ·exact⟨ae aP.o eo.o,k+1,by omega,by go_num⟩
      ·simp[intOf];omega
   ·obtain rfl:k=ne:=by omega
    go_wp2_with fail
    go_ret
    exact⟨HYY.o,ae bK.o aP.o⟩
end Go.Proofs.YtmeaoneaephjeaaGreatDoor
namespace Go.Proofs.YtmeaoneaephjeaaGreatDoor
open Go.RowKit Go Go.Shelf
attribute [local go_sem] Oper.semAt_some
attribute [local go_sem] zG
theorem LV(s:Sys) (e:Nat):il s e<256:=gd _ 8
theorem LW(s:Sys) (l:List Nat):comM s l<256:=gd _ 8
theorem ScAt.val{w:World} {B:Nat} {s:Sys} (h:ScAt w B s):∃ pv cv,w.cell? ⟨B,10,none⟩=some (.slice pv (eS s) cv)/\∀ e,e<eS s->∃ b o,pv=some ⟨b,o,none⟩/\w.cell? ⟨b,o+e,none⟩=some (.int .i64 (il s e:Nat)):=by
 obtain⟨vc,vs,vt,ve,vv,vl,h1,_,h2,_⟩:=h.ex;obtain⟨pv,cv,rfl,_,_,ev⟩:=h2.at;have hl:(Fl s).length=eS s:=by simp[Fl]
 rw[hl]at h1;refine⟨pv,cv,(ab h1 10).trans rfl,fun e he=>?_⟩;obtain⟨b,o,e1,c1,_⟩:=ev e (by rw[hl];exact he);refine⟨b,o,e1,?_⟩;rw[Nat.mul_one]at c1;rw[c1];simp[Fl]
theorem Lx(bo bs B n cv e m v b o:Nat) (hm:m<256) (hv:v<256) (he:e<n) (W:World) (h1:W.heap[bo]?=some (.cells #[.int .i64 m] 3)) (h2:W.cell? ⟨bs,0,none⟩=some (.pointer (some ⟨B,0,none⟩))) (h3:W.cell? ⟨B,10,none⟩=some (.slice (some ⟨b,o,none⟩) n cv)) (h4:W.cell? ⟨b,o+e,none⟩=some (.int .i64 v)) :
  Calls Tryz.prog 134 #[.int .i64 e,.pointer (some ⟨bo,0,none⟩),.pointer (some ⟨bs,0,none⟩)] W fun r W'=>(∃ x,r=.returned x)/\W'=W.drew.setCell ⟨bo,0,none⟩ (.int .i64 (m &&& v:Nat)):=by
 have t1:=ab h1 0;simp at t1;have Yp:=aa h1;have my:bits .and .i64 ((m:Nat):Int) ((v:Nat):Int)=((m &&& v:Nat):Int):=Be m v (by omega) (by omega);clear h1
 go_enter Tryz.func134,Tryz.ntmps134
 go_still_tail 9,(by kernel_rfl)
 change wpList _ _ _ _ _ W.drew;have t2:W.drew.cell? ⟨bo,0,none⟩=some (.int .i64 m):=t1;have z2:W.drew.frozen? ⟨bo,0,none⟩=false:=aE Yp.o 0;clear t1 h2 h3 h4;obtain⟨V,hV⟩:∃ V,V=W.drew:=⟨_,rfl⟩;rw[<-hV]at t2 z2 ⊢;clear hV
 go_wp2_with fail
 go_end0
 exact⟨⟨_,rfl⟩,rfl⟩
structure CmI (s:Sys) (w:World) (B:Nat) (l:List Nat) (V:World):Prop where
 old:Below w.heap.size w V
 sc:V.heap[w.heap.size]?=some (.cells #[.pointer (some ⟨B,0,none⟩)] 94)
 out:V.heap[w.heap.size+1]?=some (.cells #[.int .i64 (comM s l:Nat)] 3)
 fn:V.heap[w.heap.size+1+1]?=some (.cells #[.func (.func 134) #[] #[.pointer (some ⟨w.heap.size+1,0,none⟩),.pointer (some ⟨w.heap.size,0,none⟩)]] 205)
theorem CmI.sta{s:Sys} {w:World} {B B0:Nat} {l:List Nat} (h:w.heap.size<=B0):cO B0 (CmI s w B l):=fun _ _ c x=>⟨c.below h x.old.size x.old,c.same _ _ x.sc (.inr rfl),c.same _ _ x.out (.inr rfl),c.same _ _ x.fn (.inr rfl)⟩
theorem DL(s:Sys) (B:Nat) (gf:Nat) (lb:Array Value) (eg:∀ args w,(callFunc gf args).run Tryz.prog w=.ok (.enter gf args) w) (l:List Nat) (hl:∀ e∈l,e<eS s) (S:Nat->Prop) (w:World) (gj:ScAt w B s) (hS:∀ k,S k->k<w.heap.size)
  (dr:∀ W,Below w.heap.size w W->tK Tryz.prog gf lb (xO l) l.length S W) :
  Calls Tryz.prog 84 #[.pointer (some ⟨B,0,none⟩),.func (.func gf) #[] lb] w fun r w'=>r=.returned (.int .i64 (comM s l:Nat))/\Below w.heap.size w w':=by
 have kV:=aa gj;have HL:=aa hl;have HNIL:am (comM s (l.take 0)=255):=aa (by rw[List.take_zero];exact Co s);have HSQ:=aa dr;have ec:=enters_of Tryz.func134 (by kernel_rfl) rfl;clear gj hl dr;refine gq Tryz.func84 rfl ?_;simp only[Tryz.ntmps84,List.size_toArray,List.length_cons,List.length_nil,Nat.reduceAdd,Nat.reduceSub,Array.replicate_succ,Array.replicate_zero,List.push_toArray,List.append_toArray,List.nil_append,List.cons_append]
 go_wp2_with fail
 refine bu (fun W=>CmI s w B [] W) ⟨by go_grown,ar _ (ar _ (aq _ _)),by rw[Co];exact ar _ (bd _ _ _),eI _ _ _ _⟩ (fun W1 cD=>?_);have fx:=aa cD;have KJ:=cD.old.size;have dr:=HSQ.o W1 cD.old;have hsf:=aC cD.fn;clear cD
 refine ni (gf:=gf) (lb:=lb) rfl eg dr (Below.refl _ _) (fun k hk=>by have:=hS k hk;omega) (fun i=>rfl)
  (fun i V=>CmI s w B (l.take i) V) (fun _ _ _=>False) (fun i=>CmI.sta (by omega)) (fun c i=>cO.pure) (by rw[List.take_zero];exact fx.o) ?rnd ?done ?stop
 case stop=>rintro D' c i V hD hi h;exact h.elim
 case rnd=>
  intro yl i V hi hl iT;unfold xO;obtain⟨e,kj⟩:∃ e,l.getD i 0=e:=⟨_,rfl⟩;have yK:l[i]=e:=by rw[<-kj,aA 0 hi]
  have jd:=HL.o l[i] (List.getElem_mem hi);rw[yK]at jd;have la:am (comM s (l.take (i+1))=comM s (l.take i) &&& il s e):=aa (by rw[List.take_succ_eq_append_getElem hi,F',yK]);rw[kj];have pD:=aa iT;clear iT kj yK dr
  gi_wp2
  refine⟨Bod.refl _ _ _,fun V=>CmI s w B (l.take i) V,CmI.sta (by omega),pD.o,fun V2 h2 jI=>?_⟩;have da:=aa h2;have tf:=ab h2.fn 0;simp at tf;obtain⟨pv,cv,t10,ev⟩:=(kV.o.up h2.old).val;obtain⟨b,o,rfl,te⟩:=ev e jd;have HC:=aa (Lx (w.heap.size+1) w.heap.size B (eS s) cv e (comM s (l.take i)) (il s e) b o (LW _ _) (LV _ _) jd V2 h2.out (by rw[ab h2.sc];rfl) t10 te);have JM:=h2.old.size;clear h2 t10 ev te jI
  gi_wp2
  refine⟨trivial,rfl,yh (HC.o.mono ?_)⟩;rintro r w3 ⟨⟨x,rfl⟩,rfl⟩
  gi_wp2
  obtain⟨q1,q2,q3,q4⟩:=da.o;refine⟨⟨by simp,fun k hk=>?_,fun k o _ hk ho=>?_⟩,⟨(q1.drew.setCell (by dsimp only;omega) _),aK (by exact q2) (by omega) _ _,?_,aK (by exact q4) (by omega) _ _⟩⟩
  ·have:=hS k hk;exact Below.heap_setCell V2.drew _ _ _ (by dsimp only;omega)
  ·exact(KeepsOthers.setCell V2.drew _ _).same k o hk ho
  ·rw[la.o];exact(aF (W:=V2.drew) q3 0 _).trans rfl
 case done=>
  intro D' V hD iT hK;rw[List.take_of_length_le (Nat.le_refl _)]at iT;have t1:=ab iT.out 0;simp at t1;have pD:=aa iT;clear iT dr
  go_wp2_with fail
  refine iM hK (results_tmp rfl _ _ _) ?_;exact⟨rfl,eX (by omega) pD.o.old⟩
end Go.Proofs.YtmeaoneaephjeaaGreatDoor
namespace Go.Proofs.YtmeaoneaephjeaaGreatDoor
open Go.ChangeShapes Go.WideShapes Go.ChangeAt Go.WideMaps Go.WideElems Go.RowKit Go
set_option linter.unusedVariables false
abbrev DM {H : Type} : List (String × DataW H) := [("math/bits.deBruijn32tab", Rows.laid_math_bits_deBruijn32tab), ("math/bits.deBruijn64tab", Rows.laid_math_bits_deBruijn64tab)]
theorem Tryz.g64 : Tryz.prog.globalNamed "math/bits.deBruijn64tab" = some 1 := by kernel_rfl
theorem Tryz.t64:(Tryz.prog.globals[1]?).map (·.type)=some 268:=by kernel_rfl
theorem Tryz.cU8:Tryz.prog.cellsOf 5=1:=by kernel_rfl
theorem S'(os:Os) (args:Array Value):laidMetH Tryz.prog DM ((World.doorLaid Tryz.prog 400 os).forCall (fun _ _=>0) ⟨#[],args,[]⟩).memory:=
 laidMetH_of_parts3 (fuel:=8) (laidMet_of_run' 8 (by kernel_rfl) (by kernel_rfl)) (by kernel_rfl) (by kernel_rfl)
theorem ZO{H:Type}:(Rows.laid_math_bits_deBruijn64tab:DataW H)=.agg (Lib.deBruijn64tab.map fun n:Nat=>.lit (.int .u8 ((n:Nat):Int))):=rfl
theorem Ta{H:Type} (tab:List Nat) (i:Nat) (hi:i<tab.length) (m:Int) (h:(tab.map fun n:Nat=>(DataW.lit (.int .u8 ((n:Nat):Int)):DataW H))[i]?=some (.lit (.int .u8 m))):m=((tab.getD i 0:Nat):Int):=by
 rw[List.getElem?_map,List.getElem?_eq_getElem hi]at h;rw[aA 0 hi];injection h with h
 injection h with h
 injection h with _ h
 exact h.symm
theorem WS{W:World} (h:laidMetH Tryz.prog DM W):iH W:=by
 rw[MakeChecks.laidMetH_plain _ _ _ (by kernel_rfl)]at h;obtain⟨ps,⟨g1,t1,cs1,f1,p1,q1,_,_,_,_,⟨g0,t0,cs0,f0,p0,q0,uS,ht0,Wa,Rm,_⟩,_⟩,_⟩:=h;obtain rfl:=dp (Tryz.g64.symm.trans uS);obtain rfl:=dp (Tryz.t64.symm.trans ht0);rw[ZO]at Rm;obtain⟨xs,m1,rfl,dL,cC,gK,kj⟩:=DataW.trod_array Tryz.underlying268 Rm;simp only[Prod.mk.injEq,DataW.agg.injEq]at dL;intro i hi;have hi64:i<64:=hi;have h2:=kj i hi;rw[Tryz.cU8,Nat.mul_one,List.getElem?_eq_getElem (by omega)]at h2;obtain⟨m,e1,e2,_⟩:=DataW.trod_int Tryz.underlying5 h2;have hc:=World.var?_cell uS Wa i;have h3:((cs0.toList.drop i).take 1)[0]?=cs0[i]?:=by simp
 rw[e1]at h3;have h4:cs0[i]?=some (.int .u8 m):=h3.symm.trans rfl;rw[h4]at hc;rw[hc]
 have h5:(xs.map (·.1))[i]?=some (.lit (.int .u8 m)):=by
  rw[List.getElem?_map,List.getElem?_eq_getElem (by omega),e2];rfl
 rw[<-dL.1]at h5;rw[Ta _ i hi m h5]
theorem Tryz.own:ownKnob Tryz.prog.godebug=none:=by kernel_rfl
theorem Tryz.laidOut:laidOutB Tryz.prog=true:=by kernel_rfl
end Go.Proofs.YtmeaoneaephjeaaGreatDoor
namespace Go.Proofs.YtmeaoneaephjeaaGreatDoor
def jX(dh:Int) (st:List Int × List Nat) (f:Nat):List Int × List Nat:=if st.1.getD f 0<0 then(st.1.set f dh,st.2++[f]) else st
def eN(s:Sys) (h:Nat) (D:List Int) (l:List Nat):List Int × List Nat:=l.foldl (jX (D.getD h 0+1)) (D,[])
theorem DN(s:Sys) (h:Nat) (D:List Int) (l:List Nat) (f:Nat):eN s h D (l++[f])=jX (D.getD h 0+1) (eN s h D l) f:=by simp[eN]
theorem QA(dh:Int) (st:List Int × List Nat) (f:Nat):(jX dh st f).1.length=st.1.length:=by unfold jX;split<;>simp
theorem zQ(s:Sys) (h:Nat) (D:List Int) (l:List Nat):(eN s h D l).1.length=D.length:=by
 unfold eN;generalize D.getD h 0+1=dh
 have key:∀ (l:List Nat) (st:List Int × List Nat),(l.foldl (jX dh) st).1.length=st.1.length:=by
  intro l;induction l with
  | nil=>intro st;rfl
  | cons a r ih=>intro st;rw[List.foldl_cons,ih,QA]
 exact key l _
theorem Tb{s:Sys} {h:Nat} {D:List Int} (hl:D.length=eS s) (h0:0<=D.getD h 0):∀ k,k<=eS s->(∀ e,e<eS s->(eN s h D (go s h k)).1.getD e 0=jr (byB s) (fun e=>D.getD e 0) h k e)/\(eN s h D (go s h k)).2=vG (byB s) (fun e=>D.getD e 0) h k:=by
 intro k;induction k with
 | zero=>intro _;exact⟨fun e _=>by unfold jr;rw[if_neg (by omega)];rfl,rfl⟩
 | succ k ih=>
  intro hk;obtain⟨i1,i2⟩:=ih (by omega);have cC:=zQ s h D (go s h k)
  have hq:vG (byB s) (fun e=>D.getD e 0) h (k+1)=vG (byB s) (fun e=>D.getD e 0) h k++if decide (D.getD k 0<0)&&byB s h k then [k] else []:=by
   unfold vG;rw[List.range_succ,List.filter_append];cases hb:decide (D.getD k 0<0)&&byB s h k<;>simp[hb]<;>simpa using hb
  have rA:(eN s h D (go s h k)).1.getD k 0=D.getD k 0:=by rw[i1 k (by omega)];unfold jr;rw[if_neg (by omega)]
  cases hn:uC s h k with
  | true=>
   have gR:byB s h k=true:=by unfold uC at hn;simp only[Bool.and_eq_true]at hn;exact hn.1
   rw[xN hn,DN];unfold jX;rw[rA];by_cases hd:D.getD k 0<0
   ·rw[if_pos hd];refine⟨fun e he=>?_,?_⟩
    ·dsimp only;rw[fO _ _ _ _ _ (by omega)];by_cases ee:e=k
     ·subst ee;rw[if_pos rfl];unfold jr;rw[if_pos ⟨by omega,hd,gR⟩]
     ·rw[if_neg ee,i1 e he];unfold jr;by_cases hc:e<k/\D.getD e 0<0/\byB s h e=true
      ·rw[if_pos hc,if_pos ⟨by omega,hc.2⟩]
      ·rw[if_neg hc,if_neg (fun h=>hc ⟨by omega,h.2⟩)]
    ·dsimp only;rw[i2,hq,decide_eq_true hd,gR];rfl
   ·rw[if_neg hd];refine⟨fun e he=>?_,?_⟩
    ·rw[i1 e he];unfold jr;by_cases ee:e=k
     ·subst ee;rw[if_neg (fun h=>hd h.2.1),if_neg (fun h=>hd h.2.1)]
     ·by_cases hc:e<k/\D.getD e 0<0/\byB s h e=true
      ·rw[if_pos hc,if_pos ⟨by omega,hc.2⟩]
      ·rw[if_neg hc,if_neg (fun h=>hc ⟨by omega,h.2⟩)]
    ·rw[i2,hq,decide_eq_false hd,Bool.false_and];simp
  | false=>
   rw[AX hn]
   have gL:¬ (D.getD k 0<0/\byB s h k=true):=fun ⟨g1,g2⟩=>by
    unfold uC at hn;rw[g2,Bool.true_and]at hn;have:k=h:=by simpa using hn
    subst this;omega
   refine⟨fun e he=>?_,?_⟩
   ·rw[i1 e he];unfold jr;by_cases ee:e=k
    ·subst ee;rw[if_neg (fun h=>gL h.2),if_neg (fun h=>gL h.2)]
    ·by_cases hc:e<k/\D.getD e 0<0/\byB s h e=true
     ·rw[if_pos hc,if_pos ⟨by omega,hc.2⟩]
     ·rw[if_neg hc,if_neg (fun h=>hc ⟨by omega,h.2⟩)]
   ·rw[i2,hq];cases hd:decide (D.getD k 0<0)&&byB s h k with
    | false=>simp
    | true=>simp only[Bool.and_eq_true,decide_eq_true_eq]at hd;exact absurd hd gL
theorem Gt{n:Nat} {L:Nat->Nat->Bool} {f:Nat} {D E:Nat->Int} {Q:List Nat} (hf:f<n) (h:Bfs n L f D Q) (he:∀ e,e<n->D e=E e):Bfs n L f E Q:=by
 refine⟨by rw[<-he f hf];exact h.zero,fun e h1 h2=>h.only e h1 (by rw[he e h1];exact h2),fun e h1=>by rw[<-he e h1];exact h.low e h1,fun e h1 d h2=>?_,fun q hq=>?_,fun e g h1 h2 h3 h4 h5=>?_,?_,fun a r h1 e h2=>?_⟩
 ·obtain⟨g,hg,e1,e2⟩:=h.pred e h1 d (by rw[he e h1];exact h2);exact⟨g,hg,by rw[<-he g hg];exact e1,e2⟩
 ·have:=h.ok q hq;exact⟨this.1,by rw[<-he q this.1];exact this.2⟩
 ·rw[<-he e h1,<-he g h2];exact h.done e g h1 h2 (by rw[he g h2];exact h3) h4 h5
 ·refine h.asc.imp_of_mem fun {a b} ha hb BJ=>?_
  rw[<-he a (h.ok a ha).1,<-he b (h.ok b hb).1];exact BJ
 ·have ha:=(h.ok a (by rw[h1];simp)).1;rw[<-he e h2,<-he a ha];exact h.near a r h1 e h2
theorem QB{s:Sys} {f h:Nat} (hf:f<eS s) {D:List Int} {r:List Nat} (hl:D.length=eS s) (b:Bfs (eS s) (byB s) f (fun e=>D.getD e 0) (h :: r)) :
  Bfs (eS s) (byB s) f (fun e=>(eN s h D (ez s h)).1.getD e 0) (r++(eN s h D (ez s h)).2)/\(r++(eN s h D (ez s h)).2).length+((List.range (eS s)).filter fun e=>decide ((eN s h D (ez s h)).1.getD e 0<0)).length<(h :: r).length+((List.range (eS s)).filter fun e=>decide (D.getD e 0<0)).length:=by
 have h0:=(b.ok h (by simp)).2;obtain⟨i1,i2⟩:=Tb hl h0 (eS s) (Nat.le_refl _);unfold ez;refine⟨?_,?_⟩
 ·rw[i2];exact Gt hf (b.step (fun e g=>IT s e g)) fun e he=>(i1 e he).symm
 ·have h3:=K7 (n:=eS s) (byB s) (fun e=>D.getD e 0) h h0 r;rw[i2]
  have h4:((List.range (eS s)).filter fun e=>decide ((eN s h D (go s h (eS s))).1.getD e 0<0))=(List.range (eS s)).filter fun e=>decide (jr (byB s) (fun e=>D.getD e 0) h (eS s) e<0):=
   List.filter_congr fun e he=>by rw[i1 e (List.mem_range.1 he)]
  rw[h4];exact h3
theorem WT{s:Sys} {f:Nat} (hf:f<eS s) {D:List Int} (hl:D.length=eS s) (b:Bfs (eS s) (byB s) f (fun e=>D.getD e 0) []):D=farL s f:=by
 have h1:=K6 b.dist (lI hf);refine List.ext_getElem (by rw[hl,nr]) fun i h2 h3=>?_
 have h4:=h1 i (by omega);rw[show D.getD i 0=D[i] by simp[h2],show (farL s f).getD i 0=(farL s f)[i] by simp[h3]]at h4;exact h4
end Go.Proofs.YtmeaoneaephjeaaGreatDoor
namespace Go.Proofs.YtmeaoneaephjeaaGreatDoor
open Go.RowKit Go Go.Shelf
attribute [local go_sem] Oper.semAt_some
theorem AY{s:Sys} (hv:verifyE s=0):0<eS s:=by
 obtain⟨hb,hs⟩:=F7 hv;have hp:=(jh hv).prob;obtain⟨ht,ha,_⟩:=sp hp;have h1:=(fB ht).2.2.2.1.1;have h2:=ir ha;have h3:=Gn h2.2.1 (by have:=h2.1;omega) s.prob.rounds.toNat 0 (by have:=h2.1;omega);rw[hs]
 show 0<(execsS s.prob (aL s.prob) (jv s.prob.t.cases.length (aL s.prob).length)).2.length
 unfold execsS;rw[zp,zs];have:0<(aL s.prob).length:=h3;have:=Nat.mul_pos (show 0<s.prob.t.cases.length by omega) this;simp;omega
def oI(s:Sys):Nat:=(maxTo (partsS s) ((partsS s).length - 1)).toNat
def lj(s:Sys) (k:Nat):List Int:=(List.range k).map fun x:Nat=>comB s (memL (partsS s) x)
def ji(s:Sys):List Int:=lj s (oI s+1)
theorem li(s:Sys) (e:Nat) (he:e<eS s):0<=(partsS s).getD e 0/\(partsS s).getD e 0<=e:=mE (xM s _) e (by rw[gS];exact he)
theorem DO{s:Sys} (h0:0<eS s):maxTo (partsS s) ((partsS s).length - 1)=(oI s:Int)/\oI s<eS s:=by
 obtain⟨i,hi,e⟩:=CC (partsS s) ((partsS s).length - 1);rw[dm]at hi;have h1:=li s i (by omega);unfold oI;rw[e];exact⟨by omega,by omega⟩
theorem qU{s:Sys} (h0:0<eS s) (e:Nat) (he:e<eS s):((partsS s).getD e 0).toNat<=oI s:=by
 have h1:=Jq (partsS s) ((partsS s).length - 1) e (by rw[dm];omega);have h2:=(DO h0).1;omega
theorem mH{f:Nat->Int} {n k:Nat} (h:k<n):((List.range n).map f).getD k 0=f k:=by simp[h]
theorem QC{s:Sys} (h0:0<eS s) (e:Nat) (he:e<eS s):(ji s).getD ((partsS s).getD e 0).toNat 0=(choiceS s).getD e 0:=by
 have h1:=qU h0 e he;have h2:=li s e he;unfold ji lj choiceS;rw[mH (by omega),mH he,show ((((partsS s).getD e 0).toNat:Nat):Int)=(partsS s).getD e 0 by omega]
theorem ss{s:Sys} {x:Int}:∀ e∈memL (partsS s) x,e<eS s:=fun e he=>by
 have:=(kH.1 he).1;rw[dm]at this;exact this
theorem wB(s:Sys) (l:List Nat) (ho:oS s<=8):bN (comB s l):=by
 have:=M9 s l;unfold comB at *;rcases bE (oS s) (fun v=>l.all fun e=>valB s e v) with ⟨e,_⟩|⟨k,hk,e,_⟩
 ·rw[e];exact⟨by omega,by omega⟩
 ·rw[e];exact⟨by omega,by omega⟩
theorem vO(s:Sys) (hs:SysOk s) (h0:0<eS s) (hE:eS s<=256) (B:Nat) (w:World) (gj:ScAt w B s) (hT:iH w) :
  Calls Tryz.prog 41 #[.pointer (some ⟨B,0,none⟩)] w fun r w'=>∃ u,r=.returned u/\aT w' u (ji s)/\Below w.heap.size w w':=by
 obtain⟨vc,vs,vt,ve,vv,vl,h1,_,_,h2⟩:=gj.ex;obtain⟨pl,cl,rfl,lt1,lt2,el⟩:=h2.at;have tl:w.cell? ⟨B,11,none⟩=some (.slice pl (partsS s).length cl):=(ab h1 11).trans rfl;obtain⟨i0,cM,bX,bP,bY⟩:=info_parts Tryz.infoInt;have bO:=aa (And.intro cM (And.intro bX (And.intro bP bY)));have jT:=aa (If _ _ w h2 (by rw[dm];exact h0));have htop:=(DO h0).2;rw[(DO h0).1]at jT;have kV:=aa gj;have HT:=aa hT;have Zw:=aa (fun (k:Nat) (W:World) (hb:Below w.heap.size w W) (q:Nat) (hq:comB s (memL (partsS s) k)=firstIx 8 (xp s (memL (partsS s) k)))=>DF (xp s (memL (partsS s) k)) W (hT.up hb));have ik:am (∀ k:Nat,comB s (memL (partsS s) k)=firstIx 8 (xp s (memL (partsS s) k))):=aa fun k=>LI hs ss
 have jE:am (lj s 0=[]/\(∀ k,lj s (k+1)=lj s k++[comB s (memL (partsS s) k)])/\(∀ k,(lj s k).length=k)/\∀ k,∀ x∈lj s k,bN x):=aa ⟨rfl,fun k=>by simp[lj,List.range_succ],fun k=>by simp[lj],fun k x hx=>by
  obtain⟨j,_,rfl⟩:=List.mem_map.1 hx
  exact wB s _ hs.outs.2.1⟩
 have ie:am (lj s (oI s+1)=ji s):=aa rfl;obtain⟨M,hM⟩:∃ M,oI s=M:=⟨_,rfl⟩;rw[hM]at htop jT ie;clear h1 h2 gj hT cM bX bP bY el hM
 go_enter Tryz.func41,Tryz.ntmps41
 go_wp2_with fail
 refine jT.o.mono ?_;rintro e w1 ⟨rfl,rfl⟩;clear tl
 go_wp2_with fail
 go_loopw [3,11] (fun o i wr=>∃ k:Nat,k<=M+1/\i=.int .i64 k/\Below w.heap.size w wr/\aH wr w.heap.size 3 1 o k ((lj s k).map (Value.int .i64))) (fun _ i _=>M+1 - (intOf i).toNat)
 ·exact⟨0,by omega,rfl,Below.refl _ _,by rw[jE.o.1];exact aH.nil _ _ _ _⟩
 ·
  obtain⟨k,hk,rfl,az,aS⟩:=hrel;obtain⟨al,cl2,rfl⟩:=aS.slice;have bG:=aa aS;have aP:=aa az;have z5:=az.size;clear aS az;by_cases aB:k<M+1
  ·have mx:(k:Int)<(M:Int)+1:=by omega
   go_wp2_with fail
   refine(yy B k wr).mono ?_;rintro e w2 ⟨rfl,rfl⟩
   go_wp2_with fail
   refine aN (fun W=>Below wr.heap.size wr W/\W.heap[wr.heap.size]?=some (.cells #[.pointer (some ⟨B,0,none⟩)] 94)/\W.heap[wr.heap.size+1]?=some (.cells #[.int .i64 k] 3)) ⟨by go_grown,ar _ (aq _ _),bd _ _ _⟩ (fun W2 eY=>?_);obtain⟨a8,eA,iR⟩:=eY;have sK:=ae aP.o a8;have JT:=aC iR;refine(DL s B 135 _ (enters_of Tryz.func135 (by kernel_rfl) rfl) (memL (partsS s) k) ss (fun q=>q<wr.heap.size\/q=wr.heap.size\/q=wr.heap.size+1) W2 (kV.o.up sK) (fun q hq=>by rcases hq with hq|rfl|rfl<;>omega) (fun W hb=>wA s B wr.heap.size (wr.heap.size+1) k wr (kV.o.up aP.o) W (ae a8 hb) (by rw[ab (af hb eA)];rfl) (by rw[ab (af hb iR)];rfl))).mono ?_;rintro e w3 ⟨rfl,bH⟩;have vU:=ae sK bH;have oN:=aa (ae a8 bH);clear eA iR a8 sK bH
   go_wp2_with fail
   refine(Zw.o k w3 vU 0 (ik.o k)).mono ?_;rintro e w4 ⟨rfl,rfl⟩;rw[<-ik.o k];obtain⟨x,hx⟩:∃ x,comB s (memL (partsS s) k)=x:=⟨_,rfl⟩;rw[hx];have jR:am (lj s (k+1)=lj s k++[x]):=aa (by rw[<-hx];exact jE.o.2.1 k);have cL:=aa ((bG.o.up oN.o).up ((Below.refl _ w3).alloc (Nat.le_refl _) (.cells #[.int .i64 x] 3)));have bA:=aa (dx w3 [.int .i64 x] 3);have ef:=aa vU;have io:am (k+1<=maxLen):=aa (by unfold maxLen;omega);have dD:am ((k+1) * 8<=140737488355328):=aa (by omega);have fH:am (w.heap.size<=(w3.alloc (.cells #[.int .i64 x] 3)).heap.size):=aa (by have:=ef.o.size;simp;omega);clear vU hx
   go_wp2_with (at_builtin;(refine aX _ rfl (.tmp 14) (.tmp 21) 38 rfl w.heap.size 3 i0 _ 1 8 Tryz.underlying38 bO.o.1 bO.o.2.1 bO.o.2.2.1 bO.o.2.2.2 rfl (by decide) _ k _ rfl cL.o ⟨w3.heap.size,0,none⟩ 1 1 [.int .i64 x] rfl rfl bA.o (by simp[Value.oneCell']) io.o dD.o fH.o ?_;intro v6 w6 eP dQ _))
   go_roundw
   ·
    refine⟨k+1,by omega,by go_num,dB ef.o (Nat.le_refl _) cL.o dQ,?_⟩;rw[jR.o,List.map_append];exact eP
   ·simp[intOf];omega
  ·obtain rfl:k=M+1:=by omega
   have mx:¬ ((M:Int)+1<(M:Int)+1):=by omega
   go_wp2_with fail
   go_ret
   refine⟨_,rfl,?_,aP.o⟩;rw[<-ie.o];have h3:=jE.o.2.2.1 (M+1);exact fI (base:=w.heap.size) (by rw[h3];exact bG.o) (jE.o.2.2.2 _) (by omega)
def iJ(s:Sys) (e k:Nat):List Int:=((List.range k).filter (valB s e)).map fun v:Nat=>(v:Int)
theorem Tc{s:Sys} (h:SysOk s) {e:Nat} (he:e<eS s):iJ s e 8=valuesS s e:=by
 unfold iJ valuesS;have ho:=h.outs.2.1;obtain⟨d,hd⟩:∃ d,8=oS s+d:=⟨8 - oS s,by omega⟩
 have kl:((List.range d).map (oS s+·)).filter (valB s e)=[]:=List.filter_eq_nil_iff.2 fun v hv h2=>by
  obtain⟨j,_,rfl⟩:=List.mem_map.1 hv;have:=Ps h he h2;omega
 rw[hd,List.range_add,List.filter_append,kl,List.append_nil]
theorem Jw{s:Sys} {e k:Nat} (h:valB s e k=true):iJ s e (k+1)=iJ s e k++[(k:Int)]:=by
 unfold iJ;rw[List.range_succ,List.filter_append,List.map_append];simp[h]
theorem LX{s:Sys} {e k:Nat} (h:valB s e k=false):iJ s e (k+1)=iJ s e k:=by
 unfold iJ;rw[List.range_succ,List.filter_append,List.map_append];simp[h]
theorem CG(s:Sys) (e k:Nat):(iJ s e k).length<=k:=by
 unfold iJ;rw[List.length_map];exact Nat.le_trans (List.length_filter_le _ _) (by simp)
theorem lM(w:World):aT w (.slice none 0 0) []:=fI (aH.nil w 0 _ _) (by simp) (by simp)
theorem NF(s:Sys) (x:Int) (hE:eS s<=256) (vc vs vt ve:Value) (w:World) (hs:IsSys w s vc vs vt ve) (hN:movesN s.prob.a.states<1099511627776) :
  Calls Tryz.prog 11 #[.agg (bL s.prob vc vs s.n vt ve),.int .i64 x] w fun r w'=>∃ u,r=.returned (.tuple #[u,.int .i64 (valuesR s x).2])/\aT w' u (valuesR s x).1/\Below w.heap.size w w':=by
 have HS:=aa hs;obtain⟨⟨pc,cc,rfl⟩,⟨ps,cs,rfl⟩,⟨pt,ct,rfl⟩,⟨pe,ce,rfl⟩⟩:=bB hs;clear hs;have HC:=aa (fun W (hb:Below w.heap.size w W)=>oH s hE _ _ _ _ W (HS.o.up hb) hN);obtain⟨i0,cM,bX,bP,bY⟩:=info_parts Tryz.infoInt;have bO:=aa (And.intro cM (And.intro bX (And.intro bP bY)))
 have dA:am (readyE s=0->SysOk s):=aa fun h=>by
  refine jh ?_;unfold readyE at h;split at h
  ·rename_i h1;exact absurd h h1
  ·omega
 have dg:am (readyE s≠0->valuesR s x=([],readyE s)):=aa fun h=>by unfold valuesR;rw[if_pos h]
 have dU:am (readyE s=0->(x<0\/(eS s:Int)<=x)->valuesR s x=([],6)):=aa fun h h2=>by unfold valuesR;rw[if_neg (by omega),if_pos h2]
 have eT:am (readyE s=0->¬ (x<0\/(eS s:Int)<=x)->valuesR s x=(valuesS s x.toNat,0)):=aa fun h h2=>by unfold valuesR;rw[if_neg (by omega),if_neg h2]
 generalize valuesR s x=vr at dg dU eT ⊢;obtain⟨re,lR⟩:∃ re,readyE s=re:=⟨_,rfl⟩;rw[lR]at dg dU eT HC dA;clear lR cM bX bP bY
 go_enter Tryz.func11,Tryz.ntmps11
 go_wp2_with fail
 refine aN (fun W=>Below w.heap.size w W) (by go_grown) (fun W0 aI=>?_);refine(HC.o W0 aI).mono ?_;rintro e w1 ⟨v,rfl,aJ,h2,h3⟩;have bK:=aa (ae aI aJ);by_cases hr:re=0
 case neg=>
  have HV:=aa (dg.o hr);obtain rfl:=h2 hr;have Hi:(re != 0)=true:=by simpa using hr
  clear aI aJ h2 h3 hr HC
  go_wp2_with fail
  go_ret2
  exact⟨_,by rw[HV.o];rfl,by rw[HV.o];exact lM _,bK.o⟩
 obtain⟨B,rfl,hB,gj⟩:=h3 hr;have kV:=aa gj;obtain⟨pv,cv,tv,ev⟩:=gj.val;have EV:=aa ev;have JX:=aa (dA.o hr);subst hr;have gc:=bK.o.size;clear aI aJ h2 h3 HC gj ev;by_cases dj:x<0
 ·have HV:=aa (dU.o rfl (.inl dj));have hd:decide (x<0)=true:=decide_eq_true dj;clear dj
  go_wp2_with fail
  go_ret2
  exact⟨_,by rw[HV.o];rfl,by rw[HV.o];exact lM _,bK.o⟩
 have hd:decide (x<0)=false:=decide_eq_false dj;obtain⟨e,rfl⟩:∃ e:Nat,x=e:=⟨x.toNat,by omega⟩;by_cases dL:eS s<=e
 ·have HV:=aa (dU.o rfl (.inr (by omega)));have gM:decide ((eS s:Int)<=(e:Int))=true:=decide_eq_true (by omega);have rf:decide (eS s<=e)=true:=decide_eq_true dL;clear dj dL
  go_wp2_with fail
  go_ret2
  exact⟨_,by rw[HV.o];rfl,by rw[HV.o];exact lM _,bK.o⟩
 have gM:decide ((eS s:Int)<=(e:Int))=false:=decide_eq_false (by omega);have rf:decide (eS s<=e)=false:=decide_eq_false dL;have HV:=aa (eT.o rfl (by omega));have he:e<eS s:=by omega
 obtain⟨b,o,rfl,te⟩:=EV.o e he;have BT:am (iJ s e 8=valuesS s e):=aa (Tc JX.o he);clear dj dL
 go_wp2_with fail
 go_loopw [8,29] (fun q i wr=>∃ k:Nat,k<=8/\i=.int .i64 k/\Below w1.heap.size w1 wr/\aH wr w1.heap.size 3 1 q (iJ s e k).length ((iJ s e k).map (Value.int .i64))) (fun _ i _=>8 - (intOf i).toNat)
 ·exact⟨0,by omega,rfl,Below.refl _ _,aH.nil _ _ _ _⟩
 ·
  obtain⟨k,hk,rfl,az,aS⟩:=hrel;obtain⟨al,cl2,rfl⟩:=aS.slice;have bG:=aa aS;have aP:=aa az;have z5:=az.size;have tvr:=ak aP.o tv;have ter:=ak aP.o te;clear aS az;by_cases aB:k<8
  ·have mx:(k:Int)<8:=by omega
   have gP:=rZ ((il s e:Nat):Int) k;have ZG:hasB ((il s e:Nat):Int) k=valB s e k:=by unfold il;rw[jz,decide_eq_true aB,Bool.true_and]
   rw[ZG]at gP;have vh:=CG s e k;cases hb:valB s e k with
   | true=>
    have HY:=aa (Jw hb);rw[hb]at gP;obtain⟨n,hn⟩:∃ n,(iJ s e k).length=n:=⟨_,rfl⟩;rw[hn]at vh bG ⊢;have ri:am ((iJ s e (k+1)).length=n+1):=aa (by rw[HY.o,List.length_append,hn];rfl);have cL:=aa (bG.o.up ((Below.refl _ wr).alloc (Nat.le_refl _) (.cells #[.int .i64 k] 3)));have bA:=aa (dx wr [.int .i64 (k:Int)] 3);have io:am (n+1<=maxLen):=aa (by unfold maxLen;omega);have dD:am ((n+1) * 8<=140737488355328):=aa (by omega);have fH:am (w1.heap.size<=(wr.alloc (.cells #[.int .i64 k] 3)).heap.size):=aa (by simp;omega);clear hb ZG hn
    go_wp2_with (at_builtin;(refine aX _ rfl (.tmp 43) (.tmp 45) 38 rfl w1.heap.size 3 i0 _ 1 8 Tryz.underlying38 bO.o.1 bO.o.2.1 bO.o.2.2.1 bO.o.2.2.2 rfl (by decide) _ n _ rfl cL.o ⟨wr.heap.size,0,none⟩ 1 1 [.int .i64 (k:Int)] rfl rfl bA.o (by simp[Value.oneCell']) io.o dD.o fH.o ?_;intro v6 w6 eP dQ _))
    go_roundw
    ·
     refine⟨k+1,by omega,by go_num,dB aP.o (Nat.le_refl _) cL.o dQ,?_⟩;rw[ri.o,HY.o,List.map_append];exact eP
    ·simp[intOf];omega
   | false=>
    have HY:=aa (LX hb);rw[hb]at gP;clear hb ZG
    go_wp2_with fail
    go_roundw
    ·
     refine⟨k+1,by omega,by go_num,aP.o,?_⟩;rw[HY.o];exact bG.o
    ·simp[intOf];omega
  ·obtain rfl:k=8:=by omega
   clear tvr ter
   go_wp2_with fail
   go_ret2
   refine⟨_,by rw[HV.o];rfl,?_,ae bK.o aP.o⟩;rw[HV.o,Int.toNat_natCast,<-BT.o];refine fI (l:=iJ s e 8) bG.o (fun y hy=>?_) (by have:=CG s e 8;omega);obtain⟨j,hj,rfl⟩:=List.mem_map.1 hy;have:=List.mem_range.1 (List.mem_filter.1 hj).1;exact⟨by omega,by omega⟩
theorem NG(s:Sys) (hE:eS s<=256) (vc vs vt ve:Value) (w:World) (hT:iH w) (hs:IsSys w s vc vs vt ve) (hN:movesN s.prob.a.states<1099511627776) :
  Calls Tryz.prog 13 #[.agg (bL s.prob vc vs s.n vt ve)] w fun r w'=>∃ u,r=.returned (.tuple #[u,.int .i64 (choiceR s).2])/\aT w' u (choiceR s).1/\Below w.heap.size w w':=by
 have HS:=aa hs;have HT:=aa hT;obtain⟨⟨pc,cc,rfl⟩,⟨ps,cs,rfl⟩,⟨pt,ct,rfl⟩,⟨pe,ce,rfl⟩⟩:=bB hs;clear hs hT;have HC:=aa (fun W (hb:Below w.heap.size w W)=>oH s hE _ _ _ _ W (HS.o.up hb) hN);obtain⟨i0,cM,bX,bP,bY⟩:=info_parts Tryz.infoInt;have bO:=aa (And.intro cM (And.intro bX (And.intro bP bY)))
 have l4:am (readyE s=0->verifyE s=0):=aa fun h=>by
  unfold readyE at h;split at h
  ·rename_i h1;exact absurd h h1
  ·omega
 have dg:am (readyE s≠0->choiceR s=([],readyE s)):=aa fun h=>by unfold choiceR;rw[if_pos h]
 have eT:am (readyE s=0->choiceR s=(choiceS s,0)):=aa fun h=>by unfold choiceR;rw[if_neg (by omega)]
 generalize choiceR s=vr at dg eT ⊢;obtain⟨re,lR⟩:∃ re,readyE s=re:=⟨_,rfl⟩;rw[lR]at dg eT HC l4;clear lR cM bX bP bY
 go_enter Tryz.func13,Tryz.ntmps13
 go_wp2_with fail
 refine aN (fun W=>Below w.heap.size w W) (by go_grown) (fun W0 aI=>?_);refine(HC.o W0 aI).mono ?_;rintro e w1 ⟨v,rfl,aJ,h2,h3⟩;have bK:=aa (ae aI aJ);by_cases hr:re=0
 case neg=>
  have HV:=aa (dg.o hr);obtain rfl:=h2 hr;have Hi:(re != 0)=true:=by simpa using hr
  clear aI aJ h2 h3 hr HC
  go_wp2_with fail
  go_ret2
  exact⟨_,by rw[HV.o];rfl,by rw[HV.o];exact lM _,bK.o⟩
 obtain⟨B,rfl,hB,gj⟩:=h3 hr;have kV:=aa gj;have HV:=aa (eT.o hr);have q7:=aa (l4.o hr);have dA:=aa (jh q7.o);have HP:=aa (AY q7.o);subst hr;have gc:=bK.o.size;clear aI aJ h2 h3 HC gj
 go_wp2_with fail
 refine(vO s dA.o HP.o hE B w1 kV.o (HT.o.up bK.o)).mono ?_;rintro e w2 ⟨u,rfl,hu,a8⟩;have HU:=aa hu;obtain⟨pu,cu,rfl,eu⟩:=df hu;have EU:=aa eu;have cQ:=aa (ae bK.o a8);obtain⟨vc,vs,vt,ve,vv,vl,q1,_,_,q2⟩:=(kV.o.up a8).ex;obtain⟨pl,cl,rfl,el⟩:=df q2;have EL:=aa el;have tl:w2.cell? ⟨B,11,none⟩=some (.slice pl (partsS s).length cl):=(ab q1 11).trans rfl;have kg:am ((ji s).length=oI s+1):=aa (by simp[ji,lj]);have HL:am ((partsS s).length=eS s):=aa (dm s);obtain⟨L,hL⟩:∃ L:Nat->List Int,L=fun k=>(List.range k).map fun e=>(choiceS s).getD e 0:=⟨_,rfl⟩
 have iw:am (L 0=[]/\(∀ k,L (k+1)=L k++[(choiceS s).getD k 0])/\(∀ k,(L k).length=k)/\L (eS s)=choiceS s/\∀ k,k<=eS s->∀ x∈L k,bN x):=aa (by
  subst hL;refine⟨rfl,fun k=>by simp[List.range_succ],fun k=>by simp,?_,fun k hk x hx=>?_⟩
  ·unfold choiceS;exact List.map_congr_left fun e he=>mH (List.mem_range.1 he)
  ·obtain⟨j,hj,rfl⟩:=List.mem_map.1 hx;have:=List.mem_range.1 hj;unfold choiceS;rw[mH (by omega)]
   exact wB s _ dA.o.outs.2.1)
 have rG:am (∀ k,k<eS s->0<=(partsS s).getD k 0/\((partsS s).getD k 0).toNat<(ji s).length/\(ji s).getD ((partsS s).getD k 0).toNat 0=(choiceS s).getD k 0):=aa fun k hk=>⟨(li s k hk).1,by have:=qU HP.o k hk;have:=kg.o;omega,QC HP.o k hk⟩
 rw[HL.o]at tl EL;obtain⟨m,hm⟩:∃ m,eS s=m:=⟨_,rfl⟩;rw[hm]at hE iw rG tl EL;clear hu eu a8 q1 q2 el hL hm;obtain⟨cn,Eu⟩:∃ cn,(ji s).length=cn:=⟨_,rfl⟩;rw[Eu]at EU rG ⊢;clear Eu kg HL
 go_wp2_with fail
 clear tl
 go_loopw [7,25] (fun q i wr=>∃ k:Nat,k<=m/\i=.int .i64 k/\Below w2.heap.size w2 wr/\aH wr w2.heap.size 3 1 q k ((L k).map (Value.int .i64))) (fun _ i _=>m - (intOf i).toNat)
 ·exact⟨0,by omega,rfl,Below.refl _ _,by rw[iw.o.1];exact aH.nil _ _ _ _⟩
 ·
  obtain⟨k,hk,rfl,az,aS⟩:=hrel;obtain⟨al,cl2,rfl⟩:=aS.slice;have bG:=aa aS;have aP:=aa az;have z5:=az.size;clear aS;by_cases aB:k<m
  ·obtain⟨b,o,rfl,c1⟩:=EL.o k aB;obtain⟨g1,g2,g3⟩:=rG.o k aB;obtain⟨n,hn⟩:∃ n:Nat,(partsS s).getD k 0=n:=⟨((partsS s).getD k 0).toNat,by omega⟩;rw[hn,Int.toNat_natCast]at g2 g3;obtain⟨b2,o2,rfl,c2⟩:=EU.o n g2;rw[g3]at c2;rw[hn]at c1;have d1:=ak az c1;have d2:=ak az c2;have jR:=aa (iw.o.2.1 k);generalize (choiceS s).getD k 0=x at d2 jR;have cL:=aa (bG.o.up ((Below.refl _ wr).alloc (Nat.le_refl _) (.cells #[.int .i64 x] 3)));have bA:=aa (dx wr [.int .i64 x] 3);have io:am (k+1<=maxLen):=aa (by unfold maxLen;omega);have dD:am ((k+1) * 8<=140737488355328):=aa (by omega);have fH:am (w2.heap.size<=(wr.alloc (.cells #[.int .i64 x] 3)).heap.size):=aa (by simp;omega);clear g1 g3 hn c1 c2 az
   go_wp2_with (at_builtin;(refine aX _ rfl (.tmp 29) (.tmp 34) 38 rfl w2.heap.size 3 i0 _ 1 8 Tryz.underlying38 bO.o.1 bO.o.2.1 bO.o.2.2.1 bO.o.2.2.2 rfl (by decide) _ k _ rfl cL.o ⟨wr.heap.size,0,none⟩ 1 1 [.int .i64 x] rfl rfl bA.o (by simp[Value.oneCell']) io.o dD.o fH.o ?_;intro v6 w6 eP dQ _))
   go_roundw
   ·
    refine⟨k+1,by omega,by go_num,dB aP.o (Nat.le_refl _) cL.o dQ,?_⟩;rw[jR.o,List.map_append];exact eP
   ·simp[intOf];omega
  ·obtain rfl:k=m:=by omega
   clear az
   go_wp2_with fail
   go_ret2
   refine⟨_,by rw[HV.o];rfl,?_,ae cQ.o aP.o⟩;rw[HV.o,<-iw.o.2.2.2.1];exact fI (l:=L k) (by rw[iw.o.2.2.1 k];exact bG.o) (iw.o.2.2.2.2 k (Nat.le_refl _)) (by have:=iw.o.2.2.1 k;omega)
theorem QD(q:Nat->Bool) (p:Nat) (hp:p<=10) (w:World) :
  Calls Tryz.prog 180 #[.int .i64 (maskN q p:Nat),.int .i64 p] w fun r w'=>r=.returned (.int .i64 ((maskN q p:Nat)+2 ^ p))/\w=w':=by
 have aB:=gd q p;have h2:(2:Nat) ^ p<=2 ^ 10:=Nat.pow_le_pow_right (by omega) hp;have HH:=aa (fun w=>jM ((maskN q p:Nat):Int) p (by omega) (by omega) (by omega) w);have hb:hasB ((maskN q p:Nat):Int) p=false:=by rw[jz,decide_eq_false (by omega)];rfl
 rw[hb]at HH;have HP:=aa (fun w=>sg p (by omega) w);have Vd:((2:Int) ^ p)=((2 ^ p:Nat):Int):=by simp
 rw[Vd]at HP ⊢;generalize maskN q p=m at *;generalize 2 ^ p=x at *;clear hb Vd
 go_enter Tryz.func180,Tryz.ntmps180
 go_wp2_with (first|(go_at_call 47;refine(HH.o _).mono ?_;rintro e w' ⟨rfl,rfl⟩)|(go_at_call 88;refine(HP.o _).mono ?_;rintro e w' ⟨rfl,rfl⟩))
 go_ret
 exact⟨rfl,rfl⟩
def kL(x:Int) (k:Nat):List Int:=((List.range k).filter (hasB x)).map fun v:Nat=>(v:Int)
theorem QE(x:Int) (h0:0<=x) (h1:x<1024) (w:World) :
  Calls Tryz.prog 143 #[.int .i64 x] w fun r w'=>∃ u,r=.returned u/\aT w' u (kL x 5)/\Below w.heap.size w w':=by
 obtain⟨i0,cM,bX,bP,bY⟩:=info_parts Tryz.infoInt;have bO:=aa (And.intro cM (And.intro bX (And.intro bP bY)));have HH:=aa (fun p (hp:p<=30) w=>jM x p hp h0 (by omega) w)
 have HE:am (kL x 0=[]/\(∀ k,hasB x k=true->kL x (k+1)=kL x k++[(k:Int)])/\(∀ k,hasB x k=false->kL x (k+1)=kL x k)/\(∀ k,(kL x k).length<=k)/\∀ k,k<=5->∀ y∈kL x k,bN y):=aa ⟨rfl,fun k h=>by unfold kL;rw[List.range_succ,List.filter_append,List.map_append];simp[h],fun k h=>by unfold kL;rw[List.range_succ,List.filter_append,List.map_append];simp[h],fun k=>by unfold kL;rw[List.length_map];exact Nat.le_trans (List.length_filter_le _ _) (by simp),fun k hk y hy=>by
  obtain⟨j,hj,rfl⟩:=List.mem_map.1 hy;have:=List.mem_range.1 (List.mem_filter.1 hj).1
  exact⟨by omega,by omega⟩⟩
 clear cM bX bP bY
 go_enter Tryz.func143,Tryz.ntmps143
 go_wp2_with fail
 go_loopw [3,4] (fun q i wr=>∃ k:Nat,k<=5/\i=.int .i64 k/\Below w.heap.size w wr/\aH wr w.heap.size 3 1 q (kL x k).length ((kL x k).map (Value.int .i64))) (fun _ i _=>5 - (intOf i).toNat)
 ·exact⟨0,by omega,rfl,Below.refl _ _,by rw[HE.o.1];exact aH.nil _ _ _ _⟩
 ·
  obtain⟨k,hk,rfl,az,aS⟩:=hrel;obtain⟨al,cl2,rfl⟩:=aS.slice;have bG:=aa aS;have aP:=aa az;have z5:=az.size;clear aS az;by_cases aB:k<5
  ·have mx:(k:Int)<5:=by omega
   have vh:=HE.o.2.2.2.1 k;have U2:=aa (fun w=>HH.o k (by omega) w);obtain⟨n,hn⟩:∃ n,(kL x k).length=n:=⟨_,rfl⟩;rw[hn]at vh bG ⊢;cases hb:hasB x k with
   | true=>
    have HY:=aa (HE.o.2.1 k hb);rw[hb]at U2;have ri:am ((kL x (k+1)).length=n+1):=aa (by rw[HY.o,List.length_append,hn];rfl);have cL:=aa (bG.o.up ((Below.refl _ wr).alloc (Nat.le_refl _) (.cells #[.int .i64 k] 3)));have bA:=aa (dx wr [.int .i64 (k:Int)] 3);have io:am (n+1<=maxLen):=aa (by unfold maxLen;omega);have dD:am ((n+1) * 8<=140737488355328):=aa (by omega);have fH:am (w.heap.size<=(wr.alloc (.cells #[.int .i64 k] 3)).heap.size):=aa (by simp;omega);clear hb hn
    go_wp2_with fail
    refine(U2.o wr).mono ?_;rintro e w' ⟨rfl,rfl⟩
    go_wp2_with (at_builtin;(refine aX _ rfl (.tmp 12) (.tmp 14) 38 rfl w.heap.size 3 i0 _ 1 8 Tryz.underlying38 bO.o.1 bO.o.2.1 bO.o.2.2.1 bO.o.2.2.2 rfl (by decide) _ n _ rfl cL.o ⟨wr.heap.size,0,none⟩ 1 1 [.int .i64 (k:Int)] rfl rfl bA.o (by simp[Value.oneCell']) io.o dD.o fH.o ?_;intro v6 w6 eP dQ _))
    go_roundw
    ·
     refine⟨k+1,by omega,by go_num,dB aP.o (Nat.le_refl _) cL.o dQ,?_⟩;rw[ri.o,HY.o,List.map_append];exact eP
    ·simp[intOf];omega
   | false=>
    have HY:=aa (HE.o.2.2.1 k hb);rw[hb]at U2;have HN:=aa hn;clear hb hn
    go_wp2_with fail
    refine(U2.o wr).mono ?_;rintro e w' ⟨rfl,rfl⟩
    go_wp2_with fail
    go_roundw
    ·
     refine⟨k+1,by omega,by go_num,aP.o,?_⟩;rw[HY.o,HN.o];exact bG.o
    ·simp[intOf];omega
  ·obtain rfl:k=5:=by omega
   go_wp2_with fail
   go_ret
   exact⟨_,rfl,fI (l:=kL x 5) bG.o (HE.o.2.2.2.2 5 (Nat.le_refl _)) (by have:=HE.o.2.2.2.1 5;omega),aP.o⟩
theorem LY{s:Sys} {p:Nat} (hp:p<nS s) (e:Nat):hasB ((oblM s e:Nat):Int) p=!hasB (fltS s e) p:=by unfold oblM;rw[jz,decide_eq_true hp,Bool.true_and]
theorem Jy{s:Sys} (h:nS s<=5) (e:Nat):oblM s e<32:=by
 have h1:=gd (fun p=>!hasB (fltS s e) p) (nS s);have h4:(2:Nat) ^ nS s<=2 ^ 5:=Nat.pow_le_pow_right (by omega) h;unfold oblM;omega
theorem DP(s:Sys) (hs:SysOk s) (p e f:Nat) (hp:p<nS s) (he:e<eS s) (hf:f<eS s) (vc vs vt ve:Value) (w:World) (cH:IsSys w s vc vs vt ve) :
  Calls Tryz.prog 139 #[.agg (bL s.prob vc vs s.n vt ve),.int .i64 p,.int .i64 e,.int .i64 f] w fun r w'=>r=.returned (.bool (linkB s p e f))/\Below w.heap.size w w':=by
 have HS:=aa cH;obtain⟨⟨pc,cc,rfl⟩,⟨ps,cs,rfl⟩,⟨pt,ct,rfl⟩,⟨pe,ce,rfl⟩⟩:=bB cH;clear cH;have D8:=aa (fun W (hb:Below w.heap.size w W)=>zP s hs e he _ _ _ _ W (HS.o.up hb));have HMF:=aa (fun W (hb:Below w.heap.size w W)=>zP s hs f hf _ _ _ _ W (HS.o.up hb));have gK:=hs.n.2.1;have jQ:=Jy gK e;have hlf:=Jy gK f;have Zq:=aa (fun w=>jM ((oblM s e:Nat):Int) p (by omega) (by omega) (by omega) w);have Yy:=aa (fun w=>jM ((oblM s f:Nat):Int) p (by omega) (by omega) (by omega) w);rw[LY hp]at Zq Yy;have gz:am (linkB s p e f=(!hasB (fltS s e) p&&!hasB (fltS s f) p&&decide (finS s e p=finS s f p))):=aa rfl;obtain⟨b,o,_,ce1,e0,rfl,_,_,_,_,cv1,-,-,c3,-,-,-,b2,o2,pr,cr,rfl,c4,bQ⟩:=gX hs HS.o.ex he;injection e0 with e01 e02 e03
 subst e01;clear e02 e03;obtain⟨b',o',_,ce2,e0,e4,_,_,_,_,cv2,-,-,d3,-,-,-,b3,o3,pr',cr',rfl,d4,m8⟩:=gX hs HS.o.ex hf;injection e0 with e01 e02 e03
 injection e01 with e01
 injection e01 with e011 e012
 subst e011 e012;clear e02 e03 e4;have rl:=hs.rounds;obtain⟨rr,tt⟩:∃ rr:Nat,s.prob.rounds=rr:=⟨s.prob.rounds.toNat,by omega⟩;have Ac:s.prob.rounds.toNat=rr:=by omega
 rw[Ac]at c3 c4 d3 d4;obtain⟨pa,ca,ea,r1⟩:=df bQ;injection ea with ea1 ea2 ea3
 subst ea1 ea3;clear ea2;obtain⟨pa',ca',ea,r2⟩:=df m8;injection ea with ea1 ea2 ea3
 subst ea1 ea3;clear ea2;obtain⟨b6,o6,rfl,f1⟩:=r1 p (by simpa using hp);obtain⟨b7,o7,rfl,f2⟩:=r2 p (by simpa using hp);rw[mH hp]at f1 f2;have pB:s.ex.length=eS s:=rfl;have MI:=aa (fun W (hb:Below w.heap.size w W)=>xL s e rr tt (.slice pc s.prob.t.cases.length cc) (.slice ps s.prob.a.states.length cs) (.slice pt s.tab.length ct) b o s.ex.length ce he b2 o2 (rr+1) cv1 (by omega) (.slice (some ⟨b6,o6,none⟩) (nS s) cr) ⟨_,_,_,rfl⟩ W (ak hb c3) (ak hb c4));have yO:=aa (fun W (hb:Below w.heap.size w W)=>xL s f rr tt (.slice pc s.prob.t.cases.length cc) (.slice ps s.prob.a.states.length cs) (.slice pt s.tab.length ct) b o s.ex.length ce hf b3 o3 (rr+1) cv2 (by omega) (.slice (some ⟨b7,o7,none⟩) (nS s) cr') ⟨_,_,_,rfl⟩ W (ak hb d3) (ak hb d4));have pE:=aa f1;have sP:=aa f2;generalize hasB (fltS s e) p=be at Zq gz;generalize hasB (fltS s f) p=bf at Yy gz;generalize finS s e p=xe at pE gz;generalize finS s f p=xf at sP gz;generalize linkB s p e f=lk at gz ⊢;clear c3 c4 d3 d4 bQ m8 r1 r2 f1 f2 tt Ac pB rl jQ hlf
 go_enter Tryz.func139,Tryz.ntmps139
 go_wp2_with fail
 refine aN (fun W=>Below w.heap.size w W/\∃ c,W.heap[w.heap.size]?=some (.cells c 35)/\c=bL s.prob (.slice pc s.prob.t.cases.length cc) (.slice ps s.prob.a.states.length cs) s.n (.slice pt s.tab.length ct) (.slice (some ⟨b,o,none⟩) s.ex.length ce)) ⟨by go_grown,_,aq _ _,rfl⟩ (fun W0 aZ=>?_);obtain⟨aI,_,hA,rfl⟩:=aZ;refine(D8.o W0 aI).mono ?_;rintro r w1 ⟨rfl,aJ⟩;have bK:=aa (ae aI aJ);have db:=aa (af aJ hA);clear aI aJ hA D8
 go_wp2_with fail
 refine(Zq.o w1).mono ?_;rintro r w' ⟨rfl,rfl⟩;cases be with
 | true=>
  go_wp2_with fail
  go_ret
  exact⟨aR (by rw[gz.o];rfl),bK.o⟩
 | false=>
  have tS:=ab db.o
  go_wp2_with fail
  clear tS;refine(HMF.o w1 bK.o).mono ?_;rintro r w2 ⟨rfl,a8⟩;have cQ:=aa (ae bK.o a8);have mo:=aa (af a8 db.o);clear a8
  go_wp2_with fail
  refine(Yy.o w2).mono ?_;rintro r w' ⟨rfl,rfl⟩;cases bf with
  | true=>
   go_wp2_with fail
   go_ret
   exact⟨aR (by rw[gz.o];rfl),cQ.o⟩
  | false=>
   have HLK2:am (lk=decide (xe=xf)):=aa (by rw[gz.o];rfl)
   go_wp2_with fail
   have yS:∀ z:ExtW w2,∀ j,z.val.cell? ⟨w.heap.size,j,none⟩=_:=fun z=>ab (af z.ext mo.o)
   have y1:∀ z:ExtW w2,z.val.cell? ⟨b6,o6+p,none⟩=_:=fun z=>ak (ae cQ.o z.ext) pE.o
   have y2:∀ z:ExtW w2,z.val.cell? ⟨b7,o7+p,none⟩=_:=fun z=>ak (ae cQ.o z.ext) sP.o
   have K1:am (∀ y:ExtW w2,Calls Tryz.prog 46 #[.agg #[.int .i64 s.prob.t.n,.int .i64 s.prob.t.ins,.int .i64 s.prob.t.outs,.slice pc s.prob.t.cases.length cc,.int .i64 s.prob.a.n,.slice ps s.prob.a.states.length cs,.int .i64 s.prob.rounds,.int .i64 s.n,.slice pt s.tab.length ct,.slice (some ⟨b,o,none⟩) s.ex.length ce],.int .i64 e] y.val fun r w''=>r=.returned (.slice (some ⟨b6,o6,none⟩) (nS s) cr)/\∃ z:ExtW w2,w''=z.val):=aa (fun y=>Calls.ext_of (MI.o y.val (ae cQ.o y.ext)));have K2:am (∀ y:ExtW w2,Calls Tryz.prog 46 #[.agg #[.int .i64 s.prob.t.n,.int .i64 s.prob.t.ins,.int .i64 s.prob.t.outs,.slice pc s.prob.t.cases.length cc,.int .i64 s.prob.a.n,.slice ps s.prob.a.states.length cs,.int .i64 s.prob.rounds,.int .i64 s.n,.slice pt s.tab.length ct,.slice (some ⟨b,o,none⟩) s.ex.length ce],.int .i64 f] y.val fun r w''=>r=.returned (.slice (some ⟨b7,o7,none⟩) (nS s) cr')/\∃ z:ExtW w2,w''=z.val):=aa (fun y=>Calls.ext_of (yO.o y.val (ae cQ.o y.ext)));refine aD (by kernel_rfl) (by kernel_rfl) ?_
   repeat (go_big_quiet_step (first|(go_at_call 46;with_reducible exact K1.o _)|(go_at_call 46;with_reducible exact K2.o _)))
   refine wpQuiet_nil ?_;rintro _ ⟨xq,rfl⟩;clear yS y1 y2
   go_wp2_with fail
   go_ret
   exact⟨aR (by rw[HLK2.o,Bool.eq_iff_iff];simp),ae cQ.o xq.ext⟩
def byM(s:Sys) (e f:Nat):Nat:=maskN (fun p=>linkB s p e f) (nS s)
theorem LZ(s:Sys) (hs:SysOk s) (e f:Nat) (he:e<eS s) (hf:f<eS s) (vc vs vt ve:Value) (w:World) (cH:IsSys w s vc vs vt ve) :
  Calls Tryz.prog 142 #[.agg (bL s.prob vc vs s.n vt ve),.int .i64 e,.int .i64 f] w fun r w'=>r=.returned (.int .i64 (byM s e f:Nat))/\Below w.heap.size w w':=by
 have HS:=aa cH;obtain⟨⟨pc,cc,rfl⟩,⟨ps,cs,rfl⟩,⟨pt,ct,rfl⟩,⟨pe,ce,rfl⟩⟩:=bB cH;clear cH;have gz:=aa (fun p (hp:p<nS s) W (hb:Below w.heap.size w W)=>DP s hs p e f hp he hf _ _ _ _ W (HS.o.up hb));have gK:=hs.n.2.1;have fj:=hs.n.2.2.1;have HWI:=aa (fun (q:Nat->Bool) p (hp:p<=10) w=>QD q p hp w);have dD:am (byM s e f=maskN (fun p=>linkB s p e f) (nS s)):=aa rfl;generalize byM s e f=bm at dD ⊢;obtain⟨q,hq⟩:∃ q:Nat->Bool,q=fun p=>linkB s p e f:=⟨_,rfl⟩
 have HQ:am (∀ p,linkB s p e f=q p):=aa fun p=>by rw[hq]
 rw[<-hq]at dD;obtain⟨n,hn⟩:∃ n,nS s=n:=⟨_,rfl⟩;rw[hn]at gz gK fj dD;rw[fj]at gz ⊢;clear hq hn fj
 go_enter Tryz.func142,Tryz.ntmps142
 go_wp2_with fail
 refine bu (fun W=>Below w.heap.size w W/\∃ c,W.heap[w.heap.size]?=some (.cells c 35)/\c=bL s.prob (.slice pc s.prob.t.cases.length cc) (.slice ps s.prob.a.states.length cs) (n:Int) (.slice pt s.tab.length ct) (.slice pe s.ex.length ce)) ⟨by go_grown,_,aq _ _,rfl⟩ (fun W0 aZ=>?_);obtain⟨aI,_,hA,rfl⟩:=aZ;have ed:=aa aI;have HA:=aa hA;clear aI hA
 go_loopw [7,8] (fun o i wr=>∃ k:Nat,k<=n/\i=.int .i64 k/\o=.int .i64 (maskN q k:Nat)/\Below W0.heap.size W0 wr) (fun _ i _=>n - (intOf i).toNat)
 ·exact⟨0,by omega,rfl,rfl,Below.refl _ _⟩
 ·
  obtain⟨k,hk,rfl,rfl,az⟩:=hrel;have aP:=aa az;have hA:=af az HA.o;have tS:=ab hA;clear az hA;by_cases aB:k<n
  ·have mx:(k:Int)<(n:Int):=by omega
   have V5:=aa (HWI.o q k (by omega));have lS:=gd q k;have h2:(2:Nat) ^ k<=2 ^ 10:=Nat.pow_le_pow_right (by omega) (by omega)
   go_wp2_with fail
   refine(gz.o k aB wr (ae ed.o aP.o)).mono ?_;rintro r w2 ⟨rfl,a8⟩;rw[HQ.o];have cQ:=aa a8;clear a8 tS;cases hb:q k with
   | true=>
    have eO:am (((maskN q k:Nat):Int)+2 ^ k=(maskN q (k+1):Nat)):=aa (by rw[maskN,if_pos hb];simp);clear hb
    go_wp2_with fail
    refine(V5.o w2).mono ?_;rintro r w' ⟨rfl,rfl⟩
    go_wp2_with fail
    go_roundw
    ·exact⟨k+1,by omega,by go_num,qK eO.o,ae aP.o cQ.o⟩
    ·simp[intOf];omega
   | false=>
    have eO:am (maskN q k=maskN q (k+1)):=aa (sa hb);clear hb
    go_wp2_with fail
    go_roundw
    ·exact⟨k+1,by omega,by go_num,by rw[<-eO.o],ae aP.o cQ.o⟩
    ·simp[intOf];omega
  ·obtain rfl:k=n:=by omega
   go_wp2_with fail
   go_ret
   exact⟨aG (by rw[dD.o]),ae ed.o aP.o⟩
def qB(n:Nat) (L:Nat->Nat->Bool) (f d e j:Nat):Int:=if j<e then cJ n L f (d+1) j else cJ n L f d j
def fd(n:Nat) (L:Nat->Nat->Bool) (f d e:Nat):List Int:=(List.range n).map (qB n L f d e)
section
variable {n : Nat} {L : Nat → Nat → Bool} {f : Nat}
theorem QF(d e:Nat):(fd n L f d e).length=n:=by simp[fd]
theorem xP(d e j:Nat) (hj:j<n):(fd n L f d e).getD j 0=qB n L f d e j:=by simp[fd,hj]
theorem Gu(d e:Nat):qB n L f d e e=cJ n L f d e:=by unfold qB;rw[if_neg (by omega)]
theorem WU(d e g:Nat):qB n L f d e g=d↔cJ n L f d g=d:=by
 unfold qB;split
 ·have h1:=fV (n:=n) (L:=L) (f:=f) d g;rw[cJ];split
  ·exact Iff.rfl
  ·split
   ·constructor<;>intro h<;>omega
   ·constructor<;>intro h<;>omega
 ·exact Iff.rfl
theorem NH(d e:Nat) (x:Int) (hx:cJ n L f (d+1) e=x):(fd n L f d e).set e x=fd n L f d (e+1):=by
 refine List.ext_getElem (by simp[fd]) fun i h1 h2=>?_
 rw[List.getElem_set];simp only[fd,List.getElem_map,List.getElem_range];unfold qB;by_cases h:e=i
 ·subst h;rw[if_pos rfl,if_pos (by omega),hx]
 ·rw[if_neg h];by_cases h3:i<e
  ·rw[if_pos h3,if_pos (by omega)]
  ·rw[if_neg h3,if_neg (by omega)]
theorem NI(d e:Nat) (h:cJ n L f (d+1) e=cJ n L f d e):fd n L f d e=fd n L f d (e+1):=by
 unfold fd;refine List.map_congr_left fun j _=>?_
 unfold qB;by_cases h1:j=e
 ·subst h1;rw[if_neg (by omega),if_pos (by omega),h]
 ·by_cases h3:j<e
  ·rw[if_pos h3,if_pos (by omega)]
  ·rw[if_neg h3,if_neg (by omega)]
theorem QG(d:Nat):fd n L f d n=fd n L f (d+1) 0:=by
 unfold fd;refine List.map_congr_left fun j hj=>?_
 have:=List.mem_range.1 hj;unfold qB;rw[if_pos (by omega),if_neg (by omega)]
def rq(n:Nat) (L:Nat->Nat->Bool) (f d e g:Nat) (O:List Int):Prop:=(O=fd n L f d e/\(cJ n L f d e<0->∀ g',g'<g->(decide (cJ n L f d g'=d)&&L e g')=false))\/(O=fd n L f d (e+1)/\cJ n L f (d+1) e=(d:Int)+1)
theorem rq.start(d e:Nat):rq n L f d e 0 (fd n L f d e):=.inl ⟨rfl,fun _ g' h=>by omega⟩
theorem rq.hit{d e g:Nat} {O:List Int} (h:O=fd n L f d e) (CO:cJ n L f d e<0) (hg:g<n) (hq:(decide (cJ n L f d g=d)&&L e g)=true):rq n L f d e (g+1) (O.set e ((d:Int)+1)):=by
 have h1:cJ n L f (d+1) e=(d:Int)+1:=by rw[cJ,if_neg (by omega),dW n g _ hg hq,if_pos rfl]
 exact .inr ⟨by rw[h,NH d e _ h1],h1⟩
theorem rq.done{d e g:Nat} {O:List Int} (h:rq n L f d e g O) (hg:n<=g\/0<=O.getD e 0) (he:e<n):O=fd n L f d (e+1):=by
 rcases h with ⟨h1,h2⟩|⟨h1,_⟩
 ·rw[h1];refine NI d e ?_;rw[cJ];split
  ·rfl
  ·rename_i h3;rcases hg with hg|hg
   ·have h4:anyLt n (fun g=>decide (cJ n L f d g=d)&&L e g)=false:=(fA _ _).2 fun k hk=>h2 (by omega) k (by omega)
    rw[h4];have:=fV (n:=n) (L:=L) (f:=f) d e;simp;omega
   ·rw[h1,xP d e e he,Gu]at hg;omega
 ·exact h1
end
theorem Td(s:Sys) (hs:SysOk s) (hE:eS s<=256) (f:Nat) (hf:f<eS s) (vc vs vt ve:Value) (w:World) (cH:IsSys w s vc vs vt ve) :
  Calls Tryz.prog 141 #[.agg (bL s.prob vc vs s.n vt ve),.int .i64 f] w fun r w'=>∃ g,r=.returned (.slice (some ⟨g,0,none⟩) (eS s) (eS s))/\w'.heap[g]?=some (.cells (bC (farL s f)) 3)/\w.heap.size<=g/\Below w.heap.size w w':=by
 have HS:=aa cH;obtain⟨⟨pc,cc,rfl⟩,⟨ps,cs,rfl⟩,⟨pt,ct,rfl⟩,⟨pe,ce,rfl⟩⟩:=bB cH;clear cH;have dD:=aa (fun e g (he:e<eS s) (hg:g<eS s) W (hb:Below w.heap.size w W)=>LZ s hs e g he hg _ _ _ _ W (HS.o.up hb));have HZ:am (∀ e g,byM s e g=0↔byB s e g=false):=aa fun e g=>kF _ _
 have fT:=iP (fun _=>-1) (eS s) hE;have sT:am (fC (eS s) (fun _=>(-1:Int)) (eS s)=bC (List.replicate (eS s) (-1))):=aa (by rw[oE];simp[List.map_const'])
 have dT:am ((List.replicate (eS s) (-1:Int)).set f 0=fd (eS s) (byB s) f 0 0):=aa (by
  refine List.ext_getElem (by simp[fd]) fun i h1 h2=>?_
  rw[List.getElem_set];simp only[fd,List.getElem_map,List.getElem_range,List.getElem_replicate];have hr:qB (eS s) (byB s) f 0 0 i=cJ (eS s) (byB s) f 0 i:=by unfold qB;rw[if_neg (by omega)]
  rw[hr];unfold cJ;by_cases h:f=i
  ·rw[if_pos h,if_pos h.symm]
  ·rw[if_neg h,if_neg (fun e=>h e.symm)])
 have ie:am (fd (eS s) (byB s) f (eS s) 0=farL s f):=aa (by
  unfold fd farL M4;refine List.map_congr_left fun j _=>?_
  unfold qB
  rw[if_neg (by omega)])
 have pB:s.ex.length=eS s:=rfl;rw[pB]at dD ⊢;generalize byB s=L at HZ dT ie;obtain⟨n,hn⟩:∃ n,eS s=n:=⟨_,rfl⟩;rw[hn]at dD hE fT sT dT ie hf ⊢;generalize farL s f=FL at ie ⊢;clear hn pB
 go_enter Tryz.func141,Tryz.ntmps141
 go_wp2_with fail
 clear fT;refine bu (fun W=>Below w.heap.size w W/\(∃ c,W.heap[w.heap.size]?=some (.cells c 35)/\c=bL s.prob (.slice pc s.prob.t.cases.length cc) (.slice ps s.prob.a.states.length cs) s.n (.slice pt s.tab.length ct) (.slice pe n ce))/\W.heap[w.heap.size+1]?=some (.cells (fC n (fun _=>-1) 0) 3)) ⟨by go_grown,⟨_,ar _ (aq _ _),rfl⟩,bd _ _ _⟩ (fun W0 aZ=>?_);obtain⟨aI,⟨_,hA,rfl⟩,gl⟩:=aZ;obtain⟨g,hg⟩:∃ g,w.heap.size+1=g:=⟨_,rfl⟩;rw[hg]at gl ⊢;have hwg:w.heap.size<g:=by omega
 have ed:=aa aI;have HA:=aa hA;have HO0:=aa gl;clear aI hA gl hg
 go_loopw [6] (fun i wr=>∃ k:Nat,k<=n/\i=.int .i64 k/\Below w.heap.size w wr/\(∃ c,wr.heap[w.heap.size]?=some (.cells c 35)/\c=bL s.prob (.slice pc s.prob.t.cases.length cc) (.slice ps s.prob.a.states.length cs) s.n (.slice pt s.tab.length ct) (.slice pe n ce))/\wr.heap[g]?=some (.cells (fC n (fun _=>-1) k) 3)) (fun i _=>n - (intOf i).toNat)
 ·exact⟨0,by omega,rfl,ed.o,⟨_,HA.o,rfl⟩,HO0.o⟩
 ·
  clear ed HA HO0;obtain⟨k,hk,rfl,az,⟨_,hA,rfl⟩,hO⟩:=hrel;have HO:=aa hO;have aP:=aa az;have HA:=aa hA;by_cases aB:k<n
  ·have tq:=ab hO k;rw[kS _ _ _ _ aB]at tq;have zq:=aE hO k;clear hO az hA
   go_wp2_with fail
   go_roundw
   ·exact⟨k+1,by omega,by go_num,aP.o.setCell (by dsimp only;omega) _,⟨_,aK HA.o (by omega) _ _,rfl⟩,by rw[aF HO.o,sB n (fun _=>-1) k aB]⟩
   ·simp[intOf];omega
  obtain rfl:k=n:=by omega
  have tq:=ab hO f;rw[kS _ _ _ _ hf]at tq;have zq:=aE hO f;have n9:=hO;rw[sT.o]at n9;have dR:=aa n9;clear hO n9 az hA HO
  go_wp2_with fail
  clear tq zq;refine bu (fun W=>Below w.heap.size w W/\(∃ c,W.heap[w.heap.size]?=some (.cells c 35)/\c=bL s.prob (.slice pc s.prob.t.cases.length cc) (.slice ps s.prob.a.states.length cs) s.n (.slice pt s.tab.length ct) (.slice pe k ce))/\W.heap[g]?=some (.cells (bC (fd k L f 0 0)) 3)) ⟨aP.o.setCell (by dsimp only;omega) _,⟨_,aK HA.o (by omega) _ _,rfl⟩,by rw[aF dR.o,kT,dT.o]⟩ (fun W1 cD=>?_);have fx:=aa cD;clear cD dR aP HA wr W0 sT dT
  go_loopw [7] (fun i wr=>∃ d:Nat,d<=k/\i=.int .i64 d/\Below w.heap.size w wr/\(∃ c,wr.heap[w.heap.size]?=some (.cells c 35)/\c=bL s.prob (.slice pc s.prob.t.cases.length cc) (.slice ps s.prob.a.states.length cs) s.n (.slice pt s.tab.length ct) (.slice pe k ce))/\wr.heap[g]?=some (.cells (bC (fd k L f d 0)) 3)) (fun i _=>k - (intOf i).toNat)
  ·exact⟨0,by omega,rfl,fx.o.1,fx.o.2.1,fx.o.2.2⟩
  ·
   clear fx;obtain⟨d,hd,rfl,az,⟨_,hA,rfl⟩,hO⟩:=hrel;have HO:=aa hO;have aP:=aa az;have HA:=aa hA;clear hO az hA;obtain⟨w4,kq⟩:∃ x,x=wr:=⟨_,rfl⟩;subst kq;by_cases hdk:d<k
   ·go_wp2_with fail
    go_loopw [8] (fun i wr=>∃ e:Nat,e<=k/\i=.int .i64 e/\Below w.heap.size w wr/\(∃ c,wr.heap[w.heap.size]?=some (.cells c 35)/\c=bL s.prob (.slice pc s.prob.t.cases.length cc) (.slice ps s.prob.a.states.length cs) s.n (.slice pt s.tab.length ct) (.slice pe k ce))/\wr.heap[g]?=some (.cells (bC (fd k L f d e)) 3)) (fun i _=>k - (intOf i).toNat)
    ·exact⟨0,by omega,rfl,aP.o,⟨_,HA.o,rfl⟩,HO.o⟩
    ·
     clear aP HA HO;obtain⟨e,he,rfl,az,⟨_,hA,rfl⟩,hO⟩:=hrel;have HO:=aa hO;have aP:=aa az;have HA:=aa hA;clear hO az hA;obtain⟨w5,KG⟩:∃ x,x=wr:=⟨_,rfl⟩;subst KG;by_cases pC:e<k
     ·go_wp2_with fail
      go_loopw [9] (fun i wr=>∃ (j:Nat) (O:List Int),j<=k/\i=.int .i64 j/\O.length=k/\rq k L f d e j O/\Below w.heap.size w wr/\(∃ c,wr.heap[w.heap.size]?=some (.cells c 35)/\c=bL s.prob (.slice pc s.prob.t.cases.length cc) (.slice ps s.prob.a.states.length cs) s.n (.slice pt s.tab.length ct) (.slice pe k ce))/\wr.heap[g]?=some (.cells (bC O) 3)) (fun i _=>k - (intOf i).toNat)
      ·exact⟨0,_,by omega,rfl,QF d e,rq.start d e,aP.o,⟨_,HA.o,rfl⟩,HO.o⟩
      ·
       clear aP HA HO;obtain⟨j,O,hj,rfl,cC,ph,az,⟨_,hA,rfl⟩,hO⟩:=hrel;have HO:=aa hO;have aP:=aa az;have HA:=aa hA;have HF:=aa ph;have ku:=aa cC;have te:=ab hO e;rw[eR _ _ (by omega)]at te;obtain⟨xe,sW⟩:∃ x,O.getD e 0=x:=⟨_,rfl⟩;rw[sW]at te;have HXE:=aa sW;by_cases lX:j<k/\xe<0
       ·obtain⟨RE,dj⟩:=lX;have hdx:decide (xe<0)=true:=decide_eq_true dj;have tj:=ab hO j;rw[eR _ _ (by omega)]at tj;obtain⟨xj,B5⟩:∃ x,O.getD j 0=x:=⟨_,rfl⟩;rw[B5]at tj
        have wU:am (O=fd k L f d e/\cJ k L f d e<0/\(cJ k L f d e<0->∀ g',g'<j->(decide (cJ k L f d g'=d)&&L e g')=false)/\(xj=d↔cJ k L f d j=d)):=aa (by
         rcases ph with ⟨h1,h2⟩|⟨h1,h2⟩
         ·have h3:cJ k L f d e<0:=by rw[<-Gu (L:=L) (f:=f) d e,<-xP d e e pC,<-h1,sW];exact dj
          refine⟨h1,h3,h2,?_⟩;rw[<-B5,h1,xP d e j RE,WU]
         ·exfalso;rw[h1,xP d (e+1) e pC]at sW;unfold qB at sW;rw[if_pos (by omega),h2]at sW
          omega)
        have ze:=aE hO e;clear hO az hA ph cC sW B5;by_cases Vm:xj=d
        ·subst Vm;have Rq:(((d:Nat):Int) == (d:Int))=true:=by simp
         have tS:=ab HA.o;have YD:=aa (dD.o e j pC RE wr aP.o)
         go_wp2_with fail
         refine YD.o.mono ?_;rintro r w6 ⟨rfl,gi⟩;have lu:=aa (ae aP.o gi);have HA6:=aa (af gi HA.o);have Vz:=af gi HO.o;have U9:=aa Vz;have te6:=ab Vz e;rw[eR _ _ (by have:=ku.o;omega)]at te6;have ze6:=aE Vz e;clear te tj tS ze gi Vz;cases hL:L e j with
         | true=>
          have HN:am (rq k L f d e (j+1) (O.set e ((d:Int)+1))):=aa (rq.hit wU.o.1 wU.o.2.1 RE (by rw[decide_eq_true (wU.o.2.2.2.1 (by first|trivial|rfl)),hL];rfl));have Vu:¬ ((byM s e j:Nat):Int)=0:=fun h=>by have:=(HZ.o e j).1 (by omega);rw[hL]at this;cases this
          have YE:(((byM s e j:Nat):Int) != 0)=true:=by simpa using Vu
          clear hL Vu;generalize byM s e j=bm at YE ⊢
          go_wp2_with fail
          go_roundw
          ·exact⟨j+1,_,by omega,by go_num,by rw[List.length_set];exact ku.o,HN.o,lu.o.setCell (by dsimp only;omega) _,⟨_,aK HA6.o (by omega) _ _,rfl⟩,by rw[aF U9.o,kT]⟩
          ·simp[intOf];omega
         | false=>
          have HN:am (rq k L f d e (j+1) O):=aa (.inl ⟨wU.o.1,fun h=>aV (wU.o.2.2.1 h) (by rw[hL,Bool.and_false])⟩);have hz:byM s e j=0:=(HZ.o e j).2 hL;rw[hz];clear hL hz
          go_wp2_with fail
          go_roundw
          ·exact⟨j+1,O,by omega,by go_num,ku.o,HN.o,lu.o,⟨_,HA6.o,rfl⟩,U9.o⟩
          ·simp[intOf];omega
        ·have Rq:(xj == (d:Int))=false:=beq_eq_false_iff_ne.2 Vm;have HN:am (rq k L f d e (j+1) O):=aa (.inl ⟨wU.o.1,fun h=>aV (wU.o.2.2.1 h) (by rw[decide_eq_false (fun h2=>Vm (wU.o.2.2.2.2 h2))];rfl)⟩);clear Vm
         go_wp2_with fail
         go_roundw
         ·exact⟨j+1,O,by omega,by go_num,ku.o,HN.o,aP.o,⟨_,HA.o,rfl⟩,HO.o⟩
         ·simp[intOf];omega
       ·have HD:am (O=fd k L f d (e+1)):=aa (ph.done (by rw[sW];omega) pC);clear hO az hA ph cC sW;by_cases RE:j<k
        ·have hdx:decide (xe<0)=false:=decide_eq_false (fun h=>lX ⟨RE,h⟩);clear lX
         go_wp2_with fail
         go_roundw
         ·exact⟨e+1,by omega,by go_num,aP.o,⟨_,HA.o,rfl⟩,by rw[<-HD.o];exact HO.o⟩
         ·simp[intOf];omega
        ·clear lX
         go_wp2_with fail
         go_roundw
         ·exact⟨e+1,by omega,by go_num,aP.o,⟨_,HA.o,rfl⟩,by rw[<-HD.o];exact HO.o⟩
         ·simp[intOf];omega
     ·obtain rfl:e=k:=by omega
      go_wp2_with fail
      go_roundw
      ·exact⟨d+1,by omega,by go_num,aP.o,⟨_,HA.o,rfl⟩,by rw[<-QG];exact HO.o⟩
      ·simp[intOf];omega
   ·obtain rfl:d=k:=by omega
    go_wp2_with fail
    go_ret
    exact⟨g,rfl,by rw[<-ie.o];exact HO.o,by omega,aP.o⟩
theorem OwnQ.ck{w w':World} {g:Nat} {e:TypeId} {v:Value} {n:Nat} {xs:List Value} (h:OwnQ w g e v n xs) (hb:CK w w'):OwnQ w' g e v n xs:=by
 obtain⟨off,cap,h1,h2,h3,h4⟩:=h.ex;refine⟨h.len,off,cap,h1,h2,h3,?_⟩;rcases h4 with h4|⟨cur,fz,h5,h6⟩
 ·exact .inl h4
 ·exact .inr ⟨cur,fz,hb _ _ h5 rfl,h6⟩
def xQ(l:List Nat):List Value:=l.map fun x:Nat=>Value.int .i64 (x:Int)
def NJ(s:Sys) (D:List Int):Nat:=((List.range (eS s)).filter fun e=>decide (D.getD e 0<0)).length
structure DFI (s:Sys) (w:World) (bq bx be:Nat) (Ds:List Nat) (D:List Int) (Q:List Nat) (V:World):Prop where
 old:Below w.heap.size w V
 box:V.heap[w.heap.size+1]?=some (.cells #[.slice (some ⟨w.heap.size,0,none⟩) (eS s) (eS s)] 38)
 row:V.heap[w.heap.size]?=some (.cells (bC D) 3)
 que:∃ g qv,V.heap[bq]?=some (.cells #[qv] 38)/\OwnQ V g 3 qv Q.length (xQ Q)/\w.heap.size+1<g/\g<V.heap.size/\g≠bx/\g≠be/\g≠bq
 marks:cX w.heap.size Ds V
theorem DFI.sta{s:Sys} {w:World} {bq bx be B:Nat} {Ds:List Nat} {D:List Int} {Q:List Nat} (hB:w.heap.size<=B) (hD:∀ E∈Ds,E<B):cO B (DFI s w bq bx be Ds D Q):=fun A A' c h=>by
 obtain⟨g,qv,h1,h2,h3,h4,h5⟩:=h.que;exact⟨c.below hB h.old.size h.old,c.same _ _ h.box (.inr rfl),c.same _ _ h.row (.inr rfl),⟨g,qv,c.same _ _ h1 (.inr rfl),h2.ck c.ck,h3,Nat.lt_of_lt_of_le h4 c.size,h5⟩,cO.marks hD A A' c h.marks⟩
def XH(s:Sys) (B f:Nat) (w:World) (n:Nat) (act:Act) (W:World):Prop:=∃ (D:List Int) (Q:List Nat) (bq:Nat) (Ds:List Nat) (u2 u3 u4 u6 u8 u9 u10 u11 u12 u13 u14 u15 u16 u17 u18 u19 u20 u21 u22 u23 u24 u25 u26 u27 u28 u29 u30 u31 u32 u33 u34 u35 u36 u37 u38 u39 u40 u41 u42 u43 u44 u45 u46 u47 u48 u49 u50 u51 u52 u53 u54 u55 u56 u57 u58 u59 u60 u61:Value),
   act={ tmps:=#[Value.pointer (some ⟨B,0,none⟩),Value.int .i64 f,u2,u3,u4,Value.pointer (some ⟨w.heap.size+1,0,none⟩),u6,Value.pointer (some ⟨bq,0,none⟩),u8,u9,u10,u11,u12,u13,u14,u15,u16,u17,u18,u19,u20,u21,u22,u23,u24,u25,u26,u27,u28,u29,u30,u31,u32,u33,u34,u35,u36,u37,u38,u39,u40,u41,u42,u43,u44,u45,u46,u47,u48,u49,u50,u51,u52,u53,u54,u55,u56,u57,u58,u59,u60,u61],defers:=nF Ds }/\n=Q.length+NJ s D/\n<=257/\D.length=eS s/\Bfs (eS s) (byB s) f (fun e=>D.getD e 0) Q/\w.heap.size+1<bq/\bq<W.heap.size/\DFI s w bq W.heap.size W.heap.size Ds D Q W
theorem NK{n:Nat} {L:Nat->Nat->Bool} {f:Nat} {D:Nat->Int} {Q:List Nat} (b:Bfs n L f D Q) (d:Nat):∀ e,e<n->D e=(d:Int)->d+1<=((List.range n).filter fun x=>decide (0<=D x/\D x<=(d:Int))).length:=by
 induction d with
 | zero=>
  intro e he h;have:e∈(List.range n).filter fun x=>decide (0<=D x/\D x<=((0:Nat):Int)):=by simp[he,h]
  have:=List.length_pos_of_mem this;omega
 | succ d ih=>
  intro e he h;obtain⟨g,hg,h1,_⟩:=b.pred e he d (by rw[h];rfl);have h4:=ih g hg h1
  have h5:((List.range n).filter fun x=>decide (0<=D x/\D x<=(d:Int))).length<((List.range n).filter fun x=>decide (0<=D x/\D x<=((d+1:Nat):Int))).length:=by
   refine F4 _ _ _ (fun x _ hx=>?_) e (by simpa using he) (by rw[h];simp;omega) (by rw[h];simp;omega);simp only[decide_eq_true_eq]at hx ⊢;omega
  omega
theorem NL{s:Sys} {f h:Nat} {D:List Int} {Q:List Nat} (b:Bfs (eS s) (byB s) f (fun e=>D.getD e 0) Q) (hh:h<eS s) (hE:eS s<=256):D.getD h 0<1000000:=by
 by_cases h0:0<=D.getD h 0
 ·have h1:=NK b (D.getD h 0).toNat h hh (by omega);have h2:((List.range (eS s)).filter fun x=>decide (0<=D.getD x 0/\D.getD x 0<=((D.getD h 0).toNat:Int))).length<=eS s:=Nat.le_trans (List.length_filter_le _ _) (by simp);omega
 ·omega
theorem WV(s:Sys) (D:List Int):NJ s D<=eS s:=Nat.le_trans (List.length_filter_le _ _) (by simp)
theorem NM(s:Sys) (h:Nat) (D:List Int) (l:List Nat):(eN s h D l).2.length<=l.length:=by
 unfold eN;generalize D.getD h 0+1=dh
 have key:∀ (l:List Nat) (st:List Int × List Nat),(l.foldl (jX dh) st).2.length<=st.2.length+l.length:=by
  intro l;induction l with
  | nil=>intro st;simp
  | cons a r ih=>
   intro st;rw[List.foldl_cons];refine Nat.le_trans (ih _) ?_;have:(jX dh st a).2.length<=st.2.length+1:=by unfold jX;split<;>simp
   simp only[List.length_cons];omega
 exact Nat.le_trans (key l _) (by simp)
theorem XI(s:Sys) (e:Nat):(ez s e).length<=eS s:=Nat.le_trans (List.length_filter_le _ _) (by simp)
theorem NN{s:Sys} {h:Nat} {D:List Int} (h0:0<=D.getD h 0) (l:List Nat):(eN s h D l).1.getD h 0=D.getD h 0:=by
 unfold eN
 have key:∀ (l:List Nat) (st:List Int × List Nat),st.1.getD h 0=D.getD h 0->(l.foldl (jX (D.getD h 0+1)) st).1.getD h 0=D.getD h 0:=by
  intro l;induction l with
  | nil=>intro st h1;exact h1
  | cons a r ih=>
   intro st h1;rw[List.foldl_cons];refine ih _ ?_;unfold jX;split
   ·rename_i h2;by_cases ha:a<st.1.length
    ·dsimp only;rw[fO _ _ _ _ _ ha,if_neg (fun e=>by subst e;omega)];exact h1
    ·dsimp only;rw[List.set_eq_of_length_le (by omega)];exact h1
   ·exact h1
 exact key l _ rfl
theorem QH(s:Sys) (hs:SysOk s) (hE:eS s<=256) (B f:Nat) (hf:f<eS s) (base:Nat) (w:World) (h:gY w base B s) :
  Calls Tryz.prog 137 #[.pointer (some ⟨B,0,none⟩),.int .i64 f] w fun r w'=>r=.returned (.slice (some ⟨w.heap.size,0,none⟩) (eS s) (eS s))/\w'.heap[w.heap.size]?=some (.cells (bC (farL s f)) 3)/\Below w.heap.size w w':=by
 obtain⟨pl,cl,h1,_⟩:=(h.at hs).open;have HF:=aa h;have tF:w.cell? ⟨B,1,none⟩=some (.slice pl (eS s) cl):=(ab h1 1).trans rfl;have hBw:=aC h1;obtain⟨i0,cM,bX,bP,bY⟩:=info_parts Tryz.infoInt
 have dT:am (Bfs (eS s) (byB s) f (fun e=>((List.replicate (eS s) (-1:Int)).set f 0).getD e 0) [f]):=aa (Gt hf (Bfs.start hf) fun e he=>by
  rw[fO _ _ _ _ _ (by simp;exact hf)];unfold cJ;split
  ·rfl
  ·simp[he])
 obtain⟨m,hm⟩:∃ m,eS s=m:=⟨_,rfl⟩;have fT:=iP (fun _=>-1) m (by omega);have sT:am ((List.range m).map (fun _=>(-1:Int))=List.replicate (eS s) (-1)):=aa (by rw[hm];simp[List.map_const']);rw[hm]at hE hf tF;have HM:=aa hm;have RU:=aa hs;clear hm h1 h hs;refine gq Tryz.func137 rfl ?_;simp only[Tryz.ntmps137,List.size_toArray,List.length_cons,List.length_nil,Nat.reduceAdd,Nat.reduceSub,Array.replicate_succ,Array.replicate_zero,List.push_toArray,List.append_toArray,List.nil_append,List.cons_append]
 go_wp2_with fail
 clear fT tF;refine bu (fun W=>Below w.heap.size w W/\W.heap[w.heap.size]?=some (.cells (fC m (fun _=>-1) 0) 3)/\W.heap[w.heap.size+1]?=some (.cells #[.slice (some ⟨w.heap.size,0,none⟩) m m] 38)) ⟨by go_grown,ar _ (aq _ _),bd _ _ _⟩ (fun W0 aZ=>?_);have iU:=aa aZ;have tx0:=ab aZ.2.2 0;simp at tx0;clear aZ
 go_wp2_with fail
 clear tx0
 go_loopw [17] (fun i wr=>∃ k:Nat,k<=m/\i=.int .i64 k/\Below w.heap.size w wr/\wr.heap[w.heap.size]?=some (.cells (fC m (fun _=>-1) k) 3)/\wr.heap[w.heap.size+1]?=some (.cells #[.slice (some ⟨w.heap.size,0,none⟩) m m] 38)) (fun i _=>m - (intOf i).toNat)
 case atStart=>exact⟨0,by omega,rfl,iU.o.1,iU.o.2.1,iU.o.2.2⟩
 case round=>
  clear iU;obtain⟨k,hk,rfl,az,hO,hX⟩:=hrel;have tx:=ab hX 0;simp at tx;have fk:=aC hX;have HO:=aa hO;have HX:=aa hX;have aP:=aa az;by_cases aB:k<m
  ·have tq:=ab hO k;rw[kS _ _ _ _ aB]at tq;have zq:=aE hO k;clear hO hX az
   go_wp2_with fail
   go_roundw
   ·exact⟨k+1,by omega,by go_num,aP.o.setCell (by dsimp only;omega) _,by rw[aF HO.o,sB m (fun _=>-1) k aB],aK HX.o (by omega) _ _⟩
   ·simp[intOf];omega
  obtain rfl:k=m:=by omega
  have tq:=ab hO f;rw[kS _ _ _ _ hf]at tq;have zq:=aE hO f;have n9:=hO;rw[oE,sT.o]at n9;have dR:=aa n9;have KJ:=az.size;clear hO n9 hX az
  go_wp2_with fail
  clear tx tq zq
  refine bu (fun W=>Below w.heap.size w W/\W.heap[w.heap.size+1]?=some (.cells #[.slice (some ⟨w.heap.size,0,none⟩) k k] 38)/\W.heap[w.heap.size]?=some (.cells (bC ((List.replicate (eS s) (-1)).set f 0)) 3)/\W.heap[wr.heap.size]?=some (.cells #[.int .i64 f] 3)/\W.heap[wr.heap.size+1]?=some (.cells #[.slice (some ⟨wr.heap.size,0,none⟩) 1 1] 38))
   ⟨((aP.o.setCell (p:=⟨w.heap.size,f,none⟩) (Nat.le_refl _) _).alloc (by simpa using KJ) _).alloc (by simp;omega) _,ar _ (ar _ (aK HX.o (by omega) _ _)),ar _ (ar _ (by rw[aF dR.o,kT])),ar _ (by have:=aq (wr.setCell ⟨w.heap.size,f,none⟩ (.int .i64 0)) (.cells #[.int .i64 f] 3);rwa [World.size_setCell]at this),by have:=bd (wr.setCell ⟨w.heap.size,f,none⟩ (.int .i64 0)) (.cells #[.int .i64 f] 3) (.cells #[.slice (some ⟨wr.heap.size,0,none⟩) 1 1] 38);rwa [World.size_setCell]at this⟩ (fun W1 cD=>?_)
  have uS:w.heap.size+1<wr.heap.size:=fk;generalize wr.heap.size=g0 at cD uS;have fx:=aa cD;have qX:=aC cD.2.2.2.2;clear cD HO dR HX aP wr fk KJ W0;refine Ck (fun n act W=>XH s B f w n act W) (1+NJ s ((List.replicate (eS s) (-1)).set f 0)) ?start ?round
  case start=>
   refine⟨_,[f],g0+1,[],_,_,_,_,_,_,_,_,_,_,_,_,_,_,_,_,_,_,_,_,_,_,_,_,_,_,_,_,_,_,_,_,_,_,_,_,_,_,_,_,_,_,_,_,_,_,_,_,_,_,_,_,_,_,_,_,_,_,rfl,rfl,by have:=WV s ((List.replicate (eS s) (-1)).set f 0);have:=HM.o;omega,by simp,dT.o,by omega,qX,fx.o.1,by rw[HM.o];exact fx.o.2.1,fx.o.2.2.1,⟨g0,_,fx.o.2.2.2.2,⟨rfl,0,1,rfl,Nat.le_refl _,by unfold maxLen;omega,.inr ⟨_,(0,0),fx.o.2.2.2.1,fun i _ h=>by have:=h.2;simp at this,rfl,rfl⟩⟩,by omega,by omega,by omega,by omega,by omega⟩,cX.nil _ _⟩
  case round=>
   clear fx dT sT;rintro n act W ⟨D,Q,bq,Ds,u2,u3,u4,u6,u8,u9,u10,u11,u12,u13,u14,u15,u16,u17,u18,u19,u20,u21,u22,u23,u24,u25,u26,u27,u28,u29,u30,u31,u32,u33,u34,u35,u36,u37,u38,u39,u40,u41,u42,u43,u44,u45,u46,u47,u48,u49,u50,u51,u52,u53,u54,u55,u56,u57,u58,u59,u60,u61,rfl,hn,hn7,mq,D9,jn,hbq2,hI⟩;obtain⟨g,qv,GZ,EG,hg,hgw,BI,pT,VP⟩:=hI.que;obtain⟨off,cap,rfl,jH,rk,rA⟩:=EG.ex;have tq:=ab GZ 0;simp at tq;have HI:=aa hI;have Ez:=aa GZ;have Mb:=aa EG;have GQ:=aa D9;have HN:=aa hn;have KA:=aa mq;clear hI GZ EG D9 hn mq;cases Q with
   | nil=>
    have tb:=ab HI.o.box 0;simp at tb;have iK:=aa (WT (by rw[HM.o];exact hf) KA.o GQ.o);have bQ:=HI.o.row;rw[iK.o]at bQ;have jO:=aa bQ;clear bQ
    go_wp2_with fail
    refine rV HI.o.marks (v:=.slice (some ⟨w.heap.size,0,none⟩) (eS s) (eS s)) ?_ ⟨rfl,rU HI.o.marks _ _ jO.o rfl,mV (fun D hD=>(HI.o.marks.2 D hD).1) (Nat.le_refl _) HI.o.old⟩;simp[results,Tryz.results137,go_sem]
   | cons h r=>
    have hh:=(GQ.o.ok h (by simp)).1;rw[HM.o]at hh
    obtain⟨cur,fz,kZ,jk,hc3,hc4⟩:∃ cur fz,W.heap[g]?=some (.cells cur 3 fz)/\(∀ i,i<cur.size->¬ (fz.1<=i/\i<fz.2))/\cur.size=off+cap/\(cur.toList.drop off).take (h :: r).length=xQ (h :: r):=by
     rcases rA with h0|h0
     ·simp at jH;omega
     ·exact h0
    have th:W.cell? ⟨g,off,none⟩=some (.int .i64 h):=by
     rw[ab kZ];have h5:=congrArg (fun l=>l[0]?) hc4;simp[xQ]at h5;simpa using h5
    clear rA kZ jk hc3 hc4
    go_wp2_with fail
    refine(wz B h W).mono ?_;rintro e w2 ⟨rfl,rfl⟩;clear th tq
    go_wp2_with fail
    have mq:∀ E∈Ds,E<W.heap.size:=HI.o.marks.lt
    refine bu (fun W1=>DFI s w bq W.heap.size (W.heap.size+1) Ds D (h :: r) W1/\W1.heap[W.heap.size]?=some (.cells #[.pointer (some ⟨B,0,none⟩)] 196)/\W1.heap[W.heap.size+1]?=some (.cells #[.int .i64 h] 3)/\W.heap.size+1<W1.heap.size)
     ⟨⟨(HI.o.old.alloc HI.o.old.size _).alloc (by have:=HI.o.old.size;simp;omega) _,ar _ (ar _ HI.o.box),ar _ (ar _ HI.o.row),⟨g,_,ar _ (ar _ Ez.o),(Mb.o.ck (.of_below (by go_grown))),hg,by simp;omega,by omega,by omega,VP⟩,HI.o.marks.up (by go_grown)⟩,ar _ (aq _ _),bd _ _ _,by simp⟩ (fun W1 cD=>?_)
    obtain⟨yI,Ch,JP,Yc⟩:=cD;have dr:=uD s RU.o B h W.heap.size (W.heap.size+1) (by rw[HM.o];exact hh) base w HF.o W1 (fun k _ hk=>yI.old.block k hk) yI.old.size (by simp[ab Ch]) (by simp[ab JP]);have Y1:=HI.o.old.size;have vp:=aa yI;have hbq1:bq<W.heap.size:=hbq2;clear Ch JP
    refine ni (gf:=179) (lb:=#[.pointer (some ⟨W.heap.size,0,none⟩),.pointer (some ⟨W.heap.size+1,0,none⟩)]) rfl (enters_of Tryz.func179 (by kernel_rfl) rfl) dr (Below.refl _ _) (fun k hk=>by rcases hk with hk|rfl|rfl<;>omega) (fun i=>rfl)
     (fun i V=>DFI s w bq W.heap.size (W.heap.size+1) Ds (eN s h D ((ez s h).take i)).1 (h :: (r++(eN s h D ((ez s h).take i)).2)) V)
     (fun _ _ _=>False)
     (fun i=>DFI.sta (by omega) (fun E hE=>by have:=mq E hE;omega)) (fun c i=>cO.pure) (by simpa[eN] using yI) ?rnd ?done ?stop
    case stop=>rintro D' c i V hD hi h;exact h.elim
    case rnd=>
     intro yl i V hi hl iT;unfold Jv;obtain⟨fv,Rw⟩:∃ fv,(ez s h).getD i 0=fv:=⟨_,rfl⟩
     have nC:fv<k:=by
      have h2:(ez s h)[i]∈ez s h:=List.getElem_mem hi;rw[show (ez s h)[i]=fv by rw[<-Rw];simp[hi]]at h2;have:=(sr.1 h2).1;rw[HM.o]at this;exact this
     have bM:fv≠h:=by
      have h2:(ez s h)[i]∈ez s h:=List.getElem_mem hi;rw[show (ez s h)[i]=fv by rw[<-Rw];simp[hi]]at h2;exact(sr.1 h2).2.2
     have la:am (eN s h D ((ez s h).take (i+1))=jX (D.getD h 0+1) (eN s h D ((ez s h).take i)) fv):=aa (by
      rw[List.take_succ_eq_append_getElem hi,DN,<-Rw]
      simp[hi])
     rw[Rw];have cC:(eN s h D ((ez s h).take i)).1.length=k:=by rw[zQ,KA.o,HM.o]
     have hh0:=(GQ.o.ok h (by simp)).2
     have hqb:(eN s h D ((ez s h).take i)).2.length<=256:=by
      have h1:=NM s h D ((ez s h).take i);have h2:=XI s h;have h3:=HM.o;rw[List.length_take]at h1;omega
     have RN:r.length<=257:=by
      have h1:=HN.o;simp only[List.length_cons]at h1;omega
     have Wh:(eN s h D ((ez s h).take i)).1.getD h 0=D.getD h 0:=NN hh0 _;generalize byP s h fv=pv;obtain⟨st,eF⟩:∃ st,eN s h D ((ez s h).take i)=st:=⟨_,rfl⟩;rw[eF]at cC Wh la iT hqb;obtain⟨ql,oQ⟩:∃ ql,(h :: (r++st.2)).length=ql+1:=⟨(r++st.2).length,rfl⟩;have hql2:ql<=1000:=by simp only[List.length_cons,List.length_append]at oQ;omega
     have pD:=aa iT;have dT:=aa eF;have wR:=aa oQ;clear eF iT Rw dr oQ RN hqb
     gi_wp2
     refine⟨Bod.refl _ _ _,fun V=>DFI s w bq W.heap.size (W.heap.size+1) Ds st.1 (h :: (r++st.2)) V,DFI.sta (by omega) (fun E hE=>by have:=mq E hE;omega),pD.o,fun V2 h2 jI=>?_⟩;obtain⟨rlp,jI⟩:=jI;have JM:=aC jI;clear jI rlp;obtain⟨g2,qv2,k1,k2,k3,k4,k5,k6,k7⟩:=h2.que;rw[wR.o]at k2;have da:=aa h2;have UO:=aa k1;have ED:=aa k2;have rz:=aa cC;have tb:=ab h2.box 0;have tr:=ab h2.row fv;have tq:=ab k1 0;simp at tb tq;rw[eR _ _ (by omega)]at tr;obtain⟨dv,Rz⟩:∃ dv,st.1.getD fv 0=dv:=⟨_,rfl⟩;rw[Rz]at tr;have HDV:=aa Rz;clear h2 k1 k2 Rz cC;have hmem2:fv<eS s:=by rw[HM.o];exact nC
     have hh2:h<eS s:=by rw[HM.o];exact hh
     by_cases CO:dv<0
     ·have hneg':decide (dv<0)=true:=decide_eq_true CO;obtain⟨off2,cap2,hqv,hnc2,hcm2,Oq⟩:=ED.o.ex;subst hqv;have RO:0<ql+1:=by omega
      have th2:V2.cell? ⟨g2,off2,none⟩=some (.int .i64 h):=by
       rcases Oq with h0|⟨cur,fz,c1,c2,c3,c4⟩
       ·omega
       ·rw[ab c1];have h5:=congrArg (fun l=>l[0]?) c4;simp[xQ]at h5;simpa using h5
      have trh:=ab da.o.row h;rw[eR _ _ (by have:=rz.o;omega),Wh]at trh;have zr:=aE da.o.row fv;have HSTEP:am (jX (D.getD h 0+1) st fv=(st.1.set fv (D.getD h 0+1),st.2++[fv])):=aa (by unfold jX;rw[HDV.o,if_pos CO]);have hdh:=NL GQ.o hh2 (by rw[HM.o];exact hE);generalize D.getD h 0=dh at trh Wh HSTEP la hh0 hdh
      have mi:am (∃ cs ty fz,V2.heap[g2]?=some (.cells cs ty fz)):=aa (by
       rcases Oq with h0|⟨cur,fz,c1,_⟩
       ·omega
       ·exact⟨_,_,_,c1⟩)
      clear CO Oq Wh
      gi_wp2
      refine lE 10 (fun ⟨_,_,h⟩=>h) (by kernel_rfl) (by kernel_rfl) (by kernel_rfl) (fun ops Lq hops hLq=>?_);simp only[List.take_succ_cons,List.take_zero,List.drop_succ_cons,List.drop_zero]at hLq ⊢;have EZ:=aa hLq;clear hLq;have TN:=aa hops;clear hops
      repeat still_step
      refine wpStill_nil ?_;refine EZ.o _ ?_
      go_wp2_with fail
      obtain⟨V3,Mh⟩:∃ V3,V3=(V2.setCell ⟨w.heap.size,fv,none⟩ (.int .i64 (dh+1))).drew:=⟨_,rfl⟩;rw[<-Mh];have KH:V3.heap.size=V2.heap.size:=by rw[Mh];simp
      have iA:∀ k,k≠w.heap.size->V3.heap[k]?=V2.heap[k]?:=fun k hk=>by rw[Mh];exact Below.heap_setCell _ _ _ _ hk
      have A0:V3.heap[w.heap.size]?=some (.cells (bC (st.1.set fv (dh+1))) 3):=by rw[Mh];exact(aF da.o.row _ _).trans (by rw[kT])
      have hold3:Below w.heap.size w V3:=by rw[Mh];exact(da.o.old.setCell (by dsimp only;omega) _).drew
      clear Mh;have OZ:=(iA bq (by omega)).trans UO.o;have tb3:=ab OZ 0;simp at tb3;have HBOX:=aa OZ;have jO:=aa A0;have Ak:=aa hold3;have oP:=aa iA;have bG:=aa ((ED.o.up (w':=V3) (.inl (iA g2 (by omega)))).ck (.of_below ((Below.refl _ V3).alloc (Nat.le_refl _) (.cells #[.int .i64 fv] 3))));have bA:=aa (dx V3 [.int .i64 (fv:Int)] 3);have HNEW2:am (∀ (j:Nat) (x:Value),[Value.int .i64 (fv:Int)][j]?=some x->(V3.alloc (.cells #[.int .i64 fv] 3)).cell? ((⟨V3.heap.size,0,none⟩:Addr).add j)=some x):=bA;have HSZ3:=aa KH;have Hp:am (bq≠g2):=aa (Ne.symm k7);clear k7;have jT:am (ql+1+1<=maxLen):=aa (by unfold maxLen;omega);have dD:am ((ql+1+1) * 8<=140737488355328):=aa (by omega);clear OZ A0 hold3 iA th2 trh zr tb tr tq KH
      gi_wp2_with (gi_at_builtin;go_loud (refine A9 _ rfl (.tmp 56) (.tmp 58) 38 rfl 3 i0 _ 8 Tryz.underlying38 cM bX bP bY rfl g2 _ (ql+1) _ rfl bG.o ⟨V3.heap.size,0,none⟩ 1 (.int .i64 fv) rfl HNEW2.o rfl jT.o dD.o ?_;intro v4 w4 g4 nd fh hg4;obtain⟨off4,cap4,rfl,-⟩:=nd.ex;have wC:=fh.keep (ar _ HBOX.o) Hp.o;have c4:=ab wC 0;have f4:=aE wC 0;simp at c4))
      have Ae:=fh.size;have KH:=HSZ3.o;simp only[World.size_alloc]at Ae hg4;have hg2l:=k4;have Q5:∀ k,k<V2.heap.size->k≠g2->k≠w.heap.size->w4.heap[k]?=V2.heap[k]?:=fun k h1 h2 h3=>(fh.same k (by simp;omega) h2).trans ((Below.heap_alloc V3 _ k (by omega)).trans (oP.o k h3))
      obtain⟨cs2,ty2,fz2,OK⟩:=mi.o
      have uI:∀ (k:Nat) (o:Obj),V2.heap[k]?=some o->o.isCells=false->(w4.setCell ⟨bq,0,none⟩ (.slice (some ⟨g4,off4,none⟩) (ql+1+1) cap4)).heap[k]?=some o:=fun k o ho hc=>by
       have n1:k≠g2:=fun e=>by subst e;rw[OK]at ho;cases ho;cases hc
       have n2:k≠w.heap.size:=fun e=>by subst e;rw[da.o.row]at ho;cases ho;cases hc
       have n3:k≠bq:=fun e=>by subst e;rw[UO.o]at ho;cases ho;cases hc
       rw[Below.heap_setCell _ _ _ _ n3];exact(Q5 k (aC ho) n1 n2).trans ho
      have hg4l:g4<w4.heap.size:=by
       obtain⟨off5,cap5,_,gK,_,h5⟩:=nd.ex;rcases h5 with h5|⟨cur,fz,c1,_⟩
       ·omega
       ·exact aC c1
      have hg4b:g4≠bq:=by
       rcases hg4 with ⟨e,_⟩|e
       ·rw[e];exact fun h=>Hp.o h.symm
       ·omega
      refine⟨⟨by simp;omega,fun k hk=>?_,fun k o _ ho hc=>uI k o ho hc⟩,?_⟩
      ·have mm:k<V2.heap.size/\k≠g2/\k≠w.heap.size/\k≠bq:=by rcases hk with hk|rfl|rfl<;>omega
       rw[Below.heap_setCell _ _ _ _ mm.2.2.2];exact Q5 k mm.1 mm.2.1 mm.2.2.1
      ·show DFI s w bq W.heap.size (W.heap.size+1) Ds (eN s h D ((ez s h).take (i+1))).1 (h :: (r++(eN s h D ((ez s h).take (i+1))).2)) _
       rw[la.o,HSTEP.o];refine⟨(fh.below (Ak.o.alloc (by omega) _) (by simp;omega) (by omega)).setCell (by dsimp only;omega) _,?_,?_,⟨g4,_,aF wC _ _,?_,by omega,by simp;omega,by omega,by omega,hg4b⟩,da.o.marks.keep fun k o ho hc=>uI k o ho hc⟩
       ·exact aK (fh.keep (ar _ ((oP.o _ (by omega)).trans da.o.box)) (by omega)) (by omega) _ _
       ·exact aK (fh.keep (ar _ jO.o) (by omega)) (by omega) _ _
       ·have e1:(h :: (r++(st.2++[fv]))).length=ql+1+1:=by have:=wR.o;simp only[List.length_cons,List.length_append,List.length_nil]at this ⊢;omega
        have e2:xQ (h :: (r++(st.2++[fv])))=xQ (h :: (r++st.2))++[Value.int .i64 fv]:=by simp[xQ]
        dsimp only;rw[e1,e2];exact nd.up (.inl (Below.heap_setCell _ _ _ _ hg4b))
     ·have hneg':decide (dv<0)=false:=decide_eq_false CO;have HSAME:am (jX (D.getD h 0+1) st fv=st):=aa (by unfold jX;rw[HDV.o,if_neg CO]);clear CO
      gi_wp2
      refine⟨Bod.refl _ _ _,?_⟩
      show DFI s w bq W.heap.size (W.heap.size+1) Ds (eN s h D ((ez s h).take (i+1))).1 (h :: (r++(eN s h D ((ez s h).take (i+1))).2)) V2
      rw[la.o,HSAME.o];exact da.o
    case done=>
     intro D' V hD iT hK;rw[List.take_of_length_le (Nat.le_refl _)]at iT;obtain⟨TD,Y9⟩:=QB (by rw[HM.o];exact hf) KA.o GQ.o;have oV:(eN s h D (ez s h)).1.length=eS s:=by rw[zQ];exact KA.o
     obtain⟨st,eF⟩:∃ st,eN s h D (ez s h)=st:=⟨_,rfl⟩;rw[eF]at iT TD Y9 oV;obtain⟨g2,qv2,k1,k2,k3,k4,k5,k6,k7⟩:=iT.que;obtain⟨ql,oQ⟩:∃ ql,(h :: (r++st.2)).length=ql+1:=⟨(r++st.2).length,rfl⟩;rw[oQ]at k2;obtain⟨off2,cap2,rfl,hnc2,hcm2,-⟩:=k2.ex;have tb:=ab k1 0;simp at tb;have pD:=aa iT;have ED:=aa k2;have wR:=aa oQ;have HBF2:=aa TD;have HMS:=aa Y9;have ES:=aa oV;have hDl2:∀ E∈Ds,E<D':=fun E hE=>by have:=mq E hE;omega
     have HK:=aa hK;clear eF iT TD Y9 oV k1 k2 oQ dr hK;have yM:am (ql=(r++st.2).length):=aa (by have:=wR.o;simp only[List.length_cons]at this;omega)
     have ie:am (∀ (u:Value) (act:Act),OwnQ V g2 3 u ql (xQ (r++st.2))->(∃ (u2 u3 u4 u6 u8 u9 u10 u11 u12 u13 u14 u15 u16 u17 u18 u19 u20 u21 u22 u23 u24 u25 u26 u27 u28 u29 u30 u31 u32 u33 u34 u35 u36 u37 u38 u39 u40 u41 u42 u43 u44 u45 u46 u47 u48 u49 u50 u51 u52 u53 u54 u55 u56 u57 u58 u59 u60 u61:Value),act={ tmps:=#[Value.pointer (some ⟨B,0,none⟩),Value.int .i64 f,u2,u3,u4,Value.pointer (some ⟨w.heap.size+1,0,none⟩),u6,Value.pointer (some ⟨V.heap.size,0,none⟩),u8,u9,u10,u11,u12,u13,u14,u15,u16,u17,u18,u19,u20,u21,u22,u23,u24,u25,u26,u27,u28,u29,u30,u31,u32,u33,u34,u35,u36,u37,u38,u39,u40,u41,u42,u43,u44,u45,u46,u47,u48,u49,u50,u51,u52,u53,u54,u55,u56,u57,u58,u59,u60,u61],defers:=nF (D' :: Ds) })->∃ m,m<n/\XH s B f w m act (V.alloc (Obj.cells #[u] 38))):=aa (fun u act hu ⟨u2,u3,u4,u6,u8,u9,u10,u11,u12,u13,u14,u15,u16,u17,u18,u19,u20,u21,u22,u23,u24,u25,u26,u27,u28,u29,u30,u31,u32,u33,u34,u35,u36,u37,u38,u39,u40,u41,u42,u43,u44,u45,u46,u47,u48,u49,u50,u51,u52,u53,u54,u55,u56,u57,u58,u59,u60,u61,ha⟩=>by
      have aB:(r++st.2).length+NJ s st.1<n:=by rw[HN.o];exact HMS.o
      have hV1:=pD.o.old.size;refine⟨_,aB,st.1,r++st.2,V.heap.size,D' :: Ds,_,_,_,_,_,_,_,_,_,_,_,_,_,_,_,_,_,_,_,_,_,_,_,_,_,_,_,_,_,_,_,_,_,_,_,_,_,_,_,_,_,_,_,_,_,_,_,_,_,_,_,_,_,_,_,_,_,_,ha,rfl,by omega,ES.o,HBF2.o,by omega,by simp,?_⟩;have hz:(V.alloc (Obj.cells #[u] 38)).heap.size=V.heap.size+1:=by simp
      refine⟨pD.o.old.alloc hV1 _,ar _ pD.o.box,ar _ pD.o.row,⟨g2,u,aq _ _,by rw[<-yM.o];exact hu.ck (.of_below (by go_grown)),k3,by omega,by omega,by omega,by omega⟩,?_⟩
      exact cX.cons (pD.o.marks.up (by go_grown)) (by omega) (ar _ HK.o) hDl2)
     have uJ:=aa (OwnQ.tail (x:=.int .i64 h) (xs:=xQ (r++st.2)) ED.o);by_cases hc:cap2=1
     ·subst hc;obtain rfl:ql=0:=by omega
      have EK:=uJ.o;rw[if_pos rfl]at EK;have HG:am (∀ act,_->_):=aa (fun act=>ie.o _ act EK);clear EK
      go_wp2_with fail
      exact HG.o _ ⟨_,_,_,_,_,_,_,_,_,_,_,_,_,_,_,_,_,_,_,_,_,_,_,_,_,_,_,_,_,_,_,_,_,_,_,_,_,_,_,_,_,_,_,_,_,_,_,_,_,_,_,_,_,_,_,_,_,_,rfl⟩
     ·have EK:=uJ.o;rw[if_neg hc]at EK;have HG:am (∀ act,_->_):=aa (fun act=>ie.o _ act EK);clear EK
      go_wp2_with fail
      exact HG.o _ ⟨_,_,_,_,_,_,_,_,_,_,_,_,_,_,_,_,_,_,_,_,_,_,_,_,_,_,_,_,_,_,_,_,_,_,_,_,_,_,_,_,_,_,_,_,_,_,_,_,_,_,_,_,_,_,_,_,_,_,rfl⟩
theorem Tryz.infoLink:(Tryz.prog.info? 75).map (fun i=>(i.zero,i.size,i.bytes))=some (some (.agg #[.int .i64 0,.int .i64 0]),2,16):=by kernel_rfl
theorem WW(s:Sys) (e:Nat):(ez s e).Pairwise (·<·):=List.Pairwise.filter _ List.pairwise_lt_range
theorem WX{s:Sys} {e i:Nat} {D:List Int} {d:Nat} (hi:i<(ez s e).length) (hd:D.getD ((ez s e).getD i 0) 0=d) (hb:∀ j,j<i->D.getD ((ez s e).getD j 0) 0≠d) (he:D.getD e 0≠d):gE s D d e=(ez s e).getD i 0:=by
 have e1:(ez s e).getD i 0=(ez s e)[i]:=aA 0 hi;rw[e1]at hd ⊢;obtain⟨h1,h2,h3⟩:=sr.1 (List.getElem_mem hi);unfold gE;rw[dk (eS s) (ez s e)[i] _ h1 (fun j hj=>?_) (by rw[hd,h2];simp),Int.toNat_natCast];cases GW:byB s e j with
 | false=>simp
 | true=>
  rw[Bool.and_true];refine decide_eq_false fun hdj=>?_
  have UY:j∈ez s e:=sr.2 ⟨by omega,GW,fun e2=>he (by rw[<-e2];exact hdj)⟩;obtain⟨i',pU,e'⟩:=List.getElem_of_mem UY;rcases Nat.lt_trichotomy i' i with aB|aB|aB
  ·exact hb i' aB (by rw[aA 0 pU,e'];exact hdj)
  ·subst aB;omega
  ·have:=List.pairwise_iff_getElem.1 (WW s e) i i' hi pU aB;omega
theorem WY{s:Sys} {f:Nat} (hf:f<eS s) {e d:Nat} (he:e<eS s) (h:(farL s f).getD e 0=d+1) (hb:∀ j,j<(ez s e).length->(farL s f).getD ((ez s e).getD j 0) 0≠d):False:=by
 obtain⟨h1,h2,h3,_⟩:=xr hf he h;have hm:gE s (farL s f) d e∈ez s e:=sr.2 ⟨h1,h3,fun e2=>by rw[e2]at h2;omega⟩;obtain⟨i,hi,e'⟩:=List.getElem_of_mem hm;exact hb i hi (by rw[aA 0 hi,e'];exact h2)
theorem kn{w:World} {base:Nat} {v:Value} {l:List Lk} (h:aH w base 75 2 v l.length (cF l)) (hx:∀ u∈l,bN u.x/\bN u.p) (hn:l.length<=17592186044416):bh w v l:=by
 have aU:=fun i (hi:i<l.length) j (u:Value) (hj:j<2) (hu:l[i].c[j]?=some u)=>h.cell (i * 2+j) u (by unfold cF;rw[qr Lk.c 2 (fun _=>rfl) l i j hi hj];exact hu)
 rcases h.2 with ⟨hz,h0⟩|⟨g,cap,cur,fz,rfl,_,hg,_,kZ,jk,_⟩
 ·refine⟨none,0,by rw[hz,h0],⟨by omega,by omega,fun _=>rfl⟩,hn,fun i x hi=>?_⟩;have:=(List.getElem?_eq_some_iff.1 hi).1;omega
 ·refine⟨some ⟨g,0,none⟩,cap,rfl,⟨kZ,by simp only[maxLen]at jk;omega,fun e=>by cases e⟩,hn,fun i x hi=>⟨g,0,rfl,?_⟩⟩;obtain⟨gZ,rfl⟩:=List.getElem?_eq_some_iff.1 hi;obtain⟨r0,r1⟩:=hx _ (List.getElem_mem gZ)
  have key:∀ j u,j<2->l[i].c[j]?=some u->w.cell? ⟨g,0+i * 2+j,none⟩=some u:=fun j u hj hu=>by
   obtain⟨g',c',e1,e2⟩:=aU i gZ j u hj hu;have:g=g':=by simp at e1;exact e1.1
   rw[this,Nat.zero_add];exact e2
  exact⟨⟨key 0 _ (by omega) rfl,r0⟩,⟨key 1 _ (by omega) rfl,r1⟩⟩
theorem CI(n:Nat) (q:Nat->Bool):-1<=firstIx n q/\firstIx n q<n\/firstIx n q=-1:=by
 rcases bE n q with ⟨e,_⟩|⟨k,hk,e,_⟩
 ·exact .inr e
 ·exact .inl ⟨by omega,by omega⟩
theorem Fz{s:Sys} (hn:nS s<=5) (hE:eS s<=4096) (D:List Int):∀ d e,∀ y∈iv s D d e,bN y.x/\bN y.p
 | 0,_,y,hy=>by simp[iv]at hy
 | d+1,e,y,hy=>by
  rw[iv]at hy;rcases List.mem_cons.1 hy with rfl|hy
  ·have h1:=CI (eS s) fun g=>decide (D.getD g 0=d)&&byB s e g
   have h2:=CI (nS s) fun p=>linkB s p e (gE s D d e)
   refine⟨?_,?_⟩
   ·show bN ((gE s D d e:Nat):Int)
    unfold gE;generalize firstIx (eS s) _=z at h1;exact⟨by omega,by omega⟩
   ·show bN (byP s e (gE s D d e))
    unfold byP;generalize firstIx (nS s) _=z at h2;exact⟨by omega,by omega⟩
  ·exact Fz hn hE D d _ y hy
structure WkI (s:Sys) (w w1:World) (b11 f cur:Nat) (l:List Lk) (Ds:List Nat) (V:World):Prop where
 old:Below w.heap.size w V
 fin:∀ k,w.heap.size+2<=k->k<w1.heap.size->V.heap[k]?=w1.heap[k]?
 far:V.heap[w1.heap.size]?=some (.cells (bC (farL s f)) 3)
 fbox:V.heap[b11]?=some (.cells #[.slice (some ⟨w1.heap.size,0,none⟩) (eS s) (eS s)] 38)
 ebox:V.heap[w.heap.size+1]?=some (.cells #[.int .i64 cur] 3)
 walk:∃ v,V.heap[b11+2]?=some (.cells #[v] 54)/\aH V (b11+1) 75 2 v l.length (cF l)
 marks:cX w.heap.size Ds V
theorem WkI.sta{s:Sys} {w w1:World} {b11 f cur B:Nat} {l:List Lk} {Ds:List Nat} (hB:w.heap.size<=B) (hB1:w1.heap.size<=B) (hD:∀ E∈Ds,E<B) (OV:∀ k,w.heap.size+2<=k->k<w1.heap.size->∃ o,w1.heap[k]?=some o):cO B (WkI s w w1 b11 f cur l Ds):=fun A A' c h=>by
 obtain⟨v,h1,h2⟩:=h.walk;refine⟨c.below hB h.old.size h.old,fun k k1 k2=>?_,c.same _ _ h.far (.inr rfl),c.same _ _ h.fbox (.inr rfl),c.same _ _ h.ebox (.inr rfl),⟨v,c.same _ _ h1 (.inr rfl),h2.ck c.ck⟩,cO.marks hD A A' c h.marks⟩;obtain⟨o,ho⟩:=OV k k1 k2;rw[ho];exact c.same _ _ ((h.fin k k1 k2).trans ho) (.inl (by omega))
def XJ(s:Sys) (B f:Nat) (full:List Lk) (w w1:World) (b11:Nat) (n:Nat) (act:Act) (W:World):Prop:=∃ (cur:Nat) (l:List Lk) (Ds:List Nat) (u0 u1 u5 u6 u7 u8 u10 u13 u14 u15 u16 u17 u18 u19 u20 u21 u22 u23 u24 u25 u26 u27 u28 u29 u30 u31 u32 u33 u34 u35 u36 u37 u38 u39 u40 u41 u42 u43 u44 u45 u46 u47 u48 u49 u50 u51 u52 u53 u54 u55 u56 u57 u58 u59 u60 u61 u62:Value),
 act={ tmps:=#[u0,u1,Value.int .i64 f,Value.pointer (some ⟨w.heap.size,0,none⟩),Value.pointer (some ⟨w.heap.size+1,0,none⟩),u5,u6,u7,u8,Value.pointer (some ⟨B,0,none⟩),u10,Value.pointer (some ⟨b11,0,none⟩),Value.pointer (some ⟨b11+2,0,none⟩),u13,u14,u15,u16,u17,u18,u19,u20,u21,u22,u23,u24,u25,u26,u27,u28,u29,u30,u31,u32,u33,u34,u35,u36,u37,u38,u39,u40,u41,u42,u43,u44,u45,u46,u47,u48,u49,u50,u51,u52,u53,u54,u55,u56,u57,u58,u59,u60,u61,u62],defers:=nF Ds }/\cur<eS s/\(farL s f).getD cur 0=n/\l++iv s (farL s f) n cur=full/\b11+2<W.heap.size/\WkI s w w1 b11 f cur l Ds W
theorem QI(s:Sys) (hv:verifyE s=0) (hE:eS s<=256) (vc vs vt ve:Value) (e f:Nat) (he:e<eS s) (hf:f<eS s) (hD:0<=(farL s f).getD e 0) (w:World) (hs:IsSys w s vc vs vt ve) (hN:movesN s.prob.a.states<1099511627776) :
  Calls Tryz.prog 90 #[.agg (bL s.prob vc vs s.n vt ve),.int .i64 e,.int .i64 f] w fun r w'=>∃ u,r=.returned (.tuple #[u,.bool true,.int .i64 0])/\(bh w' u (⟨e,-1⟩ :: gu s e f)/\∀ k,u.ownBlock=some k->w.heap.size<=k)/\Below w.heap.size w w':=by
 have HS:=aa hs;obtain⟨⟨pc,cc,rfl⟩,⟨ps,cs,rfl⟩,⟨pt,ct,rfl⟩,⟨pe,ce,rfl⟩⟩:=bB hs;clear hs
 have HC:am (∀ W,Below w.heap.size w W->∀ vl,aT W vl [(e:Int),f]->_):=aa (fun W (hb:Below w.heap.size w W) vl (hl:aT W vl [(e:Int),f])=>NE s hv _ _ _ _ vl [(e:Int),f] W (HS.o.up hb) hN hl (fun k hk=>by
  rcases k with _|_|k
  ·exact⟨by simp,by simpa using he⟩
  ·exact⟨by simp,by simpa using hf⟩
  ·simp at hk;omega))
 have dA:=aa (jh hv);have HE:=aa he;have rI:=aa hf;have HDD:=aa hD;obtain⟨i0,cM,bX,bP,bY⟩:=info_parts Tryz.infoLink;obtain⟨full,iL⟩:∃ full,(⟨e,-1⟩ :: gu s e f:List Lk)=full:=⟨_,rfl⟩;rw[iL];have KQ:=aa iL;clear hv hD iL;refine gq Tryz.func90 rfl ?_;simp only[Tryz.ntmps90,List.size_toArray,List.length_cons,List.length_nil,Nat.reduceAdd,Nat.reduceSub,Array.replicate_succ,Array.replicate_zero,List.push_toArray,List.append_toArray,List.nil_append,List.cons_append]
 go_wp2_with fail
 refine aN (fun W=>Below w.heap.size w W/\W.heap[w.heap.size+1]?=some (.cells #[.int .i64 e] 3)/\W.heap[w.heap.size+1+1]?=some (.cells (bC [(e:Int),f]) 3)) ⟨by go_grown,ar _ (bd _ _ _),eI _ _ _ _⟩ (fun W0 aZ=>?_);obtain⟨aI,wE,Zn⟩:=aZ;have nA:=aC Zn;refine(HC.o W0 aI _ (sC (by rfl) (by decide) Zn fun i hi=>?_)).mono ?_
 ·have:i=0\/i=1:=by simp at hi;omega
  have h1:=HE.o;have h2:=rI.o;rcases this with rfl|rfl
  ·exact⟨by simp<;>omega,by simp<;>omega⟩
  ·exact⟨by simp<;>omega,by simp<;>omega⟩
 rintro r w1 ⟨B,rfl,aJ,hF1,Mn⟩;have Ch:=af aJ wE;have bK:=aa (ae aI aJ);have kW:=aa Ch;have fM:=aa (Mn.mono (show w.heap.size+2<=W0.heap.size by omega));have gc:w.heap.size+1<w1.heap.size:=by have:=aJ.size;omega
 clear aI wE Zn aJ hF1 Mn Ch nA HC W0
 go_wp2_with fail
 refine(QH s dA.o hE B f rI.o _ w1 fM.o).mono ?_;rintro r w2 ⟨rfl,ph,a8⟩;have eA:=af a8 kW.o;have tx2:∀ o,(w2.alloc o).cell? ⟨w.heap.size+1,0,none⟩=some (.int .i64 e):=fun o=>(ab (ar o eA) 0).trans rfl
 have tfe:∀ o,(w2.alloc o).cell? ⟨w1.heap.size,e,none⟩=some (.int .i64 ((farL s f).getD e 0)):=fun o=>(ab (ar o ph) e).trans (eR _ _ (by rw[nr];exact he))
 obtain⟨n0,kX⟩:∃ n0:Nat,(farL s f).getD e 0=n0:=⟨((farL s f).getD e 0).toNat,by have:=HDD.o;omega⟩;rw[kX]at tfe;have G9:=aa kX;obtain⟨m,hm⟩:∃ m,eS s=m:=⟨_,rfl⟩;have HM:=aa hm;have cQ:=aa a8;have HFAR:=aa ph;have fG:=aa eA;have iS:w1.heap.size<w2.heap.size:=aC ph;rw[hm]at hE he hf ⊢;clear a8 ph eA kX hm;have iL:=KQ.o
 have zZ:am (full.length<=257/\∀ y∈full,bN y.x/\bN y.p):=aa (by
  have h1:=(tZ (s:=s) rI.o n0 e HE.o G9.o).2.2;have h2:=v8 (s:=s) rI.o e HE.o;have h3:=G9.o;have h4:=HM.o;rw[<-iL];unfold gu;rw[h3,Int.toNat_natCast];refine⟨by simp only[List.length_cons,h1];omega,fun y hy=>?_⟩;rcases List.mem_cons.1 hy with rfl|hy
  ·exact⟨⟨by dsimp only;omega,by dsimp only;omega⟩,⟨by dsimp only;omega,by dsimp only;omega⟩⟩
  ·exact Fz dA.o.n.2.1 (by omega) _ _ _ y hy)
 have EO:am ([(⟨e,-1⟩:Lk)]++iv s (farL s f) n0 e=full):=aa (by rw[<-iL];unfold gu;rw[G9.o,Int.toNat_natCast];rfl);clear iL
 go_wp2_with fail
 have C7:am (∀ (cur:Nat) (l:List Lk) (Ds:List Nat) (B0:Nat),w1.heap.size<=B0->(∀ E∈Ds,E<B0)->cO B0 (WkI s w w1 w2.heap.size f cur l Ds)):=aa (fun cur l Ds B0 h1 h2=>WkI.sta (by omega) h1 h2 fun k _ hk=>⟨w1.heap[k],by rw[Array.getElem?_eq_getElem hk]⟩)
 have iU:am (WkI s w w1 w2.heap.size f e [⟨e,-1⟩] [] (((w2.alloc (Obj.cells #[Value.slice (some { block:=w1.heap.size,off:=0 }) m m] 38)).alloc (Obj.cells #[Value.int .i64 e,Value.int .i64 (-1)] 75)).alloc (Obj.cells #[Value.slice (some { block:=w2.heap.size+1,off:=0 }) 1 1] 54))):=aa (by
  have hg:Below w2.heap.size w2 (((w2.alloc (Obj.cells #[Value.slice (some { block:=w1.heap.size,off:=0 }) m m] 38)).alloc (Obj.cells #[Value.int .i64 e,Value.int .i64 (-1)] 75)).alloc (Obj.cells #[Value.slice (some { block:=w2.heap.size+1,off:=0 }) 1 1] 54)):=by go_grown
  refine⟨ae bK.o (ae cQ.o hg),fun k _ hk=>?_,af hg HFAR.o,?_,af hg fG.o,⟨_,eI _ _ _ _,?_⟩,cX.nil _ _⟩
  ·rw[hg.block k (by omega),cQ.o.block k hk]
  ·rw[HM.o];exact ar _ (ar _ (aq _ _))
  ·exact⟨rfl,.inr ⟨w2.heap.size+1,1,_,(0,0),rfl,Nat.le_refl _,ar _ (bd _ _ _),fun i _ h=>by have:=h.2;simp at this,Nat.le_refl _,by unfold maxLen;omega,rfl,rfl⟩⟩)
 refine Ck (fun n act W=>XJ s B f full w w1 w2.heap.size n act W) n0 ?start ?round
 case start=>exact⟨e,[⟨e,-1⟩],[],_,_,_,_,_,_,_,_,_,_,_,_,_,_,_,_,_,_,_,_,_,_,_,_,_,_,_,_,_,_,_,_,_,_,_,_,_,_,_,_,_,_,_,_,_,_,_,_,_,_,_,_,_,_,_,_,_,rfl,HE.o,G9.o,EO.o,by simp,iU.o⟩
 case round=>
  clear iU G9 EO tx2 tfe fG HFAR kW;generalize w2.heap.size=b11 at iS C7 cQ;rintro n act W ⟨cur,l,Ds,u0,u1,u5,u6,u7,u8,u10,u13,u14,u15,u16,u17,u18,u19,u20,u21,u22,u23,u24,u25,u26,u27,u28,u29,u30,u31,u32,u33,u34,u35,u36,u37,u38,u39,u40,u41,u42,u43,u44,u45,u46,u47,u48,u49,u50,u51,u52,u53,u54,u55,u56,u57,u58,u59,u60,u61,u62,rfl,bR,MB,iL,cZ,hI⟩;obtain⟨v,jF,aS⟩:=hI.walk;obtain⟨av,cv,rfl⟩:=aS.slice;have te:=ab hI.ebox 0;have tw:=ab jF 0;simp at te tw;have HI:=aa hI;have pG:=aa jF;have bG:=aa aS;have Cf:=aa MB;have uX:=aa iL;have kg:=aa bR;clear hI jF aS MB iL;by_cases Hm:cur=f
  ·have bM:((cur:Int) != (f:Int))=false:=by simp[Hm]
   have HL:am (l=full):=aa (by
    have h0:=(lI (s:=s) (f:=f) rI.o).zero;have h1:=Cf.o;rw[Hm]at h1;have h2:n=0:=by omega
    have h3:=uX.o;rw[h2]at h3
    simpa[iv] using h3)
   clear Hm
   go_wp2_with fail
   refine rV HI.o.marks (v:=.tuple #[.slice av l.length cv,.bool true,.int .i64 0]) ?_ ⟨_,rfl,?_,mV (fun D hD=>(HI.o.marks.2 D hD).1) (Nat.le_refl _) HI.o.old⟩
   ·simp[results,Tryz.results90,go_sem]
   ·rw[HL.o]at bG ⊢;exact⟨kn (bG.o.ck (rU HI.o.marks)) zZ.o.2 (by have:=zZ.o.1;omega),fun k hk=>by have:=(bG.o.lt k hk).1;omega⟩
  ·have bM:((cur:Int) != (f:Int))=true:=by simp;omega
   obtain⟨d,hd⟩:∃ d,n=d+1:=by
    refine⟨n - 1,?_⟩;rcases Nat.eq_zero_or_pos n with h0|h0
    ·exact absurd ((lI (s:=s) (f:=f) rI.o).only cur bR (by rw[Cf.o,h0];rfl)) Hm
    ·omega
   have Hs:=aa hd;clear Hm hd
   go_wp2_with fail
   refine(wz B cur W).mono ?_;rintro r w3 ⟨rfl,rfl⟩;clear te tw
   go_wp2_with fail
   have mq:∀ E∈Ds,E<W.heap.size:=HI.o.marks.lt;refine bu (fun V=>WkI s w w1 b11 f cur l Ds V/\V.heap[W.heap.size]?=some (.cells #[.pointer (some ⟨B,0,none⟩)] 196)/\V.heap[W.heap.size+1]?=some (.cells #[.int .i64 cur] 3)/\W.heap.size+1<V.heap.size) ⟨C7.o cur l Ds W.heap.size (by omega) mq _ _ (Chg.of_below (by go_grown)) HI.o,ar _ (aq _ _),bd _ _ _,by simp⟩ (fun W1 cD=>?_);obtain⟨yI,Ch,JP,Yc⟩:=cD;have dr:=uD s dA.o B cur W.heap.size (W.heap.size+1) kg.o (w.heap.size+2) w1 fM.o W1 (fun k h1 h2=>yI.fin k h1 h2) (by omega) (by simp[ab Ch]) (by simp[ab JP]);have eO:am (∀ i,i<(ez s cur).length->(farL s f).getD ((ez s cur).getD i 0) 0=d->(∀ j,j<i->(farL s f).getD ((ez s cur).getD j 0) 0≠d)->gE s (farL s f) d cur=(ez s cur).getD i 0):=aa (fun i h1 h2 h3=>WX h1 h2 h3 (by have:=Cf.o;have:=Hs.o;omega))
   refine ni (gf:=179) (lb:=#[.pointer (some ⟨W.heap.size,0,none⟩),.pointer (some ⟨W.heap.size+1,0,none⟩)]) rfl (enters_of Tryz.func179 (by kernel_rfl) rfl) dr (Below.refl _ _) (fun k hk=>by rcases hk with hk|rfl|rfl<;>omega) (fun i=>rfl)
    (fun i V=>(WkI s w w1 b11 f cur l Ds V/\V.heap[W.heap.size]?=some (.cells #[.pointer (some ⟨B,0,none⟩)] 196)/\V.heap[W.heap.size+1]?=some (.cells #[.int .i64 cur] 3))/\∀ j,j<i->(farL s f).getD ((ez s cur).getD j 0) 0≠d)
    (fun c i V=>c=.exit 2/\WkI s w w1 b11 f (gE s (farL s f) d cur) (l++[⟨gE s (farL s f) d cur,byP s cur (gE s (farL s f) d cur)⟩]) Ds V)
    (fun i=>((C7.o cur l Ds _ (by omega) (fun E hE=>by have:=mq E hE;omega)).and (cO.cells.and cO.cells)).and cO.pure) (fun c i=>cO.pure.and (C7.o _ _ Ds _ (by omega) (fun E hE=>by have:=mq E hE;omega))) ⟨⟨yI,Ch,JP⟩,fun j hj=>by omega⟩ ?rnd ?done ?stop
   case done=>
    intro D' V hD iT hK;exact(WY rI.o kg.o (by rw[Cf.o,Hs.o];rfl) iT.2).elim
   case stop=>
    rintro D' c i V hD hi ⟨rfl,iT⟩ hK
    have HG:am (∀ act:Act,(∃ (u0 u1 u5 u6 u7 u8 u10 u13 u14 u15 u16 u17 u18 u19 u20 u21 u22 u23 u24 u25 u26 u27 u28 u29 u30 u31 u32 u33 u34 u35 u36 u37 u38 u39 u40 u41 u42 u43 u44 u45 u46 u47 u48 u49 u50 u51 u52 u53 u54 u55 u56 u57 u58 u59 u60 u61 u62:Value),act={ tmps:=#[u0,u1,Value.int .i64 f,Value.pointer (some ⟨w.heap.size,0,none⟩),Value.pointer (some ⟨w.heap.size+1,0,none⟩),u5,u6,u7,u8,Value.pointer (some ⟨B,0,none⟩),u10,Value.pointer (some ⟨b11,0,none⟩),Value.pointer (some ⟨b11+2,0,none⟩),u13,u14,u15,u16,u17,u18,u19,u20,u21,u22,u23,u24,u25,u26,u27,u28,u29,u30,u31,u32,u33,u34,u35,u36,u37,u38,u39,u40,u41,u42,u43,u44,u45,u46,u47,u48,u49,u50,u51,u52,u53,u54,u55,u56,u57,u58,u59,u60,u61,u62],defers:=nF (D' :: Ds) })->∃ m,m<n/\XJ s B f full w w1 b11 m act V):=aa (by
     rintro act ⟨u0,u1,u5,u6,u7,u8,u10,u13,u14,u15,u16,u17,u18,u19,u20,u21,u22,u23,u24,u25,u26,u27,u28,u29,u30,u31,u32,u33,u34,u35,u36,u37,u38,u39,u40,u41,u42,u43,u44,u45,u46,u47,u48,u49,u50,u51,u52,u53,u54,u55,u56,u57,u58,u59,u60,u61,u62,ha⟩;have h1:=Hs.o;have h2:=xr (s:=s) rI.o kg.o (d:=d) (by rw[Cf.o,h1];rfl);obtain⟨v5,k1,_⟩:=iT.walk;refine⟨d,by omega,_,_,D' :: Ds,_,_,_,_,_,_,_,_,_,_,_,_,_,_,_,_,_,_,_,_,_,_,_,_,_,_,_,_,_,_,_,_,_,_,_,_,_,_,_,_,_,_,_,_,_,_,_,_,_,_,_,_,_,_,_,_,_,ha,h2.1,h2.2.1,?_,aC k1,{ iT with marks:=cX.cons iT.marks (by omega) hK fun E hE=>by have:=mq E hE;omega }⟩;have h3:=uX.o;rw[h1]at h3;rw[<-h3,List.append_assoc]
     rfl)
    clear iT hK dr yI Ch JP
    go_wp2_with fail
    exact HG.o _ ⟨_,_,_,_,_,_,_,_,_,_,_,_,_,_,_,_,_,_,_,_,_,_,_,_,_,_,_,_,_,_,_,_,_,_,_,_,_,_,_,_,_,_,_,_,_,_,_,_,_,_,_,_,_,_,_,_,_,rfl⟩
   case rnd=>
    intro yl i V hi hl iT;obtain⟨iT,gL⟩:=iT;unfold Jv;obtain⟨nb,iz⟩:∃ nb,(ez s cur).getD i 0=nb:=⟨_,rfl⟩
    have nC:nb<eS s:=by
     rw[<-iz,aA 0 hi];exact(sr.1 (List.getElem_mem hi)).1
    have HNXT:=aa (fun h=>eO.o i hi h gL);have fi:am ((farL s f).getD nb 0≠d->∀ j,j<i+1->(farL s f).getD ((ez s cur).getD j 0) 0≠d):=aa (fun h=>aV gL (by rw[iz];exact h));rw[iz]at HNXT ⊢;have pD:=aa iT;obtain⟨pv,Yo⟩:∃ pv,byP s cur nb=pv:=⟨_,rfl⟩;rw[Yo];have Kt:=aa Yo;clear iT dr iz gL Yo yI Ch JP
    gi_wp2
    refine⟨Bod.refl _ _ _,fun V=>WkI s w w1 b11 f cur l Ds V/\V.heap[W.heap.size]?=some (.cells #[.pointer (some ⟨B,0,none⟩)] 196)/\V.heap[W.heap.size+1]?=some (.cells #[.int .i64 cur] 3),(C7.o cur l Ds _ (by omega) (fun E hE=>by have:=mq E hE;omega)).and (cO.cells.and cO.cells),pD.o,fun V2 h2 jI=>?_⟩;obtain⟨rlp,jI⟩:=jI;have JM:=aC jI;clear jI rlp;obtain⟨h2,eA,iR⟩:=h2;obtain⟨v2,k1,k2⟩:=h2.walk;obtain⟨av2,cv2,rfl⟩:=k2.slice;have da:=aa h2;have UO:=aa k1;have ED:=aa k2;have fG:=aa eA;have wW:=aa iR;have tf:=ab h2.fbox 0;have te:=ab h2.ebox 0;have tn:=ab h2.far nb;have tc:=ab h2.far cur;rw[eR _ _ (by rw[nr];exact nC)]at tn;rw[eR _ _ (by rw[nr];exact bR),Cf.o]at tc;simp at tf te;rw[HM.o]at tf;have yf:∀ z:ExtW V2,z.val.cell? ⟨b11,0,none⟩=_:=fun z=>z.cell tf
    have ye:∀ z:ExtW V2,z.val.cell? ⟨w.heap.size+1,0,none⟩=_:=fun z=>z.cell te
    have jc:IntKind.i64.wrap ((n:Int) - 1)=(d:Int):=by have:=Hs.o;have:=zZ.o.1;have h5:=congrArg List.length uX.o;rw[IntWalk.i64_in _ (by have h6:=v8 (s:=s) rI.o cur bR;have:=Cf.o;have:=HM.o;omega)];omega
    have hnm:nb<m:=by have:=HM.o;omega
    have rk:cur<m:=by have:=HM.o;omega
    clear h2 k1 k2 eA iR;by_cases BO:(farL s f).getD nb 0=d
    ·have hH:=aa (HNXT.o BO);rw[BO]at tn;have yn:∀ z:ExtW V2,z.val.cell? ⟨w1.heap.size,nb,none⟩=_:=fun z=>z.cell tn
     have yc:∀ z:ExtW V2,z.val.cell? ⟨w1.heap.size,cur,none⟩=_:=fun z=>z.cell tc
     clear BO tn tc tf te
     gi_wp2
     refine qO (fun ⟨_,_,h⟩=>h) (by kernel_rfl) (by kernel_rfl) (by kernel_rfl) ?_
     repeat (go_big_quiet_step (fail))
     refine wpQuiet_nil ?_;rintro _ ⟨xq,rfl⟩;have rf:=xq.ext;generalize xq.val=V3 at rf ⊢;clear yf ye yn yc;have Es:=aa rf;have h3:=C7.o cur l Ds W1.heap.size (by omega) (fun E hE=>by have:=mq E hE;omega) _ _ (Chg.of_below rf) da.o;have k1:=af rf UO.o;have k2:=ED.o.ck (.of_below rf);have KH:=rf.size;have tw:=ab k1 0;simp at tw;have ld:=aa h3;have oP:=aa k1;have cL:=aa (k2.up ((Below.refl _ V3).alloc (Nat.le_refl _) (.cells #[.int .i64 nb,.int .i64 pv] 75)));have bA:=aa (dx V3 [.int .i64 nb,.int .i64 pv] 75);have iw:am (l.length+1<=300):=aa (by have h5:=congrArg List.length uX.o;have:=zZ.o.1;simp only[List.length_append]at h5;omega);have jT:am (l.length+1<=maxLen):=aa (by have:=iw.o;unfold maxLen;omega);have dD:am ((l.length+1) * 16<=140737488355328):=aa (by have:=iw.o;omega);have fH:am (b11+1<=(V3.alloc (.cells #[.int .i64 nb,.int .i64 pv] 75)).heap.size):=aa (by simp;omega);have hne1:¬ (b11+2=w.heap.size+1):=by omega
     clear rf h3 k1 k2
     go_wp2_with fail
     gi_wp2_with (gi_at_builtin;(refine rD _ rfl (.tmp 55) (.tmp 59) 54 rfl (b11+1) 75 i0 _ 2 16 Tryz.underlying54 cM bX bP bY rfl (by decide) _ l.length _ rfl cL.o ⟨V3.heap.size,0,none⟩ 1 1 [.int .i64 nb,.int .i64 pv] rfl rfl bA.o (by simp[Value.oneCell']) jT.o dD.o fH.o ?_;intro v4 w4 nd fh _;obtain⟨av4,cv4,rfl⟩:=nd.slice;have wC:=im cL.o fh oP.o (by decide);have UZ:=im cL.o fh ld.o.ebox (by decide);have c4:=ab wC 0;have f4:=aE wC 0;have c5:=ab UZ 0;have f5:=aE UZ 0;simp at c4 c5))
     have Ae:=fh.size;simp only[World.size_alloc]at Ae;have Q5:∀ k,k<V3.heap.size->(∀ g,(Value.slice av2 l.length cv2).ownBlock=some g->k≠g)->w4.heap[k]?=V3.heap[k]?:=fun k h1 h2=>(fh.block k (by simp;omega) (fun e=>h2 k e.symm rfl)).trans (Below.heap_alloc V3 _ k h1)
     have uI:∀ (k:Nat) (o:Obj),V3.heap[k]?=some o->o.isCells=false->((w4.setCell ⟨b11+2,0,none⟩ (.slice av4 (l.length+1) cv4)).setCell ⟨w.heap.size+1,0,none⟩ (.int .i64 nb)).heap[k]?=some o:=fun k o ho hc=>by
      have n1:k≠w.heap.size+1:=fun e=>by subst e;rw[ld.o.ebox]at ho;cases ho;cases hc
      have n2:k≠b11+2:=fun e=>by subst e;rw[oP.o]at ho;cases ho;cases hc
      rw[Below.heap_setCell _ _ _ _ n1,Below.heap_setCell _ _ _ _ n2];exact nM cL.o fh ho hc
     have Vo:∀ (k:Nat) (c:Array Value) (ty:TypeId) (fz:Nat × Nat),V3.heap[k]?=some (.cells c ty fz)->75≠ty->k≠w.heap.size+1->k≠b11+2->((w4.setCell ⟨b11+2,0,none⟩ (.slice av4 (l.length+1) cv4)).setCell ⟨w.heap.size+1,0,none⟩ (.int .i64 nb)).heap[k]?=some (.cells c ty fz):=fun k c ty fz h1 h2 h3 h4=>by
      rw[Below.heap_setCell _ _ _ _ h3,Below.heap_setCell _ _ _ _ h4];exact im cL.o fh h1 h2
     have yP:=af Es.o fG.o;have hy3:=af Es.o wW.o;refine⟨⟨by simp;have:=Es.o.size;omega,fun k hk=>?_,fun k o _ ho hc=>uI k o (af Es.o ho) hc⟩,rfl,?_⟩
     ·rcases hk with hk|rfl|rfl
      ·have h1:=w1.heap[k];have h2:V2.heap[k]?=some w1.heap[k]:=(da.o.fin k hk.1 hk.2).trans (by rw[Array.getElem?_eq_getElem hk.2]);rw[h2,Below.heap_setCell _ _ _ _ (by dsimp only;omega),Below.heap_setCell _ _ _ _ (by dsimp only;omega)];exact ur cL.o fh (af Es.o h2) (by omega)
      ·rw[fG.o];exact Vo _ _ _ _ yP (by decide) (by omega) (by omega)
      ·rw[wW.o];exact Vo _ _ _ _ hy3 (by decide) (by omega) (by omega)
     ·rw[hH.o,Kt.o];refine⟨((dB ld.o.old (by omega) cL.o fh).setCell (by dsimp only;omega) _).setCell (by dsimp only;omega) _,fun k h1 h2=>?_,?_,?_,?_,⟨_,aK (aF wC _ _) (by omega) _ _,?_⟩,ld.o.marks.keep uI⟩
      ·have h3:V3.heap[k]?=some w1.heap[k]:=(ld.o.fin k h1 h2).trans (by rw[Array.getElem?_eq_getElem h2]);rw[Array.getElem?_eq_getElem h2,Below.heap_setCell _ _ _ _ (by dsimp only;omega),Below.heap_setCell _ _ _ _ (by dsimp only;omega)];exact ur cL.o fh h3 (by omega)
      ·exact Vo _ _ _ _ ld.o.far (by decide) (by omega) (by omega)
      ·exact Vo _ _ _ _ ld.o.fbox (by decide) (by omega) (by omega)
      ·exact aF (aK UZ (by omega) _ _) _ _
      ·have e1:(l++[(⟨nb,pv⟩:Lk)]).length=l.length+1:=by simp
       have e2:cF (l++[(⟨nb,pv⟩:Lk)])=cF l++[Value.int .i64 nb,Value.int .i64 pv]:=by rw[jB];rfl
       rw[e1,e2];have o5:=nd.put (nd.ne wC (by decide)) 0 (Value.slice av4 (l.length+1) cv4);exact o5.put (o5.ne (aK UZ (by omega) 0 (Value.slice av4 (l.length+1) cv4)) (by decide)) _ _
    ·have zY:=aa (fi.o BO);have hdne:((farL s f).getD nb 0 == (d:Int))=false:=beq_eq_false_iff_ne.2 BO;generalize (farL s f).getD nb 0=dn at tn hdne;have yn:∀ z:ExtW V2,z.val.cell? ⟨w1.heap.size,nb,none⟩=_:=fun z=>z.cell tn
     have yc:∀ z:ExtW V2,z.val.cell? ⟨w1.heap.size,cur,none⟩=_:=fun z=>z.cell tc
     clear BO tn tc tf te
     gi_wp2
     refine qO (fun ⟨_,_,h⟩=>h) (by kernel_rfl) (by kernel_rfl) (by kernel_rfl) ?_
     repeat (go_big_quiet_step (fail))
     refine wpQuiet_nil ?_;rintro _ ⟨xq,rfl⟩;have rf:=xq.ext;generalize xq.val=V3 at rf ⊢;clear yf ye yn yc hdne
     gi_wp2
     exact⟨Bod.of_below (fun k hk=>by rcases hk with hk|rfl|rfl<;>omega) rf,⟨C7.o cur l Ds W1.heap.size (by omega) (fun E hE=>by have:=mq E hE;omega) _ _ (Chg.of_below rf) da.o,af rf fG.o,af rf wW.o⟩,zY.o⟩
end Go.Proofs.YtmeaoneaephjeaaGreatDoor
