/-
  A part of the proof: lemmas and contracts that the parts behind it use. Each one's conditions are its own premises.
-/
import Derived.Test.YtmeaoneaephjeaaGreatDoorL9
set_option maxRecDepth 100000
set_option maxHeartbeats 8000000
set_option linter.unusedVariables false
set_option linter.unusedSimpArgs false
namespace Go.Proofs.YtmeaoneaephjeaaGreatDoor
open Go.RowKit Go Go.Shelf
attribute [local go_sem] Oper.semAt_some
theorem Te{q:Nat->Bool} {n k:Nat} (hk:k<n) (h:q k=true) (h0:∀ j,j<k->q j=false):∃ t,(List.range n).filter q=k :: t:=by
 obtain⟨d,rfl⟩:∃ d,n=(k+1)+d:=⟨n - (k+1),by omega⟩;have h1:(List.range k).filter q=[]:=List.filter_eq_nil_iff.2 (fun j hj=>by simp[h0 j (List.mem_range.1 hj)]);rw[List.range_add,List.filter_append,List.range_succ,List.filter_append,h1];simp[h]
theorem WZ{s:Sys} (hn:nS s<=5) {e f:Nat} (h:byB s e f=true):∃ t,kL (byM s e f:Nat) 5=byP s e f :: t:=by
 obtain⟨h1,h2,h3⟩:=AQ h;unfold byP at h1 h2 h3 ⊢;rcases bE (nS s) (fun p=>linkB s p e f) with ⟨e1,_⟩|⟨k,hk,e1,h4,h5⟩
 ·omega
 ·rw[e1];obtain⟨t,ht⟩:=Te (q:=hasB ((byM s e f:Nat):Int)) (n:=5) (k:=k) (by omega) (by unfold byM;rw[jz,decide_eq_true hk,h4];rfl) (fun j hj=>by unfold byM;rw[jz,h5 j hj,Bool.and_false]);unfold kL;rw[ht];exact⟨t.map _,rfl⟩
def XK(v:Value):Nat:=match v with|.slice _ n _=>n|_=>0
theorem NO(s:Sys) (hs:SysOk s) (hE:eS s<=256) (vc vs vt ve:Value) (e f:Nat) (he:e<eS s) (hf:f<eS s) (hD:0<=(farL s f).getD e 0) (w:World) (cH:IsSys w s vc vs vt ve) :
  Calls Tryz.prog 93 #[.agg (bL s.prob vc vs s.n vt ve),.int .i64 e,.int .i64 f] w fun r w'=>∃ u,r=.returned (.tuple #[u,.bool true])/\(bh w' u (⟨e,-1⟩ :: gu s e f)/\∀ g,u.ownBlock=some g->w.heap.size<=g)/\Below w.heap.size w w':=by
 have HS:=aa cH;obtain⟨⟨pc,cc,rfl⟩,⟨ps,cs,rfl⟩,⟨pt,ct,rfl⟩,⟨pe,ce,rfl⟩⟩:=bB cH;clear cH;have rL:=aa (fun W (hb:Below w.heap.size w W)=>Td s hs hE f hf _ _ _ _ W (HS.o.up hb));have dD:=aa (fun a b (ha:a<eS s) (gp:b<eS s) W (hb:Below w.heap.size w W)=>LZ s hs a b ha gp _ _ _ _ W (HS.o.up hb));have HZ:am (∀ a b,byM s a b=0↔byB s a b=false):=aa fun a b=>kF _ _
 have gK:=hs.n.2.1
 have AC:am (∀ a b,byM s a b<32):=aa fun a b=>by
  have h1:=gd (fun p=>linkB s p a b) (nS s);have h4:(2:Nat) ^ nS s<=2 ^ 5:=Nat.pow_le_pow_right (by omega) gK;unfold byM;omega
 have HHD:am (∀ a b,byB s a b=true->∃ t,kL (byM s a b:Nat) 5=byP s a b :: t):=aa fun a b h=>WZ gK h
 have rI:=aa hf;have HEE:=aa he;obtain⟨i0,cM,bX,bP,bY⟩:=info_parts Tryz.infoLink;have bO:=aa (And.intro cM (And.intro bX (And.intro bP bY)));obtain⟨n0,kX⟩:∃ n0:Nat,(farL s f).getD e 0=n0:=⟨((farL s f).getD e 0).toNat,by omega⟩;obtain⟨full,iL⟩:∃ full,(⟨e,-1⟩ :: gu s e f:List Lk)=full:=⟨_,rfl⟩
 have zZ:am (full.length<=257/\∀ y∈full,bN y.x/\bN y.p):=aa (by
  have h1:=(tZ (s:=s) hf n0 e he kX).2.2;have h2:=v8 (s:=s) hf e he;rw[<-iL];unfold gu;rw[kX,Int.toNat_natCast];refine⟨by simp only[List.length_cons,h1];omega,fun y hy=>?_⟩;rcases List.mem_cons.1 hy with rfl|hy
  ·exact⟨⟨by dsimp only;omega,by dsimp only;omega⟩,⟨by dsimp only;omega,by dsimp only;omega⟩⟩
  ·exact Fz gK (by omega) _ _ _ y hy)
 have EO:am ([(⟨e,-1⟩:Lk)]++iv s (farL s f) n0 e=full):=aa (by rw[<-iL];unfold gu;rw[kX,Int.toNat_natCast];rfl);have G9:=aa kX;rw[iL];have pB:s.ex.length=eS s:=rfl;obtain⟨m,hm⟩:∃ m,eS s=m:=⟨_,rfl⟩;have HM:=aa hm;rw[pB]at rL dD ⊢;rw[hm]at rL dD he hE hf ⊢;clear iL hD cM bX bP bY pB hm
 go_enter Tryz.func93,Tryz.ntmps93
 go_wp2_with fail
 refine aN (fun W=>Below w.heap.size w W/\∃ c,W.heap[w.heap.size]?=some (.cells c 35)/\c=bL s.prob (.slice pc s.prob.t.cases.length cc) (.slice ps s.prob.a.states.length cs) s.n (.slice pt s.tab.length ct) (.slice pe m ce)) ⟨by go_grown,_,aq _ _,rfl⟩ (fun W0 aZ=>?_);obtain⟨aI,_,hA,rfl⟩:=aZ;refine(rL.o W0 aI).mono ?_;rintro r w1 ⟨g,rfl,ph,hg,aJ⟩;have bK:=aa (ae aI aJ);have db:=aa (af aJ hA);have rQ:=aa ph;have te:=ab ph e;rw[eR _ _ (by rw[nr,HM.o];exact he),kX]at te;have Rm:decide ((n0:Int)<0)=false:=decide_eq_false (by omega);clear aI hA ph aJ rL kX
 go_wp2_with fail
 clear te;refine bu (fun W=>Below w1.heap.size w1 W/\aH W w1.heap.size 75 2 (.slice (some ⟨w1.heap.size,0,none⟩) 1 1) 1 (cF [⟨e,-1⟩])) ⟨by go_grown,⟨rfl,.inr ⟨w1.heap.size,1,_,(0,0),rfl,Nat.le_refl _,aq _ _,fun i _ h=>by have:=h.2;simp at this,Nat.le_refl _,by unfold maxLen;omega,rfl,rfl⟩⟩⟩ (fun W1 cD=>?_);have fx:=aa cD;clear cD
 go_loopw [1,9] (fun c o wr=>∃ (cur d:Nat) (l:List Lk),c=.int .i64 cur/\cur<m/\(farL s f).getD cur 0=d/\l++iv s (farL s f) d cur=full/\Below w1.heap.size w1 wr/\aH wr w1.heap.size 75 2 o l.length (cF l)) (fun _ o _=>300 - XK o)
 ·exact⟨e,n0,[⟨e,-1⟩],rfl,he,G9.o,EO.o,fx.o.1,fx.o.2⟩
 ·
  clear fx G9 EO;obtain⟨cur,d,l,rfl,rA,MB,hfu,az,aS⟩:=hrel;obtain⟨al,cl2,rfl⟩:=aS.slice;have bG:=aa aS;have aP:=aa az;have uX:=aa hfu;have tc:=ab (af az rQ.o) cur;rw[eR _ _ (by rw[nr,HM.o];exact rA),MB]at tc;have Cf:=aa MB;clear aS hfu MB;by_cases hd:0<d
  ·obtain⟨d',rfl⟩:∃ d',d=d'+1:=⟨d - 1,by omega⟩;have Rq:decide ((0:Int)<((d'+1:Nat):Int))=true:=decide_eq_true (by omega);have hdd':decide (0<d'+1)=true:=decide_eq_true hd;obtain⟨x1,x2,x3,x4⟩:=xr (s:=s) rI.o (e:=cur) (d:=d') (by rw[HM.o];exact rA) (by rw[Cf.o];rfl);obtain⟨T,hT⟩:∃ T,gE s (farL s f) d' cur=T:=⟨_,rfl⟩;rw[hT]at x1 x2 x3 x4;have HT:=aa hT;have gN:=aa x3;have fG:=aa x2
   have HMIN:am (∀ k,k<T->(decide ((farL s f).getD k 0=d')&&byB s cur k)=false):=aa (by
    intro k hk;rcases bE (eS s) (fun g=>decide ((farL s f).getD g 0=d')&&byB s cur g) with ⟨e1,_⟩|⟨k',_,e1,_,h5⟩
    ·rw[x4]at e1;omega
    ·rw[x4]at e1
     exact h5 k (by omega))
   rw[HM.o]at x1
   have jc:IntKind.i64.wrap (((d'+1:Nat):Int) - 1)=(d':Int):=by
    have h1:=v8 (s:=s) rI.o cur (by rw[HM.o];exact rA);rw[Cf.o,HM.o]at h1;rw[IntWalk.i64_in _ (by omega)];omega
   obtain⟨dn,BO⟩:∃ dn:Int,((d'+1:Nat):Int)=dn:=⟨_,rfl⟩;rw[BO]at tc Rq jc;have HDN:=aa BO;have TC:=aa tc;clear hT x2 x3 x4 hd hdd' BO;obtain⟨w4,kq⟩:∃ x,x=wr:=⟨_,rfl⟩;subst kq
   go_wp2_with fail
   clear tc
   go_loopw [10] (fun k wr=>∃ k':Nat,k'<=T/\k=.int .i64 k'/\Below w4.heap.size w4 wr) (fun k _=>T - (intOf k).toNat)
   ·exact⟨0,by omega,rfl,Below.refl _ _⟩
   ·
    obtain⟨k,hk,rfl,jn⟩:=hrel;have eo:=aa jn;have bT:=aa (ae aP.o jn);have tk:=ab (af bT.o rQ.o) k;rw[eR _ _ (by rw[nr,HM.o];omega)]at tk;have tcc:=ak jn TC.o;have yk:∀ z:ExtW wr,z.val.cell? ⟨g,k,none⟩=_:=fun z=>ak z.ext tk
    have yc:∀ z:ExtW wr,z.val.cell? ⟨g,cur,none⟩=_:=fun z=>ak z.ext tcc
    have yS:∀ z:ExtW wr,∀ j,z.val.cell? ⟨w.heap.size,j,none⟩=_:=fun z=>ab (af z.ext (af bT.o db.o))
    have We:k<m:=by omega
    have vf:am (∀ y:ExtW wr,Calls Tryz.prog 142 #[.agg #[.int .i64 s.prob.t.n,.int .i64 s.prob.t.ins,.int .i64 s.prob.t.outs,.slice pc s.prob.t.cases.length cc,.int .i64 s.prob.a.n,.slice ps s.prob.a.states.length cs,.int .i64 s.prob.rounds,.int .i64 s.n,.slice pt s.tab.length ct,.slice pe m ce],.int .i64 (cur:Int),.int .i64 (k:Int)] y.val fun r w''=>r=.returned (.int .i64 (byM s cur k:Nat))/\∃ z:ExtW wr,w''=z.val):=aa (fun y=>Calls.ext_of (dD.o cur k rA We y.val (ae bK.o (ae bT.o y.ext))));have mM:=aa (fun h=>HMIN.o k h);have HZK:=aa (HZ.o cur k);have HTX:am (k=T->(farL s f).getD k 0=d'/\byB s cur k=true):=aa (fun h=>by subst h;exact⟨fG.o,gN.o⟩);clear tk tcc jn;by_cases h1:(farL s f).getD k 0=d'
    ·have bM:((farL s f).getD k 0 != (d':Int))=false:=by rw[h1];simp
     rw[h1]at yk;have TX:((d':Int) != (d':Int))=false:=by simp
     cases hb:byB s cur k with
     | true=>
      have YY:¬ k<T:=fun h=>by have:=mM.o h;rw[h1,hb]at this;simp at this
      obtain rfl:k=T:=by omega
      have Vu:¬ byM s cur k=0:=fun h=>by have:=HZK.o.1 h;rw[hb]at this;cases this
      have YE:(((byM s cur k:Nat):Int) == 0)=false:=beq_eq_false_iff_ne.2 (by omega);have YD:=aa (fun W (hb:Below w.heap.size w W)=>dD.o cur k rA We W hb);have lS:=AC.o cur k;obtain⟨tl,Eh⟩:=HHD.o cur k hb;have Er:=aa (fun W=>QE ((byM s cur k:Nat):Int) (by omega) (by omega) W);rw[Eh]at Er;obtain⟨bp,Y6⟩:∃ bp,byP s cur k=bp:=⟨_,rfl⟩;rw[Y6]at Er;have Aw:=aa Y6;clear hb h1 bM YY Vu Eh Y6;generalize byM s cur k=bm at *
      go_wp2_with fail
      refine aD (by kernel_rfl) (by kernel_rfl) ?_
      repeat (go_big_quiet_step ((go_at_call 142;with_reducible exact vf.o _)))
      refine wpQuiet_nil ?_;rintro _ ⟨xq,rfl⟩;have OE:=aa (ae bT.o xq.ext);have YS:=aa (bG.o.up (ae eo.o xq.ext));clear yk yc yS;generalize xq.val=W5 at OE YS ⊢;have tS:=ab (af OE.o db.o)
      go_wp2_with fail
      clear tS;refine(YD.o W5 (ae bK.o OE.o)).mono ?_;rintro r w6 ⟨rfl,gi⟩;have lu:=aa gi;clear gi
      go_wp2_with fail
      refine(Er.o w6).mono ?_;rintro r w7 ⟨u,rfl,hu,lA⟩;obtain⟨au,cu,rfl,eu⟩:=df hu;obtain⟨b8,o8,rfl,c8⟩:=eu 0 (by simp);have t8:w7.cell? ⟨b8,o8,none⟩=some (.int .i64 bp):=c8.trans (by simp);have MC:=aa (ae OE.o (ae lu.o lA));have HO7:=aa (YS.o.up (ae lu.o lA));clear hu lA eu c8;have iw:am (l.length+1<=300):=aa (by have h5:=congrArg List.length uX.o;have:=zZ.o.1;simp only[List.length_append]at h5;omega);have cL:=aa (HO7.o.up ((Below.refl _ w7).alloc (Nat.le_refl _) (.cells #[.int .i64 k,.int .i64 bp] 75)));have bA:=aa (dx w7 [.int .i64 (k:Int),.int .i64 bp] 75);have io:am (l.length+1<=maxLen):=aa (by have:=iw.o;unfold maxLen;omega);have lV:am ((l.length+1) * 16<=140737488355328):=aa (by have:=iw.o;omega);have fH:am (w1.heap.size<=(w7.alloc (.cells #[.int .i64 k,.int .i64 bp] 75)).heap.size):=aa (by have:=MC.o.size;simp;omega);have hlt0:0<tl.length+1:=by omega
      go_wp2_with (at_builtin;(refine aX _ rfl (.tmp 46) (.tmp 56) 54 rfl w1.heap.size 75 i0 _ 2 16 Tryz.underlying54 bO.o.1 bO.o.2.1 bO.o.2.2.1 bO.o.2.2.2 rfl (by decide) _ l.length _ rfl cL.o ⟨w7.heap.size,0,none⟩ 1 1 [.int .i64 (k:Int),.int .i64 bp] rfl rfl bA.o (by simp[Value.oneCell']) io.o lV.o fH.o ?_;intro v9 w9 eV du _;obtain⟨av9,cv9,rfl⟩:=eV.slice))
      go_roundw
      ·
       refine⟨k,d',l++[⟨k,bp⟩],rfl,by omega,fG.o,?_,dB MC.o (Nat.le_refl _) cL.o du,?_⟩
       ·rw[<-uX.o,List.append_assoc,iv,HT.o,Aw.o];rfl
       ·rw[show (l++[(⟨k,bp⟩:Lk)]).length=l.length+1 by simp,jB];exact eV
      ·have:=iw.o;simp[XK];omega
     | false=>
      have YY:k<T:=by
       have:¬ k=T:=fun h=>by have:=(HTX.o h).2;rw[hb]at this;cases this
       omega
      have hz:byM s cur k=0:=HZK.o.2 hb;rw[hz]at vf;clear hb h1 bM hz
      go_wp2_with fail
      refine aD (by kernel_rfl) (by kernel_rfl) ?_
      repeat (go_big_quiet_step ((go_at_call 142;with_reducible exact vf.o _)))
      refine wpQuiet_nil ?_;rintro _ ⟨xq,rfl⟩;clear yk yc yS
      go_wp2_with fail
      go_roundw
      ·exact⟨k+1,by omega,by go_num,ae eo.o xq.ext⟩
      ·simp[intOf];omega
    ·have bM:((farL s f).getD k 0 != (d':Int))=true:=by simpa using h1
     have YY:k<T:=by
      have:¬ k=T:=fun h=>h1 (HTX.o h).1
      omega
     generalize (farL s f).getD k 0=xk at yk bM;clear h1
     go_wp2_with fail
     refine aD (by kernel_rfl) (by kernel_rfl) ?_
     repeat (go_big_quiet_step ((go_at_call 142;with_reducible exact vf.o _)))
     refine wpQuiet_nil ?_;rintro _ ⟨xq,rfl⟩;clear yk yc yS
     go_wp2_with fail
     go_roundw
     ·exact⟨k+1,by omega,by go_num,ae eo.o xq.ext⟩
     ·simp[intOf];omega
  ·obtain rfl:d=0:=by omega
   have HL:am (l=full):=aa (by have h3:=uX.o;simpa[iv] using h3);clear hd
   go_wp2_with fail
   go_ret2
   refine⟨_,rfl,?_,ae bK.o aP.o⟩;rw[HL.o]at bG ⊢;exact⟨kn bG.o zZ.o.2 (by have:=zZ.o.1;omega),fun g hg=>Nat.le_trans bK.o.size (bG.o.lt g hg).1⟩
theorem Xa(d:Nat) (a b:Lk) (w:World):(Op.equalIn (d+2) 75 a.v b.v).run Tryz.prog w=.ok (decide (a=b)) w:=by
 have hS:Tryz.prog.underlying 75=some (.struct (Tryz.prog.fieldsOf 75)):=by kernel_rfl
 have hp:Tryz.prog.stoodInHeld 75=false:=by kernel_rfl
 rw[run_equalIn_struct w (d+1) 75 _ _ hS hp];have ag:=Tryz.isAgg3;have u3:=Tryz.underlying3;simp only[Program.fieldsOf,Tryz.underlying75];simp[Op.eqFields,part,ag,run_equalIn_int w d 3 _ .i64 _ _ u3];obtain⟨n,k⟩:=a;obtain⟨m,l⟩:=b;by_cases hn:n=m
 case neg=>simp[hn]
 by_cases hk:k=l<;>simp[hn,hk]
theorem XL(a b:Lk) (w:World):(binOp .neq 75 a.v b.v).run Tryz.prog w=.ok (.bool (!decide (a=b))) w:=by
 rw[run_neq_struct,Xa 9998];rfl
theorem NP(va vb:Value) (a b:List Lk) (w:World) (ha:bh w va a) (hb:bh w vb b) :
  Calls Tryz.prog 53 #[va,vb] w fun e w'=>e=.returned (.bool (decide (a=b)))/\Below w.heap.size w w':=by
 obtain⟨pa,ca,rfl,la1,la2,ea⟩:=ha.at;obtain⟨pb,cb,rfl,lb1,lb2,eb⟩:=hb.at;have EA:=aa ea;have EB:=aa eb;have ik:am (a.length=b.length->(∀ j,j<a.length->a.getD j default=b.getD j default)->decide (a=b)=true):=aa fun h1 h2=>decide_eq_true (fq default h1 h2)
 have hH:am (a.length≠b.length->decide (a=b)=false):=aa fun h=>decide_eq_false fun e=>h (by rw[e])
 have pX:am (∀ j,j<a.length->a.getD j default≠b.getD j default->decide (a=b)=false):=aa fun j _ h=>decide_eq_false fun e=>h (by rw[e])
 generalize decide (a=b)=r at ik hH pX ⊢;clear ha hb ea eb
 go_enter Tryz.func53,Tryz.ntmps53
 by_cases hl:a.length=b.length
 case neg=>
  have hd:(((a.length:Nat):Int) != ((b.length:Nat):Int))=true:=by simp;omega
  have HR:=aa (hH.o hl);clear hl
  go_wp2_with fail
  go_ret
  exact⟨aR (by rw[HR.o]),Below.refl _ _⟩
 have HL:=aa hl;obtain⟨n,hn⟩:∃ n,a.length=n:=⟨_,rfl⟩;have iz:b.length=n:=by omega
 have HN:=aa hn;have BQ:=aa iz;rw[hn]at la1 la2 ⊢;rw[iz]at lb1 lb2 ⊢;clear hl hn iz;have hd:((n:Int) != (n:Int))=false:=by simp
 go_wp2_with fail
 go_loopw [5] (fun i wr=>∃ k:Nat,k<=n/\i=.int .i64 k/\Below w.heap.size w wr/\∀ j,j<k->a.getD j default=b.getD j default) (fun i _=>n - (intOf i).toNat)
 ·exact⟨0,by omega,rfl,Below.refl _ _,fun j hj=>by omega⟩
 ·
  obtain⟨k,hk,rfl,az,aW⟩:=hrel;have H:=aa aW;have aP:=aa az;clear aW;by_cases aB:k<n
  ·obtain⟨b1,o1,rfl,h1⟩:=EA.o k (by rw[HN.o];exact aB);obtain⟨b2,o2,rfl,h2⟩:=EB.o k (by rw[BQ.o];exact aB);have rh:=aa (aA (default:Lk) (show k<a.length by rw[HN.o];exact aB));have sR:=aa (aA (default:Lk) (show k<b.length by rw[BQ.o];exact aB));generalize a[k]'(by rw[HN.o];exact aB)=x at h1 rh;generalize b[k]'(by rw[BQ.o];exact aB)=y at h2 sR;have c0:∀ z:ExtW wr,z.val.cell? ⟨b1,o1+k * 2,none⟩=_:=fun z=>z.cell (ak az h1.1.1)
   have c1:∀ z:ExtW wr,z.val.cell? ⟨b1,o1+k * 2+1,none⟩=_:=fun z=>z.cell (ak az h1.2.1)
   have d0:∀ z:ExtW wr,z.val.cell? ⟨b2,o2+k * 2,none⟩=_:=fun z=>z.cell (ak az h2.1.1)
   have d1:∀ z:ExtW wr,z.val.cell? ⟨b2,o2+k * 2+1,none⟩=_:=fun z=>z.cell (ak az h2.2.1)
   have kh:=fun w=>XL x y w
   clear h1 h2 az;cases cG:decide (x=y) with
   | true=>
    have oU:=aa (of_decide_eq_true cG);rw[cG]at kh;clear cG
    go_wp2_with fail
    refine aD (by kernel_rfl) (by kernel_rfl) ?_
    repeat (go_big_quiet_step (fail))
    refine wpQuiet_nil ?_;rintro _ ⟨xq,rfl⟩;clear c0 c1 d0 d1 kh
    go_wp2_with fail
    go_roundw
    ·exact⟨k+1,by omega,by go_num,ae aP.o xq.ext,aV (p:=fun j=>a.getD j default=b.getD j default) H.o (by rw[rh.o,sR.o];exact oU.o)⟩
    ·simp[intOf];omega
   | false=>
    have HR:=aa (pX.o k (by rw[HN.o];exact aB) (by rw[rh.o,sR.o];exact of_decide_eq_false cG));rw[cG]at kh;clear cG
    go_wp2_with fail
    refine aD (by kernel_rfl) (by kernel_rfl) ?_
    repeat (go_big_quiet_step (fail))
    refine wpQuiet_nil ?_;rintro _ ⟨xq,rfl⟩;clear c0 c1 d0 d1 kh
    go_wp2_with fail
    go_ret
    exact⟨aR (by rw[HR.o]),ae aP.o xq.ext⟩
  ·obtain rfl:k=n:=by omega
   have HR:=aa (ik.o HL.o fun j hj=>H.o j (by have:=HN.o;omega))
   go_wp2_with fail
   go_ret
   exact⟨aR (by rw[HR.o]),aP.o⟩
theorem NQ(v:Value) (l:List Int) (w:World) (hv:aT w v l) :
  Calls Tryz.prog 131 #[v] w fun e w'=>e=.returned (.bool (constB l))/\Below w.heap.size w w':=by
 obtain⟨pl,cl,rfl,el⟩:=df hv;obtain⟨_,_,_,_,cC,_⟩:=hv.at;have EL:=aa el;have Ea:am (constB l=!(anyLt l.length fun i=>decide (l.getD i 0≠l.getD 0 0))):=aa rfl;have fi:am (∀ k,k<l.length->l.getD k 0≠l.getD 0 0->constB l=false):=aa fun k hk h=>by rw[Ea.o,SC hk (decide_eq_true h)];rfl
 have jN:am ((∀ k,k<l.length->l.getD k 0=l.getD 0 0)->constB l=true):=aa fun h=>by rw[Ea.o,eW _ _ fun k hk=>decide_eq_false (fun h'=>h' (h k hk))];rfl
 generalize constB l=r at fi jN ⊢;obtain⟨x0,dj⟩:∃ x0,l.getD 0 0=x0:=⟨_,rfl⟩;have Az:=aa dj;rw[dj]at fi jN;clear dj;obtain⟨n,hn⟩:∃ n,l.length=n:=⟨_,rfl⟩;rw[hn]at EL fi jN cC ⊢;clear hv el Ea hn
 go_enter Tryz.func131,Tryz.ntmps131
 go_wp2_with fail
 go_loopw [3] (fun i wr=>∃ k:Nat,k<=n/\i=.int .i64 k/\Below w.heap.size w wr/\∀ j,j<k->l.getD j 0=x0) (fun i _=>n - (intOf i).toNat)
 ·exact⟨0,by omega,rfl,Below.refl _ _,fun j hj=>by omega⟩
 ·
  obtain⟨k,hk,rfl,az,aW⟩:=hrel;have H:=aa aW;have aP:=aa az;clear aW;by_cases aB:k<n
  ·obtain⟨b1,o1,rfl,c1⟩:=EL.o k aB;obtain⟨b2,o2,e2,c2⟩:=EL.o 0 (by omega);injection e2 with e2
   injection e2 with e2 e3
   subst e2 e3;rw[Az.o]at c2;have q6:=aa (fi.o k aB);have HB:=aa (fun h:l.getD k 0=x0=>aV (p:=fun j=>l.getD j 0=x0) H.o h);have y1:∀ z:ExtW wr,z.val.cell? ⟨b1,o1+k,none⟩=_:=fun z=>z.cell (ak az c1)
   have y2:∀ z:ExtW wr,z.val.cell? ⟨b1,o1,none⟩=_:=fun z=>z.cell (ak az c2)
   by_cases cG:l.getD k 0=x0
   ·have vf:=aa (HB.o cG);have hd:(l.getD k 0 != x0)=false:=by rw[cG];simp
    clear HB q6 cG az c1 c2;generalize l.getD k 0=xk at y1 hd
    go_wp2_with fail
    refine aD (by kernel_rfl) (by kernel_rfl) ?_
    repeat (go_big_quiet_step (fail))
    refine wpQuiet_nil ?_;rintro _ ⟨xq,rfl⟩;clear y1 y2
    go_wp2_with fail
    go_roundw
    ·exact⟨k+1,by omega,by go_num,ae aP.o xq.ext,vf.o⟩
    ·simp[intOf];omega
   ·have HR:=aa (q6.o cG);have hd:(l.getD k 0 != x0)=true:=by simpa using cG
    clear HB q6 cG az c1 c2;generalize l.getD k 0=xk at y1 hd
    go_wp2_with fail
    refine aD (by kernel_rfl) (by kernel_rfl) ?_
    repeat (go_big_quiet_step (fail))
    refine wpQuiet_nil ?_;rintro _ ⟨xq,rfl⟩;clear y1 y2
    go_wp2_with fail
    go_ret
    exact⟨aR (by rw[HR.o]),ae aP.o xq.ext⟩
  ·obtain rfl:k=n:=by omega
   have HR:=aa (jN.o fun j hj=>H.o j hj)
   go_wp2_with fail
   go_ret
   exact⟨aR (by rw[HR.o]),aP.o⟩
theorem NR(na nb:Int) (va vb:Value) (a b:List Vw) (w:World) (ha:nN w va a) (hb:nN w vb b) :
  Calls Tryz.prog 149 #[.agg #[.int .i64 na,va],.agg #[.int .i64 nb,vb]] w fun e w'=>e=.returned (.bool (decide (na=nb/\a=b)))/\Below w.heap.size w w':=by
 obtain⟨pa,ca,rfl,la1,la2,ea⟩:=ha.at;obtain⟨pb,cb,rfl,lb1,lb2,eb⟩:=hb.at;have EA:=aa ea;have EB:=aa eb;have ou:am (na≠nb->decide (na=nb/\a=b)=false):=aa fun h=>decide_eq_false fun e=>h e.1
 have ik:am (na=nb->a.length=b.length->(∀ j,j<a.length->a.getD j default=b.getD j default)->decide (na=nb/\a=b)=true):=aa fun h0 h1 h2=>decide_eq_true ⟨h0,fq default h1 h2⟩
 have hH:am (a.length≠b.length->decide (na=nb/\a=b)=false):=aa fun h=>decide_eq_false fun e=>h (by rw[e.2])
 have pX:am (∀ j,j<a.length->a.getD j default≠b.getD j default->decide (na=nb/\a=b)=false):=aa fun j _ h=>decide_eq_false fun e=>h (by rw[e.2])
 generalize decide (na=nb/\a=b)=r at ou ik hH pX ⊢;clear ha hb ea eb
 go_enter Tryz.func149,Tryz.ntmps149
 by_cases fj:na=nb
 case neg=>
  have hd:(na != nb)=true:=by simpa using fj
  have HR:=aa (ou.o fj);clear fj
  go_wp2_with fail
  go_ret
  exact⟨aR (by rw[HR.o]),by go_grown⟩
 have ik:=aa (ik.o fj);subst fj;by_cases hl:a.length=b.length
 case neg=>
  have hd:(((a.length:Nat):Int) != ((b.length:Nat):Int))=true:=by simp;omega
  have HR:=aa (hH.o hl);clear hl
  go_wp2_with fail
  go_ret
  exact⟨aR (by rw[HR.o]),by go_grown⟩
 have HL:=aa hl;obtain⟨n,hn⟩:∃ n,a.length=n:=⟨_,rfl⟩;have iz:b.length=n:=by omega
 have HN:=aa hn;have BQ:=aa iz;rw[hn]at la1 la2 ⊢;rw[iz]at lb1 lb2 ⊢;clear hl hn iz;have hd:((n:Int) != (n:Int))=false:=by simp
 go_wp2_with fail
 refine bu (fun W=>Below w.heap.size w W/\W.heap[w.heap.size]?=some (.cells #[.int .i64 na,.slice pa n ca] 32)/\W.heap[w.heap.size+1]?=some (.cells #[.int .i64 na,.slice pb n cb] 32)) ⟨by go_grown,ar _ (aq _ _),by have h:=aq (w.alloc (.cells #[.int .i64 na,.slice pa n ca] 32)) (.cells #[.int .i64 na,.slice pb n cb] 32);simpa using h⟩ (fun W0 aZ=>?_);obtain⟨aI,bI,nR⟩:=aZ;have ed:=aa aI;have jm:=aa bI;have nZ:=aa nR;clear aI bI nR
 go_loopw [5] (fun i wr=>∃ k:Nat,k<=n/\i=.int .i64 k/\Below W0.heap.size W0 wr/\∀ j,j<k->a.getD j default=b.getD j default) (fun i _=>n - (intOf i).toNat)
 ·exact⟨0,by omega,rfl,Below.refl _ _,fun j hj=>by omega⟩
 ·
  obtain⟨k,hk,rfl,az,aW⟩:=hrel;have H:=aa aW;have aP:=aa az;have bT:=aa (ae ed.o az);clear aW az;have tA:=ab (af aP.o jm.o);by_cases aB:k<n
  ·obtain⟨b1,o1,rfl,h1⟩:=EA.o k (by rw[HN.o];exact aB);obtain⟨b2,o2,rfl,h2⟩:=EB.o k (by rw[BQ.o];exact aB);have rh:=aa (aA (default:Vw) (show k<a.length by rw[HN.o];exact aB));have sR:=aa (aA (default:Vw) (show k<b.length by rw[BQ.o];exact aB));generalize a[k]'(by rw[HN.o];exact aB)=x at h1 rh;generalize b[k]'(by rw[BQ.o];exact aB)=y at h2 sR;have c0:∀ z:ExtW wr,z.val.cell? ⟨b1,o1+k * 8,none⟩=_:=fun z=>z.cell (ak bT.o h1.1.1)
   have c1:∀ z:ExtW wr,z.val.cell? ⟨b1,o1+k * 8+1,none⟩=_:=fun z=>z.cell (ak bT.o h1.2.1.1)
   have c2:∀ z:ExtW wr,z.val.cell? ⟨b1,o1+k * 8+2,none⟩=_:=fun z=>z.cell (ak bT.o h1.2.2.1.1)
   have c3:∀ z:ExtW wr,z.val.cell? ⟨b1,o1+k * 8+3,none⟩=_:=fun z=>z.cell (ak bT.o h1.2.2.2.1.1)
   have c4:∀ z:ExtW wr,z.val.cell? ⟨b1,o1+k * 8+4,none⟩=_:=fun z=>z.cell (ak bT.o h1.2.2.2.2.1.1)
   have c5:∀ z:ExtW wr,z.val.cell? ⟨b1,o1+k * 8+5,none⟩=_:=fun z=>z.cell (ak bT.o h1.2.2.2.2.2.1.1)
   have c6:∀ z:ExtW wr,z.val.cell? ⟨b1,o1+k * 8+6,none⟩=_:=fun z=>z.cell (ak bT.o h1.2.2.2.2.2.2.1.1)
   have c7:∀ z:ExtW wr,z.val.cell? ⟨b1,o1+k * 8+7,none⟩=_:=fun z=>z.cell (ak bT.o h1.2.2.2.2.2.2.2.1)
   have d0:∀ z:ExtW wr,z.val.cell? ⟨b2,o2+k * 8,none⟩=_:=fun z=>z.cell (ak bT.o h2.1.1)
   have d1:∀ z:ExtW wr,z.val.cell? ⟨b2,o2+k * 8+1,none⟩=_:=fun z=>z.cell (ak bT.o h2.2.1.1)
   have d2:∀ z:ExtW wr,z.val.cell? ⟨b2,o2+k * 8+2,none⟩=_:=fun z=>z.cell (ak bT.o h2.2.2.1.1)
   have d3:∀ z:ExtW wr,z.val.cell? ⟨b2,o2+k * 8+3,none⟩=_:=fun z=>z.cell (ak bT.o h2.2.2.2.1.1)
   have d4:∀ z:ExtW wr,z.val.cell? ⟨b2,o2+k * 8+4,none⟩=_:=fun z=>z.cell (ak bT.o h2.2.2.2.2.1.1)
   have d5:∀ z:ExtW wr,z.val.cell? ⟨b2,o2+k * 8+5,none⟩=_:=fun z=>z.cell (ak bT.o h2.2.2.2.2.2.1.1)
   have d6:∀ z:ExtW wr,z.val.cell? ⟨b2,o2+k * 8+6,none⟩=_:=fun z=>z.cell (ak bT.o h2.2.2.2.2.2.2.1.1)
   have d7:∀ z:ExtW wr,z.val.cell? ⟨b2,o2+k * 8+7,none⟩=_:=fun z=>z.cell (ak bT.o h2.2.2.2.2.2.2.2.1)
   have tA2:∀ z:ExtW wr,z.val.cell? ⟨w.heap.size,1,none⟩=some (.slice (some ⟨b1,o1,none⟩) n ca):=fun z=>z.cell (by rw[ab (af aP.o jm.o)];rfl)
   have tC2:∀ z:ExtW wr,z.val.cell? ⟨w.heap.size+1,1,none⟩=some (.slice (some ⟨b2,o2,none⟩) n cb):=fun z=>z.cell (by rw[ab (af aP.o nZ.o)];rfl)
   have kh:=fun w=>Qx x y w
   clear h1 h2;cases cG:decide (x=y) with
   | true=>
    have oU:=aa (of_decide_eq_true cG);rw[cG]at kh;clear cG
    go_wp2_with fail
    refine aD (by kernel_rfl) (by kernel_rfl) ?_
    repeat (go_big_quiet_step (fail))
    refine wpQuiet_nil ?_;rintro _ ⟨xq,rfl⟩;clear c0 c1 c2 c3 c4 c5 c6 c7 d0 d1 d2 d3 d4 d5 d6 d7 tA2 tC2 kh tA
    go_wp2_with fail
    go_roundw
    ·exact⟨k+1,by omega,by go_num,ae aP.o xq.ext,aV (p:=fun j=>a.getD j default=b.getD j default) H.o (by rw[rh.o,sR.o];exact oU.o)⟩
    ·simp[intOf];omega
   | false=>
    have HR:=aa (pX.o k (by rw[HN.o];exact aB) (by rw[rh.o,sR.o];exact of_decide_eq_false cG));rw[cG]at kh;clear cG
    go_wp2_with fail
    refine aD (by kernel_rfl) (by kernel_rfl) ?_
    repeat (go_big_quiet_step (fail))
    refine wpQuiet_nil ?_;rintro _ ⟨xq,rfl⟩;clear c0 c1 c2 c3 c4 c5 c6 c7 d0 d1 d2 d3 d4 d5 d6 d7 tA2 tC2 kh tA
    go_wp2_with fail
    go_ret
    exact⟨aR (by rw[HR.o]),ae bT.o xq.ext⟩
  ·obtain rfl:k=n:=by omega
   have HF:∀ j,j<a.length->a.getD j default=b.getD j default:=fun j hj=>H.o j (by have:=HN.o;omega)
   have HR:am (r=true):=aa (by first|exact ik.o HL.o HF|exact ik.o trivial HL.o HF|exact ik.o rfl HL.o HF);clear HF
   go_wp2_with fail
   go_ret
   exact⟨aR (by rw[HR.o]),bT.o⟩
theorem NS(va vb:Value) (a b:List Int) (w:World) (ha:aT w va a) (hb:aT w vb b) :
  Calls Tryz.prog 184 #[va,vb] w fun e w'=>e=.returned (.bool (decide (a=b)))/\Below w.heap.size w w':=by
 obtain⟨pa,ca,rfl,ea⟩:=df ha;obtain⟨pb,cb,rfl,eb⟩:=df hb;obtain⟨_,_,_,_,la2,_⟩:=ha.at;obtain⟨_,_,_,_,lb2,_⟩:=hb.at;have EA:=aa ea;have EB:=aa eb;have ik:am (a.length=b.length->(∀ j,j<a.length->a.getD j 0=b.getD j 0)->decide (a=b)=true):=aa fun h1 h2=>decide_eq_true (fq 0 h1 h2)
 have hH:am (a.length≠b.length->decide (a=b)=false):=aa fun h=>decide_eq_false fun e=>h (by rw[e])
 have pX:am (∀ j,j<a.length->a.getD j 0≠b.getD j 0->decide (a=b)=false):=aa fun j _ h=>decide_eq_false fun e=>h (by rw[e])
 generalize decide (a=b)=r at ik hH pX ⊢;clear ha hb ea eb
 go_enter Tryz.func184,Tryz.ntmps184
 by_cases hl:a.length=b.length
 case neg=>
  have hd:(((a.length:Nat):Int) != ((b.length:Nat):Int))=true:=by simp;omega
  have HR:=aa (hH.o hl);clear hl
  go_wp2_with fail
  go_ret
  exact⟨aR (by rw[HR.o]),Below.refl _ _⟩
 have HL:=aa hl;obtain⟨n,hn⟩:∃ n,a.length=n:=⟨_,rfl⟩;have iz:b.length=n:=by omega
 have HN:=aa hn;have BQ:=aa iz;rw[hn]at la2 EA ⊢;rw[iz]at lb2 EB ⊢;clear hl hn iz;have hd:((n:Int) != (n:Int))=false:=by simp
 go_wp2_with fail
 go_loopw [5] (fun i wr=>∃ k:Nat,k<=n/\i=.int .i64 k/\Below w.heap.size w wr/\∀ j,j<k->a.getD j 0=b.getD j 0) (fun i _=>n - (intOf i).toNat)
 ·exact⟨0,by omega,rfl,Below.refl _ _,fun j hj=>by omega⟩
 ·
  obtain⟨k,hk,rfl,az,aW⟩:=hrel;have H:=aa aW;have aP:=aa az;clear aW;by_cases aB:k<n
  ·obtain⟨b1,o1,rfl,h1⟩:=EA.o k aB;obtain⟨b2,o2,rfl,h2⟩:=EB.o k aB;have rh:am (∀ x,a.getD k 0=x->a.getD k 0=x):=aa fun _ h=>h
   obtain⟨x,hx⟩:∃ x,a.getD k 0=x:=⟨_,rfl⟩;obtain⟨y,hy⟩:∃ y,b.getD k 0=y:=⟨_,rfl⟩;rw[hx]at h1;rw[hy]at h2;have HX:=aa hx;have HY:=aa hy;have c0:∀ z:ExtW wr,z.val.cell? ⟨b1,o1+k,none⟩=_:=fun z=>z.cell (ak az h1)
   have d0:∀ z:ExtW wr,z.val.cell? ⟨b2,o2+k,none⟩=_:=fun z=>z.cell (ak az h2)
   clear h1 h2 az hx hy rh;by_cases cG:x=y
   ·have oU:=aa cG;have gM:(x != y)=false:=by simp[cG]
    clear cG
    go_wp2_with fail
    refine aD (by kernel_rfl) (by kernel_rfl) ?_
    repeat (go_big_quiet_step (fail))
    refine wpQuiet_nil ?_;rintro _ ⟨xq,rfl⟩;clear c0 d0
    go_wp2_with fail
    go_roundw
    ·exact⟨k+1,by omega,by go_num,ae aP.o xq.ext,aV (p:=fun j=>a.getD j 0=b.getD j 0) H.o (by rw[HX.o,HY.o];exact oU.o)⟩
    ·simp[intOf];omega
   ·have HR:=aa (pX.o k (by rw[HN.o];exact aB) (by rw[HX.o,HY.o];exact cG));have gM:(x != y)=true:=by simpa using cG
    clear cG
    go_wp2_with fail
    refine aD (by kernel_rfl) (by kernel_rfl) ?_
    repeat (go_big_quiet_step (fail))
    refine wpQuiet_nil ?_;rintro _ ⟨xq,rfl⟩;clear c0 d0
    go_wp2_with fail
    go_ret
    exact⟨aR (by rw[HR.o]),ae aP.o xq.ext⟩
  ·obtain rfl:k=n:=by omega
   have HR:=aa (ik.o HL.o fun j hj=>H.o j (by have:=HN.o;omega))
   go_wp2_with fail
   go_ret
   exact⟨aR (by rw[HR.o]),aP.o⟩
theorem NT(va vb:Value) (a b:List Rd) (w:World) (ha:kQ w va a) (hb:kQ w vb b) :
  Calls Tryz.prog 183 #[va,vb] w fun e w'=>e=.returned (.bool (decide (a=b)))/\Below w.heap.size w w':=by
 obtain⟨pa,ca,rfl,la1,la2,ea⟩:=ha.at;obtain⟨pb,cb,rfl,lb1,lb2,eb⟩:=hb.at;clear ha hb;have EA:=aa ea;clear ea;have EB:=aa eb;clear eb;generalize pz:decide (a=b)=res;have jP:=aa pz;clear pz;by_cases hl:a.length=b.length
 case neg=>
  have iD:((a.length:Int) != (b.length:Int))=true:=by simp;omega
  have HR:am (res=false):=by(have h:res=false:=by(rw[<-jP.o];simp;intro h;exact hl (by rw[h])));exact h
  clear hl
  go_enter Tryz.func183,Tryz.ntmps183
  go_wp2
  go_ret
  exact⟨aR HR.o.symm,Below.refl _ _⟩
 have iD:((a.length:Int) != (b.length:Int))=false:=by simp[hl]
 have HL:=aa hl;clear hl
 go_enter Tryz.func183,Tryz.ntmps183
 go_wp2
 clear iD
 go_loopw [5] (fun i wr=>Below w.heap.size w wr/\∃ k:Nat,k<=a.length/\i=.int .i64 k/\∀ j,j<k->a.getD j default=b.getD j default) (fun i _=>a.length - (intOf i).toNat)
 ·exact⟨Below.refl _ _,0,by omega,rfl,by simp⟩
 ·
  obtain⟨az,k,hk,rfl,aW⟩:=hrel;have H:=aa aW;clear aW;by_cases aB:k<a.length
  ·have je:k<b.length:=by have:=HL.o;omega
   obtain⟨b1,o1,rfl,⟨c0,r0⟩,⟨c1,r1⟩,⟨c2,r2⟩,⟨c3,r3⟩,⟨c4,r4⟩,⟨c5,r5⟩,⟨c6,r6⟩⟩:=EA.o k aB;obtain⟨b2,o2,rfl,⟨e0,s0⟩,⟨e1,s1⟩,⟨e2,s2⟩,⟨e3,s3⟩,⟨e4,s4⟩,⟨e5,s5⟩,⟨e6,s6⟩⟩:=EB.o k je;have c0':∀ y:ExtW wr,y.val.cell? ⟨b1,o1+k * 7,none⟩=_:=fun y=>y.cell (ak az c0)
   have c1':∀ y:ExtW wr,y.val.cell? ⟨b1,o1+k * 7+1,none⟩=_:=fun y=>y.cell (ak az c1)
   have c2':∀ y:ExtW wr,y.val.cell? ⟨b1,o1+k * 7+2,none⟩=_:=fun y=>y.cell (ak az c2)
   have c3':∀ y:ExtW wr,y.val.cell? ⟨b1,o1+k * 7+3,none⟩=_:=fun y=>y.cell (ak az c3)
   have c4':∀ y:ExtW wr,y.val.cell? ⟨b1,o1+k * 7+4,none⟩=_:=fun y=>y.cell (ak az c4)
   have c5':∀ y:ExtW wr,y.val.cell? ⟨b1,o1+k * 7+5,none⟩=_:=fun y=>y.cell (ak az c5)
   have c6':∀ y:ExtW wr,y.val.cell? ⟨b1,o1+k * 7+6,none⟩=_:=fun y=>y.cell (ak az c6)
   have e0':∀ y:ExtW wr,y.val.cell? ⟨b2,o2+k * 7,none⟩=_:=fun y=>y.cell (ak az e0)
   have e1':∀ y:ExtW wr,y.val.cell? ⟨b2,o2+k * 7+1,none⟩=_:=fun y=>y.cell (ak az e1)
   have e2':∀ y:ExtW wr,y.val.cell? ⟨b2,o2+k * 7+2,none⟩=_:=fun y=>y.cell (ak az e2)
   have e3':∀ y:ExtW wr,y.val.cell? ⟨b2,o2+k * 7+3,none⟩=_:=fun y=>y.cell (ak az e3)
   have e4':∀ y:ExtW wr,y.val.cell? ⟨b2,o2+k * 7+4,none⟩=_:=fun y=>y.cell (ak az e4)
   have e5':∀ y:ExtW wr,y.val.cell? ⟨b2,o2+k * 7+5,none⟩=_:=fun y=>y.cell (ak az e5)
   have e6':∀ y:ExtW wr,y.val.cell? ⟨b2,o2+k * 7+6,none⟩=_:=fun y=>y.cell (ak az e6)
   have HX:=aa (aA default aB);have HY:=aa (aA default je);clear c0 r0 e0 s0 c1 r1 e1 s1 c2 r2 e2 s2 c3 r3 e3 s3 c4 r4 e4 s4 c5 r5 e5 s5 c6 r6 e6 s6;generalize a[k]=x at c0' c1' c2' c3' c4' c5' c6' HX;generalize b[k]=y at e0' e1' e2' e3' e4' e5' e6' HY;have bM:=fun w=>P3 x y w
   go_wp2
   by_cases cG:x=y
   ·have hd:decide (x=y)=true:=by simpa using cG
    have oU:am (a.getD k default=b.getD k default):=by(have h:a.getD k default=b.getD k default:=by(rw[HX.o,HY.o,cG]));exact h
    rw[hd]at bM;clear cG hd;refine aD (by kernel_rfl) (by kernel_rfl) ?_
    repeat (go_big_quiet_step (fail))
    refine wpQuiet_nil ?_;intro _ eJ;obtain⟨xq,dq⟩:=eJ;subst dq;clear c0' c1' c2' c3' c4' c5' c6' e0' e1' e2' e3' e4' e5' e6' bM
    go_wp2
    go_roundw
    ·exact⟨ae az xq.ext,k+1,by omega,by go_num,aV H.o oU.o⟩
    ·simp[intOf];omega
   ·have hd:decide (x=y)=false:=by simpa using cG
    have HR:am (res=false):=by(have h:res=false:=by(rw[<-jP.o];simp;intro h;subst h;rw[HX.o]at HY;exact cG HY.o));exact h
    rw[hd]at bM;clear cG hd;refine aD (by kernel_rfl) (by kernel_rfl) ?_
    repeat (go_big_quiet_step (fail))
    refine wpQuiet_nil ?_;intro _ eJ;obtain⟨xq,dq⟩:=eJ;subst dq;clear c0' c1' c2' c3' c4' c5' c6' e0' e1' e2' e3' e4' e5' e6' bM
    go_wp2
    go_ret
    exact⟨aR HR.o.symm,ae az xq.ext⟩
  ·have HR:am (res=true):=by(have h:res=true:=by(rw[<-jP.o];simp;exact fq default HL.o fun j hj=>H.o j (by omega)));exact h
   go_wp2
   go_ret
   exact⟨aR HR.o.symm,az⟩
theorem NU(x y:Ex) (wa wb va vb:Value) (w:World) (Vy:kQ w wa x.word) (B8:kQ w wb y.word) (ha:eD w va x.views) (hb:eD w vb y.views) :
  Calls Tryz.prog 150 #[.agg #[.int .i64 x.c,wa,va],.agg #[.int .i64 y.c,wb,vb]] w fun e w'=>e=.returned (.bool (decide (x=y)))/\Below w.heap.size w w':=by
 obtain⟨cx,wx,ax⟩:=x;obtain⟨cy,wy,ay⟩:=y;dsimp only at Vy B8 ha hb ⊢;have MO:=aa (fun W (h:Below w.heap.size w W)=>NT wa wb wx wy W (Vy.up up_round h) (B8.up up_round h));obtain⟨pw,cw,rfl,_,_,_⟩:=Vy.at;obtain⟨qw,dw,rfl,_,_,_⟩:=B8.at;obtain⟨pa,ca,rfl,la1,la2,ea⟩:=ha.at;obtain⟨pb,cb,rfl,lb1,lb2,eb⟩:=hb.at;have EA:=aa ea;have EB:=aa eb;have Ev:am (cx≠cy->decide ((⟨cx,wx,ax⟩:Ex)=⟨cy,wy,ay⟩)=false):=aa fun h=>decide_eq_false fun e=>h (congrArg Ex.c e)
 have GU:am (decide (wx=wy)=false->decide ((⟨cx,wx,ax⟩:Ex)=⟨cy,wy,ay⟩)=false):=aa fun h=>decide_eq_false fun e=>(of_decide_eq_false h) (congrArg Ex.word e)
 have hH:am (ax.length≠ay.length->decide ((⟨cx,wx,ax⟩:Ex)=⟨cy,wy,ay⟩)=false):=aa fun h=>decide_eq_false fun e=>h (congrArg (fun z=>(Ex.views z).length) e)
 have pX:am (∀ j,j<ax.length->ax.getD j []≠ay.getD j []->decide ((⟨cx,wx,ax⟩:Ex)=⟨cy,wy,ay⟩)=false):=aa fun j _ h=>decide_eq_false fun e=>h (congrArg (fun z=>(Ex.views z).getD j []) e)
 have ik:am (cx=cy/\decide (wx=wy)=true/\ax.length=ay.length/\(∀ j,j<ax.length->ax.getD j []=ay.getD j [])->decide ((⟨cx,wx,ax⟩:Ex)=⟨cy,wy,ay⟩)=true):=aa fun ⟨h0,h1,h2,h3⟩=>decide_eq_true (by rw[h0,of_decide_eq_true h1,fq [] h2 h3])
 generalize decide ((⟨cx,wx,ax⟩:Ex)=⟨cy,wy,ay⟩)=r at Ev GU hH pX ik ⊢;generalize decide (wx=wy)=bw at MO GU ik;generalize wx.length=nw1,wy.length=nw2 at MO ⊢;clear Vy B8 ha hb ea eb
 go_enter Tryz.func150,Tryz.ntmps150
 by_cases fj:cx=cy
 case neg=>
  have hd:(cx != cy)=true:=by simpa using fj
  have HR:=aa (Ev.o fj);clear fj
  go_wp2_with fail
  go_ret
  exact⟨aR (by rw[HR.o]),by go_grown⟩
 have pQ:=aa fj;have Rm:(cx != cy)=false:=by simp[fj]
 clear fj;obtain⟨n,hn⟩:∃ n,ax.length=n:=⟨_,rfl⟩;obtain⟨m,hm⟩:∃ m,ay.length=m:=⟨_,rfl⟩;have HN:=aa hn;have HM:=aa hm;rw[hn]at la1 la2 ⊢;rw[hm]at lb1 lb2 ⊢;clear hn hm
 go_wp2_with fail
 refine aN (fun W=>Below w.heap.size w W/\W.heap[w.heap.size]?=some (.cells #[.int .i64 cx,.slice pw nw1 cw,.slice pa n ca] 89)/\W.heap[w.heap.size+1]?=some (.cells #[.int .i64 cy,.slice qw nw2 dw,.slice pb m cb] 89)) ⟨by go_grown,ar _ (aq _ _),by have h:=aq (w.alloc (.cells #[.int .i64 cx,.slice pw nw1 cw,.slice pa n ca] 89)) (.cells #[.int .i64 cy,.slice qw nw2 dw,.slice pb m cb] 89);simpa using h⟩ (fun W00 aZ=>?_);obtain⟨aI,bI,nR⟩:=aZ;refine(MO.o W00 aI).mono ?_;rintro e W0 ⟨rfl,aJ⟩;have ed:=aa (ae aI aJ);have jm:=aa (af aJ bI);have nZ:=aa (af aJ nR);have tA:=ab jm.o;have tC:=ab nZ.o;clear aI bI nR aJ MO;cases bw with
 | false=>
  have HR:am (r=false):=aa (by first|exact GU.o rfl|exact GU.o trivial)
  go_wp2_with fail
  go_ret
  exact⟨aR (by rw[HR.o]),ed.o⟩
 | true=>
  by_cases hl:n=m
  case neg=>
   have hd:(((n:Nat):Int) != ((m:Nat):Int))=true:=by simp;omega
   have HR:=aa (hH.o (by rw[HN.o,HM.o];exact hl));clear hl
   go_wp2_with fail
   go_ret
   exact⟨aR (by rw[HR.o]),ed.o⟩
  subst hl;have hd:((n:Int) != (n:Int))=false:=by simp
  go_wp2_with fail
  clear tA tC
  go_loopw [5] (fun i wr=>∃ k:Nat,k<=n/\i=.int .i64 k/\Below W0.heap.size W0 wr/\∀ j,j<k->ax.getD j []=ay.getD j []) (fun i _=>n - (intOf i).toNat)
  ·exact⟨0,by omega,rfl,Below.refl _ _,fun j hj=>by omega⟩
  ·
   obtain⟨k,hk,rfl,az,aW⟩:=hrel;have H:=aa aW;have aP:=aa az;have bT:=aa (ae ed.o az);clear aW az;have tA:=ab (af aP.o jm.o);have tC:=ab (af aP.o nZ.o);by_cases aB:k<n
   ·obtain⟨b1,o1,rfl,v1,g1,h1⟩:=EA.o k (by rw[HN.o];exact aB);obtain⟨b2,o2,rfl,v2,g2,h2⟩:=EB.o k (by rw[HM.o];exact aB);have rh:=aa (aA ([]:List Int) (show k<ax.length by rw[HN.o];exact aB));have sR:=aa (aA ([]:List Int) (show k<ay.length by rw[HM.o];exact aB));generalize ax[k]'(by rw[HN.o];exact aB)=x at h1 rh;generalize ay[k]'(by rw[HM.o];exact aB)=y at h2 sR;have d1:=ak bT.o g1;have d2:=ak bT.o g2;rw[Nat.mul_one]at d1 d2;have AJ:=aa (fun W (h:Below w.heap.size w W)=>NS v1 v2 x y W (h1.up up_int h) (h2.up up_int h));clear h1 h2 g1 g2
    go_wp2_with fail
    go_still_tail 10,(by kernel_rfl)
    go_wp2_with fail
    refine aN (fun W=>Below wr.heap.size wr W) (Below.drew (Below.refl _ _)) (fun W5 hW5=>?_);refine(AJ.o W5 (ae bT.o hW5)).mono ?_;rintro e w6 ⟨rfl,gi⟩;have lu:=aa (ae aP.o (ae hW5 gi));clear hW5 gi d1 d2 tA tC AJ;cases cG:decide (x=y) with
    | true=>
     have oU:=aa (of_decide_eq_true cG);clear cG
     go_wp2_with fail
     go_roundw
     ·exact⟨k+1,by omega,by go_num,lu.o,aV (p:=fun j=>ax.getD j []=ay.getD j []) H.o (by rw[rh.o,sR.o];exact oU.o)⟩
     ·simp[intOf];omega
    | false=>
     have HR:=aa (pX.o k (by rw[HN.o];exact aB) (by rw[rh.o,sR.o];exact of_decide_eq_false cG));clear cG
     go_wp2_with fail
     go_ret
     exact⟨aR (by rw[HR.o]),ae ed.o lu.o⟩
   ·obtain rfl:k=n:=by omega
    have HF:∀ j,j<ax.length->ax.getD j []=ay.getD j []:=fun j hj=>H.o j (by have:=HN.o;omega)
    have HR:am (r=true):=aa (ik.o ⟨pQ.o,by first|rfl|trivial,by rw[HN.o,HM.o],HF⟩);clear HF
    go_wp2_with fail
    go_ret
    exact⟨aR (by rw[HR.o]),bT.o⟩
theorem Tf(d:Nat) (a:Mv) (w:World):(Op.equalIn (d+5) 143 a.v a.v).run Tryz.prog w=.ok true w:=by
 have hS:Tryz.prog.underlying 143=some (.struct (Tryz.prog.fieldsOf 143)):=by kernel_rfl
 have hp:Tryz.prog.stoodInHeld 143=false:=by kernel_rfl
 rw[run_equalIn_struct w (d+4) 143 _ _ hS hp];have ag:=Tryz.isAgg3;have ah:=Tryz.isAgg141;have zh:=Tryz.sizeOf141;have u3:=Tryz.underlying3;have hg:=Fb d a.r a.r w;simp only[Program.fieldsOf,Tryz.underlying143];simp[Op.eqFields,part,ag,ah,zh,run_equalIn_int w (d+3) 3 _ .i64 _ _ u3,hg]
theorem Xb(a:Mv) (w:World):(binOp .neq 143 a.v a.v).run Tryz.prog w=.ok (.bool false) w:=by
 rw[run_neq_struct,Tf 9995];rfl
theorem Tg(n:Int) (l:List (List Mv)) (va vb:Value) (w:World) (ha:bF w va l) (hb:bF w vb l) :
  Calls Tryz.prog 182 #[.agg #[.int .i64 n,va],.agg #[.int .i64 n,vb]] w fun e w'=>e=.returned (.bool true)/\Below w.heap.size w w':=by
 obtain⟨pa,ca,rfl,la1,la2,ea⟩:=ha.at;obtain⟨pb,cb,rfl,lb1,lb2,eb⟩:=hb.at;have EA:=aa ea;have EB:=aa eb;clear ha hb ea eb;obtain⟨m,hm⟩:∃ m,l.length=m:=⟨_,rfl⟩;have HM:=aa hm;rw[hm]at la1 la2 lb1 lb2 ⊢;clear hm;have Rm:(n != n)=false:=by simp
 have hd:((m:Int) != (m:Int))=false:=by simp
 go_enter Tryz.func182,Tryz.ntmps182
 go_wp2_with fail
 refine bu (fun W=>Below w.heap.size w W/\W.heap[w.heap.size]?=some (.cells #[.int .i64 n,.slice pa m ca] 27)/\W.heap[w.heap.size+1]?=some (.cells #[.int .i64 n,.slice pb m cb] 27)) ⟨by go_grown,ar _ (aq _ _),by have h:=aq (w.alloc (.cells #[.int .i64 n,.slice pa m ca] 27)) (.cells #[.int .i64 n,.slice pb m cb] 27);simpa using h⟩ (fun W0 aZ=>?_);obtain⟨aI,bI,nR⟩:=aZ;have ed:=aa aI;have jm:=aa bI;have nZ:=aa nR;clear aI bI nR
 go_loopw [5] (fun i wr=>∃ k:Nat,k<=m/\i=.int .i64 k/\Below W0.heap.size W0 wr) (fun i _=>m - (intOf i).toNat)
 ·exact⟨0,by omega,rfl,Below.refl _ _⟩
 ·
  obtain⟨k,hk,rfl,az⟩:=hrel;have aP:=aa az;have bT:=aa (ae ed.o az);clear az;have tA:=ab (af aP.o jm.o);by_cases aB:k<m
  ·obtain⟨b1,o1,rfl,v1,g1,h1⟩:=EA.o k (by rw[HM.o];exact aB);obtain⟨b2,o2,rfl,v2,g2,h2⟩:=EB.o k (by rw[HM.o];exact aB);generalize l[k]'(by rw[HM.o];exact aB)=row at h1 h2;obtain⟨p1,q1,rfl,x1,y1,e1⟩:=h1.at;obtain⟨p2,q2,rfl,x2,y2,e2⟩:=h2.at;have E1:=aa e1;have E2:=aa e2;obtain⟨r,hr⟩:∃ r,row.length=r:=⟨_,rfl⟩;have HR:=aa hr;rw[Nat.mul_one]at g1 g2;rw[hr]at x1 y1 x2 y2 g1 g2;clear h1 h2 e1 e2 hr;have G1:=aa g1;have G2:=aa g2;have hdr:((r:Int) != (r:Int))=false:=by simp
   have f1:∀ z:ExtW wr,z.val.cell? ⟨b1,o1+k,none⟩=_:=fun z=>z.cell (ak bT.o g1)
   have f2:∀ z:ExtW wr,z.val.cell? ⟨b2,o2+k,none⟩=_:=fun z=>z.cell (ak bT.o g2)
   have tA2:∀ z:ExtW wr,z.val.cell? ⟨w.heap.size,1,none⟩=some (.slice (some ⟨b1,o1,none⟩) m ca):=fun z=>z.cell (by rw[ab (af aP.o jm.o)];rfl)
   have tC2:∀ z:ExtW wr,z.val.cell? ⟨w.heap.size+1,1,none⟩=some (.slice (some ⟨b2,o2,none⟩) m cb):=fun z=>z.cell (by rw[ab (af aP.o nZ.o)];rfl)
   clear g1 g2
   go_wp2_with fail
   refine aD (by kernel_rfl) (by kernel_rfl) ?_
   repeat (go_big_quiet_step (fail))
   refine wpQuiet_nil ?_;rintro _ ⟨xq,rfl⟩;have eo:=aa (ae aP.o xq.ext);generalize xq.val=wq at eo ⊢;clear f1 f2 tA2 tC2 tA
   go_wp2_with fail
   obtain⟨wrA,kw⟩:∃ x,x=wr:=⟨_,rfl⟩;subst kw
   go_loopw [6] (fun i wr=>∃ j:Nat,j<=r/\i=.int .i64 j/\Below W0.heap.size W0 wr) (fun i _=>r - (intOf i).toNat)
   ·exact⟨0,by omega,rfl,eo.o⟩
   ·
    obtain⟨i,hi,rfl,k8⟩:=hrel;have EF:=aa k8;have dD:=aa (ae ed.o k8);clear k8;have tA:=ab (af EF.o jm.o);have t1:=ak dD.o G1.o;by_cases Se:i<r
    ·obtain⟨b3,o3,rfl,m1⟩:=E1.o i (by rw[HR.o];exact Se);obtain⟨b4,o4,rfl,m2⟩:=E2.o i (by rw[HR.o];exact Se);generalize row[i]'(by rw[HR.o];exact Se)=x at m1 m2;have c0:∀ z:ExtW wr,z.val.cell? ⟨b3,o3+i * 8,none⟩=_:=fun z=>z.cell (ak dD.o m1.1.1.1)
     have c1:∀ z:ExtW wr,z.val.cell? ⟨b3,o3+i * 8+1,none⟩=_:=fun z=>z.cell (ak dD.o m1.1.2.1.1)
     have c2:∀ z:ExtW wr,z.val.cell? ⟨b3,o3+i * 8+2,none⟩=_:=fun z=>z.cell (ak dD.o m1.1.2.2.1.1)
     have c3:∀ z:ExtW wr,z.val.cell? ⟨b3,o3+i * 8+3,none⟩=_:=fun z=>z.cell (ak dD.o m1.1.2.2.2.1.1)
     have c4:∀ z:ExtW wr,z.val.cell? ⟨b3,o3+i * 8+4,none⟩=_:=fun z=>z.cell (ak dD.o m1.1.2.2.2.2.1.1)
     have c5:∀ z:ExtW wr,z.val.cell? ⟨b3,o3+i * 8+5,none⟩=_:=fun z=>z.cell (ak dD.o m1.1.2.2.2.2.2.1.1)
     have c6:∀ z:ExtW wr,z.val.cell? ⟨b3,o3+i * 8+6,none⟩=_:=fun z=>z.cell (ak dD.o m1.1.2.2.2.2.2.2.1)
     have c7:∀ z:ExtW wr,z.val.cell? ⟨b3,o3+i * 8+7,none⟩=_:=fun z=>z.cell (ak dD.o m1.2.1)
     have d0:∀ z:ExtW wr,z.val.cell? ⟨b4,o4+i * 8,none⟩=_:=fun z=>z.cell (ak dD.o m2.1.1.1)
     have d1:∀ z:ExtW wr,z.val.cell? ⟨b4,o4+i * 8+1,none⟩=_:=fun z=>z.cell (ak dD.o m2.1.2.1.1)
     have d2:∀ z:ExtW wr,z.val.cell? ⟨b4,o4+i * 8+2,none⟩=_:=fun z=>z.cell (ak dD.o m2.1.2.2.1.1)
     have d3:∀ z:ExtW wr,z.val.cell? ⟨b4,o4+i * 8+3,none⟩=_:=fun z=>z.cell (ak dD.o m2.1.2.2.2.1.1)
     have d4:∀ z:ExtW wr,z.val.cell? ⟨b4,o4+i * 8+4,none⟩=_:=fun z=>z.cell (ak dD.o m2.1.2.2.2.2.1.1)
     have d5:∀ z:ExtW wr,z.val.cell? ⟨b4,o4+i * 8+5,none⟩=_:=fun z=>z.cell (ak dD.o m2.1.2.2.2.2.2.1.1)
     have d6:∀ z:ExtW wr,z.val.cell? ⟨b4,o4+i * 8+6,none⟩=_:=fun z=>z.cell (ak dD.o m2.1.2.2.2.2.2.2.1)
     have d7:∀ z:ExtW wr,z.val.cell? ⟨b4,o4+i * 8+7,none⟩=_:=fun z=>z.cell (ak dD.o m2.2.1)
     have f1:∀ z:ExtW wr,z.val.cell? ⟨b1,o1+k,none⟩=_:=fun z=>z.cell (ak dD.o G1.o)
     have f2:∀ z:ExtW wr,z.val.cell? ⟨b2,o2+k,none⟩=_:=fun z=>z.cell (ak dD.o G2.o)
     have tA2:∀ z:ExtW wr,z.val.cell? ⟨w.heap.size,1,none⟩=some (.slice (some ⟨b1,o1,none⟩) m ca):=fun z=>z.cell (by rw[ab (af EF.o jm.o)];rfl)
     have tC2:∀ z:ExtW wr,z.val.cell? ⟨w.heap.size+1,1,none⟩=some (.slice (some ⟨b2,o2,none⟩) m cb):=fun z=>z.cell (by rw[ab (af EF.o nZ.o)];rfl)
     have kh:=fun w=>Xb x w
     clear m1 m2
     go_wp2_with fail
     refine aD (by kernel_rfl) (by kernel_rfl) ?_
     repeat (go_big_quiet_step (fail))
     refine wpQuiet_nil ?_;rintro _ ⟨xq,rfl⟩;clear c0 c1 c2 c3 c4 c5 c6 c7 d0 d1 d2 d3 d4 d5 d6 d7 f1 f2 tA2 tC2 kh tA t1
     go_wp2_with fail
     go_roundw
     ·exact⟨i+1,by omega,by go_num,ae EF.o xq.ext⟩
     ·simp[intOf];omega
    ·obtain rfl:i=r:=by omega
     go_wp2_with fail
     go_roundw
     ·exact⟨k+1,by omega,by go_num,EF.o⟩
     ·simp[intOf];omega
  ·obtain rfl:k=m:=by omega
   go_wp2_with fail
   go_ret
   exact⟨rfl,bT.o⟩
theorem Gv(va vb:Value) (l:List (List Int)) (w:World) (ha:eD w va l) (hb:eD w vb l) :
  Calls Tryz.prog 207 #[va,vb] w fun e w'=>e=.returned (.bool true)/\Below w.heap.size w w':=by
 obtain⟨pa,ca,rfl,la1,la2,ea⟩:=ha.at;obtain⟨pb,cb,rfl,lb1,lb2,eb⟩:=hb.at;have EA:=aa ea;have EB:=aa eb;clear ha hb ea eb;obtain⟨n,hn⟩:∃ n,l.length=n:=⟨_,rfl⟩;have HN:=aa hn;rw[hn]at la1 la2 lb1 lb2 ⊢;clear hn;have hd:((n:Int) != (n:Int))=false:=by simp
 go_enter Tryz.func207,Tryz.ntmps207
 go_wp2_with fail
 go_loopw [5] (fun i wr=>∃ k:Nat,k<=n/\i=.int .i64 k/\Below w.heap.size w wr) (fun i _=>n - (intOf i).toNat)
 ·exact⟨0,by omega,rfl,Below.refl _ _⟩
 ·
  obtain⟨k,hk,rfl,az⟩:=hrel;have aP:=aa az;clear az;by_cases aB:k<n
  ·obtain⟨b1,o1,rfl,v1,g1,h1⟩:=EA.o k (by rw[HN.o];exact aB);obtain⟨b2,o2,rfl,v2,g2,h2⟩:=EB.o k (by rw[HN.o];exact aB);generalize l[k]'(by rw[HN.o];exact aB)=x at h1 h2;have d1:=ak aP.o g1;have d2:=ak aP.o g2;rw[Nat.mul_one]at d1 d2;have AJ:=aa (fun W (h:Below w.heap.size w W)=>l7 v1 v2 x x W (h1.up up_int h) (h2.up up_int h));rw[tJ]at AJ;clear h1 h2 g1 g2
   go_wp2_with fail
   go_still_tail 8,(by kernel_rfl)
   go_wp2_with fail
   refine aN (fun W=>Below wr.heap.size wr W) (Below.drew (Below.refl _ _)) (fun W5 hW5=>?_);refine(AJ.o W5 (ae aP.o hW5)).mono ?_;rintro e w6 ⟨rfl,gi⟩;have lu:=aa (ae aP.o (ae hW5 gi));clear hW5 gi d1 d2 AJ
   go_wp2_with fail
   go_roundw
   ·exact⟨k+1,by omega,by go_num,lu.o⟩
   ·simp[intOf];omega
  ·obtain rfl:k=n:=by omega
   go_wp2_with fail
   go_ret
   exact⟨rfl,aP.o⟩
theorem Ly(l:List Lk) (h0:∀ y∈l,0<=y.x) (bx:Nat) (vl:Value) (w0:World) (hl:bh w0 vl l) (w:World) (aI:Below w0.heap.size w0 w) (hx:w.cell? ⟨bx,0,none⟩=some vl) :
  tK Tryz.prog 98 #[.pointer (some ⟨bx,0,none⟩)] (xO (cA l)) l.length (fun k=>k<w0.heap.size\/k=bx) w:=by
 intro yl J Jx W hW hJ oM hY oO;have ly:=fo hx;have nA:=aI.size;obtain⟨pl,cl,rfl,lt1,lt2,el⟩:=hl.at;have fg:gH (fun k=>k<w0.heap.size\/k=bx) w W:=fun k hk=>hW.block k (by rcases hk with hk|rfl<;>first|omega|assumption)
 have tx:=(fg.cell (.inr rfl)).trans hx;have uM:=aa fg;have HSZ:=aa hW.size
 have CT:am (∀ k (hk:k<l.length),xO (cA l) k=#[.int .i64 (l[k]).x]):=aa (fun k hk=>by
  unfold xO cA;have h1:=h0 l[k] (List.getElem_mem hk);rw[aA 0 (by simpa using hk),List.getElem_map];congr 2;congr 1
  omega)
 have EL:am (∀ (V:World),gH (fun k=>k<w0.heap.size\/k=bx) w V->∀ i (hi:i<l.length),∃ b o,pl=some ⟨b,o,none⟩/\V.cell? ⟨b,o+i * 2,none⟩=some (.int .i64 (l[i]).x)/\V.cell? ⟨b,o+i * 2+1,none⟩=some (.int .i64 (l[i]).p)):=aa (fun V hV i hi=>by
  obtain⟨b,o,e1,c1,c2⟩:=el i hi;have aB:b<w0.heap.size:=fo c1.1
  have vA:∀ o',V.cell? ⟨b,o',none⟩=w0.cell? ⟨b,o',none⟩:=fun o'=>by
   rw[hV.cell (.inl aB)];unfold World.cell?;rw[aI.block b aB]
  exact⟨b,o,e1,(vA _).trans c1.1,(vA _).trans c2.1⟩)
 have HJ:=aa hJ;have JN:=aa oM;have HY:=aa hY;have H0:=aa oO;clear hx aI fg hJ oM hY oO hl el hW h0;refine(callsIn_wide (n:=0)).1 ?_;refine callsIn_of_wp Tryz.func98 rfl trivial ?_ rfl;simp only[Tryz.ntmps98,List.size_toArray,List.length_cons,List.length_nil,Nat.reduceAdd,Nat.reduceSub,Array.replicate_succ,Array.replicate_zero,List.push_toArray,List.append_toArray,List.nil_append,List.cons_append]
 gi_wp2
 clear tx
 gi_loopw [7] (fun i wr=>∃ k:Nat,k<=l.length/\i=.int .i64 k/\w.heap.size<=wr.heap.size/\gH (fun k=>k<w0.heap.size\/k=bx) w wr/\J k wr) (fun i _=>l.length - (intOf i).toNat)
 ·exact⟨0,by omega,rfl,HSZ.o,uM.o,H0.o⟩
 ·
  obtain⟨k,hk,rfl,fk,gk,hj⟩:=hrel;have kx:=aa gk;have jp:=aa hj;clear hj;by_cases aB:k<l.length
  ·obtain⟨b1,o1,rfl,c1,c2⟩:=EL.o wr gk k aB;have HE:=aa (CT.o k aB);generalize l[k]=y at c1 c2 HE;obtain⟨x,p⟩:=y;dsimp only at c1 c2 HE;have hja:=HJ.o k wr (wr.alloc (.cells #[.int .i64 x,.int .i64 p] 75)) jp.o (by go_grown);have HKA:am (gH (fun k=>k<w0.heap.size\/k=bx) wr (wr.alloc (.cells #[.int .i64 x,.int .i64 p] 75))):=aa fun q hq=>Below.heap_alloc wr _ q (by rcases hq with hq|rfl<;>omega)
   obtain⟨fn,tmps,assign,body,pO,hR⟩:=HY.o k _ aB hja;rw[HE.o]at pO;have HR:=aa hR;clear hR hja gk
   gi_wp2
   refine⟨rfl,HR.o.mono ?_⟩;rintro e W3 (⟨rfl,El,EJ,iA⟩|⟨rfl,sY⟩)
   ·have Re:w.heap.size<=W3.heap.size:=by simp at EJ;omega
    gi_wp2
    go_roundw
    ·exact⟨k+1,by omega,by go_num,Re,gH.trans (gH.trans kx.o HKA.o) iA,El⟩
    ·simp[intOf];omega
   ·gi_wp2
    refine bodyPost_ret (results_none rfl _ _ _) rfl ?_;exact⟨⟨_,rfl⟩,.inr ⟨_,by omega,sY⟩⟩
  ·obtain rfl:k=l.length:=by omega
   clear gk
   gi_wp2
   go_end0
   exact⟨⟨_,rfl⟩,.inl jp.o⟩
theorem Gw{s:Sys} (hs:SysOk s) {l:List Lk} (hx:∀ y∈l,y.x.toNat<eS s):cY s l=decide (comM s (cA l)=0):=by
 unfold cY;rw[decide_eq_decide];exact Pu hs fun e he=>by obtain⟨y,hy,rfl⟩:=List.mem_map.1 he;exact hx y hy
theorem rF(s:Sys) (hs:SysOk s) (B:Nat) (vl:Value) (l:List Lk) (hx:∀ y∈l,0<=y.x/\y.x.toNat<eS s) (w:World) (gj:ScAt w B s) (hl:bh w vl l) :
  Calls Tryz.prog 56 #[.pointer (some ⟨B,0,none⟩),vl] w fun r w'=>r=.returned (.bool (jg s l))/\Below w.heap.size w w':=by
 have kV:=aa gj;have HL:=aa hl;obtain⟨pl,cl,rfl,lt1,lt2,el⟩:=hl.at;have BT:am ((cA l).length=l.length):=aa (by simp[cA])
 have rG:=aa (fun W (hb:Below w.heap.size w W) (hX:W.heap[w.heap.size]?=some (.cells #[.slice pl l.length cl] 54))=>DL s B 98 #[.pointer (some ⟨w.heap.size,0,none⟩)] (enters_of Tryz.func98 (by kernel_rfl) rfl) (cA l) (fun e he=>by obtain⟨y,hy,rfl⟩:=List.mem_map.1 he;exact(hx y hy).2) (fun k=>k<w.heap.size\/k=w.heap.size) W (kV.o.up hb) (fun k hk=>by have:=aC hX;rcases hk with hk|rfl<;>omega) (fun V hV=>by
  rw[BT.o]
  exact Ly l (fun y hy=>(hx y hy).1) w.heap.size _ w HL.o V (ae hb hV) (by rw[ab (af hV hX)];rfl)))
 have ik:=aa (Gw hs (fun y hy=>(hx y hy).2));have HG:am (jg s l=(decide (0<l.length)&&cY s l)):=aa rfl;rw[ik.o]at HG;generalize comM s (cA l)=c at HG rG;clear hl el hx gj ik;by_cases h0:0<l.length
 ·have hd:decide ((0:Int)<(l.length:Int))=true:=decide_eq_true (by omega);have gM:decide (0<l.length)=true:=decide_eq_true h0;rw[gM,Bool.true_and]at HG
  go_enter Tryz.func56,Tryz.ntmps56
  go_wp2_with fail
  refine aN (fun W=>Below w.heap.size w W/\W.heap[w.heap.size]?=some (.cells #[.slice pl l.length cl] 54)) ⟨by go_grown,aq _ _⟩ (fun W0 aZ=>?_);obtain⟨aI,wE⟩:=aZ;refine(rG.o W0 aI wE).mono ?_;rintro e w1 ⟨rfl,aJ⟩;have oN:=aa (ae aI aJ);clear aI aJ wE rG
  go_wp2_with fail
  go_ret
  refine⟨aR ?_,oN.o⟩;rw[HG.o,Bool.eq_iff_iff];simp
 ·have hd:decide ((0:Int)<(l.length:Int))=false:=decide_eq_false (by omega);have gM:decide (0<l.length)=false:=decide_eq_false h0;rw[gM,Bool.false_and]at HG
  go_enter Tryz.func56,Tryz.ntmps56
  go_wp2_with fail
  go_ret
  exact⟨aR (by rw[HG.o]),by go_grown⟩
theorem FA{s:Sys} {l:List Lk} (h:walkE s l=0):∀ y∈l,0<=y.x/\y.x.toNat<eS s:=fun y hy=>by
 obtain⟨i,hi,rfl⟩:=List.getElem_of_mem hy;have h1:=((se s l).1 h).2.2 i hi;have h2:=(xB s l i).1 h1;rw[aA default hi]at h2;exact⟨h2.1,h2.2.1⟩
theorem sH{s:Sys} (h:readyE s=0):verifyE s=0:=by
 unfold readyE at h;split at h
 ·rename_i h1;exact absurd h h1
 ·omega
def ZX(s:Sys) (e:Int) (r:Ending) (w:World):Prop:=∃ v,r=.returned (.tuple #[v,.int .i64 e])/\(e=0->∃ B,v=.pointer (some ⟨B,0,none⟩)/\ScAt w B s)/\(e≠0->v=.pointer none)
theorem zS(s:Sys) (hE:eS s<=256) (vc vs vt ve vw:Value) (c:Ct) (pv:Option Addr) (cv:Nat) (pl:Option Addr) (cl:Nat) (pp:Option Addr) (cp:Nat) (w:World) (hs:IsSys w s vc vs vt ve) (hN:movesN s.prob.a.states<1099511627776) (hw:bh w vw c.walk) :
  Calls Tryz.prog 54 #[.agg (bL s.prob vc vs s.n vt ve),.agg #[.int .i64 c.kind,vw,.slice pv c.nv cv,.slice pl c.nl cl,.slice pp c.np cp]] w fun r w'=>ZX s (certE s c) r w'/\Below w.heap.size w w':=by
 have HS:=aa hs;obtain⟨⟨pc,cc,rfl⟩,⟨ps,cs,rfl⟩,⟨pt,ct,rfl⟩,⟨pe,ce,rfl⟩⟩:=bB hs;obtain⟨pw,cw,rfl,lw1,lw2,_⟩:=hw.at;have V5:=aa hw;clear hs hw;have HC:=aa (fun W (hb:Below w.heap.size w W)=>oH s hE _ _ _ _ W (HS.o.up hb) hN);have R6:=aa (fun (hv:verifyE s=0) W (hb:Below w.heap.size w W)=>Lv s hv _ _ _ _ _ c.walk W (HS.o.up hb) hN (V5.o.up up_link hb));have dg:am (readyE s≠0->certE s c=readyE s):=aa fun h=>by unfold certE;rw[if_pos h]
 have dU:am (readyE s=0->c.kind≠1->certE s c=1):=aa fun h h1=>by unfold certE;rw[if_neg (by omega)];unfold AS;rw[if_pos h1]
 have eT:am (readyE s=0->c.kind=1->(0<c.nv\/0<c.nl\/0<c.np)->certE s c=3):=aa fun h h1 h2=>by unfold certE;rw[if_neg (by omega)];unfold AS;rw[if_neg (by omega),if_pos h2]
 have nT:am (readyE s=0->c.kind=1->¬ (0<c.nv\/0<c.nl\/0<c.np)->walkE s c.walk≠0->certE s c=walkE s c.walk):=aa fun h h1 h2 h3=>by unfold certE;rw[if_neg (by omega)];unfold AS;rw[if_neg (by omega),if_neg h2,if_pos h3]
 have yR:am (readyE s=0->c.kind=1->¬ (0<c.nv\/0<c.nl\/0<c.np)->walkE s c.walk=0->certE s c=if jg s c.walk then 0 else 18):=aa fun h h1 h2 h3=>by
  have h4:=((se s c.walk).1 h3).1;unfold certE;rw[if_neg (by omega)];unfold AS;rw[if_neg (by omega),if_neg h2,if_neg (by omega)];unfold jg;rw[decide_eq_true h4,Bool.true_and]
 have Wd:=aa (fun (hs:SysOk s) (h:walkE s c.walk=0) B W (gj:ScAt W B s) (hl:bh W (.slice pw c.walk.length cw) c.walk)=>rF s hs B _ c.walk (FA h) W gj hl);have q7:am (readyE s=0->verifyE s=0):=aa sH;generalize certE s c=ce0 at dg dU eT nT yR ⊢;obtain⟨re,lR⟩:∃ re,readyE s=re:=⟨_,rfl⟩;rw[lR]at dg dU eT nT yR HC q7;obtain⟨kd,wk,nv,nl,np⟩:=c;dsimp only at *;clear lR
 go_enter Tryz.func54,Tryz.ntmps54
 go_wp2_with fail
 refine aN (fun W=>Below w.heap.size w W/\(∃ q,W.heap[w.heap.size]?=some (.cells q 35)/\q=bL s.prob (.slice pc s.prob.t.cases.length cc) (.slice ps s.prob.a.states.length cs) s.n (.slice pt s.tab.length ct) (.slice pe s.ex.length ce))/\W.heap[w.heap.size+1]?=some (.cells #[.int .i64 kd,.slice pw wk.length cw,.slice pv nv cv,.slice pl nl cl,.slice pp np cp] 58)) ⟨by go_grown,⟨_,ar _ (aq _ _),rfl⟩,bd _ _ _⟩ (fun W0 aZ=>?_);obtain⟨aI,⟨_,bI,rfl⟩,gl⟩:=aZ;refine(HC.o W0 aI).mono ?_;rintro e w1 ⟨v,rfl,aJ,h2,h3⟩;have bK:=aa (ae aI aJ);have fM:=aa (af aJ gl);have db:=aa (af aJ bI);by_cases hr:re=0
 case neg=>
  have HV:=aa (dg.o hr);obtain rfl:=h2 hr;have Hi:(re != 0)=true:=by simpa using hr
  have Yh:=aa hr;clear aI aJ h2 h3 hr HC gl bI
  go_wp2_with fail
  go_ret2
  exact⟨⟨_,by rw[HV.o];rfl,fun h=>absurd (HV.o.symm.trans h) Yh.o,fun _=>rfl⟩,bK.o⟩
 obtain⟨B,rfl,hB,gj⟩:=h3 hr;have kV:=aa gj;have Ef:=aa (q7.o hr);have dA:=aa (jh Ef.o);subst hr;have to:=ab fM.o;clear aI aJ h2 h3 HC gj gl bI;by_cases hk:kd=1
 case neg=>
  have HV:=aa (dU.o rfl hk);have rM:(kd != 1)=true:=by simpa using hk
  clear hk
  go_wp2_with fail
  go_ret2
  exact⟨⟨_,by rw[HV.o];rfl,fun h=>by have:=HV.o;omega,fun _=>rfl⟩,bK.o⟩
 have rM:(kd != 1)=false:=by simp[hk]
 have MU:=aa hk;by_cases h1:0<nv
 ·have HV:=aa (eT.o rfl hk (.inl h1));have hd:decide ((0:Int)<(nv:Int))=true:=decide_eq_true (by omega);have gM:decide (0<nv)=true:=decide_eq_true h1;clear hk h1
  go_wp2_with fail
  go_ret2
  exact⟨⟨_,by rw[HV.o];rfl,fun h=>by have:=HV.o;omega,fun _=>rfl⟩,bK.o⟩
 have e1:decide ((0:Int)<(nv:Int))=false:=decide_eq_false (by omega);have e1':decide (0<nv)=false:=decide_eq_false h1;by_cases h2:0<nl
 ·have HV:=aa (eT.o rfl hk (.inr (.inl h2)));have hd:decide ((0:Int)<(nl:Int))=true:=decide_eq_true (by omega);have gM:decide (0<nl)=true:=decide_eq_true h2;clear hk h1 h2
  go_wp2_with fail
  go_ret2
  exact⟨⟨_,by rw[HV.o];rfl,fun h=>by have:=HV.o;omega,fun _=>rfl⟩,bK.o⟩
 have e2:decide ((0:Int)<(nl:Int))=false:=decide_eq_false (by omega);have e2':decide (0<nl)=false:=decide_eq_false h2;by_cases h3:0<np
 ·have HV:=aa (eT.o rfl hk (.inr (.inr h3)));have hd:decide ((0:Int)<(np:Int))=true:=decide_eq_true (by omega);have gM:decide (0<np)=true:=decide_eq_true h3;clear hk h1 h2 h3
  go_wp2_with fail
  go_ret2
  exact⟨⟨_,by rw[HV.o];rfl,fun h=>by have:=HV.o;omega,fun _=>rfl⟩,bK.o⟩
 have e3:decide ((0:Int)<(np:Int))=false:=decide_eq_false (by omega);have e3':decide (0<np)=false:=decide_eq_false h3;have fi:am (¬ (0<nv\/0<nl\/0<np)):=aa (by omega);have tA:=ab db.o;clear hk h1 h2 h3
 go_wp2_with fail
 clear tA to;refine(R6.o Ef.o w1 bK.o).mono ?_;rintro e w2 ⟨rfl,a8⟩;have cQ:=aa (ae bK.o a8);have KW:=aa (kV.o.up a8);have to:=ab (af a8 fM.o);clear a8;by_cases hz:walkE s wk=0
 case neg=>
  have HV:=aa (nT.o (by first|trivial|rfl) MU.o fi.o hz);generalize walkE s wk=we at hz HV;have Mr:(we != 0)=true:=by simpa using hz
  have HNZ:=aa hz;clear hz
  go_wp2_with fail
  go_ret2
  exact⟨⟨_,by rw[HV.o];rfl,fun h=>absurd (HV.o.symm.trans h) HNZ.o,fun _=>rfl⟩,cQ.o⟩
 have HV:=aa (yR.o (by first|trivial|rfl) MU.o fi.o hz);have pQ:=aa (Wd.o dA.o hz B);rw[hz];clear hz
 go_wp2_with fail
 clear to;refine(pQ.o w2 KW.o (V5.o.up up_link cQ.o)).mono ?_;rintro e w3 ⟨rfl,bH⟩;have ef:=aa (ae cQ.o bH);have TO:=aa (KW.o.up bH);clear bH;cases hg:jg s wk with
 | true=>
  have da:am (ce0=0):=aa (by rw[HV.o,hg];rfl);clear hg
  go_wp2_with fail
  go_ret2
  exact⟨⟨_,by rw[da.o];rfl,fun _=>⟨B,rfl,TO.o⟩,fun h=>absurd da.o h⟩,ef.o⟩
 | false=>
  have da:am (ce0=18):=aa (by rw[HV.o,hg];rfl);clear hg
  go_wp2_with fail
  go_ret2
  exact⟨⟨_,by rw[da.o];rfl,fun h=>by have:=da.o;omega,fun _=>rfl⟩,ef.o⟩
theorem Lz(s:Sys) (hE:eS s<=256) (vc vs vt ve vw:Value) (c:Ct) (pv:Option Addr) (cv:Nat) (pl:Option Addr) (cl:Nat) (pp:Option Addr) (cp:Nat) (w:World) (hs:IsSys w s vc vs vt ve) (hN:movesN s.prob.a.states<1099511627776) (hw:bh w vw c.walk) :
  Calls Tryz.prog 24 #[.agg (bL s.prob vc vs s.n vt ve),.agg #[.int .i64 c.kind,vw,.slice pv c.nv cv,.slice pl c.nl cl,.slice pp c.np cp]] w fun r w'=>r=.returned (.int .i64 (certE s c))/\Below w.heap.size w w':=by
 have HS:=aa hs;obtain⟨⟨pc,cc,rfl⟩,⟨ps,cs,rfl⟩,⟨pt,ct,rfl⟩,⟨pe,ce,rfl⟩⟩:=bB hs;obtain⟨pw,cw,rfl,lw1,lw2,_⟩:=hw.at;have HC:=aa (fun W (hb:Below w.heap.size w W)=>zS s hE _ _ _ _ _ c pv cv pl cl pp cp W (HS.o.up hb) hN (hw.up up_link hb));clear hs hw
 go_enter Tryz.func24,Tryz.ntmps24
 go_wp2_with fail
 refine aN (fun W=>Below w.heap.size w W) (by go_grown) (fun W0 aI=>?_);refine(HC.o W0 aI).mono ?_;rintro e w1 ⟨⟨v,rfl,_,_⟩,aJ⟩;have HB:=aa (ae aI aJ);clear aI aJ HC
 go_wp2_with fail
 go_ret
 exact⟨rfl,HB.o⟩
structure TwoBox (w:World) (n:Nat) (VS:List Value) (CA CZ CB:Array Value) (t:TypeId) (D:Nat->Bool) (x:Nat->Value) (W:World):Prop where
 below:Below w.heap.size w W
 val:∀ i,i<n->D i=true->x i=VS.getD i undef
 a:D n=true->∃ g,x n=.pointer (some ⟨g,0,none⟩)/\w.heap.size<=g/\W.heap[g]?=some (.cells (if D (n+2) then CA else CZ) t)
 b:D (n+1)=true->∃ g,x (n+1)=.pointer (some ⟨g,0,none⟩)/\w.heap.size<=g/\W.heap[g]?=some (.cells (if D (n+3) then CB else CZ) t)
 ne:D n=true->D (n+1)=true->x n≠x (n+1)
 oa:D (n+2)=true->D n=true
 ob:D (n+3)=true->D (n+1)=true
section
variable {w W : World} {n : Nat} {VS : List Value} {CA CZ CB : Array Value} {t : TypeId} {D : Nat → Bool} {x : Nat → Value}
theorem TwoBox.start(hb:Below w.heap.size w W):TwoBox w n VS CA CZ CB t (fun _=>false) x W:=by
 refine⟨hb,?_,?_,?_,?_,?_,?_⟩<;>intros<;>contradiction
theorem TwoBox.set(h:TwoBox w n VS CA CZ CB t D x W) (i:Nat) (hi:i<n) {v:Value} (_:D i=false) (hv:v=VS.getD i undef):TwoBox w n VS CA CZ CB t (bJ D i) (cI x i v) W:=by
 have k:∀ j,n<=j->bJ D i j=D j:=fun j hj=>by simp[bJ,show j≠i by omega]
 have l:∀ j,n<=j->cI x i v j=x j:=fun j hj=>gh _ _ (by omega)
 refine⟨h.below,fun j hj hd=>?_,?_,?_,?_,?_,?_⟩
 ·by_cases e:j=i
  ·subst e;rw[fJ,hv]
  ·rw[gh _ _ e];exact h.val j hj (by simpa[bJ,e] using hd)
 ·rw[k n (by omega),k (n+2) (by omega),l n (by omega)];exact h.a
 ·rw[k (n+1) (by omega),k (n+3) (by omega),l (n+1) (by omega)];exact h.b
 ·rw[k n (by omega),k (n+1) (by omega),l n (by omega),l (n+1) (by omega)];exact h.ne
 ·rw[k n (by omega),k (n+2) (by omega)];exact h.oa
 ·rw[k (n+1) (by omega),k (n+3) (by omega)];exact h.ob
theorem TwoBox.alloc_a(h:TwoBox w n VS CA CZ CB t D x W) (hD:D n=false):TwoBox w n VS CA CZ CB t (bJ D n) (cI x n (.pointer (some ⟨W.heap.size,0,none⟩))) (W.alloc (.cells CZ t)):=by
 have hz:=h.below.size;have h2:D (n+2)=false:=by cases e:D (n+2) with|false=>rfl|true=>rw[h.oa e]at hD;cases hD
 have k:∀ j,j≠n->bJ D n j=D j:=fun j hj=>by simp[bJ,hj]
 have l:∀ j,j≠n->cI x n (.pointer (some ⟨W.heap.size,0,none⟩)) j=x j:=fun j hj=>gh _ _ hj
 refine⟨h.below.alloc hz _,fun j hj hd=>?_,fun _=>⟨W.heap.size,fJ _ _ _,hz,?_⟩,?_,fun _ hd=>?_,?_,?_⟩
 ·rw[l j (by omega)];exact h.val j hj (by rwa [k j (by omega)]at hd)
 ·rw[k (n+2) (by omega),h2];exact aq _ _
 ·rw[k (n+1) (by omega),k (n+3) (by omega),l (n+1) (by omega)];intro hd;obtain⟨g,g1,g2,g3⟩:=h.b hd;exact⟨g,g1,g2,ar _ g3⟩
 ·rw[k (n+1) (by omega)]at hd;obtain⟨g,g1,g2,g3⟩:=h.b hd;rw[fJ,l (n+1) (by omega),g1];have:=aC g3;intro e;injection e with e;injection e with e;injection e with e;omega
 ·rw[k (n+2) (by omega),h2];intro e;cases e
 ·rw[k (n+1) (by omega),k (n+3) (by omega)];exact h.ob
theorem TwoBox.alloc_b(h:TwoBox w n VS CA CZ CB t D x W) (hD:D (n+1)=false):TwoBox w n VS CA CZ CB t (bJ D (n+1)) (cI x (n+1) (.pointer (some ⟨W.heap.size,0,none⟩))) (W.alloc (.cells CZ t)):=by
 have hz:=h.below.size;have h2:D (n+3)=false:=by cases e:D (n+3) with|false=>rfl|true=>rw[h.ob e]at hD;cases hD
 have k:∀ j,j≠n+1->bJ D (n+1) j=D j:=fun j hj=>by simp[bJ,hj]
 have l:∀ j,j≠n+1->cI x (n+1) (.pointer (some ⟨W.heap.size,0,none⟩)) j=x j:=fun j hj=>gh _ _ hj
 refine⟨h.below.alloc hz _,fun j hj hd=>?_,?_,fun _=>⟨W.heap.size,fJ _ _ _,hz,?_⟩,fun hd _=>?_,?_,?_⟩
 ·rw[l j (by omega)];exact h.val j hj (by rwa [k j (by omega)]at hd)
 ·rw[k n (by omega),k (n+2) (by omega),l n (by omega)];intro hd;obtain⟨g,g1,g2,g3⟩:=h.a hd;exact⟨g,g1,g2,ar _ g3⟩
 ·rw[k (n+3) (by omega),h2];exact aq _ _
 ·rw[k n (by omega)]at hd;obtain⟨g,g1,g2,g3⟩:=h.a hd;rw[fJ,l n (by omega),g1];have:=aC g3;intro e;injection e with e;injection e with e;injection e with e;omega
 ·rw[k n (by omega),k (n+2) (by omega)];exact h.oa
 ·rw[k (n+3) (by omega),h2];intro e;cases e
theorem TwoBox.store_a(h:TwoBox w n VS CA CZ CB t D x W) (ha:D n=true) (_:D (n+2)=false) {g:Nat} (hg:x n=.pointer (some ⟨g,0,none⟩)):TwoBox w n VS CA CZ CB t (bJ D (n+2)) x (W.setRow g CA):=by
 have k:∀ j,j≠n+2->bJ D (n+2) j=D j:=fun j hj=>by simp[bJ,hj]
 obtain⟨g',g1,g2,g3⟩:=h.a ha;obtain rfl:g'=g:=by rw[hg]at g1;injection g1 with e;injection e with e;injection e with e;exact e.symm
 refine⟨uq g2 h.below,fun j hj hd=>h.val j hj (by rwa [k j (by omega)]at hd),fun _=>⟨g',g1,g2,?_⟩,?_,?_,?_,?_⟩
 ·rw[show bJ D (n+2) (n+2)=true by simp[bJ]];exact sh _ _ _ _ _ g3
 ·rw[k (n+1) (by omega),k (n+3) (by omega)];intro hd;obtain⟨g4,q1,q2,q3⟩:=h.b hd;have bM:g4≠g':=fun e=>h.ne ha hd (by rw[g1,q1,e])
  exact⟨g4,q1,q2,by rw[setRow_other _ _ _ _ bM];exact q3⟩
 ·rw[k n (by omega),k (n+1) (by omega)];exact h.ne
 ·rw[k n (by omega)];exact fun _=>ha
 ·rw[k (n+1) (by omega),k (n+3) (by omega)];exact h.ob
theorem TwoBox.store_b(h:TwoBox w n VS CA CZ CB t D x W) (hb:D (n+1)=true) (_:D (n+3)=false) {g:Nat} (hg:x (n+1)=.pointer (some ⟨g,0,none⟩)):TwoBox w n VS CA CZ CB t (bJ D (n+3)) x (W.setRow g CB):=by
 have k:∀ j,j≠n+3->bJ D (n+3) j=D j:=fun j hj=>by simp[bJ,hj]
 obtain⟨g',g1,g2,g3⟩:=h.b hb;obtain rfl:g'=g:=by rw[hg]at g1;injection g1 with e;injection e with e;injection e with e;exact e.symm
 refine⟨uq g2 h.below,fun j hj hd=>h.val j hj (by rwa [k j (by omega)]at hd),?_,fun _=>⟨g',g1,g2,?_⟩,?_,?_,?_⟩
 ·rw[k n (by omega),k (n+2) (by omega)];intro hd;obtain⟨g4,q1,q2,q3⟩:=h.a hd;have bM:g4≠g':=fun e=>h.ne hd hb (by rw[g1,q1,e])
  exact⟨g4,q1,q2,by rw[setRow_other _ _ _ _ bM];exact q3⟩
 ·rw[show bJ D (n+3) (n+3)=true by simp[bJ]];exact sh _ _ _ _ _ g3
 ·rw[k n (by omega),k (n+1) (by omega)];exact h.ne
 ·rw[k n (by omega),k (n+2) (by omega)];exact h.oa
 ·rw[k (n+1) (by omega)];exact fun _=>hb
end
theorem Xc{a b:Nat} (ha:a<1024) (hb:b<1024) (p:Nat):bits .or .i64 (a:Int) (b:Int)=((a ||| b:Nat):Int)/\hasB ((a ||| b:Nat):Int) p=(hasB (a:Int) p || hasB (b:Int) p):=by
 refine⟨xl _ _ (by omega) (by omega),?_⟩;rw[oD _ (by omega),oD _ (by omega),oD _ (by omega),Int.toNat_natCast,Int.toNat_natCast,Int.toNat_natCast,Nat.testBit_or]
theorem L0{s:Sys} (hs:SysOk s) {e:Nat} (he:e<eS s):∃ a:Nat,fltS s e=a/\a<1024:=by
 have hn:=hs.n;have vB:=hs.flt e he;refine⟨(fltS s e).toNat,by omega,?_⟩;have h3:((2:Int) ^ nS s)=(((2:Nat) ^ nS s:Nat):Int):=by simp
 have h2:=vB.2;rw[h3]at h2;have h4:(2:Nat) ^ nS s<=2 ^ 5:=Nat.pow_le_pow_right (by omega) hn.2.1;omega
theorem LA(s:Sys) (hs:SysOk s) (B e f:Nat) (he:e<eS s) (hf:f<eS s) (w:World) (gj:ScAt w B s) :
  Calls Tryz.prog 97 #[.pointer (some ⟨B,0,none⟩),.int .i64 (e:Nat),.int .i64 (f:Nat)] w fun r w'=>r=.returned (.int .i64 (maskN (fun p=>linkB s p e f) (nS s):Nat))/\Below w.heap.size w w':=by
 obtain⟨qc,qs,qt,qe,qv,ql,q1,q2,_,_⟩:=gj.ex;obtain⟨b,o,_,ce,rfl,rfl,pw,nw,cw,pv,cv,c1,c2,c3,mS,eU,hZ,b2,o2,pr,cr,rfl,c4,bQ⟩:=gX hs q2.ex he;obtain⟨b',o',_,ce',e0,rfl,pw',nw',cw',pv',cv',d1,d2,d3,Oa,qX,uS,b3,o3,pr',cr',rfl,d4,m8⟩:=gX hs q2.ex hf;injection e0 with e1 e2 e3
 injection e1 with e1
 injection e1 with e1 e4
 subst e1 e4 e3;clear e2;have hn:=hs.n;obtain⟨rr,tt⟩:∃ rr:Nat,s.prob.rounds=rr:=⟨s.prob.rounds.toNat,by have:=hs.rounds.1;omega⟩;have Ac:s.prob.rounds.toNat=rr:=by omega
 have rl:rr<=6:=by have:=hs.rounds;omega
 rw[Ac]at mS Oa c3 c4 d3 d4;have mS:=mS.symm;have Oa:=Oa.symm;subst mS;subst Oa;have T6:am (w.cell? ⟨B,6,none⟩=some (.int .i64 (rr:Nat))):=aa ((ab q1 6).trans (by rw[<-tt];rfl));have T7:am (w.cell? ⟨B,7,none⟩=some (.int .i64 (nS s:Nat))):=aa ((ab q1 7).trans (by rw[<-hn.2.2.1];rfl));have T9:am (w.cell? ⟨B,9,none⟩=some (.slice (some ⟨b,o,none⟩) (eS s) ce)):=aa ((ab q1 9).trans rfl);have C1:=aa c1;have C2:=aa c2;have C3:=aa c3;have C4:=aa c4;have D1:=aa d1;have D2:=aa d2;have D3:=aa d3;have D4:=aa d4;obtain⟨fa,EN,hfa2⟩:=L0 hs he;obtain⟨fb,Ya,hfb2⟩:=L0 hs hf;have HK:am (∀ p,linkB s p e f=(!(hasB (fa:Int) p || hasB (fb:Int) p)&&decide (finS s e p=finS s f p))):=aa (fun p=>by unfold linkB;rw[EN,Ya,Bool.not_or]);obtain⟨pr2,cr2,e4,erow⟩:=df bQ;injection e4 with e41 e42 e43
 subst e41 e43;obtain⟨pr3,cr3,e5,erow'⟩:=df m8;injection e5 with e51 e52 e53
 subst e51 e53;clear e42 e52
 have R1:am (∀ p,p<nS s->∃ b o,pr=some ⟨b,o,none⟩/\w.cell? ⟨b,o+p,none⟩=some (.int .i64 (finS s e p))):=aa (fun p hp=>by
  obtain⟨b,o,e1,h1⟩:=erow p (by simpa using hp);rw[mH hp]at h1
  exact⟨b,o,e1,h1⟩)
 have R2:am (∀ p,p<nS s->∃ b o,pr'=some ⟨b,o,none⟩/\w.cell? ⟨b,o+p,none⟩=some (.int .i64 (finS s f p))):=aa (fun p hp=>by
  obtain⟨b,o,e1,h1⟩:=erow' p (by simpa using hp);rw[mH hp]at h1
  exact⟨b,o,e1,h1⟩)
 rw[EN]at eU hZ;rw[Ya]at qX uS;have MI:=aa eU;have HF0:=aa hZ;have pE:=aa qX;have HG0:=aa uS;have HM:=aa (gd (fun p=>linkB s p e f));have Hb:=aa (fun k=>@zn (fun p=>linkB s p e f) k);have xb:=aa (fun k=>@sa (fun p=>linkB s p e f) k);have gK:nS s<=5:=hn.2.1;generalize hm:eS s=m at *;generalize fj:nS s=n at *;clear q1 q2 c1 c2 c3 c4 d1 d2 d3 d4 bQ m8 eU hZ qX uS tt Ac EN Ya gj hn hm fj hs erow erow'
 go_enter Tryz.func97,Tryz.ntmps97
 go_wp2_with fail
 obtain⟨VS,Ec⟩:∃ VS:List Value,VS=[.pointer (some ⟨B,0,none⟩),.pointer (some ⟨B,0,none⟩),.pointer (some ⟨B,0,none⟩),.pointer (some ⟨B,9,none⟩),.slice (some ⟨b,o,none⟩) m ce,.int .i64 (e:Nat),.pointer (some ⟨b,o+e * 3,none⟩),.agg #[.int .i64 (cN s e).c,.slice pw rr cw,.slice (some ⟨b2,o2,none⟩) (rr+1) cv],.pointer (some ⟨B,0,none⟩),.pointer (some ⟨B,0,none⟩),.pointer (some ⟨B,0,none⟩),.pointer (some ⟨B,9,none⟩),.slice (some ⟨b,o,none⟩) m ce,.int .i64 (f:Nat),.pointer (some ⟨b,o+f * 3,none⟩),.agg #[.int .i64 (cN s f).c,.slice pw' rr cw',.slice (some ⟨b3,o3,none⟩) (rr+1) cv']]:=⟨_,rfl⟩;have hS:List.Nodup [14,15,16,17,18,19,20,21,22,23,24,25,26,27,28,29,8,9]:=by decide
 refine qg 20 [14,15,16,17,18,19,20,21,22,23,24,25,26,27,28,29,8,9] (TwoBox w 16 VS #[.int .i64 (cN s e).c,.slice pw rr cw,.slice (some ⟨b2,o2,none⟩) (rr+1) cv] #[.int .i64 0,.slice none 0 0,.slice none 0 0] #[.int .i64 (cN s f).c,.slice pw' rr cw',.slice (some ⟨b3,o3,none⟩) (rr+1) cv'] 89) (by kernel_rfl) rfl hS (by kernel_rfl) (fun x=>TwoBox.start (by go_grown)) ?step ?free ?last
 case step=>
  intro x W D i o' s' F ho wG hD ap hc hF;have hi:i<18:=(List.getElem?_eq_some_iff.1 wG).1;rcases (show i=0\/i=1\/i=2\/i=3\/i=4\/i=5\/i=6\/i=7\/i=8\/i=9\/i=10\/i=11\/i=12\/i=13\/i=14\/i=15\/i=16\/i=17 by omega) with rfl|rfl|rfl|rfl|rfl|rfl|rfl|rfl|rfl|rfl|rfl|rfl|rfl|rfl|rfl|rfl|rfl|rfl
  all_goals (obtain rfl:=dp ho.symm;obtain rfl:=dp wG.symm;clear hi ho wG;subst Ec)
  ·obtain⟨e0,f0⟩:=cK hF 0 (.pointer (some ⟨B,0,none⟩)) (by decide) rfl;clear hF ap
   go_wp2_with fail
   exact dF.mk (.pointer (some ⟨B,0,none⟩)) (hc.set 0 (by omega) hD rfl) rfl
  ·obtain⟨e0,f0⟩:=aQ hF 0 14 (.pointer (some ⟨B,0,none⟩)) hS rfl (by kernel_rfl) (hc.val 0 (by omega) (ap ⟨0,.data⟩ (by simp) rfl));clear hF ap
   go_wp2_with fail
   exact dF.mk (.pointer (some ⟨B,0,none⟩)) (hc.set 1 (by omega) hD rfl) rfl
  ·obtain⟨e1,f1⟩:=aQ hF 1 15 (.pointer (some ⟨B,0,none⟩)) hS rfl (by kernel_rfl) (hc.val 1 (by omega) (ap ⟨1,.data⟩ (by simp) rfl));clear hF ap
   go_wp2_with fail
   exact dF.mk (.pointer (some ⟨B,0,none⟩)) (hc.set 2 (by omega) hD rfl) rfl
  ·obtain⟨e2,f2⟩:=aQ hF 2 16 (.pointer (some ⟨B,0,none⟩)) hS rfl (by kernel_rfl) (hc.val 2 (by omega) (ap ⟨2,.data⟩ (by simp) rfl));clear hF ap
   go_wp2_with fail
   exact dF.mk (.pointer (some ⟨B,9,none⟩)) (hc.set 3 (by omega) hD rfl) rfl
  ·obtain⟨e3,f3⟩:=aQ hF 3 17 (.pointer (some ⟨B,9,none⟩)) hS rfl (by kernel_rfl) (hc.val 3 (by omega) (ap ⟨3,.data⟩ (by simp) rfl));have t9:=ak hc.below T9.o;clear hF ap
   go_wp2_with fail
   exact dF.mk (.slice (some ⟨b,o,none⟩) m ce) (hc.set 4 (by omega) hD rfl) rfl
  ·obtain⟨e0,f0⟩:=cK hF 1 (.int .i64 (e:Nat)) (by decide) rfl;clear hF ap
   go_wp2_with fail
   exact dF.mk (.int .i64 (e:Nat)) (hc.set 5 (by omega) hD rfl) rfl
  ·obtain⟨e4,f4⟩:=aQ hF 4 18 (.slice (some ⟨b,o,none⟩) m ce) hS rfl (by kernel_rfl) (hc.val 4 (by omega) (ap ⟨4,.data⟩ (by simp) rfl));obtain⟨e5,f5⟩:=aQ hF 5 19 (.int .i64 (e:Nat)) hS rfl (by kernel_rfl) (hc.val 5 (by omega) (ap ⟨5,.data⟩ (by simp) rfl));clear hF ap
   go_wp2_with fail
   exact dF.mk (.pointer (some ⟨b,o+e * 3,none⟩)) (hc.set 6 (by omega) hD rfl) rfl
  ·obtain⟨e6,f6⟩:=aQ hF 6 20 (.pointer (some ⟨b,o+e * 3,none⟩)) hS rfl (by kernel_rfl) (hc.val 6 (by omega) (ap ⟨6,.data⟩ (by simp) rfl));have u1:=ak hc.below C1.o;have u2:=ak hc.below C2.o;have u3:=ak hc.below C3.o;clear hF ap
   go_wp2_with fail
   exact dF.mk (.agg #[.int .i64 (cN s e).c,.slice pw rr cw,.slice (some ⟨b2,o2,none⟩) (rr+1) cv]) (hc.set 7 (by omega) hD rfl) rfl
  ·obtain⟨e0,f0⟩:=cK hF 0 (.pointer (some ⟨B,0,none⟩)) (by decide) rfl;clear hF ap
   go_wp2_with fail
   exact dF.mk (.pointer (some ⟨B,0,none⟩)) (hc.set 8 (by omega) hD rfl) rfl
  ·obtain⟨e8,f8⟩:=aQ hF 8 22 (.pointer (some ⟨B,0,none⟩)) hS rfl (by kernel_rfl) (hc.val 8 (by omega) (ap ⟨8,.data⟩ (by simp) rfl));clear hF ap
   go_wp2_with fail
   exact dF.mk (.pointer (some ⟨B,0,none⟩)) (hc.set 9 (by omega) hD rfl) rfl
  ·obtain⟨e9,f9⟩:=aQ hF 9 23 (.pointer (some ⟨B,0,none⟩)) hS rfl (by kernel_rfl) (hc.val 9 (by omega) (ap ⟨9,.data⟩ (by simp) rfl));clear hF ap
   go_wp2_with fail
   exact dF.mk (.pointer (some ⟨B,0,none⟩)) (hc.set 10 (by omega) hD rfl) rfl
  ·obtain⟨e10,f10⟩:=aQ hF 10 24 (.pointer (some ⟨B,0,none⟩)) hS rfl (by kernel_rfl) (hc.val 10 (by omega) (ap ⟨10,.data⟩ (by simp) rfl));clear hF ap
   go_wp2_with fail
   exact dF.mk (.pointer (some ⟨B,9,none⟩)) (hc.set 11 (by omega) hD rfl) rfl
  ·obtain⟨e11,f11⟩:=aQ hF 11 25 (.pointer (some ⟨B,9,none⟩)) hS rfl (by kernel_rfl) (hc.val 11 (by omega) (ap ⟨11,.data⟩ (by simp) rfl));have t9:=ak hc.below T9.o;clear hF ap
   go_wp2_with fail
   exact dF.mk (.slice (some ⟨b,o,none⟩) m ce) (hc.set 12 (by omega) hD rfl) rfl
  ·obtain⟨e0,f0⟩:=cK hF 2 (.int .i64 (f:Nat)) (by decide) rfl;clear hF ap
   go_wp2_with fail
   exact dF.mk (.int .i64 (f:Nat)) (hc.set 13 (by omega) hD rfl) rfl
  ·obtain⟨e12,f12⟩:=aQ hF 12 26 (.slice (some ⟨b,o,none⟩) m ce) hS rfl (by kernel_rfl) (hc.val 12 (by omega) (ap ⟨12,.data⟩ (by simp) rfl));obtain⟨e13,f13⟩:=aQ hF 13 27 (.int .i64 (f:Nat)) hS rfl (by kernel_rfl) (hc.val 13 (by omega) (ap ⟨13,.data⟩ (by simp) rfl));clear hF ap
   go_wp2_with fail
   exact dF.mk (.pointer (some ⟨b,o+f * 3,none⟩)) (hc.set 14 (by omega) hD rfl) rfl
  ·obtain⟨e14,f14⟩:=aQ hF 14 28 (.pointer (some ⟨b,o+f * 3,none⟩)) hS rfl (by kernel_rfl) (hc.val 14 (by omega) (ap ⟨14,.data⟩ (by simp) rfl));have u1:=ak hc.below D1.o;have u2:=ak hc.below D2.o;have u3:=ak hc.below D3.o;clear hF ap
   go_wp2_with fail
   exact dF.mk (.agg #[.int .i64 (cN s f).c,.slice pw' rr cw',.slice (some ⟨b3,o3,none⟩) (rr+1) cv']) (hc.set 15 (by omega) hD rfl) rfl
  ·clear hF ap
   go_wp2_with fail
   exact dF.mk (.pointer (some ⟨W.heap.size,0,none⟩)) (hc.alloc_a hD) rfl
  ·clear hF ap
   go_wp2_with fail
   exact dF.mk (.pointer (some ⟨W.heap.size,0,none⟩)) (hc.alloc_b hD) rfl
 case free=>
  intro x W D i o' F ho h6 h8 hD ap hc hF;rcases (show i=18\/i=19 by simp at h6;omega) with rfl|rfl
  ·obtain rfl:=dp ho.symm;have g7:=hc.val 7 (by omega) (ap ⟨7,.data⟩ (by simp) rfl);have gA:=ap ⟨16,.data⟩ (by simp) rfl;obtain⟨g,g1,g2,g3⟩:=hc.a gA;rw[hD]at g3;obtain⟨e7,_⟩:=aQ hF 7 21 (.agg #[.int .i64 (cN s e).c,.slice pw rr cw,.slice (some ⟨b2,o2,none⟩) (rr+1) cv]) hS rfl (by kernel_rfl) (by rw[g7,Ec];rfl);obtain⟨e8,_⟩:=aQ hF 16 8 (.pointer (some ⟨g,0,none⟩)) hS rfl (by kernel_rfl) g1;refine wpList_store_row rfl 89 (.tmp 8) (.tmp 21) rfl g #[.int .i64 (cN s e).c,.slice pw rr cw,.slice (some ⟨b2,o2,none⟩) (rr+1) cv] e8 e7 89 _ g3 (by kernel_rfl) (by kernel_rfl) (by simp[Value.oneCell']) ?_;exact⟨rfl,hc.store_a gA hD g1⟩
  ·obtain rfl:=dp ho.symm;have g7:=hc.val 15 (by omega) (ap ⟨15,.data⟩ (by simp) rfl);have gA:=ap ⟨17,.data⟩ (by simp) rfl;obtain⟨g,g1,g2,g3⟩:=hc.b gA;rw[hD]at g3;obtain⟨e7,_⟩:=aQ hF 15 29 (.agg #[.int .i64 (cN s f).c,.slice pw' rr cw',.slice (some ⟨b3,o3,none⟩) (rr+1) cv']) hS rfl (by kernel_rfl) (by rw[g7,Ec];rfl);obtain⟨e8,_⟩:=aQ hF 17 9 (.pointer (some ⟨g,0,none⟩)) hS rfl (by kernel_rfl) g1;refine wpList_store_row rfl 89 (.tmp 9) (.tmp 29) rfl g #[.int .i64 (cN s f).c,.slice pw' rr cw',.slice (some ⟨b3,o3,none⟩) (rr+1) cv'] e8 e7 89 _ g3 (by kernel_rfl) (by kernel_rfl) (by simp[Value.oneCell']) ?_;exact⟨rfl,hc.store_b gA hD g1⟩
 case last=>
  intro x W1 D F aU hc hF;obtain⟨g1,a1,a2,a3⟩:=hc.a (aU 16 (by omega));obtain⟨g2,z1,z2,z3⟩:=hc.b (aU 17 (by omega));rw[aU 18 (by omega)]at a3;rw[aU 19 (by omega)]at z3;have bK:=aa hc.below;have pE:=aa a3;have sP:=aa z3;clear hc aU Ec hS a2 a3 z2 z3;simp only[bz,cT,List.setIfInBounds_toArray,List.set_cons_succ,List.set_cons_zero,Nat.reduceAdd]at hF;simp only[a1,z1]at hF;generalize x 0=s0,x 1=s1,x 2=s2,x 3=s3,x 4=s4,x 5=s5,x 6=s6,x 7=s7,x 8=s8,x 9=s9,x 10=s10,x 11=s11,x 12=s12,x 13=s13,x 14=s14,x 15=s15 at hF;subst hF;clear a1 z1;have t7:=ak bK.o T7.o
  go_wp2_with fail
  clear t7
  go_loopw [7,36] (fun v i wr=>∃ k:Nat,k<=n/\i=.int .i64 k/\v=.int .i64 (maskN (fun p=>linkB s p e f) k:Nat)/\Below w.heap.size w wr/\wr.heap[g1]?=some (.cells #[.int .i64 (cN s e).c,.slice pw rr cw,.slice (some ⟨b2,o2,none⟩) (rr+1) cv] 89)/\wr.heap[g2]?=some (.cells #[.int .i64 (cN s f).c,.slice pw' rr cw',.slice (some ⟨b3,o3,none⟩) (rr+1) cv'] 89)) (fun _ i _=>n - (intOf i).toNat)
  ·exact⟨0,by omega,rfl,rfl,bK.o,pE.o,sP.o⟩
  ·
   clear bK pE sP;obtain⟨k,hk,rfl,rfl,az,ha,hc⟩:=hrel;have aP:=aa az;have HA:=aa ha;have HC:=aa hc;by_cases aB:k<n
   ·have fT:maskN (fun p=>linkB s p e f) k<1024:=by
     have h1:=HM.o k;have h2:(2:Nat) ^ k<=2 ^ 5:=Nat.pow_le_pow_right (by omega) (by omega);omega
    obtain⟨b6,o6,rfl,c6⟩:=R1.o k aB;obtain⟨b7,o7,rfl,c7⟩:=R2.o k aB;have HL:=aa (HK.o k);obtain⟨xe,sW⟩:∃ xe,finS s e k=xe:=⟨_,rfl⟩;obtain⟨xf,hxf⟩:∃ xf,finS s f k=xf:=⟨_,rfl⟩;rw[sW]at c6 HL;rw[hxf]at c7 HL;have tA:=ab ha;have tB:=ab hc;have t6:=ak az T6.o;have y4:∀ z:ExtW wr,z.val.cell? ⟨b2,o2+rr,none⟩=_:=fun z=>ak (ae aP.o z.ext) C4.o
    have y5:∀ z:ExtW wr,z.val.cell? ⟨b3,o3+rr,none⟩=_:=fun z=>ak (ae aP.o z.ext) D4.o
    have y6:∀ z:ExtW wr,z.val.cell? ⟨b6,o6+k,none⟩=_:=fun z=>ak (ae aP.o z.ext) c6
    have y7:∀ z:ExtW wr,z.val.cell? ⟨b7,o7+k,none⟩=_:=fun z=>ak (ae aP.o z.ext) c7
    have yA:∀ z:ExtW wr,∀ j,z.val.cell? ⟨g1,j,none⟩=_:=fun z=>ab (af z.ext HA.o)
    have yB:∀ z:ExtW wr,∀ j,z.val.cell? ⟨g2,j,none⟩=_:=fun z=>ab (af z.ext HC.o)
    clear az ha hc c6 c7 sW hxf;generalize R5:maskN (fun p=>linkB s p e f) k=mk at fT ⊢;by_cases h0:rr=0
    ·have e1:=HF0.o h0;have e2:=HG0.o h0;have e1:fa=0:=by omega
     have e2:fb=0:=by omega
     subst h0 e1 e2;have HL:am (linkB s k e f=(!hasB (0:Int) k&&decide (xe=xf))):=aa (by rw[HL.o];simp);simp only[Nat.add_zero]at y4 y5;clear MI pE HF0 HG0;have gP:(bits .and .i64 0 1 == 0)=true:=by decide
     have hh:hasB (0:Int) k=false:=by unfold hasB;simp
     have ES:am (linkB s k e f=decide (xe=xf)):=aa (by rw[HL.o,hh];rfl);clear hh;by_cases hx:xe=xf
     ·subst hx;have HB:am (linkB s k e f=true):=aa (by rw[ES.o];simp);clear ES
      go_wp2_with fail
      refine aD (by kernel_rfl) (by kernel_rfl) ?_
      repeat (go_big_quiet_step (fail))
      refine wpQuiet_nil ?_;rintro _ ⟨xq,rfl⟩;have bT:=aa xq.ext;clear t6 yA yB y4 y5 y6 y7
      go_wp2_with fail
      go_roundw
      ·exact⟨k+1,by omega,by go_num,qK (by rw[<-Hb.o k HB.o,R5];exact vM (by omega) (by omega)),ae aP.o bT.o,af bT.o HA.o,af bT.o HC.o⟩
      ·simp[intOf];omega
     ·have dL:(xe == xf)=false:=by simpa using hx
      have eA:decide (xe=xf)=false:=decide_eq_false hx;have HB:am (linkB s k e f=false):=aa (by rw[ES.o,eA]);clear hx
      go_wp2_with fail
      refine aD (by kernel_rfl) (by kernel_rfl) ?_
      repeat (go_big_quiet_step (fail))
      refine wpQuiet_nil ?_;rintro _ ⟨xq,rfl⟩;have bT:=aa xq.ext;clear t6 yA yB y4 y5 y6 y7
      go_wp2_with fail
      go_roundw
      ·exact⟨k+1,by omega,by go_num,by rw[<-xb.o k HB.o,R5],ae aP.o bT.o,af bT.o HA.o,af bT.o HC.o⟩
      ·simp[intOf];omega
    ·obtain⟨q,rfl⟩:∃ q,rr=q+1:=⟨rr - 1,by omega⟩;obtain⟨b8,o8,rfl,c8⟩:=MI.o (by omega);obtain⟨b9,o9,rfl,c9⟩:=pE.o (by omega);rw[Nat.add_sub_cancel]at c8 c9;have t8:∀ z:ExtW wr,z.val.cell? ⟨b8,o8+q * 7+6,none⟩=_:=fun z=>ak (ae aP.o z.ext) c8
     have t9:∀ z:ExtW wr,z.val.cell? ⟨b9,o9+q * 7+6,none⟩=_:=fun z=>ak (ae aP.o z.ext) c9
     obtain⟨Rh,KK⟩:=Xc hfa2 hfb2 k;rw[<-KK]at HL;clear c8 c9 KK
     go_wp2_with fail
     refine aD (by kernel_rfl) (by kernel_rfl) ?_
     repeat (go_big_quiet_step (fail))
     refine wpQuiet_nil ?_;rintro _ ⟨x9,rfl⟩;have t6:=ak x9.ext t6;have y4:=fun z:ExtW x9.val=>y4 ⟨z.val,ae x9.ext z.ext⟩
     have y5:=fun z:ExtW x9.val=>y5 ⟨z.val,ae x9.ext z.ext⟩
     have y6:=fun z:ExtW x9.val=>y6 ⟨z.val,ae x9.ext z.ext⟩
     have y7:=fun z:ExtW x9.val=>y7 ⟨z.val,ae x9.ext z.ext⟩
     have yA:=fun (z:ExtW x9.val) j=>yA ⟨z.val,ae x9.ext z.ext⟩ j
     have yB:=fun (z:ExtW x9.val) j=>yB ⟨z.val,ae x9.ext z.ext⟩ j
     dsimp only at y4 y5 y6 y7 yA yB;clear t8 t9 tA tB;have gP:=tY (((fa ||| fb:Nat):Int)) k;cases hh:hasB (((fa ||| fb:Nat):Int)) k with
     | true=>
      have HB:am (linkB s k e f=false):=aa (by rw[HL.o,hh];rfl);rw[hh]at gP;clear hh
      go_wp2_with fail
      refine aD (by kernel_rfl) (by kernel_rfl) ?_
      repeat (go_big_quiet_step (fail))
      refine wpQuiet_nil ?_;rintro _ ⟨xq,rfl⟩;have bT:=aa (ae x9.ext xq.ext);clear t6 yA yB y4 y5 y6 y7
      go_wp2_with fail
      go_roundw
      ·exact⟨k+1,by omega,by go_num,by rw[<-xb.o k HB.o,R5],ae aP.o bT.o,af bT.o HA.o,af bT.o HC.o⟩
      ·simp[intOf];omega
     | false=>
      rw[hh]at gP;have ES:am (linkB s k e f=decide (xe=xf)):=aa (by rw[HL.o,hh];rfl);clear hh;by_cases hx:xe=xf
      ·subst hx;have HB:am (linkB s k e f=true):=aa (by rw[ES.o];simp);clear ES
       go_wp2_with fail
       refine aD (by kernel_rfl) (by kernel_rfl) ?_
       repeat (go_big_quiet_step (fail))
       refine wpQuiet_nil ?_;rintro _ ⟨xq,rfl⟩;have bT:=aa (ae x9.ext xq.ext);clear t6 yA yB y4 y5 y6 y7
       go_wp2_with fail
       go_roundw
       ·exact⟨k+1,by omega,by go_num,qK (by rw[<-Hb.o k HB.o,R5];exact vM (by omega) (by omega)),ae aP.o bT.o,af bT.o HA.o,af bT.o HC.o⟩
       ·simp[intOf];omega
      ·have dL:(xe == xf)=false:=by simpa using hx
       have eA:decide (xe=xf)=false:=decide_eq_false hx;have HB:am (linkB s k e f=false):=aa (by rw[ES.o,eA]);clear hx
       go_wp2_with fail
       refine aD (by kernel_rfl) (by kernel_rfl) ?_
       repeat (go_big_quiet_step (fail))
       refine wpQuiet_nil ?_;rintro _ ⟨xq,rfl⟩;have bT:=aa (ae x9.ext xq.ext);clear t6 yA yB y4 y5 y6 y7
       go_wp2_with fail
       go_roundw
       ·exact⟨k+1,by omega,by go_num,by rw[<-xb.o k HB.o,R5],ae aP.o bT.o,af bT.o HA.o,af bT.o HC.o⟩
       ·simp[intOf];omega
   ·obtain rfl:k=n:=by omega
    clear az ha hc
    go_wp2_with fail
    go_ret
    exact⟨rfl,aP.o⟩
theorem QJ(t:Tk) (va vb:Value) (w:World) (ha:bS w va t.cases) (hb:bS w vb t.cases) :
  Calls Tryz.prog 181 #[.agg #[.int .i64 t.n,.int .i64 t.ins,.int .i64 t.outs,va],.agg #[.int .i64 t.n,.int .i64 t.ins,.int .i64 t.outs,vb]] w fun e w'=>e=.returned (.bool true)/\Below w.heap.size w w':=by
 obtain⟨pa,ca,rfl,la1,la2,ea⟩:=ha.at;obtain⟨pb,cb,rfl,lb1,lb2,eb⟩:=hb.at;have EA:=aa ea;have EB:=aa eb;clear ha hb ea eb;obtain⟨tn,ti,to,l⟩:=t;dsimp only at EA EB la1 la2 lb1 lb2 ⊢;obtain⟨m,hm⟩:∃ m,l.length=m:=⟨_,rfl⟩;have HM:=aa hm;rw[hm]at la1 la2 lb1 lb2 ⊢;clear hm;have GK:(tn != tn)=false:=by simp
 have gM:(ti != ti)=false:=by simp
 have rf:(to != to)=false:=by simp
 have hd:((m:Int) != (m:Int))=false:=by simp
 go_enter Tryz.func181,Tryz.ntmps181
 go_wp2_with fail
 refine bu (fun W=>Below w.heap.size w W/\W.heap[w.heap.size]?=some (.cells #[.int .i64 tn,.int .i64 ti,.int .i64 to,.slice pa m ca] 24)/\W.heap[w.heap.size+1]?=some (.cells #[.int .i64 tn,.int .i64 ti,.int .i64 to,.slice pb m cb] 24)) ⟨by go_grown,ar _ (aq _ _),by have h:=aq (w.alloc (.cells #[.int .i64 tn,.int .i64 ti,.int .i64 to,.slice pa m ca] 24)) (.cells #[.int .i64 tn,.int .i64 ti,.int .i64 to,.slice pb m cb] 24);simpa using h⟩ (fun W0 aZ=>?_);obtain⟨aI,bI,nR⟩:=aZ;have ed:=aa aI;have jm:=aa bI;have nZ:=aa nR;clear aI bI nR
 go_loopw [5] (fun i wr=>∃ k:Nat,k<=m/\i=.int .i64 k/\Below W0.heap.size W0 wr) (fun i _=>m - (intOf i).toNat)
 ·exact⟨0,by omega,rfl,Below.refl _ _⟩
 ·
  obtain⟨k,hk,rfl,az⟩:=hrel;have aP:=aa az;have bT:=aa (ae ed.o az);clear az;have HAA:=aa (af aP.o jm.o);have pQ:=aa (af aP.o nZ.o);have tA:=ab HAA.o;by_cases aB:k<m
  ·obtain⟨b1,o1,rfl,⟨x0,cx0,dj⟩,⟨x1,cx1,dL⟩,⟨x2,cx2,eA⟩⟩:=EA.o k (by rw[HM.o];exact aB);obtain⟨b2,o2,rfl,⟨y0,cy0,jl⟩,⟨y1,cy1,jj⟩,⟨y2,cy2,iR⟩⟩:=EB.o k (by rw[HM.o];exact aB);generalize l[k]'(by rw[HM.o];exact aB)=c at dj dL eA jl jj iR;have KC:=aa (fun W (h:Below wr.heap.size wr W)=>l7 x0 y0 c.inp c.inp W (dj.up up_int (ae bT.o h)) (jl.up up_int (ae bT.o h)));rw[tJ]at KC;have dR:=aa (fun W (h:Below wr.heap.size wr W)=>Gv x1 y1 c.out W (dL.up up_ints (ae bT.o h)) (jj.up up_ints (ae bT.o h)));have lh:=aa (fun W (h:Below wr.heap.size wr W)=>Gv x2 y2 c.calm W (eA.up up_ints (ae bT.o h)) (iR.up up_ints (ae bT.o h)));obtain⟨p0,c0,rfl,_,_,_⟩:=dj.at;obtain⟨p1,c1,rfl,_,_,_⟩:=dL.at;obtain⟨p2,c2,rfl,_,_,_⟩:=eA.at;obtain⟨q0,d0,rfl,_,_,_⟩:=jl.at;obtain⟨q1,d1,rfl,_,_,_⟩:=jj.at;obtain⟨q2,d2,rfl,_,_,_⟩:=iR.at;clear dj dL eA jl jj iR;generalize c.inp.length=n0,c.out.length=n1,c.calm.length=n2 at cx0 cx1 cx2 cy0 cy1 cy2 KC dR lh;have C0:=aa (ak bT.o cx0);have C1:=aa (ak bT.o cx1);have C2:=aa (ak bT.o cx2);have D0:=aa (ak bT.o cy0);have D1:=aa (ak bT.o cy1);have D2:=aa (ak bT.o cy2);clear cx0 cx1 cx2 cy0 cy1 cy2
   go_wp2_with fail
   clear tA;obtain⟨VS,Ec⟩:∃ VS:List Value,VS=[.pointer (some ⟨w.heap.size,3,none⟩),.slice (some ⟨b1,o1,none⟩) m ca,.int .i64 (k:Nat),.pointer (some ⟨b1,o1+k * 3,none⟩),.agg #[.slice p0 n0 c0,.slice p1 n1 c1,.slice p2 n2 c2],.pointer (some ⟨w.heap.size+1,3,none⟩),.slice (some ⟨b2,o2,none⟩) m cb,.int .i64 (k:Nat),.pointer (some ⟨b2,o2+k * 3,none⟩),.agg #[.slice q0 n0 d0,.slice q1 n1 d1,.slice q2 n2 d2]]:=⟨_,rfl⟩;have hS:List.Nodup [43,44,45,46,47,48,49,50,51,52,6,7]:=by decide
   refine qg 14 [43,44,45,46,47,48,49,50,51,52,6,7] (TwoBox wr 10 VS #[.slice p0 n0 c0,.slice p1 n1 c1,.slice p2 n2 c2] #[.slice none 0 0,.slice none 0 0,.slice none 0 0] #[.slice q0 n0 d0,.slice q1 n1 d1,.slice q2 n2 d2] 135) (by kernel_rfl) rfl hS (by kernel_rfl) (fun x=>TwoBox.start (by go_grown)) ?step ?free ?last
   case step=>
    intro x W D i o' s' F ho wG hD ap hc hF;have hi:i<12:=(List.getElem?_eq_some_iff.1 wG).1;rcases (show i=0\/i=1\/i=2\/i=3\/i=4\/i=5\/i=6\/i=7\/i=8\/i=9\/i=10\/i=11 by omega) with rfl|rfl|rfl|rfl|rfl|rfl|rfl|rfl|rfl|rfl|rfl|rfl
    all_goals (obtain rfl:=dp ho.symm;obtain rfl:=dp wG.symm;clear hi ho wG;subst Ec)
    ·obtain⟨e0,f0⟩:=cK hF 2 (.pointer (some ⟨w.heap.size,0,none⟩)) (by decide) rfl;clear hF ap
     go_wp2_with fail
     exact dF.mk (.pointer (some ⟨w.heap.size,3,none⟩)) (hc.set 0 (by omega) hD rfl) rfl
    ·obtain⟨e0,f0⟩:=aQ hF 0 43 (.pointer (some ⟨w.heap.size,3,none⟩)) hS rfl (by kernel_rfl) (hc.val 0 (by omega) (ap ⟨0,.data⟩ (by simp) rfl));have t9:=ab (af hc.below HAA.o);clear hF ap
     go_wp2_with fail
     exact dF.mk (.slice (some ⟨b1,o1,none⟩) m ca) (hc.set 1 (by omega) hD rfl) rfl
    ·obtain⟨e0,f0⟩:=cK hF 5 (.int .i64 (k:Nat)) (by decide) rfl;clear hF ap
     go_wp2_with fail
     exact dF.mk (.int .i64 (k:Nat)) (hc.set 2 (by omega) hD rfl) rfl
    ·obtain⟨e1,f1⟩:=aQ hF 1 44 (.slice (some ⟨b1,o1,none⟩) m ca) hS rfl (by kernel_rfl) (hc.val 1 (by omega) (ap ⟨1,.data⟩ (by simp) rfl));obtain⟨e2,f2⟩:=aQ hF 2 45 (.int .i64 (k:Nat)) hS rfl (by kernel_rfl) (hc.val 2 (by omega) (ap ⟨2,.data⟩ (by simp) rfl));clear hF ap
     go_wp2_with fail
     exact dF.mk (.pointer (some ⟨b1,o1+k * 3,none⟩)) (hc.set 3 (by omega) hD rfl) rfl
    ·obtain⟨e3,f3⟩:=aQ hF 3 46 (.pointer (some ⟨b1,o1+k * 3,none⟩)) hS rfl (by kernel_rfl) (hc.val 3 (by omega) (ap ⟨3,.data⟩ (by simp) rfl));have u1:=ak hc.below C0.o;have u2:=ak hc.below C1.o;have u3:=ak hc.below C2.o;clear hF ap
     go_wp2_with fail
     exact dF.mk (.agg #[.slice p0 n0 c0,.slice p1 n1 c1,.slice p2 n2 c2]) (hc.set 4 (by omega) hD rfl) rfl
    ·obtain⟨e0,f0⟩:=cK hF 3 (.pointer (some ⟨w.heap.size+1,0,none⟩)) (by decide) rfl;clear hF ap
     go_wp2_with fail
     exact dF.mk (.pointer (some ⟨w.heap.size+1,3,none⟩)) (hc.set 5 (by omega) hD rfl) rfl
    ·obtain⟨e5,f5⟩:=aQ hF 5 48 (.pointer (some ⟨w.heap.size+1,3,none⟩)) hS rfl (by kernel_rfl) (hc.val 5 (by omega) (ap ⟨5,.data⟩ (by simp) rfl));have t9:=ab (af hc.below pQ.o);clear hF ap
     go_wp2_with fail
     exact dF.mk (.slice (some ⟨b2,o2,none⟩) m cb) (hc.set 6 (by omega) hD rfl) rfl
    ·obtain⟨e0,f0⟩:=cK hF 5 (.int .i64 (k:Nat)) (by decide) rfl;clear hF ap
     go_wp2_with fail
     exact dF.mk (.int .i64 (k:Nat)) (hc.set 7 (by omega) hD rfl) rfl
    ·obtain⟨e6,f6⟩:=aQ hF 6 49 (.slice (some ⟨b2,o2,none⟩) m cb) hS rfl (by kernel_rfl) (hc.val 6 (by omega) (ap ⟨6,.data⟩ (by simp) rfl));obtain⟨e7,f7⟩:=aQ hF 7 50 (.int .i64 (k:Nat)) hS rfl (by kernel_rfl) (hc.val 7 (by omega) (ap ⟨7,.data⟩ (by simp) rfl));clear hF ap
     go_wp2_with fail
     exact dF.mk (.pointer (some ⟨b2,o2+k * 3,none⟩)) (hc.set 8 (by omega) hD rfl) rfl
    ·obtain⟨e8,f8⟩:=aQ hF 8 51 (.pointer (some ⟨b2,o2+k * 3,none⟩)) hS rfl (by kernel_rfl) (hc.val 8 (by omega) (ap ⟨8,.data⟩ (by simp) rfl));have u1:=ak hc.below D0.o;have u2:=ak hc.below D1.o;have u3:=ak hc.below D2.o;clear hF ap
     go_wp2_with fail
     exact dF.mk (.agg #[.slice q0 n0 d0,.slice q1 n1 d1,.slice q2 n2 d2]) (hc.set 9 (by omega) hD rfl) rfl
    ·clear hF ap
     go_wp2_with fail
     exact dF.mk (.pointer (some ⟨W.heap.size,0,none⟩)) (hc.alloc_a hD) rfl
    ·clear hF ap
     go_wp2_with fail
     exact dF.mk (.pointer (some ⟨W.heap.size,0,none⟩)) (hc.alloc_b hD) rfl
   case free=>
    intro x W D i o' F ho h6 h8 hD ap hc hF;rcases (show i=12\/i=13 by simp at h6;omega) with rfl|rfl
    ·obtain rfl:=dp ho.symm;have g7:=hc.val 4 (by omega) (ap ⟨4,.data⟩ (by simp) rfl);have gA:=ap ⟨10,.data⟩ (by simp) rfl;obtain⟨g,g1,g2,g3⟩:=hc.a gA;rw[hD]at g3;obtain⟨e7,_⟩:=aQ hF 4 47 (.agg #[.slice p0 n0 c0,.slice p1 n1 c1,.slice p2 n2 c2]) hS rfl (by kernel_rfl) (by rw[g7,Ec];rfl);obtain⟨e8,_⟩:=aQ hF 10 6 (.pointer (some ⟨g,0,none⟩)) hS rfl (by kernel_rfl) g1;refine wpList_store_row rfl 135 (.tmp 6) (.tmp 47) rfl g #[.slice p0 n0 c0,.slice p1 n1 c1,.slice p2 n2 c2] e8 e7 135 _ g3 (by kernel_rfl) (by kernel_rfl) (by simp[Value.oneCell']) ?_;exact⟨rfl,hc.store_a gA hD g1⟩
    ·obtain rfl:=dp ho.symm;have g7:=hc.val 9 (by omega) (ap ⟨9,.data⟩ (by simp) rfl);have gA:=ap ⟨11,.data⟩ (by simp) rfl;obtain⟨g,g1,g2,g3⟩:=hc.b gA;rw[hD]at g3;obtain⟨e7,_⟩:=aQ hF 9 52 (.agg #[.slice q0 n0 d0,.slice q1 n1 d1,.slice q2 n2 d2]) hS rfl (by kernel_rfl) (by rw[g7,Ec];rfl);obtain⟨e8,_⟩:=aQ hF 11 7 (.pointer (some ⟨g,0,none⟩)) hS rfl (by kernel_rfl) g1;refine wpList_store_row rfl 135 (.tmp 7) (.tmp 52) rfl g #[.slice q0 n0 d0,.slice q1 n1 d1,.slice q2 n2 d2] e8 e7 135 _ g3 (by kernel_rfl) (by kernel_rfl) (by simp[Value.oneCell']) ?_;exact⟨rfl,hc.store_b gA hD g1⟩
   case last=>
    intro x W1 D F aU hc hF;obtain⟨g1,a1,a2,a3⟩:=hc.a (aU 10 (by omega));obtain⟨g2,z1,z2,z3⟩:=hc.b (aU 11 (by omega));rw[aU 12 (by omega)]at a3;rw[aU 13 (by omega)]at z3;have bK:=aa hc.below;have pE:=aa a3;have sP:=aa z3;clear hc aU Ec hS a2 a3 z2 z3;simp only[bz,cT,List.setIfInBounds_toArray,List.set_cons_succ,List.set_cons_zero,Nat.reduceAdd]at hF;simp only[a1,z1]at hF;generalize x 0=s0,x 1=s1,x 2=s2,x 3=s3,x 4=s4,x 5=s5,x 6=s6,x 7=s7,x 8=s8,x 9=s9 at hF;subst hF;clear a1 z1;have tA:=ab pE.o;have tC:=ab sP.o
    go_wp2_with fail
    refine(KC.o W1 bK.o).mono ?_;rintro r W2 ⟨rfl,a8⟩;have cQ:=aa (ae bK.o a8);clear tA tC;have tA:=ab (af a8 pE.o);have tC:=ab (af a8 sP.o);have H12:=aa a8;clear a8
    go_wp2_with fail
    refine(dR.o W2 cQ.o).mono ?_;rintro r W3 ⟨rfl,bH⟩;have ef:=aa (ae cQ.o bH);clear tA tC;have tA:=ab (af (ae H12.o bH) pE.o);have tC:=ab (af (ae H12.o bH) sP.o);clear bH
    go_wp2_with fail
    refine(lh.o W3 ef.o).mono ?_;rintro r W4 ⟨rfl,cj⟩;have eG:=aa (ae ef.o cj);clear tA tC cj
    go_wp2_with fail
    go_roundw
    ·exact⟨k+1,by omega,by go_num,ae aP.o eG.o⟩
    ·simp[intOf];omega
  ·obtain rfl:k=m:=by omega
   go_wp2_with fail
   go_ret
   exact⟨rfl,bT.o⟩
theorem QK(p:Pb) (vc vs uc us:Value) (w:World) (hc:bS w vc p.t.cases) (hs:bF w vs p.a.states) (kc:bS w uc p.t.cases) (ks:bF w us p.a.states) :
  Calls Tryz.prog 148 #[.agg (By p vc vs),.agg (By p uc us)] w fun e w'=>e=.returned (.bool true)/\Below w.heap.size w w':=by
 have HT:=aa (fun W (h:Below w.heap.size w W)=>QJ p.t vc uc W (hc.up up_case h) (kc.up up_case h));have HA:=aa (fun W (h:Below w.heap.size w W)=>Tg p.a.n p.a.states vs us W (hs.up up_moves h) (ks.up up_moves h));obtain⟨p1,c1,rfl,_,_,_⟩:=hc.at;obtain⟨p2,c2,rfl,_,_,_⟩:=hs.at;obtain⟨p3,c3,rfl,_,_,_⟩:=kc.at;obtain⟨p4,c4,rfl,_,_,_⟩:=ks.at;generalize p.t.cases.length=n1,p.a.states.length=n2 at HT HA ⊢;clear hc hs kc ks
 go_enter Tryz.func148,Tryz.ntmps148
 go_wp2_with fail
 refine aN (fun W=>Below w.heap.size w W/\(∃ c,W.heap[w.heap.size]?=some (.cells c 29)/\c=By p (.slice p1 n1 c1) (.slice p2 n2 c2))/\(∃ c,W.heap[w.heap.size+1]?=some (.cells c 29)/\c=By p (.slice p3 n1 c3) (.slice p4 n2 c4))) ⟨by go_grown,⟨_,ar _ (aq _ _),rfl⟩,⟨_,by have h:=aq (w.alloc (.cells (By p (.slice p1 n1 c1) (.slice p2 n2 c2)) 29)) (.cells (By p (.slice p3 n1 c3) (.slice p4 n2 c4)) 29);simpa using h,rfl⟩⟩ (fun W0 aZ=>?_);obtain⟨aI,⟨_,bI,rfl⟩,⟨_,nR,rfl⟩⟩:=aZ;refine(HT.o W0 aI).mono ?_;rintro r W1 ⟨rfl,aJ⟩;have bK:=aa (ae aI aJ);have tA:=ab (af aJ bI);have tC:=ab (af aJ nR);clear aI bI nR aJ
 go_wp2_with fail
 refine(HA.o W1 bK.o).mono ?_;rintro r W2 ⟨rfl,a8⟩;have cQ:=aa (ae bK.o a8);clear tA tC a8
 go_wp2_with fail
 go_ret
 exact⟨rfl,cQ.o⟩
theorem NV(s z:Sys) (hp:z.prob=s.prob) (vc vs vt ve uc us ut ue:Value) (w:World) (hs:IsSys w s vc vs vt ve) (hz:IsSys w z uc us ut ue) :
  Calls Tryz.prog 102 #[.agg (bL s.prob vc vs s.n vt ve),.agg (bL s.prob uc us z.n ut ue)] w fun e w'=>e=.returned (.bool (decide ((s.n=z.n/\s.tab=z.tab)/\s.ex=z.ex)))/\Below w.heap.size w w':=by
 have R':=aa (fun W (h:Below w.heap.size w W)=>QK s.prob vc vs uc us W (hs.cases.up up_case h) (hs.states.up up_moves h) (by have:=hz.cases.up up_case h;rwa [hp]at this) (by have:=hz.states.up up_moves h;rwa [hp]at this));have Mx:=aa (fun W (h:Below w.heap.size w W)=>NR s.n z.n vt ut s.tab z.tab W (hs.tab.up up_view h) (hz.tab.up up_view h));obtain⟨p1,c1,rfl,_,_,_⟩:=hs.cases.at;obtain⟨p2,c2,rfl,_,_,_⟩:=hs.states.at;obtain⟨p3,c3,rfl,_,_,_⟩:=hs.tab.at;obtain⟨q1,d1,rfl,_,_,_⟩:=hz.cases.at;obtain⟨q2,d2,rfl,_,_,_⟩:=hz.states.at;obtain⟨q3,d3,rfl,_,_,_⟩:=hz.tab.at;obtain⟨pa,ca,rfl,la1,la2,ea⟩:=hs.ex.at;obtain⟨pb,cb,rfl,lb1,lb2,eb⟩:=hz.ex.at;have EA:=aa ea;have EB:=aa eb;obtain⟨bt,vD⟩:∃ bt,decide (s.n=z.n/\s.tab=z.tab)=bt:=⟨_,rfl⟩;have wN:am (bt=false->decide ((s.n=z.n/\s.tab=z.tab)/\s.ex=z.ex)=false):=aa fun h=>decide_eq_false fun e=>(of_decide_eq_false (vD.trans h)) e.1
 have hH:am (s.ex.length≠z.ex.length->decide ((s.n=z.n/\s.tab=z.tab)/\s.ex=z.ex)=false):=aa fun h=>decide_eq_false fun e=>h (by rw[e.2])
 have pX:am (∀ j,j<s.ex.length->s.ex.getD j default≠z.ex.getD j default->decide ((s.n=z.n/\s.tab=z.tab)/\s.ex=z.ex)=false):=aa fun j _ h=>decide_eq_false fun e=>h (by rw[e.2])
 have ik:am (bt=true/\s.ex.length=z.ex.length/\(∀ j,j<s.ex.length->s.ex.getD j default=z.ex.getD j default)->decide ((s.n=z.n/\s.tab=z.tab)/\s.ex=z.ex)=true):=aa fun ⟨h1,h2,h3⟩=>decide_eq_true ⟨of_decide_eq_true (vD.trans h1),fq default h2 h3⟩
 rw[vD]at Mx;generalize decide ((s.n=z.n/\s.tab=z.tab)/\s.ex=z.ex)=r at wN hH pX ik ⊢;generalize s.ex=ax at EA hH pX ik la1 la2 ⊢;generalize z.ex=ay at EB hH pX ik lb1 lb2 ⊢;rw[hp]at R' ⊢;clear hs hz ea eb vD hp;generalize s.prob.t.cases.length=n1,s.prob.a.states.length=n2,s.tab.length=n3,z.tab.length=n4 at R' Mx ⊢;obtain⟨n,hn⟩:∃ n,ax.length=n:=⟨_,rfl⟩;obtain⟨m,hm⟩:∃ m,ay.length=m:=⟨_,rfl⟩;have HN:=aa hn;have HM:=aa hm;rw[hn]at la1 la2 ⊢;rw[hm]at lb1 lb2 ⊢;clear hn hm
 go_enter Tryz.func102,Tryz.ntmps102
 go_wp2_with fail
 refine aN (fun W=>Below w.heap.size w W/\(∃ c,W.heap[w.heap.size]?=some (.cells c 35)/\c=bL s.prob (.slice p1 n1 c1) (.slice p2 n2 c2) s.n (.slice p3 n3 c3) (.slice pa n ca))/\(∃ c,W.heap[w.heap.size+1]?=some (.cells c 35)/\c=bL s.prob (.slice q1 n1 d1) (.slice q2 n2 d2) z.n (.slice q3 n4 d3) (.slice pb m cb))) ⟨by go_grown,⟨_,ar _ (aq _ _),rfl⟩,⟨_,by have h:=aq (w.alloc (.cells (bL s.prob (.slice p1 n1 c1) (.slice p2 n2 c2) s.n (.slice p3 n3 c3) (.slice pa n ca)) 35)) (.cells (bL s.prob (.slice q1 n1 d1) (.slice q2 n2 d2) z.n (.slice q3 n4 d3) (.slice pb m cb)) 35);simpa using h,rfl⟩⟩ (fun W00 aZ=>?_);obtain⟨aI,⟨_,bI,rfl⟩,⟨_,nR,rfl⟩⟩:=aZ;refine(R'.o W00 aI).mono ?_;rintro e W01 ⟨rfl,aJ⟩;have HB01:=aa (ae aI aJ);have HA01:=aa (af aJ bI);have HC01:=aa (af aJ nR);have tA:=ab HA01.o;have tC:=ab HC01.o;clear aI bI nR aJ R'
 go_wp2_with fail
 refine(Mx.o W01 HB01.o).mono ?_;rintro e W0 ⟨rfl,aJ⟩;have ed:=aa (ae HB01.o aJ);have jm:=aa (af aJ HA01.o);have nZ:=aa (af aJ HC01.o);clear tA tC;have tA:=ab jm.o;have tC:=ab nZ.o;clear aJ Mx;cases bt with
 | false=>
  have HR:am (r=false):=aa (by first|exact wN.o rfl|exact wN.o trivial)
  go_wp2_with fail
  go_ret
  exact⟨aR (by rw[HR.o]),ed.o⟩
 | true=>
  by_cases hl:n=m
  case neg=>
   have hd:(((n:Nat):Int) != ((m:Nat):Int))=true:=by simp;omega
   have HR:=aa (hH.o (by rw[HN.o,HM.o];exact hl));clear hl
   go_wp2_with fail
   go_ret
   exact⟨aR (by rw[HR.o]),ed.o⟩
  subst hl;have hd:((n:Int) != (n:Int))=false:=by simp
  go_wp2_with fail
  clear tA tC
  go_loopw [5] (fun i wr=>∃ k:Nat,k<=n/\i=.int .i64 k/\Below W0.heap.size W0 wr/\∀ j,j<k->ax.getD j default=ay.getD j default) (fun i _=>n - (intOf i).toNat)
  ·exact⟨0,by omega,rfl,Below.refl _ _,fun j hj=>by omega⟩
  ·
   obtain⟨k,hk,rfl,az,aW⟩:=hrel;have H:=aa aW;have aP:=aa az;have bT:=aa (ae ed.o az);clear aW az;have tA:=ab (af aP.o jm.o);have tC:=ab (af aP.o nZ.o);by_cases aB:k<n
   ·obtain⟨b1,o1,rfl,⟨g0,_⟩,⟨v1,g1,h1⟩,⟨v2,g2,h2⟩⟩:=EA.o k (by rw[HN.o];exact aB);obtain⟨b2,o2,rfl,⟨e0,_⟩,⟨u1,e1,i1⟩,⟨u2,e2,i2⟩⟩:=EB.o k (by rw[HM.o];exact aB);have rh:=aa (aA (default:Ex) (show k<ax.length by rw[HN.o];exact aB));have sR:=aa (aA (default:Ex) (show k<ay.length by rw[HM.o];exact aB));generalize ax[k]'(by rw[HN.o];exact aB)=x at g0 h1 h2 rh;generalize ay[k]'(by rw[HM.o];exact aB)=y at e0 i1 i2 sR;have t0:=ak bT.o g0;have t1:=ak bT.o g1;have t2:=ak bT.o g2;have r0:=ak bT.o e0;have r1:=ak bT.o e1;have r2:=ak bT.o e2;have AJ:=aa (fun W (h:Below w.heap.size w W)=>NU x y v1 u1 v2 u2 W (h1.up up_round h) (i1.up up_round h) (h2.up up_ints h) (i2.up up_ints h));clear h1 h2 i1 i2 g0 g1 g2 e0 e1 e2
    go_wp2_with fail
    go_still_tail 10,(by kernel_rfl)
    go_wp2_with fail
    refine aN (fun W=>Below wr.heap.size wr W) (Below.drew (Below.refl _ _)) (fun W5 hW5=>?_);refine(AJ.o W5 (ae bT.o hW5)).mono ?_;rintro e w6 ⟨rfl,gi⟩;have lu:=aa (ae aP.o (ae hW5 gi));clear hW5 gi t0 t1 t2 r0 r1 r2 tA tC AJ;cases cG:decide (x=y) with
    | true=>
     have oU:=aa (of_decide_eq_true cG);clear cG
     go_wp2_with fail
     go_roundw
     ·exact⟨k+1,by omega,by go_num,lu.o,aV (p:=fun j=>ax.getD j default=ay.getD j default) H.o (by rw[rh.o,sR.o];exact oU.o)⟩
     ·simp[intOf];omega
    | false=>
     have HR:=aa (pX.o k (by rw[HN.o];exact aB) (by rw[rh.o,sR.o];exact of_decide_eq_false cG));clear cG
     go_wp2_with fail
     go_ret
     exact⟨aR (by rw[HR.o]),ae ed.o lu.o⟩
   ·obtain rfl:k=n:=by omega
    have HF:∀ j,j<ax.length->ax.getD j default=ay.getD j default:=fun j hj=>H.o j (by have:=HN.o;omega)
    have HR:am (r=true):=aa (ik.o ⟨by first|rfl|trivial,by rw[HN.o,HM.o],HF⟩);clear HF
    go_wp2_with fail
    go_ret
    exact⟨aR (by rw[HR.o]),bT.o⟩
theorem Gx{W:World} {B:Nat} {now:List Int} {n:Nat} (hl:now.length=n) (hn:n<=65536) (h:W.heap[B]?=some (.cells (bC now) 3)) (hr:∀ x∈now,bN x):aT W (.slice (some ⟨B,0,none⟩) n n) now:=by
 subst hl;refine⟨some ⟨B,0,none⟩,now.length,rfl,⟨Nat.le_refl _,by omega,fun e=>by cases e⟩,by omega,fun i x hx=>⟨B,0,rfl,?_⟩⟩;obtain⟨hi,rfl⟩:=List.getElem?_eq_some_iff.1 hx;refine⟨?_,hr _ (List.getElem_mem hi)⟩;rw[ab h,Nat.zero_add,Nat.mul_one];simp[bC,hi]
theorem L1{s:Sys} (hv:verifyE s=0):0<s.tab.length:=by
 have hs:=jh hv;have h1:=kK hs (AY hv) (p:=0) hs.n.1;omega
theorem mI(s:Sys) (e:Nat) (out:List Int):∀ p,(dV s e out p).length=out.length
 | 0=>rfl
 | p+1=>by
  rw[dV];split
  ·exact mI s e out p
  ·rw[List.length_set];exact mI s e out p
theorem sk(s:Sys):∀ e,(dG s e).length=s.tab.length
 | 0=>by simp[dG]
 | e+1=>by rw[dG,mI,sk s e]
theorem L2{s:Sys} (ho:oS s<=8):(∀ e,e<=eS s->∀ x∈dG s e,bN x):=by
 have hp:∀ e,e<eS s->∀ out:List Int,(∀ x∈out,bN x)->∀ p,∀ x∈dV s e out p,bN x:=by
  intro e he out wQ p;induction p with
  | zero=>exact wQ
  | succ p ih=>
   rw[dV];split
   ·exact ih
   ·intro x hx;rcases List.mem_or_eq_of_mem_set hx with h|h
    ·exact ih x h
    ·rw[h];unfold choiceS;rw[mH he];exact wB s _ ho
 intro e;induction e with
 | zero=>intro _ x hx;rw[dG]at hx;rw[List.eq_of_mem_replicate hx];exact⟨by decide,by decide⟩
 | succ e ih=>intro he;rw[dG];exact hp e (by omega) _ (ih (by omega)) _
theorem BE{s:Sys} (h0:0<eS s) (k:Nat) (hk:k<=oI s):∃ e,e<eS s/\(partsS s).getD e 0=k:=by
 obtain⟨i,hi,e⟩:=CC (partsS s) ((partsS s).length - 1);rw[dm]at hi;have h1:=(DO h0).1;rw[e]at h1;by_cases h2:k=oI s
 ·exact⟨i,by omega,by rw[h1,h2]⟩
 ·obtain⟨j,hj,h3⟩:=xh (xM s (nS s - 1)) i (by rw[gS];omega) (k:Int) (by omega) (by have h4:(eC s (nS s - 1)).getD i 0=(oI s:Int):=h1;omega);exact⟨j,by omega,h3⟩
theorem QL{s:Sys} (h0:0<eS s):(ji s).contains (-1)=true↔-1∈choiceS s:=by
 rw[List.contains_iff_mem];unfold ji lj choiceS;simp only[List.mem_map,List.mem_range];constructor
 ·rintro⟨k,hk,h1⟩;obtain⟨e,he,h2⟩:=BE h0 k (by omega);exact⟨e,he,by rw[h2];exact h1⟩
 ·rintro⟨e,he,h1⟩;have h2:=qU h0 e he;have h3:=(li s e he).1;exact⟨((partsS s).getD e 0).toNat,by omega,by rw[show ((((partsS s).getD e 0).toNat:Nat):Int)=(partsS s).getD e 0 by omega];exact h1⟩
def uF(u:Value) (ok:Bool) (e:Int):Value:=.tuple #[.agg #[u],.bool ok,.int .i64 e]
theorem sI(tmps:Array Value) (B:Nat) (W:World) (u:Value) (ok:Bool) (e:Int) (h2:tmps[2]?.getD undef=.pointer (some ⟨B,0,none⟩)) (h3:tmps[3]?.getD undef=.bool ok) (h4:tmps[4]?.getD undef=.int .i64 e)
  (hB:W.heap[B]?=some (.cells #[u] 49)):(results Tryz.f16 tmps).run Tryz.prog W=.ok (uF u ok e) W:=by
 have t2:=ab hB 0;simp at t2;simp[results,Tryz.results16,go_sem,h2,h3,h4,t2,uF]
theorem Gy(s:Sys) (hE:eS s<=256) (vc vs vt ve:Value) (w:World) (hT:iH w) (hs:IsSys w s vc vs vt ve) (hN:movesN s.prob.a.states<1099511627776) :
  Calls Tryz.prog 16 #[.agg (bL s.prob vc vs s.n vt ve)] w fun r w'=>∃ u,r=.returned (uF u (ruleR s).2.1 (ruleR s).2.2)/\aT w' u (ruleR s).1/\Below w.heap.size w w':=by
 have HS:=aa hs;have HT:=aa hT;obtain⟨⟨pc,cc,rfl⟩,⟨ps,cs,rfl⟩,⟨pt,ct,rfl⟩,⟨pe,ce,rfl⟩⟩:=bB hs;clear hs hT;have HC:=aa (fun W (hb:Below w.heap.size w W)=>oH s hE _ _ _ _ W (HS.o.up hb) hN)
 have l4:am (readyE s=0->verifyE s=0):=aa fun h=>by
  unfold readyE at h;split at h
  ·rename_i h1;exact absurd h h1
  ·omega
 have dg:am (readyE s≠0->ruleR s=([],false,readyE s)):=aa fun h=>by unfold ruleR;rw[if_pos h]
 have dU:am (readyE s=0->-1∈choiceS s->ruleR s=([],false,0)):=aa fun h h2=>by unfold ruleR;rw[if_neg (by omega),if_pos h2]
 have eT:am (readyE s=0->¬ -1∈choiceS s->ruleR s=(dG s (eS s),true,0)):=aa fun h h2=>by unfold ruleR;rw[if_neg (by omega),if_neg h2]
 generalize ruleR s=vr at dg dU eT ⊢;obtain⟨re,lR⟩:∃ re,readyE s=re:=⟨_,rfl⟩;rw[lR]at dg dU eT HC l4;clear lR
 go_enter Tryz.func16,Tryz.ntmps16
 go_wp2_with fail
 refine aN (fun W=>Below w.heap.size w W/\W.heap[w.heap.size+1]?=some (.cells #[.slice none 0 0] 49)/\∃ c,W.heap[w.heap.size]?=some (.cells c 35)/\c=bL s.prob (.slice pc s.prob.t.cases.length cc) (.slice ps s.prob.a.states.length cs) s.n (.slice pt s.tab.length ct) (.slice pe s.ex.length ce)) ⟨by go_grown,bd _ _ _,_,ar _ (aq _ _),rfl⟩ (fun W0 aZ=>?_);obtain⟨aI,gl,_,bI,rfl⟩:=aZ;refine(HC.o W0 aI).mono ?_;rintro e w1 ⟨v,rfl,aJ,h2,h3⟩;have bK:=aa (ae aI aJ);have fM:=aa (af aJ gl);have db:=aa (af aJ bI);have gc:=aC fM.o;by_cases hr:re=0
 case neg=>
  have HV:=aa (dg.o hr);obtain rfl:=h2 hr;have Hi:(re != 0)=true:=by simpa using hr
  have to:=ab fM.o 0;have zo:=aE fM.o 0;simp at to;clear aI aJ h2 h3 hr HC gl bI
  go_wp2_with fail
  exact bodyPost_ret (sI _ (w.heap.size+1) _ (.slice none 0 0) false re rfl rfl rfl (aF fM.o 0 _)) rfl ⟨_,by rw[HV.o],by rw[HV.o];exact lM _,bK.o.setCell (by dsimp only;omega) _⟩
 obtain⟨B,rfl,hB,gj⟩:=h3 hr;have kV:=aa gj;have da:=aa (dU.o hr);have ld:=aa (eT.o hr);have q7:=aa (l4.o hr);have dA:=aa (jh q7.o);have HP:=aa (AY q7.o);subst hr;clear aI aJ h2 h3 HC gj gl bI
 go_wp2_with fail
 refine(vO s dA.o HP.o hE B w1 kV.o (HT.o.up bK.o)).mono ?_;rintro e w2 ⟨u,rfl,hu,a8⟩;have HU:=aa hu;have cQ:=aa (ae bK.o a8);have dR:=aa (af a8 fM.o);have mo:=aa (af a8 db.o);have KW:=aa (kV.o.up a8);obtain⟨pu,cu,rfl,eu⟩:=df hu;have EU:=aa eu;obtain⟨cn,Eu⟩:∃ cn,(ji s).length=cn:=⟨_,rfl⟩;rw[Eu]at EU HU ⊢;have HCN:=aa Eu;clear hu a8 eu Eu kV fM db
 go_wp2_with fail
 refine(Cx _ (ji s) (-1) w2 HU.o).mono ?_;rintro e w3 ⟨rfl,bH⟩;have ef:=aa (ae cQ.o bH);have HB23:=aa bH;have lh:=aa (af bH dR.o);have pR:=aa (af bH mo.o);have TO:=aa (KW.o.up bH);have yQ:=aa (HU.o.up up_int bH);have KN:=aa (QL HP.o);cases ER:(ji s).contains (-1) with
 | true=>
  have HV:=aa (da.o (KN.o.1 ER));have to:=ab lh.o 0;have zo:=aE lh.o 0;simp at to;clear ER bH
  go_wp2_with fail
  exact bodyPost_ret (sI _ (w.heap.size+1) _ (.slice none 0 0) false 0 rfl rfl rfl (aF lh.o 0 _)) rfl ⟨_,by rw[HV.o],by rw[HV.o];exact lM _,ef.o.setCell (by dsimp only;omega) _⟩
 | false=>
  have HV:=aa (ld.o (fun h=>by have:=KN.o.2 h;rw[ER]at this;cases this));clear ER bH KW dR mo cQ HU;have tA:∀ o' j,(w3.alloc o').cell? ⟨w.heap.size,j,none⟩=_:=fun o' j=>ab (ar o' pR.o) j
  have Q7:=L1 q7.o;have Rx:=dA.o.tab;have sT:am (∀ n:Nat,fC n (fun _=>(-1:Int)) n=bC (List.replicate n (-1))):=aa fun n=>by rw[oE];simp[List.map_const']
  go_wp2_with fail
  refine(xF (-1) s.tab.length Q7 Rx w3.heap.size _ (aq _ _)).mono ?_;rintro e w4 ⟨rfl,D5,cj⟩;have xY:Below w3.heap.size w3 w4:=ae (by go_grown) cj;have hRl:=aC D5;rw[show (w3.alloc (.cells #[.int .i64 (-1)] 3)).heap.size=w3.heap.size+1 by simp]at D5 hRl ⊢;obtain⟨R,hR⟩:∃ R,w3.heap.size+1=R:=⟨_,rfl⟩;rw[hR]at D5 hRl ⊢;have Ep:w3.heap.size<R:=by omega
  have hR4':w4.heap[R]?=some (.cells (bC (dG s 0)) 3):=by rw[D5];unfold xC;rw[sT.o];rfl
  have nT:=aa hR4';have HB34:=aa xY;have tA4:=ab (af xY pR.o);clear cj hR D5 hR4' tA sT;have An:=aa HS.o.ex;have HK:am (∀ k,k<eS s->_):=aa (fun k (hk:k<eS s)=>gX dA.o An.o hk);obtain⟨qc,qs,qt,qe,qv,ql,q1,_,_,q2⟩:=TO.o.ex;obtain⟨pl,cl,rfl,el⟩:=df q2;rw[dm]at el q1;have EL:=aa el;have Mt:am (w3.cell? ⟨B,11,none⟩=some (.slice pl (eS s) cl)):=aa ((ab q1 11).trans rfl);have HBR3:=aa (aC q1);have rG:am (∀ k,k<eS s->0<=(partsS s).getD k 0/\((partsS s).getD k 0).toNat<(ji s).length/\(ji s).getD ((partsS s).getD k 0).toNat 0=(choiceS s).getD k 0):=aa fun k hk=>⟨(li s k hk).1,by have:=qU HP.o k hk;rw[show (ji s).length=oI s+1 by simp[ji,lj]];omega,QC HP.o k hk⟩
  have BK:am (∀ k p,k<eS s->p<nS s->0<=finS s k p/\finS s k p<s.tab.length):=aa fun k p hk hp=>kK dA.o hk hp
  have fZ:am (∀ x∈dG s (eS s),bN x):=aa (L2 dA.o.outs.2.1 _ (Nat.le_refl _));have XY:am (∀ k,(dG s k).length=s.tab.length):=aa (sk s);have Q8:am (∀ k p,(dV s k (dG s k) p).length=s.tab.length):=aa fun k p=>by rw[mI,sk]
  have Rv:=aa (fun k (hk:k<eS s) W (hb:Below w.heap.size w W)=>S6 s q7.o k hk _ _ _ _ W (HS.o.up hb) hN);have kj:s.ex.length=eS s:=rfl;rw[kj]at tA4 pR Rv An;obtain⟨m,hm⟩:∃ m,eS s=m:=⟨_,rfl⟩;have HM:=aa hm;have gK:=dA.o.n.2.1;have rl:=dA.o.rounds.2;obtain⟨rr,tt⟩:∃ rr:Nat,s.prob.rounds=rr:=⟨s.prob.rounds.toNat,by have:=dA.o.rounds.1;omega⟩;have GV:=aa tt;have Ac:s.prob.rounds.toNat=rr:=by omega
  rw[Ac]at HK;clear Ac;rw[hm]at hE HK EL Mt rG BK fZ Rv tA4 pR;clear kj q1 q2 el hm tt
  go_wp2_with fail
  clear tA4
  go_loopw [38] (fun i wr=>∃ k:Nat,k<=m/\i=.int .i64 k/\Below w3.heap.size w3 wr/\wr.heap[R]?=some (.cells (bC (dG s k)) 3)) (fun i _=>m - (intOf i).toNat)
  ·exact⟨0,by omega,rfl,HB34.o,nT.o⟩
  ·
   clear nT HB34;obtain⟨k,hk,rfl,az,hR⟩:=hrel;have aP:=aa az;have wZ:=aa hR;have eh:=aa (ae ef.o az);have Ag:=aa (af az pR.o);have hRl2:=aC hR;by_cases aB:k<m
   ·obtain⟨b,o,_,ce',e0,rfl,pw,nw,cw,pv,cv,c1,c2,c3,-,-,-,b2,o2,pr,cr,rfl,c4,bQ⟩:=HK.o k aB;injection e0 with e01 e02 e03
    subst e01;clear e02 e03;obtain⟨pr2,cr2,e4,erow⟩:=df bQ;injection e4 with e41 e42 e43
    subst e41 e43;clear e42
    have jO:am (∀ p,p<nS s->∃ b o,pr=some ⟨b,o,none⟩/\w.cell? ⟨b,o+p,none⟩=some (.int .i64 (finS s k p))):=aa (fun p hp=>by
     obtain⟨b,o,e1,h1⟩:=erow p (by simpa using hp);rw[mH hp]at h1
     exact⟨b,o,e1,h1⟩)
    have d1:=ak eh.o c1;have d2:=ak eh.o c2;have d3:=ak eh.o c3;have Yn:=aa c4;have tA:∀ o' j,(wr.alloc o').cell? ⟨w.heap.size,j,none⟩=_:=fun o' j=>ab (ar o' Ag.o) j
    clear az hR c1 c2 c3 c4 bQ erow
    go_wp2_with fail
    clear tA d1 d2 d3;refine aN (fun W=>Below wr.heap.size wr W/\W.heap[wr.heap.size]?=some (.cells #[.int .i64 (cN s k).c,.slice pw nw cw,.slice (some ⟨b2,o2,none⟩) (rr+1) cv] 89)) ⟨by go_grown,aq _ _⟩ (fun W5 hW5=>?_);obtain⟨dE,hX5⟩:=hW5;refine(Rv.o k aB W5 (ae eh.o dE)).mono ?_;rintro r w5 ⟨rfl,gi⟩;have qD:=ae dE gi;have tX:=ab (af gi hX5);have tA5:w5.cell? ⟨w.heap.size,6,none⟩=some (.int .i64 rr):=(ab (af qD Ag.o) 6).trans (by rw[<-GV.o];rfl);have tv:=ak (ae eh.o qD) Yn.o;have lf:=aa (ae aP.o qD);have yR:=aa (af qD wZ.o);obtain⟨wrA,kw⟩:∃ x,x=wr:=⟨_,rfl⟩;subst kw;obtain⟨g,hg⟩:∃ g,wrA.heap.size=g:=⟨_,rfl⟩;rw[hg]at tX ⊢;clear dE gi hX5 qD hg
    go_wp2_with fail
    clear tX tA5 tv
    go_loopw [61] (fun i wr=>∃ p:Nat,p<=nS s/\i=.int .i64 p/\Below w3.heap.size w3 wr/\wr.heap[R]?=some (.cells (bC (dV s k (dG s k) p)) 3)) (fun i _=>nS s - (intOf i).toNat)
    ·exact⟨0,by omega,rfl,lf.o,yR.o⟩
    ·
     clear lf yR;obtain⟨p,hp,rfl,az,hR⟩:=hrel;have eo:=aa az;have vj:=aa hR;by_cases yG:p<nS s
     ·obtain⟨b3,o3,rfl,c6⟩:=jO.o p yG;obtain⟨z0,z1⟩:=BK.o k p aB yG;obtain⟨z,hz⟩:∃ z:Nat,finS s k p=z:=⟨(finS s k p).toNat,by omega⟩;rw[hz]at c6 z1;have HZ:=aa hz;have d6:=ak (ae ef.o az) c6;have gP:=rZ ((oblM s k:Nat):Int) p;have KK:hasB ((oblM s k:Nat):Int) p=!hasB (fltS s k) p:=by unfold oblM;rw[jz,decide_eq_true yG,Bool.true_and]
      rw[KK]at gP;have hp30:p<=30:=by omega
      have zt:z<s.tab.length:=by omega
      have HRL2:=aa (Q8.o k p);clear c6 z0 z1 hz KK;cases hb:hasB (fltS s k) p with
      | true=>
       have eO:am (dV s k (dG s k) (p+1)=dV s k (dG s k) p):=aa (by rw[dV,if_pos hb]);rw[hb]at gP;clear hb az hR
       go_wp2_with fail
       go_roundw
       ·exact⟨p+1,by omega,by go_num,eo.o,by rw[eO.o];exact vj.o⟩
       ·simp[intOf];omega
      | false=>
       have eO:am (dV s k (dG s k) (p+1)=(dV s k (dG s k) p).set z ((choiceS s).getD k 0)):=aa (by rw[dV,if_neg (by rw[hb];simp),HZ.o,Int.toNat_natCast]);rw[hb]at gP;obtain⟨g1,g2,g3⟩:=rG.o k aB;obtain⟨n,hn⟩:∃ n:Nat,(partsS s).getD k 0=n:=⟨((partsS s).getD k 0).toNat,by omega⟩;rw[hn,Int.toNat_natCast,HCN.o]at g2;rw[hn,Int.toNat_natCast]at g3;obtain⟨b4,o4,rfl,c7⟩:=EL.o k aB;rw[hn]at c7;have d7:=ak az c7;obtain⟨b5,o5,rfl,c8⟩:=EU.o n g2;rw[g3]at c8;have d8:=ak (ae HB23.o az) c8;have tl:=ak az Mt.o;have tR:=ab hR z;rw[eR _ _ (by rw[HRL2.o];exact zt)]at tR;have zR:=aE hR z;generalize (choiceS s).getD k 0=x at d8 eO;generalize (dV s k (dG s k) p).getD z 0=y at tR;clear hb az hR g1 g3 hn c7 c8
       go_wp2_with fail
       go_roundw
       ·exact⟨p+1,by omega,by go_num,eo.o.setCell (by dsimp only;omega) _,by rw[aF vj.o,kT,eO.o]⟩
       ·simp[intOf];omega
     ·obtain rfl:p=nS s:=by omega
      clear az hR
      go_wp2_with fail
      go_roundw
      ·exact⟨k+1,by omega,by go_num,eo.o,vj.o⟩
      ·simp[intOf];omega
   ·obtain rfl:k=m:=by omega
    have to:=ab (af az lh.o) 0;have zo:=aE (af az lh.o) 0;simp at to;have KC:=aa (af az lh.o);clear az hR
    go_wp2_with fail
    refine bodyPost_ret (sI _ (w.heap.size+1) _ (.slice (some ⟨R,0,none⟩) s.tab.length s.tab.length) true 0 rfl rfl rfl (aF KC.o 0 _)) rfl ⟨_,by rw[HV.o],?_,eh.o.setCell (by dsimp only;omega) _⟩;rw[HV.o,HM.o];exact Gx (XY.o k) (by omega) (aK wZ.o (by have:=aC lh.o;omega) _ _) fZ.o
theorem Gz{w:World} {v:Value} {l:List Lk} (h:bh w v l) (j:Nat) (u:Value) (hu:(cF l)[j]?=some u):∃ b o c,v=.slice (some ⟨b,o,none⟩) l.length c/\w.cell? ⟨b,o+j,none⟩=some u:=by
 have hj:=(List.getElem?_eq_some_iff.1 hu).1;rw[mf]at hj;obtain⟨i,s,hs,rfl⟩:∃ i s,s<2/\j=i * 2+s:=⟨j / 2,j % 2,by omega,by omega⟩;have hi:i<l.length:=by omega
 unfold cF at hu;rw[qr Lk.c 2 (fun _=>rfl) l i s hi hs]at hu;obtain⟨a,cap,rfl,_,_,e⟩:=h.at;obtain⟨b,o,rfl,⟨c0,_⟩,⟨c1,_⟩⟩:=e i hi;refine⟨b,o,cap,rfl,?_⟩;rw[<-Nat.add_assoc];rcases (show s=0\/s=1 by omega) with rfl|rfl<;>(simp at hu;subst hu;first|exact c0|exact c1)
theorem Jz{w:World} {v:Value} {l:List Lk} (h:bh w v l):∀ y∈l,bN y.x/\bN y.p:=fun y hy=>by
 obtain⟨i,hi,rfl⟩:=List.getElem_of_mem hy;obtain⟨a,cap,rfl,_,_,e⟩:=h.at;obtain⟨b,o,_,h1⟩:=e i hi;exact⟨h1.1.2,h1.2.2⟩
theorem xR{w:World} {a:Option Addr} {n c:Nat} {l:List Lk} (h:bh w (.slice a n c) l) (k:Nat) (hk:k<=l.length):bh w (.slice a k c) (l.take k):=by
 obtain⟨a',c',e,⟨h1,h2,h3⟩,h4,h5⟩:=h;injection e with e1 e2 e3
 subst e1 e3;refine⟨a,c,by rw[List.length_take,Nat.min_eq_left hk],⟨by rw[List.length_take];omega,h2,h3⟩,by rw[List.length_take];omega,fun i x hx=>h5 i x ?_⟩;rw[List.getElem?_take]at hx;split at hx
 ·exact hx
 ·cases hx
theorem NW{w:World} {b o n c:Nat} {l:List Lk} (h:bh w (.slice (some ⟨b,o,none⟩) n c) l) (k:Nat) (hk:k<=l.length):bh w (.slice (some (if c=k then⟨b,o,none⟩ else⟨b,o+k * 2,none⟩)) (n - k) (c - k)) (l.drop k):=by
 obtain⟨a',c',e,⟨h1,h2,h3⟩,h4,h5⟩:=h;injection e with e1 e2 e3
 subst e1 e2 e3;refine⟨_,c - k,by rw[List.length_drop],⟨by rw[List.length_drop];omega,by omega,fun h=>by cases h⟩,by rw[List.length_drop];omega,fun i x hx=>?_⟩;rw[List.getElem?_drop]at hx;have hi:=(List.getElem?_eq_some_iff.1 hx).1;obtain⟨b',o',e,hr⟩:=h5 (k+i) x hx;injection e with e;injection e with e1 e2 e3
 subst e1 e2;refine⟨b,o+k * 2,by rw[if_neg (by omega)],?_⟩;rw[Nat.add_mul,<-Nat.add_assoc]at hr;exact hr
theorem vP(v:Value) (l:List Lk) (w:World) (hv:bh w v l) (hn:l.length<=1048576) :
  Calls Tryz.prog 27 #[v] w fun e w'=>∃ u,e=.returned u/\aH w' w.heap.size 75 2 u l.length (cF l)/\Below w.heap.size w w':=by
 obtain⟨i0,hi,bX,bP,bY⟩:=info_parts Tryz.infoLink;have HW:=aa (Gz hv);have kh:=fun w=>Lib.run_eql_slice_nil (P:=Tryz.prog) w 54
 obtain⟨a,cap,rfl,⟨_,_,kl⟩,_,_⟩:=hv;cases a with
 | none=>
  have hl:l.length=0:=by have:=kl rfl;omega
  obtain rfl:l=[]:=List.eq_nil_of_length_eq_zero hl;obtain rfl:=kl rfl
  go_enter Tryz.func27,Tryz.ntmps27
  go_wp2_with fail
  go_ret
  exact⟨_,rfl,aH.nil _ _ _ _,Below.refl _ _⟩
 | some ad=>
  have bU:∀ j u,(cF l)[j]?=some u->(w.alloc (.cells #[] 75)).cell? (ad.add j)=some u:=fun j u hj=>by
   obtain⟨b,o,c,e,eQ⟩:=HW.o j u hj;have:ad=⟨b,o,none⟩:=by simp at e;exact e.1
   subst this;have:(Addr.add ⟨b,o,none⟩ j)=⟨b,o+j,none⟩:=by unfold Addr.add;split<;>simp_all
   rw[this];exact ak (by go_grown) eQ
  have aS:aH (w.alloc (.cells #[] 75)) w.heap.size 75 2 (.slice (some ⟨w.heap.size,0,none⟩) 0 0) 0 []:=⟨by simp,.inr ⟨w.heap.size,0,#[],(0,0),rfl,Nat.le_refl _,aq _ _,fun i hi=>by simp at hi,by omega,by simp[maxLen],by simp,by simp⟩⟩;have bA:=aa bU;have bG:=aa aS;clear bU aS kl
  go_enter Tryz.func27,Tryz.ntmps27
  go_wp2_with (at_builtin;(refine aX _ rfl (.tmp 5) (.tmp 6) 54 rfl w.heap.size 75 i0 _ 2 16 Tryz.underlying54 hi bX bP bY rfl (by decide) _ 0 [] rfl bG.o ad l.length cap (cF l) rfl (mf l) bA.o (Dx l) (by unfold maxLen;omega) (by omega) (by simp) ?_;intro v' w1 gU lY _;obtain⟨av',cv',rfl⟩:=gU.slice))
  go_ret
  rw[Nat.zero_add,List.nil_append]at gU;refine⟨_,rfl,by simpa using gU,Below.grown (w:=w.alloc (.cells #[] 75)) (by go_grown) lY (by simp) (fun k hk=>?_)⟩;cases hk;exact Nat.le_refl _
theorem aH.links{w:World} {base:Nat} {v:Value} {l:List Lk} (h:aH w base 75 2 v l.length (cF l)) (hx:∀ u∈l,bN u.x/\bN u.p) (hn:l.length<=1048576):bh w v l:=kn h hx (by omega)
theorem L3{w:World} {base g n c:Nat} {l:List Lk} (h:aH w base 75 2 (.slice (some ⟨g,0,none⟩) n c) n (cF l)) (j:Nat) (x:Value) (hj:j<(cF l).length) {m:List Lk} (hm:cF m=(cF l).set j x):aH (w.setCell ⟨g,j,none⟩ x) base 75 2 (.slice (some ⟨g,0,none⟩) n c) n (cF m):=by
 obtain⟨hl,h⟩:=h;refine⟨by rw[hm,List.length_set];exact hl,?_⟩;rcases h with ⟨h,_⟩|⟨g',cap,cur,fz,h1,h2,h3,h4,h5,h6,h7,h8⟩
 ·cases h
 injection h1 with e1 e2 e3
 injection e1 with e1
 injection e1 with e1
 subst e1 e3;refine .inr ⟨g,c,cur.setIfInBounds j x,fz,rfl,h2,aF h3 _ _,by simpa using h4,h5,h6,by simpa using h7,?_⟩;rw[hm,Array.toList_setIfInBounds,List.take_set,h8]
end Go.Proofs.YtmeaoneaephjeaaGreatDoor
